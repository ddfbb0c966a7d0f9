/-
  Walks.
-/
import Derived.Test.YtnfnadhbjdcbnaaDoorY1
set_option linter.unusedVariables false
set_option linter.unusedSimpArgs false
set_option maxRecDepth 100000
namespace Go.Proofs.YtnfnadhbjdcbnaaDoor
open Go Go.RowKit
theorem dsign_c {w : World} {vx : Value} {x e : Int} {bx : Bool} (hbx : bx = decide (x < 0)) (hx : Nl w vx (dig x.natAbs)) (hlx : (dig x.natAbs).length ≤ 30000) :
    Calls Tryd.prog 39 #[.agg #[.bool bx, vx, .int .i64 e]] w (Ret w fun r _ => r = .int .i64 x.sign) := by
 subst hbx
 refine enter (args := [_]) Tryd.func39 rfl Tryd.ntmps39 rfl ?_
 refine WP_seq ?_
 refine WP_region ?_
 refine O_box _ rfl rfl rfl rfl (fun g1 w1 b1 e1 gl1 gh1 => ?_)
 have z1 := e1.size
 refine O_assign rfl rfl rfl ?_
 refine WL_end [(1, _)] ⟨rfl, trivial⟩ ?_
 refine WP_seq ?_
 refine WP_region ?_
 refine O_field F26_0 rfl rfl rfl ?_
 refine O_loadA (vs := [_, _]) S24 rfl rfl rfl b1 rfl rfl ?_
 refine O_call enters58 rfl rfl rfl (isign_c rfl (hx.ext e1) (by (try simp only [lens]); omega)) (fun v2 w2 e2 h2 => ?_)
 have z2 := e2.size
 obtain rfl := h2
 refine O_assign rfl rfl rfl ?_
 refine WL_end [(2, _)] ⟨rfl, trivial⟩ ?_
 refine WP_ret ?_
 refine ret1 Tryd.results39 rfl ?_
 exact ⟨_, rfl, (e1.trans e2), rfl⟩

theorem rdsign_c {w : World} {vx : Value} {x e : Int} {bx : Bool} (hbx : bx = decide (x < 0)) (hx : Nl w vx (dig x.natAbs)) (hlx : (dig x.natAbs).length ≤ 30000) :
    Calls Tryd.prog 40 #[.agg #[.bool bx, vx, .int .i64 e]] w (Ret w fun r _ => r = .int .i64 x.sign) := by
 subst hbx
 refine enter (args := [_]) Tryd.func40 rfl Tryd.ntmps40 rfl ?_
 refine WP_seq ?_
 refine WP_region ?_
 refine O_box _ rfl rfl rfl rfl (fun g1 w1 b1 e1 gl1 gh1 => ?_)
 have z1 := e1.size
 refine O_assign rfl rfl rfl ?_
 refine WL_end [(1, _)] ⟨rfl, trivial⟩ ?_
 refine WP_seq ?_
 refine WP_region ?_
 refine O_field F26_0 rfl rfl rfl ?_
 refine O_loadA (vs := [_, _]) S24 rfl rfl rfl b1 rfl rfl ?_
 refine O_call enters84 rfl rfl rfl (risign_c rfl (hx.ext e1) (by (try simp only [lens]); omega)) (fun v2 w2 e2 h2 => ?_)
 have z2 := e2.size
 obtain rfl := h2
 refine O_assign rfl rfl rfl ?_
 refine WL_end [(2, _)] ⟨rfl, trivial⟩ ?_
 refine WP_ret ?_
 refine ret1 Tryd.results40 rfl ?_
 exact ⟨_, rfl, (e1.trans e2), rfl⟩

theorem dtop_c {w : World} {vx : Value} {x e : Int} {bx : Bool} (hbx : bx = decide (x < 0)) (hx : Nl w vx (dig x.natAbs)) (hlx : (dig x.natAbs).length ≤ 30000) (he1 : -200000 ≤ e) (he2 : e ≤ 200000) :
    Calls Tryd.prog 41 #[.agg #[.bool bx, vx, .int .i64 e]] w (Ret w fun r _ => r = .int .i64 (dtop x e)) := by
 subst hbx
 have hbl := bl_dig x.natAbs
 refine enter (args := [_]) Tryd.func41 rfl Tryd.ntmps41 rfl ?_
 refine WP_seq ?_
 refine WP_region ?_
 refine O_box _ rfl rfl rfl rfl (fun g1 w1 b1 e1 gl1 gh1 => ?_)
 have z1 := e1.size
 refine O_assign rfl rfl rfl ?_
 refine WL_end [(1, _)] ⟨rfl, trivial⟩ ?_
 refine WP_seq ?_
 refine WP_seq ?_
 refine WP_region ?_
 refine O_loadA (vs := [_, _, _]) S26 rfl rfl rfl b1 rfl rfl ?_
 refine O_call enters39 rfl rfl rfl (dsign_c rfl (hx.ext e1) (by (try simp only [lens]); omega)) (fun v2 w2 e2 h2 => ?_)
 have z2 := e2.size
 obtain rfl := h2
 refine O_eql rfl rfl rfl rfl rfl ?_
 refine WL_end [(1, _), (5, _)] ⟨rfl, rfl, trivial⟩ ?_
 refine WP_condD rfl (fun c5 => ?_) (fun c5 => ?_)
 · --
  refine WP_seq ?_
  refine WP_region ?_
  refine O_assign rfl rfl rfl ?_
  refine WL_end [(2, _)] ⟨rfl, trivial⟩ ?_
  refine WP_ret ?_
  refine ret1 Tryd.results41 rfl ?_
  have hx0 : x = 0 := sign_zero_iff.1 c5
  exact ⟨_, rfl, (e1.trans e2), by unfold dtop; rw [if_pos hx0]⟩
 · --
  refine WP_skip ?_
  refine WP_seq ?_
  refine WP_sub [(1, _)] ⟨rfl, trivial⟩ ?_
  refine WP_anyR 6 [1] mixed rfl (by kernel_rfl) ?_
  apply AnyR_val [1] rfl (by kernel_rfl)
  · --
   intro y3 hy3
   have zy3 := hy3.size
   refine AllV_nil ?_
   refine O_field F26_0 rfl rfl rfl ?_
   exact WL_nil ⟨(Ext.refl _), rfl⟩
  apply AnyR_val [6] rfl (by kernel_rfl)
  · --
   intro y4 hy4
   have zy4 := hy4.size
   refine AllV_v ?_
   refine AllV_nil ?_
   refine O_field F24_1 rfl rfl rfl ?_
   exact WL_nil ⟨(Ext.refl _), rfl⟩
  apply AnyR_val [7] rfl (by kernel_rfl)
  · --
   intro y5 hy5
   have zy5 := hy5.size
   refine AllV_v ?_
   refine AllV_nil ?_
   refine O_loadC Tryd.underlying22 rfl rfl rfl rfl ((b1.ext e2).ext hy5) rfl ?_
   exact WL_nil ⟨(Ext.refl _), rfl⟩
  apply AnyR_val [8] rfl (by kernel_rfl)
  · --
   intro y6 hy6
   have zy6 := hy6.size
   refine AllV_v ?_
   refine AllV_nil ?_
   refine O_call enters63 rfl rfl rfl (bits_c (hx.ext ((e1.trans e2).trans hy6)) (by (try simp only [lens]); omega)) (fun v7 w7 e7 h7 => ?_)
   have z7 := e7.size
   obtain rfl := h7
   simp only [val_dig]
   exact WL_nil ⟨e7, rfl⟩
  apply AnyR_val [1] rfl (by kernel_rfl)
  · --
   intro y8 hy8
   have zy8 := hy8.size
   refine AllV_nil ?_
   refine O_field F26_1 rfl rfl rfl ?_
   exact WL_nil ⟨(Ext.refl _), rfl⟩
  apply AnyR_val [10] rfl (by kernel_rfl)
  · --
   intro y9 hy9
   have zy9 := hy9.size
   refine AllV_v ?_
   refine AllV_nil ?_
   refine O_loadC Tryd.underlying3 rfl rfl rfl rfl ((b1.ext e2).ext hy9) rfl ?_
   exact WL_nil ⟨(Ext.refl _), rfl⟩
  refine AnyR_nil fun y10 hy10 => ?_
  have zy10 := hy10.size
  refine AllV_v ?_
  refine AllV_v ?_
  refine AllV_v ?_
  refine AllV_v ?_
  refine AllV_v ?_
  refine AllV_v ?_
  refine AllV_nil ?_
  refine O_add rfl rfl rfl rfl (wrap_i64_id (by omega) (by omega)) ?_
  refine O_assign rfl rfl rfl ?_
  refine WL_end [(2, _)] ⟨rfl, trivial⟩ ?_
  refine WP_ret ?_
  refine ret1 Tryd.results41 rfl ?_
  have hx0 : x ≠ 0 := fun h => c5 (by rw [h]; rfl)
  exact ⟨_, rfl, ((e1.trans e2).trans hy10), by unfold dtop; rw [if_neg hx0]⟩

theorem rdtop_c {w : World} {vx : Value} {x e : Int} {bx : Bool} (hbx : bx = decide (x < 0)) (hx : Nl w vx (dig x.natAbs)) (hlx : (dig x.natAbs).length ≤ 30000) (he1 : -200000 ≤ e) (he2 : e ≤ 200000) :
    Calls Tryd.prog 42 #[.agg #[.bool bx, vx, .int .i64 e]] w (Ret w fun r _ => r = .int .i64 (dtop x e)) := by
 subst hbx
 have hbl := bl_dig x.natAbs
 refine enter (args := [_]) Tryd.func42 rfl Tryd.ntmps42 rfl ?_
 refine WP_seq ?_
 refine WP_region ?_
 refine O_box _ rfl rfl rfl rfl (fun g1 w1 b1 e1 gl1 gh1 => ?_)
 have z1 := e1.size
 refine O_assign rfl rfl rfl ?_
 refine WL_end [(1, _)] ⟨rfl, trivial⟩ ?_
 refine WP_seq ?_
 refine WP_seq ?_
 refine WP_region ?_
 refine O_field F26_0 rfl rfl rfl ?_
 refine O_field F24_1 rfl rfl rfl ?_
 refine O_loadC Tryd.underlying22 rfl rfl rfl rfl b1 rfl ?_
 refine N_len T22 rfl rfl rfl (hx.ext e1) ?_
 refine O_eql rfl rfl rfl rfl rfl ?_
 refine WL_end [(1, _), (7, _)] ⟨rfl, rfl, trivial⟩ ?_
 refine WP_condD rfl (fun c7 => ?_) (fun c7 => ?_)
 · --
  refine WP_seq ?_
  refine WP_region ?_
  refine O_assign rfl rfl rfl ?_
  refine WL_end [(2, _)] ⟨rfl, trivial⟩ ?_
  refine WP_ret ?_
  refine ret1 Tryd.results42 rfl ?_
  have hx0 : x = 0 := by have := dig_len_zero (n := x.natAbs); omega
  exact ⟨_, rfl, e1, by unfold dtop; rw [if_pos hx0]⟩
 · --
  refine WP_skip ?_
  refine WP_seq ?_
  refine WP_sub [(1, _)] ⟨rfl, trivial⟩ ?_
  refine WP_anyR 6 [1] mixed rfl (by kernel_rfl) ?_
  apply AnyR_val [1] rfl (by kernel_rfl)
  · --
   intro y2 hy2
   have zy2 := hy2.size
   refine AllV_nil ?_
   refine O_field F26_0 rfl rfl rfl ?_
   exact WL_nil ⟨(Ext.refl _), rfl⟩
  apply AnyR_val [8] rfl (by kernel_rfl)
  · --
   intro y3 hy3
   have zy3 := hy3.size
   refine AllV_v ?_
   refine AllV_nil ?_
   refine O_field F24_1 rfl rfl rfl ?_
   exact WL_nil ⟨(Ext.refl _), rfl⟩
  apply AnyR_val [9] rfl (by kernel_rfl)
  · --
   intro y4 hy4
   have zy4 := hy4.size
   refine AllV_v ?_
   refine AllV_nil ?_
   refine O_loadC Tryd.underlying22 rfl rfl rfl rfl (b1.ext hy4) rfl ?_
   exact WL_nil ⟨(Ext.refl _), rfl⟩
  apply AnyR_val [10] rfl (by kernel_rfl)
  · --
   intro y5 hy5
   have zy5 := hy5.size
   refine AllV_v ?_
   refine AllV_nil ?_
   refine O_call enters66 rfl rfl rfl (rbits_c (hx.ext (e1.trans hy5)) (by (try simp only [lens]); omega)) (fun v6 w6 e6 h6 => ?_)
   have z6 := e6.size
   obtain rfl := h6
   simp only [val_dig]
   exact WL_nil ⟨e6, rfl⟩
  apply AnyR_val [1] rfl (by kernel_rfl)
  · --
   intro y7 hy7
   have zy7 := hy7.size
   refine AllV_nil ?_
   refine O_field F26_1 rfl rfl rfl ?_
   exact WL_nil ⟨(Ext.refl _), rfl⟩
  apply AnyR_val [12] rfl (by kernel_rfl)
  · --
   intro y8 hy8
   have zy8 := hy8.size
   refine AllV_v ?_
   refine AllV_nil ?_
   refine O_loadC Tryd.underlying3 rfl rfl rfl rfl (b1.ext hy8) rfl ?_
   exact WL_nil ⟨(Ext.refl _), rfl⟩
  refine AnyR_nil fun y9 hy9 => ?_
  have zy9 := hy9.size
  refine AllV_v ?_
  refine AllV_v ?_
  refine AllV_v ?_
  refine AllV_v ?_
  refine AllV_v ?_
  refine AllV_v ?_
  refine AllV_nil ?_
  refine O_add rfl rfl rfl rfl (wrap_i64_id (by omega) (by omega)) ?_
  refine O_assign rfl rfl rfl ?_
  refine WL_end [(2, _)] ⟨rfl, trivial⟩ ?_
  refine WP_ret ?_
  refine ret1 Tryd.results42 rfl ?_
  have hx0 : x ≠ 0 := fun h => c7 (by rw [h, dig0]; rfl)
  exact ⟨_, rfl, (e1.trans hy9), by unfold dtop; rw [if_neg hx0]⟩

theorem dalign_c {w : World} {vx vy : Value} {x y e f : Int} {bx by_ : Bool} (hbx : bx = decide (x < 0)) (hx : Nl w vx (dig x.natAbs)) (hby : by_ = decide (y < 0)) (hy : Nl w vy (dig y.natAbs)) (hlx : (dig x.natAbs).length ≤ 30000) (hly : (dig y.natAbs).length ≤ 30000) (he1 : -200000 ≤ e) (he2 : e ≤ 200000) (hf1 : -200000 ≤ f) (hf2 : f ≤ 200000) :
    Calls Tryd.prog 50 #[.agg #[.bool bx, vx, .int .i64 e], .agg #[.bool by_, vy, .int .i64 f]] w (Ret w fun r w' => ∃ q s, r = .tuple #[.agg #[.bool (decide (x * 2 ^ (e - min e f).toNat < 0)), q], .agg #[.bool (decide (y * 2 ^ (f - min e f).toNat < 0)), s], .int .i64 (min e f)] ∧ No w.heap.size 89 w' q (dig (x * 2 ^ (e - min e f).toNat).natAbs) ∧ No w.heap.size 89 w' s (dig (y * 2 ^ (f - min e f).toNat).natAbs)) := by
 subst hbx
 subst hby
 refine enter (args := [_, _]) Tryd.func50 rfl Tryd.ntmps50 rfl ?_
 refine WP_seq ?_
 refine WP_region ?_
 refine O_box _ rfl rfl rfl rfl (fun g1 w1 b1 e1 gl1 gh1 => ?_)
 have z1 := e1.size
 refine O_box _ rfl rfl rfl rfl (fun g2 w2 b2 e2 gl2 gh2 => ?_)
 have z2 := e2.size
 refine O_alloc S24 rfl rfl (fun g3 w3 b3 e3 gl3 gh3 => ?_)
 have z3 := e3.size
 refine O_alloc S24 rfl rfl (fun g4 w4 b4 e4 gl4 gh4 => ?_)
 have z4 := e4.size
 refine O_assign rfl rfl rfl ?_
 refine WL_end [(2, _), (3, _), (4, _), (5, _)] ⟨rfl, rfl, rfl, rfl, trivial⟩ ?_
 refine WP_seq ?_
 refine WP_region ?_
 refine O_field F26_1 rfl rfl rfl ?_
 refine O_loadC Tryd.underlying3 rfl rfl rfl rfl (((b1.ext e2).ext e3).ext e4) rfl ?_
 refine O_field F26_1 rfl rfl rfl ?_
 refine O_loadC Tryd.underlying3 rfl rfl rfl rfl ((b2.ext e3).ext e4) rfl ?_
 refine O_min rfl rfl rfl rfl rfl ?_
 refine O_assign rfl rfl rfl ?_
 refine WL_end [(2, _), (3, _), (4, _), (5, _), (7, _)] ⟨rfl, rfl, rfl, rfl, rfl, trivial⟩ ?_
 refine WP_seq ?_
 refine WP_sub [(2, _), (3, _), (4, _), (5, _), (7, _)] ⟨rfl, rfl, rfl, rfl, rfl, trivial⟩ ?_
 have hS5 : ∀ g T, (g, T) ∈ (⟨[(g3, (24, 2)), (g4, (24, 2))], [], (w4).heap.size⟩ : SS) → (BkT w4 g T ∨ (w4).heap.size ≤ g) ∧ 89 ≠ T.1 := by
   intro g T hm; rw [mem_SS] at hm; simp only [List.mem_cons, Prod.mk.injEq, List.not_mem_nil, or_false, false_or, and_false] at hm
   rcases hm with ⟨rfl, rfl⟩ | ⟨rfl, rfl⟩
   · exact ⟨.inl ⟨_, (b3.ext e4), rfl⟩, by decide⟩
   · exact ⟨.inl ⟨_, b4, rfl⟩, by decide⟩
 have hS5n := fun g T hm => (hS5 g T hm).2
 refine WP_anySR (⟨[(g3, (24, 2)), (g4, (24, 2))], [], (w4).heap.size⟩ : SS) 17 [2, 3, 4, 5, 7] mixed rfl (by kernel_rfl) (Nat.le_refl _) ?_
 apply AnySR_val [2] rfl (by kernel_rfl)
 · --
  intro y6 hy6
  have zy6 := hy6.size
  have hyE6 : Ext w y6 := hy6.ext (((e1.trans e2).trans e3).trans e4) (by intro g T hm; rw [mem_SS] at hm; simp only [List.mem_cons, Prod.mk.injEq, List.not_mem_nil, or_false, false_or, and_false] at hm; omega)
  refine AllS_nil ?_
  refine O_field F26_0 rfl rfl rfl ?_
  exact WL_nil ⟨(Ext.refl _), rfl⟩
 apply AnySR_val [13] rfl (by kernel_rfl)
 · --
  intro y7 hy7
  have zy7 := hy7.size
  have hyE7 : Ext w y7 := hy7.ext (((e1.trans e2).trans e3).trans e4) (by intro g T hm; rw [mem_SS] at hm; simp only [List.mem_cons, Prod.mk.injEq, List.not_mem_nil, or_false, false_or, and_false] at hm; omega)
  refine AllS_v ?_
  refine AllS_nil ?_
  refine O_loadA (vs := [_, _]) S24 rfl rfl rfl ((((b1.ext e2).ext e3).ext e4).extS hy7 (by intro T hm; rw [mem_SS] at hm; simp only [List.mem_cons, Prod.mk.injEq, List.not_mem_nil, or_false, false_or, and_false] at hm; omega)) rfl rfl ?_
  exact WL_nil ⟨(Ext.refl _), rfl⟩
 apply AnySR_val [2] rfl (by kernel_rfl)
 · --
  intro y8 hy8
  have zy8 := hy8.size
  have hyE8 : Ext w y8 := hy8.ext (((e1.trans e2).trans e3).trans e4) (by intro g T hm; rw [mem_SS] at hm; simp only [List.mem_cons, Prod.mk.injEq, List.not_mem_nil, or_false, false_or, and_false] at hm; omega)
  refine AllS_nil ?_
  refine O_field F26_1 rfl rfl rfl ?_
  exact WL_nil ⟨(Ext.refl _), rfl⟩
 apply AnySR_val [15] rfl (by kernel_rfl)
 · --
  intro y9 hy9
  have zy9 := hy9.size
  have hyE9 : Ext w y9 := hy9.ext (((e1.trans e2).trans e3).trans e4) (by intro g T hm; rw [mem_SS] at hm; simp only [List.mem_cons, Prod.mk.injEq, List.not_mem_nil, or_false, false_or, and_false] at hm; omega)
  refine AllS_v ?_
  refine AllS_nil ?_
  refine O_loadC Tryd.underlying3 rfl rfl rfl rfl ((((b1.ext e2).ext e3).ext e4).extS hy9 (by intro T hm; rw [mem_SS] at hm; simp only [List.mem_cons, Prod.mk.injEq, List.not_mem_nil, or_false, false_or, and_false] at hm; omega)) rfl ?_
  exact WL_nil ⟨(Ext.refl _), rfl⟩
 apply AnySR_val [7] rfl (by kernel_rfl)
 · --
  intro y10 hy10
  have zy10 := hy10.size
  have hyE10 : Ext w y10 := hy10.ext (((e1.trans e2).trans e3).trans e4) (by intro g T hm; rw [mem_SS] at hm; simp only [List.mem_cons, Prod.mk.injEq, List.not_mem_nil, or_false, false_or, and_false] at hm; omega)
  refine AllS_nil ?_
  refine O_move rfl rfl rfl ?_
  exact WL_nil ⟨(Ext.refl _), rfl⟩
 apply AnySR_val [16, 17] rfl (by kernel_rfl)
 · --
  intro y11 hy11
  have zy11 := hy11.size
  have hyE11 : Ext w y11 := hy11.ext (((e1.trans e2).trans e3).trans e4) (by intro g T hm; rw [mem_SS] at hm; simp only [List.mem_cons, Prod.mk.injEq, List.not_mem_nil, or_false, false_or, and_false] at hm; omega)
  refine AllS_v ?_
  refine AllS_v ?_
  refine AllS_nil ?_
  refine O_sub (r := (((e - min e f).toNat : Nat) : Int)) rfl rfl rfl rfl (by rw [IntKind.wrap_i64]; omega) ?_
  exact WL_nil ⟨(Ext.refl _), rfl⟩
 apply AnySR_rel (RelP (pAgg [pEq _, pNo w4.heap.size 89 _])) [14, 18] rfl (RelP.monoS (pAgg_monoS (PsS.cons pEq_monoS (PsS.cons (pNo_monoS hS5n) PsS.nil)))) (by kernel_rfl)
 · --
  intro y12 hy12
  have zy12 := hy12.size
  have hyE12 : Ext w y12 := hy12.ext (((e1.trans e2).trans e3).trans e4) (by intro g T hm; rw [mem_SS] at hm; simp only [List.mem_cons, Prod.mk.injEq, List.not_mem_nil, or_false, false_or, and_false] at hm; omega)
  refine AllS_v ?_
  refine AllS_v ?_
  refine AllS_nil ?_
  refine O_call enters78 rfl rfl rfl (ishl_c rfl (hx.ext hyE12) (by (try simp only [lens]); omega) (by (try simp only [lens]); omega)) (fun v13 w13 e13 h13 => ?_)
  have z13 := e13.size
  try simp only [val_dig] at h13
  obtain ⟨q13, rfl, hq13⟩ := h13
  exact WL_nil ⟨e13, _, rfl, ⟨_, rfl, (AllP.cons rfl (AllP.cons (hq13.mono (by omega)) AllP.nil))⟩⟩
 apply AnySR_val [3] rfl (by kernel_rfl)
 · --
  intro y14 hy14
  have zy14 := hy14.size
  have hyE14 : Ext w y14 := hy14.ext (((e1.trans e2).trans e3).trans e4) (by intro g T hm; rw [mem_SS] at hm; simp only [List.mem_cons, Prod.mk.injEq, List.not_mem_nil, or_false, false_or, and_false] at hm; omega)
  refine AllS_nil ?_
  refine O_field F26_0 rfl rfl rfl ?_
  exact WL_nil ⟨(Ext.refl _), rfl⟩
 apply AnySR_val [20] rfl (by kernel_rfl)
 · --
  intro y15 hy15
  have zy15 := hy15.size
  have hyE15 : Ext w y15 := hy15.ext (((e1.trans e2).trans e3).trans e4) (by intro g T hm; rw [mem_SS] at hm; simp only [List.mem_cons, Prod.mk.injEq, List.not_mem_nil, or_false, false_or, and_false] at hm; omega)
  refine AllS_v ?_
  refine AllS_nil ?_
  refine O_loadA (vs := [_, _]) S24 rfl rfl rfl (((b2.ext e3).ext e4).extS hy15 (by intro T hm; rw [mem_SS] at hm; simp only [List.mem_cons, Prod.mk.injEq, List.not_mem_nil, or_false, false_or, and_false] at hm; omega)) rfl rfl ?_
  exact WL_nil ⟨(Ext.refl _), rfl⟩
 apply AnySR_val [3] rfl (by kernel_rfl)
 · --
  intro y16 hy16
  have zy16 := hy16.size
  have hyE16 : Ext w y16 := hy16.ext (((e1.trans e2).trans e3).trans e4) (by intro g T hm; rw [mem_SS] at hm; simp only [List.mem_cons, Prod.mk.injEq, List.not_mem_nil, or_false, false_or, and_false] at hm; omega)
  refine AllS_nil ?_
  refine O_field F26_1 rfl rfl rfl ?_
  exact WL_nil ⟨(Ext.refl _), rfl⟩
 apply AnySR_val [22] rfl (by kernel_rfl)
 · --
  intro y17 hy17
  have zy17 := hy17.size
  have hyE17 : Ext w y17 := hy17.ext (((e1.trans e2).trans e3).trans e4) (by intro g T hm; rw [mem_SS] at hm; simp only [List.mem_cons, Prod.mk.injEq, List.not_mem_nil, or_false, false_or, and_false] at hm; omega)
  refine AllS_v ?_
  refine AllS_nil ?_
  refine O_loadC Tryd.underlying3 rfl rfl rfl rfl (((b2.ext e3).ext e4).extS hy17 (by intro T hm; rw [mem_SS] at hm; simp only [List.mem_cons, Prod.mk.injEq, List.not_mem_nil, or_false, false_or, and_false] at hm; omega)) rfl ?_
  exact WL_nil ⟨(Ext.refl _), rfl⟩
 apply AnySR_val [7] rfl (by kernel_rfl)
 · --
  intro y18 hy18
  have zy18 := hy18.size
  have hyE18 : Ext w y18 := hy18.ext (((e1.trans e2).trans e3).trans e4) (by intro g T hm; rw [mem_SS] at hm; simp only [List.mem_cons, Prod.mk.injEq, List.not_mem_nil, or_false, false_or, and_false] at hm; omega)
  refine AllS_nil ?_
  refine O_move rfl rfl rfl ?_
  exact WL_nil ⟨(Ext.refl _), rfl⟩
 apply AnySR_val [23, 24] rfl (by kernel_rfl)
 · --
  intro y19 hy19
  have zy19 := hy19.size
  have hyE19 : Ext w y19 := hy19.ext (((e1.trans e2).trans e3).trans e4) (by intro g T hm; rw [mem_SS] at hm; simp only [List.mem_cons, Prod.mk.injEq, List.not_mem_nil, or_false, false_or, and_false] at hm; omega)
  refine AllS_v ?_
  refine AllS_v ?_
  refine AllS_nil ?_
  refine O_sub (r := (((f - min e f).toNat : Nat) : Int)) rfl rfl rfl rfl (by rw [IntKind.wrap_i64]; omega) ?_
  exact WL_nil ⟨(Ext.refl _), rfl⟩
 apply AnySR_rel (RelP (pAgg [pEq _, pNo w4.heap.size 89 _])) [21, 25] rfl (RelP.monoS (pAgg_monoS (PsS.cons pEq_monoS (PsS.cons (pNo_monoS hS5n) PsS.nil)))) (by kernel_rfl)
 · --
  intro y20 hy20
  have zy20 := hy20.size
  have hyE20 : Ext w y20 := hy20.ext (((e1.trans e2).trans e3).trans e4) (by intro g T hm; rw [mem_SS] at hm; simp only [List.mem_cons, Prod.mk.injEq, List.not_mem_nil, or_false, false_or, and_false] at hm; omega)
  refine AllS_v ?_
  refine AllS_v ?_
  refine AllS_nil ?_
  refine O_call enters78 rfl rfl rfl (ishl_c rfl (hy.ext hyE20) (by (try simp only [lens]); omega) (by (try simp only [lens]); omega)) (fun v21 w21 e21 h21 => ?_)
  have z21 := e21.size
  try simp only [val_dig] at h21
  obtain ⟨q21, rfl, hq21⟩ := h21
  exact WL_nil ⟨e21, _, rfl, ⟨_, rfl, (AllP.cons rfl (AllP.cons (hq21.mono (by omega)) AllP.nil))⟩⟩
 apply AnySR_val [7] rfl (by kernel_rfl)
 · --
  intro y22 hy22
  have zy22 := hy22.size
  have hyE22 : Ext w y22 := hy22.ext (((e1.trans e2).trans e3).trans e4) (by intro g T hm; rw [mem_SS] at hm; simp only [List.mem_cons, Prod.mk.injEq, List.not_mem_nil, or_false, false_or, and_false] at hm; omega)
  refine AllS_nil ?_
  refine O_move rfl rfl rfl ?_
  exact WL_nil ⟨(Ext.refl _), rfl⟩
 apply AnySR_st g3 (24, 2) (pSt g3 24 [pEq _, pNo w4.heap.size 89 _]) [4, 19] rfl (.inl (by simp)) (pSt_monoS (PsS.cons pEq_monoS (PsS.cons (pNo_monoS hS5n) PsS.nil))) (by exact (compat_cons ⟨trivial, trivial⟩ (compat_cons ⟨trivial, trivial⟩ (compat_cons ⟨trivial, trivial⟩ (compat_cons ⟨trivial, trivial⟩ (compat_cons ⟨trivial, trivial⟩ (compat_cons ⟨trivial, trivial⟩ (compat_cons ⟨trivial, trivial⟩ (compat_cons ⟨trivial, trivial⟩ (compat_cons ⟨trivial, trivial⟩ (compat_cons ⟨trivial, trivial⟩ (compat_cons ⟨trivial, trivial⟩ (compat_cons ⟨trivial, trivial⟩ (compat_cons ⟨trivial, trivial⟩ (compat_cons ⟨trivial, trivial⟩ (compat_cons ⟨trivial, trivial⟩ compat_nil)))))))))))))))) (by kernel_rfl)
 · --
  intro y23 hy23
  have zy23 := hy23.size
  have hyE23 : Ext w y23 := hy23.ext (((e1.trans e2).trans e3).trans e4) (by intro g T hm; rw [mem_SS] at hm; simp only [List.mem_cons, Prod.mk.injEq, List.not_mem_nil, or_false, false_or, and_false] at hm; omega)
  refine AllS_r fun a24 b24 v24 la24 lb24 lc24 h24 ap24 => ?_
  clear ap24
  obtain ⟨_, rfl, v24_0, _, rfl, rfl, v24_1, _, rfl, h24_1, rfl⟩ := h24
  refine AllS_nil ?_
  have hB23 := hy23.tag g3 (24, 2) (.inl (by simp)) ⟨_, (b3.ext e4), rfl⟩
  refine O_storeW S24 rfl rfl rfl hB23 rfl (one_cons rfl (one_cons (h24_1.nl).one one_nil)) (fun w23 b23 q23 => ?_)
  obtain ⟨cs23, hk23, hl23⟩ := hB23
  exact WL_nil ⟨⟨⟨cs23, hk23, hl23⟩, q23, ⟨_, b23, rfl⟩⟩, _, b23, (AllP.cons rfl (AllP.cons (((h24_1).mono (by omega)).chgBk hk23 (by decide) q23) AllP.nil))⟩
 apply AnySR_st g4 (24, 2) (pSt g4 24 [pEq _, pNo w4.heap.size 89 _]) [5, 26] rfl (.inl (by simp)) (pSt_monoS (PsS.cons pEq_monoS (PsS.cons (pNo_monoS hS5n) PsS.nil))) (by exact (compat_cons ⟨(show g4 ≠ g3 from by omega), (show g3 ≠ g4 from by omega)⟩ (compat_cons ⟨trivial, trivial⟩ (compat_cons ⟨trivial, trivial⟩ (compat_cons ⟨trivial, trivial⟩ (compat_cons ⟨trivial, trivial⟩ (compat_cons ⟨trivial, trivial⟩ (compat_cons ⟨trivial, trivial⟩ (compat_cons ⟨trivial, trivial⟩ (compat_cons ⟨trivial, trivial⟩ (compat_cons ⟨trivial, trivial⟩ (compat_cons ⟨trivial, trivial⟩ (compat_cons ⟨trivial, trivial⟩ (compat_cons ⟨trivial, trivial⟩ (compat_cons ⟨trivial, trivial⟩ (compat_cons ⟨trivial, trivial⟩ (compat_cons ⟨trivial, trivial⟩ compat_nil))))))))))))))))) (by kernel_rfl)
 · --
  intro y25 hy25
  have zy25 := hy25.size
  have hyE25 : Ext w y25 := hy25.ext (((e1.trans e2).trans e3).trans e4) (by intro g T hm; rw [mem_SS] at hm; simp only [List.mem_cons, Prod.mk.injEq, List.not_mem_nil, or_false, false_or, and_false] at hm; omega)
  refine AllS_r fun a26 b26 v26 la26 lb26 lc26 h26 ap26 => ?_
  clear ap26
  obtain ⟨_, rfl, v26_0, _, rfl, rfl, v26_1, _, rfl, h26_1, rfl⟩ := h26
  refine AllS_nil ?_
  have hB25 := hy25.tag g4 (24, 2) (.inl (by simp)) ⟨_, b4, rfl⟩
  refine O_storeW S24 rfl rfl rfl hB25 rfl (one_cons rfl (one_cons (h26_1.nl).one one_nil)) (fun w25 b25 q25 => ?_)
  obtain ⟨cs25, hk25, hl25⟩ := hB25
  exact WL_nil ⟨⟨⟨cs25, hk25, hl25⟩, q25, ⟨_, b25, rfl⟩⟩, _, b25, (AllP.cons rfl (AllP.cons (((h26_1).mono (by omega)).chgBk hk25 (by decide) q25) AllP.nil))⟩
 refine AnySR_nil fun y27 hy27 => ?_
 have zy27 := hy27.size
 have hyE27 : Ext w y27 := hy27.ext (((e1.trans e2).trans e3).trans e4) (by intro g T hm; rw [mem_SS] at hm; simp only [List.mem_cons, Prod.mk.injEq, List.not_mem_nil, or_false, false_or, and_false] at hm; omega)
 refine AllS_v ?_
 refine AllS_v ?_
 refine AllS_v ?_
 refine AllS_v ?_
 refine AllS_v ?_
 refine AllS_v ?_
 refine AllS_r fun a28 b28 v28 la28 lb28 lc28 h28 ap28 => ?_
 clear ap28
 obtain ⟨_, rfl, v28_0, _, rfl, rfl, v28_1, _, rfl, h28_1, rfl⟩ := h28
 refine AllS_v ?_
 refine AllS_v ?_
 refine AllS_v ?_
 refine AllS_v ?_
 refine AllS_v ?_
 refine AllS_v ?_
 refine AllS_r fun a29 b29 v29 la29 lb29 lc29 h29 ap29 => ?_
 clear ap29
 obtain ⟨_, rfl, v29_0, _, rfl, rfl, v29_1, _, rfl, h29_1, rfl⟩ := h29
 refine AllS_v ?_
 refine AllS_q fun hq30 => ?_
 obtain ⟨_, hb30, u30_0, _, rfl, rfl, u30_1, _, rfl, hu30_1, rfl⟩ := hq30
 refine AllS_q fun hq31 => ?_
 obtain ⟨_, hb31, u31_0, _, rfl, rfl, u31_1, _, rfl, hu31_1, rfl⟩ := hq31
 refine AllS_nil ?_
 refine O_assign rfl rfl rfl ?_
 refine WL_end [(4, _), (5, _), (6, _)] ⟨rfl, rfl, rfl, trivial⟩ ?_
 refine WP_ret ?_
 refine retL Tryd.results50 (.cell rfl S24 hb30 rfl (.cell rfl S24 hb31 rfl (.tmp rfl .nil))) ?_
 exact ⟨_, rfl, hyE27, _, _, rfl, hu30_1.mono (by omega), hu31_1.mono (by omega)⟩

set_option maxHeartbeats 2000000 in
theorem dcmp_c {w : World} {vx vy : Value} {x y e f : Int} {bx by_ : Bool} (hbx : bx = decide (x < 0)) (hx : Nl w vx (dig x.natAbs)) (hby : by_ = decide (y < 0)) (hy : Nl w vy (dig y.natAbs)) (hlx : (dig x.natAbs).length ≤ 30000) (hly : (dig y.natAbs).length ≤ 30000) (he1 : -200000 ≤ e) (he2 : e ≤ 200000) (hf1 : -200000 ≤ f) (hf2 : f ≤ 200000) :
    Calls Tryd.prog 18 #[.agg #[.bool bx, vx, .int .i64 e], .agg #[.bool by_, vy, .int .i64 f]] w (Ret w fun r _ => r = .int .i64 (dcmp x e y f)) := by
 subst hbx
 subst hby
 have hS1 := shl_len' (k := (e - min e f).toNat) hlx
 have hS2 := shl_len' (k := (f - min e f).toNat) hly
 have hS3 : (e - min e f).toNat ≤ 400000 := by omega
 have hS4 : (f - min e f).toNat ≤ 400000 := by omega
 replace hS1 := Nat.le_trans hS1 (show _ ≤ 80000 by omega)
 replace hS2 := Nat.le_trans hS2 (show _ ≤ 80000 by omega)
 have hsx : -1 ≤ x.sign ∧ x.sign ≤ 1 := by rcases Int.sign_trichotomy x with h | h | h <;> omega
 have hsy : -1 ≤ y.sign ∧ y.sign ≤ 1 := by rcases Int.sign_trichotomy y with h | h | h <;> omega
 refine enter (args := [_, _]) Tryd.func18 rfl Tryd.ntmps18 rfl ?_
 refine WP_seq ?_
 refine WP_region ?_
 refine O_box _ rfl rfl rfl rfl (fun g1 w1 b1 e1 gl1 gh1 => ?_)
 have z1 := e1.size
 refine O_box _ rfl rfl rfl rfl (fun g2 w2 b2 e2 gl2 gh2 => ?_)
 have z2 := e2.size
 refine O_assign rfl rfl rfl ?_
 refine WL_end [(2, _), (3, _)] ⟨rfl, rfl, trivial⟩ ?_
 refine WP_seq ?_
 refine WP_sub [(2, _), (3, _)] ⟨rfl, rfl, trivial⟩ ?_
 refine WP_anyR 3 [2, 3] mixed rfl (by kernel_rfl) ?_
 apply AnyR_val [2] rfl (by kernel_rfl)
 · --
  intro y3 hy3
  have zy3 := hy3.size
  refine AllV_nil ?_
  refine O_loadA (vs := [_, _, _]) S26 rfl rfl rfl ((b1.ext e2).ext hy3) rfl rfl ?_
  exact WL_nil ⟨(Ext.refl _), rfl⟩
 apply AnyR_val [12] rfl (by kernel_rfl)
 · --
  intro y4 hy4
  have zy4 := hy4.size
  refine AllV_v ?_
  refine AllV_nil ?_
  refine O_call enters39 rfl rfl rfl (dsign_c rfl (hx.ext ((e1.trans e2).trans hy4)) (by (try simp only [lens]); omega)) (fun v5 w5 e5 h5 => ?_)
  have z5 := e5.size
  obtain rfl := h5
  exact WL_nil ⟨e5, rfl⟩
 apply AnyR_val [3] rfl (by kernel_rfl)
 · --
  intro y6 hy6
  have zy6 := hy6.size
  refine AllV_nil ?_
  refine O_loadA (vs := [_, _, _]) S26 rfl rfl rfl (b2.ext hy6) rfl rfl ?_
  exact WL_nil ⟨(Ext.refl _), rfl⟩
 refine AnyR_nil fun y7 hy7 => ?_
 have zy7 := hy7.size
 refine AllV_v ?_
 refine AllV_v ?_
 refine AllV_v ?_
 refine AllV_nil ?_
 refine O_call enters39 rfl rfl rfl (dsign_c rfl (hy.ext ((e1.trans e2).trans hy7)) (by (try simp only [lens]); omega)) (fun v8 w8 e8 h8 => ?_)
 have z8 := e8.size
 obtain rfl := h8
 refine O_assign rfl rfl rfl ?_
 refine O_assign rfl rfl rfl ?_
 refine WL_end [(2, _), (3, _), (5, _), (6, _)] ⟨rfl, rfl, rfl, rfl, trivial⟩ ?_
 refine WP_seq ?_
 refine WP_block ?_
 refine WP_seq ?_
 refine WP_region ?_
 refine O_move rfl rfl rfl ?_
 refine O_move rfl rfl rfl ?_
 refine O_neq rfl rfl rfl rfl rfl ?_
 refine O_move rfl rfl rfl ?_
 refine WL_ndec 20 rfl (fun g20 => ?_) (fun g20 => ?_)
 · --
  refine O_move rfl rfl rfl ?_
  refine O_move rfl rfl rfl ?_
  refine O_lss rfl rfl rfl rfl rfl ?_
  refine O_pickT rfl rfl rfl rfl ?_
  refine O_assign rfl rfl rfl ?_
  refine WL_end [(2, _), (3, _), (5, _), (6, _), (16, _)] ⟨rfl, rfl, rfl, rfl, rfl, trivial⟩ ?_
  refine WP_condD rfl (fun c16 => ?_) (fun c16 => ?_)
  · --
   refine WP_seq ?_
   refine WP_region ?_
   refine O_assign rfl rfl rfl ?_
   refine WL_end [(4, _)] ⟨rfl, trivial⟩ ?_
   refine WP_ret ?_
   refine inBlk_ret ?_
   refine ret1 Tryd.results18 rfl ?_
   first
     | exact ⟨_, rfl, (((e1.trans e2).trans hy7).trans e8), rfl⟩
     | (exfalso; omega)
     | exact ⟨_, rfl, (((e1.trans e2).trans hy7).trans e8), by rw [dcmp_signs (x := x) (y := y) (by omega), if_pos (by omega)]⟩
     | exact ⟨_, rfl, (((e1.trans e2).trans hy7).trans e8), by rw [dcmp_signs (x := x) (y := y) (by omega), if_neg (by omega)]⟩
     | exact ⟨_, rfl, (((e1.trans e2).trans hy7).trans e8), by rw [sign_zero_iff.1 (show x.sign = 0 by omega), sign_zero_iff.1 (show y.sign = 0 by omega), dcmp_zero]⟩
     | exact ⟨_, rfl, (((e1.trans e2).trans hy7).trans e8), by rw [dcmp_tops (x := x) (y := y) (e := e) (f := f) (by omega) (by intro h9; apply c29; rw [h9]; rfl) (by omega), if_pos (by omega)]⟩
     | exact ⟨_, rfl, (((e1.trans e2).trans hy7).trans e8), by rw [dcmp_tops (x := x) (y := y) (e := e) (f := f) (by omega) (by intro h9; apply c29; rw [h9]; rfl) (by omega), if_neg (by omega)]⟩
  · --
   refine WP_seq ?_
   refine WP_region ?_
   refine O_move rfl rfl rfl ?_
   refine O_move rfl rfl rfl ?_
   refine O_neq rfl rfl rfl rfl rfl ?_
   refine O_assign rfl rfl rfl ?_
   refine WL_end [(2, _), (3, _), (5, _), (25, _)] ⟨rfl, rfl, rfl, rfl, trivial⟩ ?_
   refine WP_condN rfl (fun c25 => ?_) (fun c25 => ?_)
   · --
    refine WP_seq ?_
    refine WP_region ?_
    refine O_assign rfl rfl rfl ?_
    refine WL_end [(4, _)] ⟨rfl, trivial⟩ ?_
    refine WP_ret ?_
    refine inBlk_ret ?_
    refine ret1 Tryd.results18 rfl ?_
    first
      | exact ⟨_, rfl, (((e1.trans e2).trans hy7).trans e8), rfl⟩
      | (exfalso; omega)
      | exact ⟨_, rfl, (((e1.trans e2).trans hy7).trans e8), by rw [dcmp_signs (x := x) (y := y) (by omega), if_pos (by omega)]⟩
      | exact ⟨_, rfl, (((e1.trans e2).trans hy7).trans e8), by rw [dcmp_signs (x := x) (y := y) (by omega), if_neg (by omega)]⟩
      | exact ⟨_, rfl, (((e1.trans e2).trans hy7).trans e8), by rw [sign_zero_iff.1 (show x.sign = 0 by omega), sign_zero_iff.1 (show y.sign = 0 by omega), dcmp_zero]⟩
      | exact ⟨_, rfl, (((e1.trans e2).trans hy7).trans e8), by rw [dcmp_tops (x := x) (y := y) (e := e) (f := f) (by omega) (by intro h9; apply c29; rw [h9]; rfl) (by omega), if_pos (by omega)]⟩
      | exact ⟨_, rfl, (((e1.trans e2).trans hy7).trans e8), by rw [dcmp_tops (x := x) (y := y) (e := e) (f := f) (by omega) (by intro h9; apply c29; rw [h9]; rfl) (by omega), if_neg (by omega)]⟩
   · --
    refine WP_seq ?_
    refine WP_region ?_
    refine O_move rfl rfl rfl ?_
    refine O_eql rfl rfl rfl rfl rfl ?_
    refine O_assign rfl rfl rfl ?_
    refine WL_end [(2, _), (3, _), (5, _), (29, _)] ⟨rfl, rfl, rfl, rfl, trivial⟩ ?_
    refine WP_condD rfl (fun c29 => ?_) (fun c29 => ?_)
    · --
     refine WP_seq ?_
     refine WP_region ?_
     refine O_assign rfl rfl rfl ?_
     refine WL_end [(4, _)] ⟨rfl, trivial⟩ ?_
     refine WP_ret ?_
     refine inBlk_ret ?_
     refine ret1 Tryd.results18 rfl ?_
     first
       | exact ⟨_, rfl, (((e1.trans e2).trans hy7).trans e8), rfl⟩
       | (exfalso; omega)
       | exact ⟨_, rfl, (((e1.trans e2).trans hy7).trans e8), by rw [dcmp_signs (x := x) (y := y) (by omega), if_pos (by omega)]⟩
       | exact ⟨_, rfl, (((e1.trans e2).trans hy7).trans e8), by rw [dcmp_signs (x := x) (y := y) (by omega), if_neg (by omega)]⟩
       | exact ⟨_, rfl, (((e1.trans e2).trans hy7).trans e8), by rw [sign_zero_iff.1 (show x.sign = 0 by omega), sign_zero_iff.1 (show y.sign = 0 by omega), dcmp_zero]⟩
       | exact ⟨_, rfl, (((e1.trans e2).trans hy7).trans e8), by rw [dcmp_tops (x := x) (y := y) (e := e) (f := f) (by omega) (by intro h9; apply c29; rw [h9]; rfl) (by omega), if_pos (by omega)]⟩
       | exact ⟨_, rfl, (((e1.trans e2).trans hy7).trans e8), by rw [dcmp_tops (x := x) (y := y) (e := e) (f := f) (by omega) (by intro h9; apply c29; rw [h9]; rfl) (by omega), if_neg (by omega)]⟩
    · --
     refine WP_skip ?_
     refine WP_seq ?_
     refine WP_seq ?_
     refine WP_sub [(2, _), (3, _), (5, _)] ⟨rfl, rfl, rfl, trivial⟩ ?_
     refine WP_anyR 3 [2, 3, 5] mixed rfl (by kernel_rfl) ?_
     apply AnyR_val [2] rfl (by kernel_rfl)
     · --
      intro y9 hy9
      have zy9 := hy9.size
      refine AllV_nil ?_
      refine O_loadA (vs := [_, _, _]) S26 rfl rfl rfl ((((b1.ext e2).ext hy7).ext e8).ext hy9) rfl rfl ?_
      exact WL_nil ⟨(Ext.refl _), rfl⟩
     apply AnyR_val [32] rfl (by kernel_rfl)
     · --
      intro y10 hy10
      have zy10 := hy10.size
      refine AllV_v ?_
      refine AllV_nil ?_
      refine O_call enters41 rfl rfl rfl (dtop_c rfl (hx.ext ((((e1.trans e2).trans hy7).trans e8).trans hy10)) (by (try simp only [lens]); omega) (by (try simp only [lens]); omega) (by (try simp only [lens]); omega)) (fun v11 w11 e11 h11 => ?_)
      have z11 := e11.size
      obtain rfl := h11
      exact WL_nil ⟨e11, rfl⟩
     apply AnyR_val [3] rfl (by kernel_rfl)
     · --
      intro y12 hy12
      have zy12 := hy12.size
      refine AllV_nil ?_
      refine O_loadA (vs := [_, _, _]) S26 rfl rfl rfl (((b2.ext hy7).ext e8).ext hy12) rfl rfl ?_
      exact WL_nil ⟨(Ext.refl _), rfl⟩
     refine AnyR_nil fun y13 hy13 => ?_
     have zy13 := hy13.size
     refine AllV_v ?_
     refine AllV_v ?_
     refine AllV_v ?_
     refine AllV_nil ?_
     refine O_call enters41 rfl rfl rfl (dtop_c rfl (hy.ext ((((e1.trans e2).trans hy7).trans e8).trans hy13)) (by (try simp only [lens]); omega) (by (try simp only [lens]); omega) (by (try simp only [lens]); omega)) (fun v14 w14 e14 h14 => ?_)
     have z14 := e14.size
     obtain rfl := h14
     refine O_assign rfl rfl rfl ?_
     refine O_assign rfl rfl rfl ?_
     refine WL_end [(2, _), (3, _), (5, _), (7, _), (8, _)] ⟨rfl, rfl, rfl, rfl, rfl, trivial⟩ ?_
     refine WP_seq ?_
     refine WP_region ?_
     refine O_move rfl rfl rfl ?_
     refine O_move rfl rfl rfl ?_
     refine O_neq rfl rfl rfl rfl rfl ?_
     refine WL_end [(2, _), (3, _), (5, _), (7, _), (8, _), (38, _)] ⟨rfl, rfl, rfl, rfl, rfl, rfl, trivial⟩ ?_
     refine WP_condN rfl (fun c38 => ?_) (fun c38 => ?_)
     · --
      refine WP_seq ?_
      refine WP_seq ?_
      refine WP_region ?_
      refine O_move rfl rfl rfl ?_
      refine O_move rfl rfl rfl ?_
      refine O_lss rfl rfl rfl rfl rfl ?_
      refine WL_end [(5, _), (41, _)] ⟨rfl, rfl, trivial⟩ ?_
      refine WP_condD rfl (fun c41 => ?_) (fun c41 => ?_)
      · --
       refine WP_seq ?_
       refine WP_region ?_
       refine O_move rfl rfl rfl ?_
       refine O_neg (r := (-x.sign)) rfl rfl rfl (by rw [IntKind.wrap_i64]; omega) ?_
       refine O_assign rfl rfl rfl ?_
       refine WL_end [(4, _)] ⟨rfl, trivial⟩ ?_
       refine WP_ret ?_
       refine ret1 Tryd.results18 rfl ?_
       first
         | exact ⟨_, rfl, (((((e1.trans e2).trans hy7).trans e8).trans hy13).trans e14), rfl⟩
         | (exfalso; omega)
         | exact ⟨_, rfl, (((((e1.trans e2).trans hy7).trans e8).trans hy13).trans e14), by rw [dcmp_signs (x := x) (y := y) (by omega), if_pos (by omega)]⟩
         | exact ⟨_, rfl, (((((e1.trans e2).trans hy7).trans e8).trans hy13).trans e14), by rw [dcmp_signs (x := x) (y := y) (by omega), if_neg (by omega)]⟩
         | exact ⟨_, rfl, (((((e1.trans e2).trans hy7).trans e8).trans hy13).trans e14), by rw [sign_zero_iff.1 (show x.sign = 0 by omega), sign_zero_iff.1 (show y.sign = 0 by omega), dcmp_zero]⟩
         | exact ⟨_, rfl, (((((e1.trans e2).trans hy7).trans e8).trans hy13).trans e14), by rw [dcmp_tops (x := x) (y := y) (e := e) (f := f) (by omega) (by intro h9; apply c29; rw [h9]; rfl) (by omega), if_pos (by omega)]⟩
         | exact ⟨_, rfl, (((((e1.trans e2).trans hy7).trans e8).trans hy13).trans e14), by rw [dcmp_tops (x := x) (y := y) (e := e) (f := f) (by omega) (by intro h9; apply c29; rw [h9]; rfl) (by omega), if_neg (by omega)]⟩
      · --
       refine WP_skip ?_
       refine WP_seq ?_
       refine WP_region ?_
       refine O_move rfl rfl rfl ?_
       refine O_assign rfl rfl rfl ?_
       refine WL_end [(4, _)] ⟨rfl, trivial⟩ ?_
       refine WP_ret ?_
       refine ret1 Tryd.results18 rfl ?_
       first
         | exact ⟨_, rfl, (((((e1.trans e2).trans hy7).trans e8).trans hy13).trans e14), rfl⟩
         | (exfalso; omega)
         | exact ⟨_, rfl, (((((e1.trans e2).trans hy7).trans e8).trans hy13).trans e14), by rw [dcmp_signs (x := x) (y := y) (by omega), if_pos (by omega)]⟩
         | exact ⟨_, rfl, (((((e1.trans e2).trans hy7).trans e8).trans hy13).trans e14), by rw [dcmp_signs (x := x) (y := y) (by omega), if_neg (by omega)]⟩
         | exact ⟨_, rfl, (((((e1.trans e2).trans hy7).trans e8).trans hy13).trans e14), by rw [sign_zero_iff.1 (show x.sign = 0 by omega), sign_zero_iff.1 (show y.sign = 0 by omega), dcmp_zero]⟩
         | exact ⟨_, rfl, (((((e1.trans e2).trans hy7).trans e8).trans hy13).trans e14), by rw [dcmp_tops (x := x) (y := y) (e := e) (f := f) (by omega) (by intro h9; apply c29; rw [h9]; rfl) (by omega), if_pos (by omega)]⟩
         | exact ⟨_, rfl, (((((e1.trans e2).trans hy7).trans e8).trans hy13).trans e14), by rw [dcmp_tops (x := x) (y := y) (e := e) (f := f) (by omega) (by intro h9; apply c29; rw [h9]; rfl) (by omega), if_neg (by omega)]⟩
     · --
      refine WP_skip ?_
      refine WP_seq ?_
      refine WP_region ?_
      refine O_loadA (vs := [_, _, _]) S26 rfl rfl rfl (((((b1.ext e2).ext hy7).ext e8).ext hy13).ext e14) rfl rfl ?_
      refine O_loadA (vs := [_, _, _]) S26 rfl rfl rfl ((((b2.ext hy7).ext e8).ext hy13).ext e14) rfl rfl ?_
      refine O_call enters50 rfl rfl rfl (dalign_c rfl (hx.ext (((((e1.trans e2).trans hy7).trans e8).trans hy13).trans e14)) rfl (hy.ext (((((e1.trans e2).trans hy7).trans e8).trans hy13).trans e14)) (by (try simp only [lens]); omega) (by (try simp only [lens]); omega) (by (try simp only [lens]); omega) (by (try simp only [lens]); omega) (by (try simp only [lens]); omega) (by (try simp only [lens]); omega)) (fun v15 w15 e15 h15 => ?_)
      have z15 := e15.size
      try simp only [val_dig] at h15
      obtain ⟨q15, s15, rfl, hq15, hs15⟩ := h15
      refine O_move rfl rfl rfl ?_
      refine O_extract rfl rfl rfl rfl ?_
      refine O_extract rfl rfl rfl rfl ?_
      refine O_extract rfl rfl rfl rfl ?_
      refine O_alloc S24 rfl rfl (fun g16 w16 b16 e16 gl16 gh16 => ?_)
      have z16 := e16.size
      refine O_alloc S24 rfl rfl (fun g17 w17 b17 e17 gl17 gh17 => ?_)
      have z17 := e17.size
      refine O_storeA (cs' := [_, _]) S24 rfl rfl rfl (b16.ext e17) rfl rfl (one_cons rfl (one_cons (((hq15.ext e16).ext e17).nl).one one_nil)) rfl (fun w18 b18 q18 => ?_)
      have z18 := Nat.le_of_eq q18.size.symm
      have e18 : Ext w w18 := q18.ext ((((((((e1.trans e2).trans hy7).trans e8).trans hy13).trans e14).trans e15).trans e16).trans e17) (by omega)
      refine O_storeA (cs' := [_, _]) S24 rfl rfl rfl (b17.chg q18 (by first | assumption | omega)) rfl rfl (one_cons rfl (one_cons ((((hs15.ext e16).ext e17).chgBk (b16.ext e17) (by decide) q18).nl).one one_nil)) rfl (fun w19 b19 q19 => ?_)
      have z19 := Nat.le_of_eq q19.size.symm
      have e19 : Ext w w19 := q19.ext e18 (by omega)
      refine O_assign rfl rfl rfl ?_
      refine WL_end [(9, _), (10, _)] ⟨rfl, rfl, trivial⟩ ?_
      refine WP_seq ?_
      refine WP_region ?_
      refine O_loadA (vs := [_, _]) S24 rfl rfl rfl (b18.chg q19 (by first | assumption | omega)) rfl rfl ?_
      refine O_loadA (vs := [_, _]) S24 rfl rfl rfl b19 rfl rfl ?_
      refine O_call enters55 rfl rfl rfl (icmp_c rfl ((((hq15.ext e16).ext e17).chgBk (b16.ext e17) (by decide) q18).chgBk (b17.chg q18 (by first | assumption | omega)) (by decide) q19).nl rfl ((((hs15.ext e16).ext e17).chgBk (b16.ext e17) (by decide) q18).chgBk (b17.chg q18 (by first | assumption | omega)) (by decide) q19).nl (by (try simp only [lens]); omega) (by (try simp only [lens]); omega)) (fun v20 w20 e20 h20 => ?_)
      have z20 := e20.size
      obtain rfl := h20
      refine O_assign rfl rfl rfl ?_
      refine WL_end [(4, _)] ⟨rfl, trivial⟩ ?_
      refine WP_ret ?_
      refine ret1 Tryd.results18 rfl ?_
      first
        | exact ⟨_, rfl, (e19.trans e20), rfl⟩
        | (exfalso; omega)
        | exact ⟨_, rfl, (e19.trans e20), by rw [dcmp_signs (x := x) (y := y) (by omega), if_pos (by omega)]⟩
        | exact ⟨_, rfl, (e19.trans e20), by rw [dcmp_signs (x := x) (y := y) (by omega), if_neg (by omega)]⟩
        | exact ⟨_, rfl, (e19.trans e20), by rw [sign_zero_iff.1 (show x.sign = 0 by omega), sign_zero_iff.1 (show y.sign = 0 by omega), dcmp_zero]⟩
        | exact ⟨_, rfl, (e19.trans e20), by rw [dcmp_tops (x := x) (y := y) (e := e) (f := f) (by omega) (by intro h9; apply c29; rw [h9]; rfl) (by omega), if_pos (by omega)]⟩
        | exact ⟨_, rfl, (e19.trans e20), by rw [dcmp_tops (x := x) (y := y) (e := e) (f := f) (by omega) (by intro h9; apply c29; rw [h9]; rfl) (by omega), if_neg (by omega)]⟩
 · --
  refine O_skip rfl rfl ?_
  refine O_skip rfl rfl ?_
  refine O_skip rfl rfl ?_
  refine O_pickF rfl rfl rfl rfl ?_
  refine O_assign rfl rfl rfl ?_
  refine WL_end [(2, _), (3, _), (5, _), (6, _), (16, _)] ⟨rfl, rfl, rfl, rfl, rfl, trivial⟩ ?_
  refine WP_condF rfl ?_
  refine WP_seq ?_
  refine WP_region ?_
  refine O_move rfl rfl rfl ?_
  refine O_move rfl rfl rfl ?_
  refine O_neq rfl rfl rfl rfl rfl ?_
  refine O_assign rfl rfl rfl ?_
  refine WL_end [(2, _), (3, _), (5, _), (25, _)] ⟨rfl, rfl, rfl, rfl, trivial⟩ ?_
  refine WP_condN rfl (fun c25 => ?_) (fun c25 => ?_)
  · --
   refine WP_seq ?_
   refine WP_region ?_
   refine O_assign rfl rfl rfl ?_
   refine WL_end [(4, _)] ⟨rfl, trivial⟩ ?_
   refine WP_ret ?_
   refine inBlk_ret ?_
   refine ret1 Tryd.results18 rfl ?_
   first
     | exact ⟨_, rfl, (((e1.trans e2).trans hy7).trans e8), rfl⟩
     | (exfalso; omega)
     | exact ⟨_, rfl, (((e1.trans e2).trans hy7).trans e8), by rw [dcmp_signs (x := x) (y := y) (by omega), if_pos (by omega)]⟩
     | exact ⟨_, rfl, (((e1.trans e2).trans hy7).trans e8), by rw [dcmp_signs (x := x) (y := y) (by omega), if_neg (by omega)]⟩
     | exact ⟨_, rfl, (((e1.trans e2).trans hy7).trans e8), by rw [sign_zero_iff.1 (show x.sign = 0 by omega), sign_zero_iff.1 (show y.sign = 0 by omega), dcmp_zero]⟩
     | exact ⟨_, rfl, (((e1.trans e2).trans hy7).trans e8), by rw [dcmp_tops (x := x) (y := y) (e := e) (f := f) (by omega) (by intro h9; apply c29; rw [h9]; rfl) (by omega), if_pos (by omega)]⟩
     | exact ⟨_, rfl, (((e1.trans e2).trans hy7).trans e8), by rw [dcmp_tops (x := x) (y := y) (e := e) (f := f) (by omega) (by intro h9; apply c29; rw [h9]; rfl) (by omega), if_neg (by omega)]⟩
  · --
   refine WP_seq ?_
   refine WP_region ?_
   refine O_move rfl rfl rfl ?_
   refine O_eql rfl rfl rfl rfl rfl ?_
   refine O_assign rfl rfl rfl ?_
   refine WL_end [(2, _), (3, _), (5, _), (29, _)] ⟨rfl, rfl, rfl, rfl, trivial⟩ ?_
   refine WP_condD rfl (fun c29 => ?_) (fun c29 => ?_)
   · --
    refine WP_seq ?_
    refine WP_region ?_
    refine O_assign rfl rfl rfl ?_
    refine WL_end [(4, _)] ⟨rfl, trivial⟩ ?_
    refine WP_ret ?_
    refine inBlk_ret ?_
    refine ret1 Tryd.results18 rfl ?_
    first
      | exact ⟨_, rfl, (((e1.trans e2).trans hy7).trans e8), rfl⟩
      | (exfalso; omega)
      | exact ⟨_, rfl, (((e1.trans e2).trans hy7).trans e8), by rw [dcmp_signs (x := x) (y := y) (by omega), if_pos (by omega)]⟩
      | exact ⟨_, rfl, (((e1.trans e2).trans hy7).trans e8), by rw [dcmp_signs (x := x) (y := y) (by omega), if_neg (by omega)]⟩
      | exact ⟨_, rfl, (((e1.trans e2).trans hy7).trans e8), by rw [sign_zero_iff.1 (show x.sign = 0 by omega), sign_zero_iff.1 (show y.sign = 0 by omega), dcmp_zero]⟩
      | exact ⟨_, rfl, (((e1.trans e2).trans hy7).trans e8), by rw [dcmp_tops (x := x) (y := y) (e := e) (f := f) (by omega) (by intro h9; apply c29; rw [h9]; rfl) (by omega), if_pos (by omega)]⟩
      | exact ⟨_, rfl, (((e1.trans e2).trans hy7).trans e8), by rw [dcmp_tops (x := x) (y := y) (e := e) (f := f) (by omega) (by intro h9; apply c29; rw [h9]; rfl) (by omega), if_neg (by omega)]⟩
   · --
    refine WP_skip ?_
    refine WP_seq ?_
    refine WP_seq ?_
    refine WP_sub [(2, _), (3, _), (5, _)] ⟨rfl, rfl, rfl, trivial⟩ ?_
    refine WP_anyR 3 [2, 3, 5] mixed rfl (by kernel_rfl) ?_
    apply AnyR_val [2] rfl (by kernel_rfl)
    · --
     intro y21 hy21
     have zy21 := hy21.size
     refine AllV_nil ?_
     refine O_loadA (vs := [_, _, _]) S26 rfl rfl rfl ((((b1.ext e2).ext hy7).ext e8).ext hy21) rfl rfl ?_
     exact WL_nil ⟨(Ext.refl _), rfl⟩
    apply AnyR_val [32] rfl (by kernel_rfl)
    · --
     intro y22 hy22
     have zy22 := hy22.size
     refine AllV_v ?_
     refine AllV_nil ?_
     refine O_call enters41 rfl rfl rfl (dtop_c rfl (hx.ext ((((e1.trans e2).trans hy7).trans e8).trans hy22)) (by (try simp only [lens]); omega) (by (try simp only [lens]); omega) (by (try simp only [lens]); omega)) (fun v23 w23 e23 h23 => ?_)
     have z23 := e23.size
     obtain rfl := h23
     exact WL_nil ⟨e23, rfl⟩
    apply AnyR_val [3] rfl (by kernel_rfl)
    · --
     intro y24 hy24
     have zy24 := hy24.size
     refine AllV_nil ?_
     refine O_loadA (vs := [_, _, _]) S26 rfl rfl rfl (((b2.ext hy7).ext e8).ext hy24) rfl rfl ?_
     exact WL_nil ⟨(Ext.refl _), rfl⟩
    refine AnyR_nil fun y25 hy25 => ?_
    have zy25 := hy25.size
    refine AllV_v ?_
    refine AllV_v ?_
    refine AllV_v ?_
    refine AllV_nil ?_
    refine O_call enters41 rfl rfl rfl (dtop_c rfl (hy.ext ((((e1.trans e2).trans hy7).trans e8).trans hy25)) (by (try simp only [lens]); omega) (by (try simp only [lens]); omega) (by (try simp only [lens]); omega)) (fun v26 w26 e26 h26 => ?_)
    have z26 := e26.size
    obtain rfl := h26
    refine O_assign rfl rfl rfl ?_
    refine O_assign rfl rfl rfl ?_
    refine WL_end [(2, _), (3, _), (5, _), (7, _), (8, _)] ⟨rfl, rfl, rfl, rfl, rfl, trivial⟩ ?_
    refine WP_seq ?_
    refine WP_region ?_
    refine O_move rfl rfl rfl ?_
    refine O_move rfl rfl rfl ?_
    refine O_neq rfl rfl rfl rfl rfl ?_
    refine WL_end [(2, _), (3, _), (5, _), (7, _), (8, _), (38, _)] ⟨rfl, rfl, rfl, rfl, rfl, rfl, trivial⟩ ?_
    refine WP_condN rfl (fun c38 => ?_) (fun c38 => ?_)
    · --
     refine WP_seq ?_
     refine WP_seq ?_
     refine WP_region ?_
     refine O_move rfl rfl rfl ?_
     refine O_move rfl rfl rfl ?_
     refine O_lss rfl rfl rfl rfl rfl ?_
     refine WL_end [(5, _), (41, _)] ⟨rfl, rfl, trivial⟩ ?_
     refine WP_condD rfl (fun c41 => ?_) (fun c41 => ?_)
     · --
      refine WP_seq ?_
      refine WP_region ?_
      refine O_move rfl rfl rfl ?_
      refine O_neg (r := (-x.sign)) rfl rfl rfl (by rw [IntKind.wrap_i64]; omega) ?_
      refine O_assign rfl rfl rfl ?_
      refine WL_end [(4, _)] ⟨rfl, trivial⟩ ?_
      refine WP_ret ?_
      refine ret1 Tryd.results18 rfl ?_
      first
        | exact ⟨_, rfl, (((((e1.trans e2).trans hy7).trans e8).trans hy25).trans e26), rfl⟩
        | (exfalso; omega)
        | exact ⟨_, rfl, (((((e1.trans e2).trans hy7).trans e8).trans hy25).trans e26), by rw [dcmp_signs (x := x) (y := y) (by omega), if_pos (by omega)]⟩
        | exact ⟨_, rfl, (((((e1.trans e2).trans hy7).trans e8).trans hy25).trans e26), by rw [dcmp_signs (x := x) (y := y) (by omega), if_neg (by omega)]⟩
        | exact ⟨_, rfl, (((((e1.trans e2).trans hy7).trans e8).trans hy25).trans e26), by rw [sign_zero_iff.1 (show x.sign = 0 by omega), sign_zero_iff.1 (show y.sign = 0 by omega), dcmp_zero]⟩
        | exact ⟨_, rfl, (((((e1.trans e2).trans hy7).trans e8).trans hy25).trans e26), by rw [dcmp_tops (x := x) (y := y) (e := e) (f := f) (by omega) (by intro h9; apply c29; rw [h9]; rfl) (by omega), if_pos (by omega)]⟩
        | exact ⟨_, rfl, (((((e1.trans e2).trans hy7).trans e8).trans hy25).trans e26), by rw [dcmp_tops (x := x) (y := y) (e := e) (f := f) (by omega) (by intro h9; apply c29; rw [h9]; rfl) (by omega), if_neg (by omega)]⟩
     · --
      refine WP_skip ?_
      refine WP_seq ?_
      refine WP_region ?_
      refine O_move rfl rfl rfl ?_
      refine O_assign rfl rfl rfl ?_
      refine WL_end [(4, _)] ⟨rfl, trivial⟩ ?_
      refine WP_ret ?_
      refine ret1 Tryd.results18 rfl ?_
      first
        | exact ⟨_, rfl, (((((e1.trans e2).trans hy7).trans e8).trans hy25).trans e26), rfl⟩
        | (exfalso; omega)
        | exact ⟨_, rfl, (((((e1.trans e2).trans hy7).trans e8).trans hy25).trans e26), by rw [dcmp_signs (x := x) (y := y) (by omega), if_pos (by omega)]⟩
        | exact ⟨_, rfl, (((((e1.trans e2).trans hy7).trans e8).trans hy25).trans e26), by rw [dcmp_signs (x := x) (y := y) (by omega), if_neg (by omega)]⟩
        | exact ⟨_, rfl, (((((e1.trans e2).trans hy7).trans e8).trans hy25).trans e26), by rw [sign_zero_iff.1 (show x.sign = 0 by omega), sign_zero_iff.1 (show y.sign = 0 by omega), dcmp_zero]⟩
        | exact ⟨_, rfl, (((((e1.trans e2).trans hy7).trans e8).trans hy25).trans e26), by rw [dcmp_tops (x := x) (y := y) (e := e) (f := f) (by omega) (by intro h9; apply c29; rw [h9]; rfl) (by omega), if_pos (by omega)]⟩
        | exact ⟨_, rfl, (((((e1.trans e2).trans hy7).trans e8).trans hy25).trans e26), by rw [dcmp_tops (x := x) (y := y) (e := e) (f := f) (by omega) (by intro h9; apply c29; rw [h9]; rfl) (by omega), if_neg (by omega)]⟩
    · --
     refine WP_skip ?_
     refine WP_seq ?_
     refine WP_region ?_
     refine O_loadA (vs := [_, _, _]) S26 rfl rfl rfl (((((b1.ext e2).ext hy7).ext e8).ext hy25).ext e26) rfl rfl ?_
     refine O_loadA (vs := [_, _, _]) S26 rfl rfl rfl ((((b2.ext hy7).ext e8).ext hy25).ext e26) rfl rfl ?_
     refine O_call enters50 rfl rfl rfl (dalign_c rfl (hx.ext (((((e1.trans e2).trans hy7).trans e8).trans hy25).trans e26)) rfl (hy.ext (((((e1.trans e2).trans hy7).trans e8).trans hy25).trans e26)) (by (try simp only [lens]); omega) (by (try simp only [lens]); omega) (by (try simp only [lens]); omega) (by (try simp only [lens]); omega) (by (try simp only [lens]); omega) (by (try simp only [lens]); omega)) (fun v27 w27 e27 h27 => ?_)
     have z27 := e27.size
     try simp only [val_dig] at h27
     obtain ⟨q27, s27, rfl, hq27, hs27⟩ := h27
     refine O_move rfl rfl rfl ?_
     refine O_extract rfl rfl rfl rfl ?_
     refine O_extract rfl rfl rfl rfl ?_
     refine O_extract rfl rfl rfl rfl ?_
     refine O_alloc S24 rfl rfl (fun g28 w28 b28 e28 gl28 gh28 => ?_)
     have z28 := e28.size
     refine O_alloc S24 rfl rfl (fun g29 w29 b29 e29 gl29 gh29 => ?_)
     have z29 := e29.size
     refine O_storeA (cs' := [_, _]) S24 rfl rfl rfl (b28.ext e29) rfl rfl (one_cons rfl (one_cons (((hq27.ext e28).ext e29).nl).one one_nil)) rfl (fun w30 b30 q30 => ?_)
     have z30 := Nat.le_of_eq q30.size.symm
     have e30 : Ext w w30 := q30.ext ((((((((e1.trans e2).trans hy7).trans e8).trans hy25).trans e26).trans e27).trans e28).trans e29) (by omega)
     refine O_storeA (cs' := [_, _]) S24 rfl rfl rfl (b29.chg q30 (by first | assumption | omega)) rfl rfl (one_cons rfl (one_cons ((((hs27.ext e28).ext e29).chgBk (b28.ext e29) (by decide) q30).nl).one one_nil)) rfl (fun w31 b31 q31 => ?_)
     have z31 := Nat.le_of_eq q31.size.symm
     have e31 : Ext w w31 := q31.ext e30 (by omega)
     refine O_assign rfl rfl rfl ?_
     refine WL_end [(9, _), (10, _)] ⟨rfl, rfl, trivial⟩ ?_
     refine WP_seq ?_
     refine WP_region ?_
     refine O_loadA (vs := [_, _]) S24 rfl rfl rfl (b30.chg q31 (by first | assumption | omega)) rfl rfl ?_
     refine O_loadA (vs := [_, _]) S24 rfl rfl rfl b31 rfl rfl ?_
     refine O_call enters55 rfl rfl rfl (icmp_c rfl ((((hq27.ext e28).ext e29).chgBk (b28.ext e29) (by decide) q30).chgBk (b29.chg q30 (by first | assumption | omega)) (by decide) q31).nl rfl ((((hs27.ext e28).ext e29).chgBk (b28.ext e29) (by decide) q30).chgBk (b29.chg q30 (by first | assumption | omega)) (by decide) q31).nl (by (try simp only [lens]); omega) (by (try simp only [lens]); omega)) (fun v32 w32 e32 h32 => ?_)
     have z32 := e32.size
     obtain rfl := h32
     refine O_assign rfl rfl rfl ?_
     refine WL_end [(4, _)] ⟨rfl, trivial⟩ ?_
     refine WP_ret ?_
     refine ret1 Tryd.results18 rfl ?_
     first
       | exact ⟨_, rfl, (e31.trans e32), rfl⟩
       | (exfalso; omega)
       | exact ⟨_, rfl, (e31.trans e32), by rw [dcmp_signs (x := x) (y := y) (by omega), if_pos (by omega)]⟩
       | exact ⟨_, rfl, (e31.trans e32), by rw [dcmp_signs (x := x) (y := y) (by omega), if_neg (by omega)]⟩
       | exact ⟨_, rfl, (e31.trans e32), by rw [sign_zero_iff.1 (show x.sign = 0 by omega), sign_zero_iff.1 (show y.sign = 0 by omega), dcmp_zero]⟩
       | exact ⟨_, rfl, (e31.trans e32), by rw [dcmp_tops (x := x) (y := y) (e := e) (f := f) (by omega) (by intro h9; apply c29; rw [h9]; rfl) (by omega), if_pos (by omega)]⟩
       | exact ⟨_, rfl, (e31.trans e32), by rw [dcmp_tops (x := x) (y := y) (e := e) (f := f) (by omega) (by intro h9; apply c29; rw [h9]; rfl) (by omega), if_neg (by omega)]⟩

theorem rdcmp_c {w : World} {vx vy : Value} {x y e f : Int} {bx by_ : Bool} (hbx : bx = decide (x < 0)) (hx : Nl w vx (dig x.natAbs)) (hby : by_ = decide (y < 0)) (hy : Nl w vy (dig y.natAbs)) (hlx : (dig x.natAbs).length ≤ 30000) (hly : (dig y.natAbs).length ≤ 30000) (he1 : -200000 ≤ e) (he2 : e ≤ 200000) (hf1 : -200000 ≤ f) (hf2 : f ≤ 200000) :
    Calls Tryd.prog 19 #[.agg #[.bool bx, vx, .int .i64 e], .agg #[.bool by_, vy, .int .i64 f]] w (Ret w fun r _ => r = .int .i64 (dcmp x e y f)) := by
 subst hbx
 subst hby
 have hS1 := shl_len' (k := (e - min e f).toNat) hlx
 have hS2 := shl_len' (k := (f - min e f).toNat) hly
 have hS3 : (e - min e f).toNat ≤ 400000 := by omega
 have hS4 : (f - min e f).toNat ≤ 400000 := by omega
 replace hS1 := Nat.le_trans hS1 (show _ ≤ 80000 by omega)
 replace hS2 := Nat.le_trans hS2 (show _ ≤ 80000 by omega)
 refine enter (args := [_, _]) Tryd.func19 rfl Tryd.ntmps19 rfl ?_
 refine WP_seq ?_
 refine WP_region ?_
 refine O_box _ rfl rfl rfl rfl (fun g1 w1 b1 e1 gl1 gh1 => ?_)
 have z1 := e1.size
 refine O_box _ rfl rfl rfl rfl (fun g2 w2 b2 e2 gl2 gh2 => ?_)
 have z2 := e2.size
 refine O_assign rfl rfl rfl ?_
 refine WL_end [(2, _), (3, _)] ⟨rfl, rfl, trivial⟩ ?_
 refine WP_seq ?_
 refine WP_region ?_
 refine O_field F26_1 rfl rfl rfl ?_
 refine O_loadC Tryd.underlying3 rfl rfl rfl rfl (b1.ext e2) rfl ?_
 refine O_field F26_1 rfl rfl rfl ?_
 refine O_loadC Tryd.underlying3 rfl rfl rfl rfl b2 rfl ?_
 refine O_min rfl rfl rfl rfl rfl ?_
 refine O_assign rfl rfl rfl ?_
 refine WL_end [(2, _), (3, _), (5, _)] ⟨rfl, rfl, rfl, trivial⟩ ?_
 refine WP_seq ?_
 refine WP_sub [(2, _), (3, _), (5, _)] ⟨rfl, rfl, rfl, trivial⟩ ?_
 refine WP_anyR 13 [2, 3, 5] mixed rfl (by kernel_rfl) ?_
 apply AnyR_val [2] rfl (by kernel_rfl)
 · --
  intro y3 hy3
  have zy3 := hy3.size
  refine AllV_nil ?_
  refine O_field F26_0 rfl rfl rfl ?_
  exact WL_nil ⟨(Ext.refl _), rfl⟩
 apply AnyR_val [11] rfl (by kernel_rfl)
 · --
  intro y4 hy4
  have zy4 := hy4.size
  refine AllV_v ?_
  refine AllV_nil ?_
  refine O_loadA (vs := [_, _]) S24 rfl rfl rfl ((b1.ext e2).ext hy4) rfl rfl ?_
  exact WL_nil ⟨(Ext.refl _), rfl⟩
 apply AnyR_val [2] rfl (by kernel_rfl)
 · --
  intro y5 hy5
  have zy5 := hy5.size
  refine AllV_nil ?_
  refine O_field F26_1 rfl rfl rfl ?_
  exact WL_nil ⟨(Ext.refl _), rfl⟩
 apply AnyR_val [13] rfl (by kernel_rfl)
 · --
  intro y6 hy6
  have zy6 := hy6.size
  refine AllV_v ?_
  refine AllV_nil ?_
  refine O_loadC Tryd.underlying3 rfl rfl rfl rfl ((b1.ext e2).ext hy6) rfl ?_
  exact WL_nil ⟨(Ext.refl _), rfl⟩
 apply AnyR_val [5] rfl (by kernel_rfl)
 · --
  intro y7 hy7
  have zy7 := hy7.size
  refine AllV_nil ?_
  refine O_move rfl rfl rfl ?_
  exact WL_nil ⟨(Ext.refl _), rfl⟩
 apply AnyR_val [14, 15] rfl (by kernel_rfl)
 · --
  intro y8 hy8
  have zy8 := hy8.size
  refine AllV_v ?_
  refine AllV_v ?_
  refine AllV_nil ?_
  refine O_sub (r := (((e - min e f).toNat : Nat) : Int)) rfl rfl rfl rfl (by rw [IntKind.wrap_i64]; omega) ?_
  exact WL_nil ⟨(Ext.refl _), rfl⟩
 apply AnyR_rel (RelP (pAgg [pEq _, pNo w2.heap.size 89 _])) [12, 16] rfl (RelP.mono (pAgg_mono (PsM.cons pEq_mono (PsM.cons pNo_mono PsM.nil)))) (by kernel_rfl)
 · --
  intro y9 hy9
  have zy9 := hy9.size
  refine AllV_v ?_
  refine AllV_v ?_
  refine AllV_nil ?_
  refine O_call enters21 rfl rfl rfl (rishl_c rfl (hx.ext ((e1.trans e2).trans hy9)) (by (try simp only [lens]); omega) (by (try simp only [lens]); omega)) (fun v10 w10 e10 h10 => ?_)
  have z10 := e10.size
  try simp only [val_dig] at h10
  obtain ⟨q10, rfl, hq10⟩ := h10
  exact WL_nil ⟨e10, _, rfl, ⟨_, rfl, (AllP.cons rfl (AllP.cons (hq10.mono (by omega)) AllP.nil))⟩⟩
 apply AnyR_val [3] rfl (by kernel_rfl)
 · --
  intro y11 hy11
  have zy11 := hy11.size
  refine AllV_nil ?_
  refine O_field F26_0 rfl rfl rfl ?_
  exact WL_nil ⟨(Ext.refl _), rfl⟩
 apply AnyR_val [18] rfl (by kernel_rfl)
 · --
  intro y12 hy12
  have zy12 := hy12.size
  refine AllV_v ?_
  refine AllV_nil ?_
  refine O_loadA (vs := [_, _]) S24 rfl rfl rfl (b2.ext hy12) rfl rfl ?_
  exact WL_nil ⟨(Ext.refl _), rfl⟩
 apply AnyR_val [3] rfl (by kernel_rfl)
 · --
  intro y13 hy13
  have zy13 := hy13.size
  refine AllV_nil ?_
  refine O_field F26_1 rfl rfl rfl ?_
  exact WL_nil ⟨(Ext.refl _), rfl⟩
 apply AnyR_val [20] rfl (by kernel_rfl)
 · --
  intro y14 hy14
  have zy14 := hy14.size
  refine AllV_v ?_
  refine AllV_nil ?_
  refine O_loadC Tryd.underlying3 rfl rfl rfl rfl (b2.ext hy14) rfl ?_
  exact WL_nil ⟨(Ext.refl _), rfl⟩
 apply AnyR_val [5] rfl (by kernel_rfl)
 · --
  intro y15 hy15
  have zy15 := hy15.size
  refine AllV_nil ?_
  refine O_move rfl rfl rfl ?_
  exact WL_nil ⟨(Ext.refl _), rfl⟩
 apply AnyR_val [21, 22] rfl (by kernel_rfl)
 · --
  intro y16 hy16
  have zy16 := hy16.size
  refine AllV_v ?_
  refine AllV_v ?_
  refine AllV_nil ?_
  refine O_sub (r := (((f - min e f).toNat : Nat) : Int)) rfl rfl rfl rfl (by rw [IntKind.wrap_i64]; omega) ?_
  exact WL_nil ⟨(Ext.refl _), rfl⟩
 refine AnyR_nil fun y17 hy17 => ?_
 have zy17 := hy17.size
 refine AllV_v ?_
 refine AllV_v ?_
 refine AllV_v ?_
 refine AllV_v ?_
 refine AllV_v ?_
 refine AllV_v ?_
 refine AllV_r fun a18 b18 v18 la18 lb18 lc18 h18 ap18 => ?_
 clear ap18
 obtain ⟨_, rfl, v18_0, _, rfl, rfl, v18_1, _, rfl, h18_1, rfl⟩ := h18
 refine AllV_v ?_
 refine AllV_v ?_
 refine AllV_v ?_
 refine AllV_v ?_
 refine AllV_v ?_
 refine AllV_v ?_
 refine AllV_nil ?_
 refine O_call enters21 rfl rfl rfl (rishl_c rfl (hy.ext ((e1.trans e2).trans hy17)) (by (try simp only [lens]); omega) (by (try simp only [lens]); omega)) (fun v19 w19 e19 h19 => ?_)
 have z19 := e19.size
 try simp only [val_dig] at h19
 obtain ⟨q19, rfl, hq19⟩ := h19
 refine O_call enters56 rfl rfl rfl (ricmp_c rfl (h18_1.ext e19).nl rfl hq19.nl (by (try simp only [lens]); omega) (by (try simp only [lens]); omega)) (fun v20 w20 e20 h20 => ?_)
 have z20 := e20.size
 obtain rfl := h20
 refine O_assign rfl rfl rfl ?_
 refine WL_end [(4, _)] ⟨rfl, trivial⟩ ?_
 refine WP_ret ?_
 refine ret1 Tryd.results19 rfl ?_
 exact ⟨_, rfl, ((((e1.trans e2).trans hy17).trans e19).trans e20), rfl⟩

theorem dadd_c {w : World} {vx vy : Value} {x y e f : Int} {bx by_ : Bool} (hbx : bx = decide (x < 0)) (hx : Nl w vx (dig x.natAbs)) (hby : by_ = decide (y < 0)) (hy : Nl w vy (dig y.natAbs)) (hvx : dval x e = true) (hvy : dval y f = true) (hT : Tab w) :
    Calls Tryd.prog 13 #[.agg #[.bool bx, vx, .int .i64 e], .agg #[.bool by_, vy, .int .i64 f]] w (Ret w fun r w' => ∃ q, r = .tuple #[.agg #[.bool (decide ((dman (dsum x e y f) (min e f)) < 0)), q, .int .i64 (dexp (dsum x e y f) (min e f))], .int .i64 (dcode3 (dsum x e y f) (min e f))] ∧ No w.heap.size 89 w' q (dig (dman (dsum x e y f) (min e f)).natAbs)) := by
 subst hbx
 subst hby
 have hr1 := dval_range hvx
 have hr2 := dval_range hvy
 have he1 : -200000 ≤ e := by omega
 have he2 : e ≤ 200000 := by omega
 have hf1 : -200000 ≤ f := by omega
 have hf2 : f ≤ 200000 := by omega
 have hlx : (dig x.natAbs).length ≤ 2049 := dval_len hvx
 have hly : (dig y.natAbs).length ≤ 2049 := dval_len hvy
 have hS1 := shl_len' (k := (e - min e f).toNat) hlx
 have hS2 := shl_len' (k := (f - min e f).toNat) hly
 have hS3 : (e - min e f).toNat ≤ 400000 := by omega
 have hS4 : (f - min e f).toNat ≤ 400000 := by omega
 replace hS1 := Nat.le_trans hS1 (show _ ≤ 20000 by omega)
 replace hS2 := Nat.le_trans hS2 (show _ ≤ 20000 by omega)
 have hS5 := add_len hS1 hS2
 replace hS5 := Nat.le_trans hS5 (show max 20000 20000 + 1 ≤ 30000 by decide)
 refine enter (args := [_, _]) Tryd.func13 rfl Tryd.ntmps13 rfl ?_
 refine WP_seq ?_
 refine WP_region ?_
 refine O_box _ rfl rfl rfl rfl (fun g1 w1 b1 e1 gl1 gh1 => ?_)
 have z1 := e1.size
 refine O_box _ rfl rfl rfl rfl (fun g2 w2 b2 e2 gl2 gh2 => ?_)
 have z2 := e2.size
 refine O_alloc S26 rfl rfl (fun g3 w3 b3 e3 gl3 gh3 => ?_)
 have z3 := e3.size
 refine O_assign rfl rfl rfl ?_
 refine WL_end [(2, _), (3, _), (4, _)] ⟨rfl, rfl, rfl, trivial⟩ ?_
 refine WP_seq ?_
 refine WP_block ?_
 refine WP_seq ?_
 refine WP_region ?_
 refine O_loadA (vs := [_, _, _]) S26 rfl rfl rfl ((b1.ext e2).ext e3) rfl rfl ?_
 refine O_call enters39 rfl rfl rfl (dsign_c rfl (hx.ext ((e1.trans e2).trans e3)) (by (try simp only [lens]); omega)) (fun v4 w4 e4 h4 => ?_)
 have z4 := e4.size
 obtain rfl := h4
 refine O_eql rfl rfl rfl rfl rfl ?_
 refine O_assign rfl rfl rfl ?_
 refine WL_end [(2, _), (3, _), (4, _), (9, _)] ⟨rfl, rfl, rfl, rfl, trivial⟩ ?_
 refine WP_condD rfl (fun c9 => ?_) (fun c9 => ?_)
 · --
  refine WP_seq ?_
  refine WP_region ?_
  refine O_field F26_0 rfl rfl rfl ?_
  refine O_loadA (vs := [_, _]) S24 rfl rfl rfl ((b2.ext e3).ext e4) rfl rfl ?_
  refine O_field F26_1 rfl rfl rfl ?_
  refine O_loadC Tryd.underlying3 rfl rfl rfl rfl ((b2.ext e3).ext e4) rfl ?_
  refine O_call enters49 rfl rfl rfl (dexact_c rfl (hy.ext (((e1.trans e2).trans e3).trans e4)) (by (try simp only [lens]); omega) (hT.ext (((e1.trans e2).trans e3).trans e4))) (fun v5 w5 e5 h5 => ?_)
  have z5 := e5.size
  try simp only [val_dig] at h5
  obtain ⟨q5, rfl, hq5⟩ := h5
  refine O_extract rfl rfl rfl rfl ?_
  refine O_extract rfl rfl rfl rfl ?_
  refine O_storeA (cs' := [_, _, _]) S26 rfl rfl rfl ((b3.ext e4).ext e5) rfl rfl (one_cons rfl (one_cons (hq5.nl).one (one_cons rfl one_nil))) rfl (fun w6 b6 q6 => ?_)
  have z6 := Nat.le_of_eq q6.size.symm
  have e6 : Ext w w6 := q6.ext ((((e1.trans e2).trans e3).trans e4).trans e5) (by omega)
  refine O_assign rfl rfl rfl ?_
  refine WL_end [(4, _), (5, _)] ⟨rfl, rfl, trivial⟩ ?_
  refine WP_ret ?_
  refine inBlk_ret ?_
  refine retL Tryd.results13 (.cell rfl S26 b6 rfl (.tmp rfl .nil)) ?_
  have hx0 : x = 0 := sign_zero_iff.1 c9
  subst hx0
  obtain rfl := dval_exp0 hvx
  obtain ⟨k1, k2, k3⟩ := dadd_zero_l (y := y) hr2.1 hr2.2
  rw [k2, k3, show dcode3 (dsum 0 0 y f) (min 0 f) = dcode3 y f from by unfold dcode3; rw [k1]]
  exact ⟨_, rfl, e6, _, rfl, (hq5.chgBk ((b3.ext e4).ext e5) (by decide) q6).mono (by omega)⟩
 · --
  refine WP_seq ?_
  refine WP_region ?_
  refine O_loadA (vs := [_, _, _]) S26 rfl rfl rfl ((b2.ext e3).ext e4) rfl rfl ?_
  refine O_call enters39 rfl rfl rfl (dsign_c rfl (hy.ext (((e1.trans e2).trans e3).trans e4)) (by (try simp only [lens]); omega)) (fun v7 w7 e7 h7 => ?_)
  have z7 := e7.size
  obtain rfl := h7
  refine O_eql rfl rfl rfl rfl rfl ?_
  refine O_assign rfl rfl rfl ?_
  refine WL_end [(2, _), (3, _), (4, _), (20, _)] ⟨rfl, rfl, rfl, rfl, trivial⟩ ?_
  refine WP_condD rfl (fun c20 => ?_) (fun c20 => ?_)
  · --
   refine WP_seq ?_
   refine WP_region ?_
   refine O_field F26_0 rfl rfl rfl ?_
   refine O_loadA (vs := [_, _]) S24 rfl rfl rfl ((((b1.ext e2).ext e3).ext e4).ext e7) rfl rfl ?_
   refine O_field F26_1 rfl rfl rfl ?_
   refine O_loadC Tryd.underlying3 rfl rfl rfl rfl ((((b1.ext e2).ext e3).ext e4).ext e7) rfl ?_
   refine O_call enters49 rfl rfl rfl (dexact_c rfl (hx.ext ((((e1.trans e2).trans e3).trans e4).trans e7)) (by (try simp only [lens]); omega) (hT.ext ((((e1.trans e2).trans e3).trans e4).trans e7))) (fun v8 w8 e8 h8 => ?_)
   have z8 := e8.size
   try simp only [val_dig] at h8
   obtain ⟨q8, rfl, hq8⟩ := h8
   refine O_extract rfl rfl rfl rfl ?_
   refine O_extract rfl rfl rfl rfl ?_
   refine O_storeA (cs' := [_, _, _]) S26 rfl rfl rfl (((b3.ext e4).ext e7).ext e8) rfl rfl (one_cons rfl (one_cons (hq8.nl).one (one_cons rfl one_nil))) rfl (fun w9 b9 q9 => ?_)
   have z9 := Nat.le_of_eq q9.size.symm
   have e9 : Ext w w9 := q9.ext (((((e1.trans e2).trans e3).trans e4).trans e7).trans e8) (by omega)
   refine O_assign rfl rfl rfl ?_
   refine WL_end [(4, _), (5, _)] ⟨rfl, rfl, trivial⟩ ?_
   refine WP_ret ?_
   refine inBlk_ret ?_
   refine retL Tryd.results13 (.cell rfl S26 b9 rfl (.tmp rfl .nil)) ?_
   have hy0 : y = 0 := sign_zero_iff.1 c20
   subst hy0
   obtain rfl := dval_exp0 hvy
   obtain ⟨k1, k2, k3⟩ := dadd_zero_r (x := x) hr1.1 hr1.2
   rw [k2, k3, show dcode3 (dsum x e 0 0) (min e 0) = dcode3 x e from by unfold dcode3; rw [k1]]
   exact ⟨_, rfl, e9, _, rfl, (hq8.chgBk (((b3.ext e4).ext e7).ext e8) (by decide) q9).mono (by omega)⟩
  · --
   refine WP_skip ?_
   refine WP_seq ?_
   refine WP_region ?_
   refine O_loadA (vs := [_, _, _]) S26 rfl rfl rfl ((((b1.ext e2).ext e3).ext e4).ext e7) rfl rfl ?_
   refine O_loadA (vs := [_, _, _]) S26 rfl rfl rfl (((b2.ext e3).ext e4).ext e7) rfl rfl ?_
   refine O_call enters50 rfl rfl rfl (dalign_c rfl (hx.ext ((((e1.trans e2).trans e3).trans e4).trans e7)) rfl (hy.ext ((((e1.trans e2).trans e3).trans e4).trans e7)) (by (try simp only [lens]); omega) (by (try simp only [lens]); omega) (by (try simp only [lens]); omega) (by (try simp only [lens]); omega) (by (try simp only [lens]); omega) (by (try simp only [lens]); omega)) (fun v10 w10 e10 h10 => ?_)
   have z10 := e10.size
   try simp only [val_dig] at h10
   obtain ⟨q10, s10, rfl, hq10, hs10⟩ := h10
   refine O_move rfl rfl rfl ?_
   refine O_extract rfl rfl rfl rfl ?_
   refine O_extract rfl rfl rfl rfl ?_
   refine O_extract rfl rfl rfl rfl ?_
   refine O_alloc S24 rfl rfl (fun g11 w11 b11 e11 gl11 gh11 => ?_)
   have z11 := e11.size
   refine O_alloc S24 rfl rfl (fun g12 w12 b12 e12 gl12 gh12 => ?_)
   have z12 := e12.size
   refine O_storeA (cs' := [_, _]) S24 rfl rfl rfl (b11.ext e12) rfl rfl (one_cons rfl (one_cons (((hq10.ext e11).ext e12).nl).one one_nil)) rfl (fun w13 b13 q13 => ?_)
   have z13 := Nat.le_of_eq q13.size.symm
   have e13 : Ext w w13 := q13.ext (((((((e1.trans e2).trans e3).trans e4).trans e7).trans e10).trans e11).trans e12) (by omega)
   refine O_storeA (cs' := [_, _]) S24 rfl rfl rfl (b12.chg q13 (by first | assumption | omega)) rfl rfl (one_cons rfl (one_cons ((((hs10.ext e11).ext e12).chgBk (b11.ext e12) (by decide) q13).nl).one one_nil)) rfl (fun w14 b14 q14 => ?_)
   have z14 := Nat.le_of_eq q14.size.symm
   have e14 : Ext w w14 := q14.ext e13 (by omega)
   refine O_assign rfl rfl rfl ?_
   refine WL_end [(4, _), (6, _), (7, _), (8, _)] ⟨rfl, rfl, rfl, rfl, trivial⟩ ?_
   refine WP_seq ?_
   refine WP_region ?_
   refine O_loadA (vs := [_, _]) S24 rfl rfl rfl (b13.chg q14 (by first | assumption | omega)) rfl rfl ?_
   refine O_loadA (vs := [_, _]) S24 rfl rfl rfl b14 rfl rfl ?_
   refine O_call enters51 rfl rfl rfl (iadd_c rfl ((((hq10.ext e11).ext e12).chgBk (b11.ext e12) (by decide) q13).chgBk (b12.chg q13 (by first | assumption | omega)) (by decide) q14).nl rfl ((((hs10.ext e11).ext e12).chgBk (b11.ext e12) (by decide) q13).chgBk (b12.chg q13 (by first | assumption | omega)) (by decide) q14).nl (by (try simp only [lens]); omega) (by (try simp only [lens]); omega)) (fun v15 w15 e15 h15 => ?_)
   have z15 := e15.size
   try simp only [val_dig] at h15
   obtain ⟨q15, rfl, hq15⟩ := h15
   refine O_move rfl rfl rfl ?_
   refine O_call enters49 rfl rfl rfl (dexact_c rfl hq15.nl (by (try simp only [lens]); omega) (hT.ext (e14.trans e15))) (fun v16 w16 e16 h16 => ?_)
   have z16 := e16.size
   try simp only [val_dig] at h16
   obtain ⟨q16, rfl, hq16⟩ := h16
   refine O_extract rfl rfl rfl rfl ?_
   refine O_extract rfl rfl rfl rfl ?_
   refine O_storeA (cs' := [_, _, _]) S26 rfl rfl rfl (((((((((b3.ext e4).ext e7).ext e10).ext e11).ext e12).chg q13 (by first | assumption | omega)).chg q14 (by first | assumption | omega)).ext e15).ext e16) rfl rfl (one_cons rfl (one_cons (hq16.nl).one (one_cons rfl one_nil))) rfl (fun w17 b17 q17 => ?_)
   have z17 := Nat.le_of_eq q17.size.symm
   have e17 : Ext w w17 := q17.ext ((e14.trans e15).trans e16) (by omega)
   refine O_assign rfl rfl rfl ?_
   refine WL_end [(4, _), (5, _)] ⟨rfl, rfl, trivial⟩ ?_
   refine WP_ret ?_
   refine retL Tryd.results13 (.cell rfl S26 b17 rfl (.tmp rfl .nil)) ?_
   exact ⟨_, rfl, e17, _, rfl, (hq16.chgBk (((((((((b3.ext e4).ext e7).ext e10).ext e11).ext e12).chg q13 (by first | assumption | omega)).chg q14 (by first | assumption | omega)).ext e15).ext e16) (by decide) q17).mono (by omega)⟩

theorem rdadd_c {w : World} {vx vy : Value} {x y e f : Int} {bx by_ : Bool} (hbx : bx = decide (x < 0)) (hx : Nl w vx (dig x.natAbs)) (hby : by_ = decide (y < 0)) (hy : Nl w vy (dig y.natAbs)) (hvx : dval x e = true) (hvy : dval y f = true) :
    Calls Tryd.prog 14 #[.agg #[.bool bx, vx, .int .i64 e], .agg #[.bool by_, vy, .int .i64 f]] w (Ret w fun r w' => ∃ q, r = .tuple #[.agg #[.bool (decide ((dman (dsum x e y f) (min e f)) < 0)), q, .int .i64 (dexp (dsum x e y f) (min e f))], .int .i64 (dcode (dsum x e y f) (min e f))] ∧ No w.heap.size 89 w' q (dig (dman (dsum x e y f) (min e f)).natAbs)) := by
 subst hbx
 subst hby
 have hr1 := dval_range hvx
 have hr2 := dval_range hvy
 have he1 : -200000 ≤ e := by omega
 have he2 : e ≤ 200000 := by omega
 have hf1 : -200000 ≤ f := by omega
 have hf2 : f ≤ 200000 := by omega
 have hlx : (dig x.natAbs).length ≤ 2049 := dval_len hvx
 have hly : (dig y.natAbs).length ≤ 2049 := dval_len hvy
 have hS1 := shl_len' (k := (e - min e f).toNat) hlx
 have hS2 := shl_len' (k := (f - min e f).toNat) hly
 have hS3 : (e - min e f).toNat ≤ 400000 := by omega
 have hS4 : (f - min e f).toNat ≤ 400000 := by omega
 replace hS1 := Nat.le_trans hS1 (show _ ≤ 20000 by omega)
 replace hS2 := Nat.le_trans hS2 (show _ ≤ 20000 by omega)
 have hS5 := add_len hS1 hS2
 replace hS5 := Nat.le_trans hS5 (show max 20000 20000 + 1 ≤ 30000 by decide)
 refine enter (args := [_, _]) Tryd.func14 rfl Tryd.ntmps14 rfl ?_
 refine WP_seq ?_
 refine WP_region ?_
 refine O_box _ rfl rfl rfl rfl (fun g1 w1 b1 e1 gl1 gh1 => ?_)
 have z1 := e1.size
 refine O_box _ rfl rfl rfl rfl (fun g2 w2 b2 e2 gl2 gh2 => ?_)
 have z2 := e2.size
 refine O_alloc S26 rfl rfl (fun g3 w3 b3 e3 gl3 gh3 => ?_)
 have z3 := e3.size
 refine O_assign rfl rfl rfl ?_
 refine WL_end [(2, _), (3, _), (4, _)] ⟨rfl, rfl, rfl, trivial⟩ ?_
 refine WP_seq ?_
 refine WP_region ?_
 refine O_field F26_1 rfl rfl rfl ?_
 refine O_loadC Tryd.underlying3 rfl rfl rfl rfl ((b1.ext e2).ext e3) rfl ?_
 refine O_field F26_1 rfl rfl rfl ?_
 refine O_loadC Tryd.underlying3 rfl rfl rfl rfl (b2.ext e3) rfl ?_
 refine O_min rfl rfl rfl rfl rfl ?_
 refine O_assign rfl rfl rfl ?_
 refine WL_end [(2, _), (3, _), (4, _), (6, _)] ⟨rfl, rfl, rfl, rfl, trivial⟩ ?_
 refine WP_seq ?_
 refine WP_sub [(2, _), (3, _), (4, _), (6, _)] ⟨rfl, rfl, rfl, rfl, trivial⟩ ?_
 refine WP_anyR 19 [2, 3, 4, 6] mixed rfl (by kernel_rfl) ?_
 apply AnyR_val [2] rfl (by kernel_rfl)
 · --
  intro y4 hy4
  have zy4 := hy4.size
  refine AllV_nil ?_
  refine O_field F26_0 rfl rfl rfl ?_
  exact WL_nil ⟨(Ext.refl _), rfl⟩
 apply AnyR_val [12] rfl (by kernel_rfl)
 · --
  intro y5 hy5
  have zy5 := hy5.size
  refine AllV_v ?_
  refine AllV_nil ?_
  refine O_loadA (vs := [_, _]) S24 rfl rfl rfl (((b1.ext e2).ext e3).ext hy5) rfl rfl ?_
  exact WL_nil ⟨(Ext.refl _), rfl⟩
 apply AnyR_val [2] rfl (by kernel_rfl)
 · --
  intro y6 hy6
  have zy6 := hy6.size
  refine AllV_nil ?_
  refine O_field F26_1 rfl rfl rfl ?_
  exact WL_nil ⟨(Ext.refl _), rfl⟩
 apply AnyR_val [14] rfl (by kernel_rfl)
 · --
  intro y7 hy7
  have zy7 := hy7.size
  refine AllV_v ?_
  refine AllV_nil ?_
  refine O_loadC Tryd.underlying3 rfl rfl rfl rfl (((b1.ext e2).ext e3).ext hy7) rfl ?_
  exact WL_nil ⟨(Ext.refl _), rfl⟩
 apply AnyR_val [6] rfl (by kernel_rfl)
 · --
  intro y8 hy8
  have zy8 := hy8.size
  refine AllV_nil ?_
  refine O_move rfl rfl rfl ?_
  exact WL_nil ⟨(Ext.refl _), rfl⟩
 apply AnyR_val [15, 16] rfl (by kernel_rfl)
 · --
  intro y9 hy9
  have zy9 := hy9.size
  refine AllV_v ?_
  refine AllV_v ?_
  refine AllV_nil ?_
  refine O_sub (r := (((e - min e f).toNat : Nat) : Int)) rfl rfl rfl rfl (by rw [IntKind.wrap_i64]; omega) ?_
  exact WL_nil ⟨(Ext.refl _), rfl⟩
 apply AnyR_rel (RelP (pAgg [pEq _, pNo w3.heap.size 89 _])) [13, 17] rfl (RelP.mono (pAgg_mono (PsM.cons pEq_mono (PsM.cons pNo_mono PsM.nil)))) (by kernel_rfl)
 · --
  intro y10 hy10
  have zy10 := hy10.size
  refine AllV_v ?_
  refine AllV_v ?_
  refine AllV_nil ?_
  refine O_call enters21 rfl rfl rfl (rishl_c rfl (hx.ext (((e1.trans e2).trans e3).trans hy10)) (by (try simp only [lens]); omega) (by (try simp only [lens]); omega)) (fun v11 w11 e11 h11 => ?_)
  have z11 := e11.size
  try simp only [val_dig] at h11
  obtain ⟨q11, rfl, hq11⟩ := h11
  exact WL_nil ⟨e11, _, rfl, ⟨_, rfl, (AllP.cons rfl (AllP.cons (hq11.mono (by omega)) AllP.nil))⟩⟩
 apply AnyR_val [3] rfl (by kernel_rfl)
 · --
  intro y12 hy12
  have zy12 := hy12.size
  refine AllV_nil ?_
  refine O_field F26_0 rfl rfl rfl ?_
  exact WL_nil ⟨(Ext.refl _), rfl⟩
 apply AnyR_val [19] rfl (by kernel_rfl)
 · --
  intro y13 hy13
  have zy13 := hy13.size
  refine AllV_v ?_
  refine AllV_nil ?_
  refine O_loadA (vs := [_, _]) S24 rfl rfl rfl ((b2.ext e3).ext hy13) rfl rfl ?_
  exact WL_nil ⟨(Ext.refl _), rfl⟩
 apply AnyR_val [3] rfl (by kernel_rfl)
 · --
  intro y14 hy14
  have zy14 := hy14.size
  refine AllV_nil ?_
  refine O_field F26_1 rfl rfl rfl ?_
  exact WL_nil ⟨(Ext.refl _), rfl⟩
 apply AnyR_val [21] rfl (by kernel_rfl)
 · --
  intro y15 hy15
  have zy15 := hy15.size
  refine AllV_v ?_
  refine AllV_nil ?_
  refine O_loadC Tryd.underlying3 rfl rfl rfl rfl ((b2.ext e3).ext hy15) rfl ?_
  exact WL_nil ⟨(Ext.refl _), rfl⟩
 apply AnyR_val [6] rfl (by kernel_rfl)
 · --
  intro y16 hy16
  have zy16 := hy16.size
  refine AllV_nil ?_
  refine O_move rfl rfl rfl ?_
  exact WL_nil ⟨(Ext.refl _), rfl⟩
 apply AnyR_val [22, 23] rfl (by kernel_rfl)
 · --
  intro y17 hy17
  have zy17 := hy17.size
  refine AllV_v ?_
  refine AllV_v ?_
  refine AllV_nil ?_
  refine O_sub (r := (((f - min e f).toNat : Nat) : Int)) rfl rfl rfl rfl (by rw [IntKind.wrap_i64]; omega) ?_
  exact WL_nil ⟨(Ext.refl _), rfl⟩
 apply AnyR_rel (RelP (pAgg [pEq _, pNo w3.heap.size 89 _])) [20, 24] rfl (RelP.mono (pAgg_mono (PsM.cons pEq_mono (PsM.cons pNo_mono PsM.nil)))) (by kernel_rfl)
 · --
  intro y18 hy18
  have zy18 := hy18.size
  refine AllV_v ?_
  refine AllV_v ?_
  refine AllV_nil ?_
  refine O_call enters21 rfl rfl rfl (rishl_c rfl (hy.ext (((e1.trans e2).trans e3).trans hy18)) (by (try simp only [lens]); omega) (by (try simp only [lens]); omega)) (fun v19 w19 e19 h19 => ?_)
  have z19 := e19.size
  try simp only [val_dig] at h19
  obtain ⟨q19, rfl, hq19⟩ := h19
  exact WL_nil ⟨e19, _, rfl, ⟨_, rfl, (AllP.cons rfl (AllP.cons (hq19.mono (by omega)) AllP.nil))⟩⟩
 apply AnyR_rel (RelP (pAgg [pEq _, pNo w3.heap.size 89 _])) [18, 25] rfl (RelP.mono (pAgg_mono (PsM.cons pEq_mono (PsM.cons pNo_mono PsM.nil)))) (by kernel_rfl)
 · --
  intro y20 hy20
  have zy20 := hy20.size
  refine AllV_r fun a21 b21 v21 la21 lb21 lc21 h21 ap21 => ?_
  clear ap21
  obtain ⟨_, rfl, v21_0, _, rfl, rfl, v21_1, _, rfl, h21_1, rfl⟩ := h21
  refine AllV_r fun a22 b22 v22 la22 lb22 lc22 h22 ap22 => ?_
  clear ap22
  obtain ⟨_, rfl, v22_0, _, rfl, rfl, v22_1, _, rfl, h22_1, rfl⟩ := h22
  refine AllV_nil ?_
  refine O_call enters52 rfl rfl rfl (riadd_c rfl h21_1.nl rfl h22_1.nl (by (try simp only [lens]); omega) (by (try simp only [lens]); omega)) (fun v23 w23 e23 h23 => ?_)
  have z23 := e23.size
  try simp only [val_dig] at h23
  obtain ⟨q23, rfl, hq23⟩ := h23
  exact WL_nil ⟨e23, _, rfl, ⟨_, rfl, (AllP.cons rfl (AllP.cons (hq23.mono (by omega)) AllP.nil))⟩⟩
 apply AnyR_val [6] rfl (by kernel_rfl)
 · --
  intro y24 hy24
  have zy24 := hy24.size
  refine AllV_nil ?_
  refine O_move rfl rfl rfl ?_
  exact WL_nil ⟨(Ext.refl _), rfl⟩
 apply AnyR_rel (RelP (pTup [pAgg [pEq _, pNo w3.heap.size 89 _, pEq _], pEq _])) [26, 27] rfl (RelP.mono (pTup_mono (PsM.cons (pAgg_mono (PsM.cons pEq_mono (PsM.cons pNo_mono (PsM.cons pEq_mono PsM.nil)))) (PsM.cons pEq_mono PsM.nil)))) (by kernel_rfl)
 · --
  intro y25 hy25
  have zy25 := hy25.size
  refine AllV_r fun a26 b26 v26 la26 lb26 lc26 h26 ap26 => ?_
  clear ap26
  obtain ⟨_, rfl, v26_0, _, rfl, rfl, v26_1, _, rfl, h26_1, rfl⟩ := h26
  refine AllV_v ?_
  refine AllV_nil ?_
  refine O_call enters11 rfl rfl rfl (rdmake_c rfl h26_1.nl (by (try simp only [lens]); omega)) (fun v27 w27 e27 h27 => ?_)
  have z27 := e27.size
  try simp only [val_dig] at h27
  obtain ⟨q27, rfl, hq27⟩ := h27
  exact WL_nil ⟨e27, _, rfl, ⟨_, rfl, (AllP.cons ⟨_, rfl, (AllP.cons rfl (AllP.cons (hq27.mono (by omega)) (AllP.cons rfl AllP.nil)))⟩ (AllP.cons rfl AllP.nil))⟩⟩
 apply AnyR_rel (RelP (pAgg [pEq _, pNo w3.heap.size 89 _, pEq _])) [28] rfl (RelP.mono (pAgg_mono (PsM.cons pEq_mono (PsM.cons pNo_mono (PsM.cons pEq_mono PsM.nil))))) (by kernel_rfl)
 · --
  intro y28 hy28
  have zy28 := hy28.size
  refine AllV_r fun a29 b29 v29 la29 lb29 lc29 h29 ap29 => ?_
  clear ap29
  obtain ⟨_, rfl, v29_0, _, rfl, ⟨_, rfl, v29_0_0, _, rfl, rfl, v29_0_1, _, rfl, h29_0_1, v29_0_2, _, rfl, rfl, rfl⟩, v29_1, _, rfl, rfl, rfl⟩ := h29
  refine AllV_nil ?_
  refine O_extract rfl rfl rfl rfl ?_
  exact WL_nil ⟨(Ext.refl _), _, rfl, ⟨_, rfl, (AllP.cons rfl (AllP.cons (h29_0_1.mono (by omega)) (AllP.cons rfl AllP.nil)))⟩⟩
 apply AnyR_val [28] rfl (by kernel_rfl)
 · --
  intro y30 hy30
  have zy30 := hy30.size
  refine AllV_r fun a31 b31 v31 la31 lb31 lc31 h31 ap31 => ?_
  clear ap31
  obtain ⟨_, rfl, v31_0, _, rfl, ⟨_, rfl, v31_0_0, _, rfl, rfl, v31_0_1, _, rfl, h31_0_1, v31_0_2, _, rfl, rfl, rfl⟩, v31_1, _, rfl, rfl, rfl⟩ := h31
  refine AllV_nil ?_
  refine O_extract rfl rfl rfl rfl ?_
  exact WL_nil ⟨(Ext.refl _), rfl⟩
 refine AnyR_nil fun y32 hy32 => ?_
 have zy32 := hy32.size
 refine AllV_v ?_
 refine AllV_v ?_
 refine AllV_v ?_
 refine AllV_v ?_
 refine AllV_v ?_
 refine AllV_v ?_
 refine AllV_r fun a33 b33 v33 la33 lb33 lc33 h33 ap33 => ?_
 clear ap33
 obtain ⟨_, rfl, v33_0, _, rfl, rfl, v33_1, _, rfl, h33_1, rfl⟩ := h33
 refine AllV_v ?_
 refine AllV_v ?_
 refine AllV_v ?_
 refine AllV_v ?_
 refine AllV_v ?_
 refine AllV_v ?_
 refine AllV_r fun a34 b34 v34 la34 lb34 lc34 h34 ap34 => ?_
 clear ap34
 obtain ⟨_, rfl, v34_0, _, rfl, rfl, v34_1, _, rfl, h34_1, rfl⟩ := h34
 refine AllV_r fun a35 b35 v35 la35 lb35 lc35 h35 ap35 => ?_
 clear ap35
 obtain ⟨_, rfl, v35_0, _, rfl, rfl, v35_1, _, rfl, h35_1, rfl⟩ := h35
 refine AllV_v ?_
 refine AllV_r fun a36 b36 v36 la36 lb36 lc36 h36 ap36 => ?_
 clear ap36
 obtain ⟨_, rfl, v36_0, _, rfl, ⟨_, rfl, v36_0_0, _, rfl, rfl, v36_0_1, _, rfl, h36_0_1, v36_0_2, _, rfl, rfl, rfl⟩, v36_1, _, rfl, rfl, rfl⟩ := h36
 refine AllV_r fun a37 b37 v37 la37 lb37 lc37 h37 ap37 => ?_
 clear ap37
 obtain ⟨_, rfl, v37_0, _, rfl, rfl, v37_1, _, rfl, h37_1, v37_2, _, rfl, rfl, rfl⟩ := h37
 refine AllV_v ?_
 refine AllV_nil ?_
 refine O_storeA (cs' := [_, _, _]) S26 rfl rfl rfl (b3.ext hy32) rfl rfl (one_cons rfl (one_cons (h37_1.nl).one (one_cons rfl one_nil))) rfl (fun w38 b38 q38 => ?_)
 have z38 := Nat.le_of_eq q38.size.symm
 have e38 : Ext w w38 := q38.ext (((e1.trans e2).trans e3).trans hy32) (by omega)
 refine O_assign rfl rfl rfl ?_
 refine WL_end [(4, _), (5, _)] ⟨rfl, rfl, trivial⟩ ?_
 refine WP_ret ?_
 refine retL Tryd.results14 (.cell rfl S26 b38 rfl (.tmp rfl .nil)) ?_
 exact ⟨_, rfl, e38, _, rfl, (h37_1.chgBk (b3.ext hy32) (by decide) q38).mono (by omega)⟩

theorem dmul_c {w : World} {vx vy : Value} {x y e f : Int} {bx by_ : Bool} (hbx : bx = decide (x < 0)) (hx : Nl w vx (dig x.natAbs)) (hby : by_ = decide (y < 0)) (hy : Nl w vy (dig y.natAbs)) (hvx : dval x e = true) (hvy : dval y f = true) (hT : Tab w) :
    Calls Tryd.prog 15 #[.agg #[.bool bx, vx, .int .i64 e], .agg #[.bool by_, vy, .int .i64 f]] w (Ret w fun r w' => ∃ q, r = .tuple #[.agg #[.bool (decide ((dman (x * y) (e + f)) < 0)), q, .int .i64 (dexp (x * y) (e + f))], .int .i64 (dcode3 (x * y) (e + f))] ∧ No w.heap.size 89 w' q (dig (dman (x * y) (e + f)).natAbs)) := by
 subst hbx
 subst hby
 have hr1 := dval_range hvx
 have hr2 := dval_range hvy
 have he1 : -200000 ≤ e := by omega
 have he2 : e ≤ 200000 := by omega
 have hf1 : -200000 ≤ f := by omega
 have hf2 : f ≤ 200000 := by omega
 have hlx : (dig x.natAbs).length ≤ 2049 := dval_len hvx
 have hly : (dig y.natAbs).length ≤ 2049 := dval_len hvy
 have hS5 := mul_len hlx hly
 replace hS5 := Nat.le_trans hS5 (show 2049 + 2049 ≤ 30000 by decide)
 refine enter (args := [_, _]) Tryd.func15 rfl Tryd.ntmps15 rfl ?_
 refine WP_seq ?_
 refine WP_region ?_
 refine O_box _ rfl rfl rfl rfl (fun g1 w1 b1 e1 gl1 gh1 => ?_)
 have z1 := e1.size
 refine O_box _ rfl rfl rfl rfl (fun g2 w2 b2 e2 gl2 gh2 => ?_)
 have z2 := e2.size
 refine O_alloc S26 rfl rfl (fun g3 w3 b3 e3 gl3 gh3 => ?_)
 have z3 := e3.size
 refine O_assign rfl rfl rfl ?_
 refine WL_end [(2, _), (3, _), (4, _)] ⟨rfl, rfl, rfl, trivial⟩ ?_
 refine WP_seq ?_
 refine WP_sub [(2, _), (3, _), (4, _)] ⟨rfl, rfl, rfl, trivial⟩ ?_
 refine WP_anyR 13 [2, 3, 4] mixed rfl (by kernel_rfl) ?_
 apply AnyR_val [2] rfl (by kernel_rfl)
 · --
  intro y4 hy4
  have zy4 := hy4.size
  refine AllV_nil ?_
  refine O_field F26_0 rfl rfl rfl ?_
  exact WL_nil ⟨(Ext.refl _), rfl⟩
 apply AnyR_val [6] rfl (by kernel_rfl)
 · --
  intro y5 hy5
  have zy5 := hy5.size
  refine AllV_v ?_
  refine AllV_nil ?_
  refine O_loadA (vs := [_, _]) S24 rfl rfl rfl (((b1.ext e2).ext e3).ext hy5) rfl rfl ?_
  exact WL_nil ⟨(Ext.refl _), rfl⟩
 apply AnyR_val [3] rfl (by kernel_rfl)
 · --
  intro y6 hy6
  have zy6 := hy6.size
  refine AllV_nil ?_
  refine O_field F26_0 rfl rfl rfl ?_
  exact WL_nil ⟨(Ext.refl _), rfl⟩
 apply AnyR_val [8] rfl (by kernel_rfl)
 · --
  intro y7 hy7
  have zy7 := hy7.size
  refine AllV_v ?_
  refine AllV_nil ?_
  refine O_loadA (vs := [_, _]) S24 rfl rfl rfl ((b2.ext e3).ext hy7) rfl rfl ?_
  exact WL_nil ⟨(Ext.refl _), rfl⟩
 apply AnyR_rel (RelP (pAgg [pEq _, pNo w3.heap.size 89 _])) [7, 9] rfl (RelP.mono (pAgg_mono (PsM.cons pEq_mono (PsM.cons pNo_mono PsM.nil)))) (by kernel_rfl)
 · --
  intro y8 hy8
  have zy8 := hy8.size
  refine AllV_v ?_
  refine AllV_v ?_
  refine AllV_nil ?_
  refine O_call enters53 rfl rfl rfl (imul_c rfl (hx.ext (((e1.trans e2).trans e3).trans hy8)) rfl (hy.ext (((e1.trans e2).trans e3).trans hy8)) (by (try simp only [lens]); omega) (by (try simp only [lens]); omega)) (fun v9 w9 e9 h9 => ?_)
  have z9 := e9.size
  try simp only [val_dig] at h9
  obtain ⟨q9, rfl, hq9⟩ := h9
  exact WL_nil ⟨e9, _, rfl, ⟨_, rfl, (AllP.cons rfl (AllP.cons (hq9.mono (by omega)) AllP.nil))⟩⟩
 apply AnyR_val [2] rfl (by kernel_rfl)
 · --
  intro y10 hy10
  have zy10 := hy10.size
  refine AllV_nil ?_
  refine O_field F26_1 rfl rfl rfl ?_
  exact WL_nil ⟨(Ext.refl _), rfl⟩
 apply AnyR_val [11] rfl (by kernel_rfl)
 · --
  intro y11 hy11
  have zy11 := hy11.size
  refine AllV_v ?_
  refine AllV_nil ?_
  refine O_loadC Tryd.underlying3 rfl rfl rfl rfl (((b1.ext e2).ext e3).ext hy11) rfl ?_
  exact WL_nil ⟨(Ext.refl _), rfl⟩
 apply AnyR_val [3] rfl (by kernel_rfl)
 · --
  intro y12 hy12
  have zy12 := hy12.size
  refine AllV_nil ?_
  refine O_field F26_1 rfl rfl rfl ?_
  exact WL_nil ⟨(Ext.refl _), rfl⟩
 apply AnyR_val [13] rfl (by kernel_rfl)
 · --
  intro y13 hy13
  have zy13 := hy13.size
  refine AllV_v ?_
  refine AllV_nil ?_
  refine O_loadC Tryd.underlying3 rfl rfl rfl rfl ((b2.ext e3).ext hy13) rfl ?_
  exact WL_nil ⟨(Ext.refl _), rfl⟩
 apply AnyR_val [12, 14] rfl (by kernel_rfl)
 · --
  intro y14 hy14
  have zy14 := hy14.size
  refine AllV_v ?_
  refine AllV_v ?_
  refine AllV_nil ?_
  refine O_add rfl rfl rfl rfl (wrap_i64_id (by omega) (by omega)) ?_
  exact WL_nil ⟨(Ext.refl _), rfl⟩
 apply AnyR_rel (RelP (pTup [pAgg [pEq _, pNo w3.heap.size 89 _, pEq _], pEq _])) [10, 15] rfl (RelP.mono (pTup_mono (PsM.cons (pAgg_mono (PsM.cons pEq_mono (PsM.cons pNo_mono (PsM.cons pEq_mono PsM.nil)))) (PsM.cons pEq_mono PsM.nil)))) (by kernel_rfl)
 · --
  intro y15 hy15
  have zy15 := hy15.size
  refine AllV_r fun a16 b16 v16 la16 lb16 lc16 h16 ap16 => ?_
  clear ap16
  obtain ⟨_, rfl, v16_0, _, rfl, rfl, v16_1, _, rfl, h16_1, rfl⟩ := h16
  refine AllV_v ?_
  refine AllV_nil ?_
  refine O_call enters49 rfl rfl rfl (dexact_c rfl h16_1.nl (by (try simp only [lens]); omega) (hT.ext (((e1.trans e2).trans e3).trans hy15))) (fun v17 w17 e17 h17 => ?_)
  have z17 := e17.size
  try simp only [val_dig] at h17
  obtain ⟨q17, rfl, hq17⟩ := h17
  exact WL_nil ⟨e17, _, rfl, ⟨_, rfl, (AllP.cons ⟨_, rfl, (AllP.cons rfl (AllP.cons (hq17.mono (by omega)) (AllP.cons rfl AllP.nil)))⟩ (AllP.cons rfl AllP.nil))⟩⟩
 apply AnyR_rel (RelP (pAgg [pEq _, pNo w3.heap.size 89 _, pEq _])) [16] rfl (RelP.mono (pAgg_mono (PsM.cons pEq_mono (PsM.cons pNo_mono (PsM.cons pEq_mono PsM.nil))))) (by kernel_rfl)
 · --
  intro y18 hy18
  have zy18 := hy18.size
  refine AllV_r fun a19 b19 v19 la19 lb19 lc19 h19 ap19 => ?_
  clear ap19
  obtain ⟨_, rfl, v19_0, _, rfl, ⟨_, rfl, v19_0_0, _, rfl, rfl, v19_0_1, _, rfl, h19_0_1, v19_0_2, _, rfl, rfl, rfl⟩, v19_1, _, rfl, rfl, rfl⟩ := h19
  refine AllV_nil ?_
  refine O_extract rfl rfl rfl rfl ?_
  exact WL_nil ⟨(Ext.refl _), _, rfl, ⟨_, rfl, (AllP.cons rfl (AllP.cons (h19_0_1.mono (by omega)) (AllP.cons rfl AllP.nil)))⟩⟩
 apply AnyR_val [16] rfl (by kernel_rfl)
 · --
  intro y20 hy20
  have zy20 := hy20.size
  refine AllV_r fun a21 b21 v21 la21 lb21 lc21 h21 ap21 => ?_
  clear ap21
  obtain ⟨_, rfl, v21_0, _, rfl, ⟨_, rfl, v21_0_0, _, rfl, rfl, v21_0_1, _, rfl, h21_0_1, v21_0_2, _, rfl, rfl, rfl⟩, v21_1, _, rfl, rfl, rfl⟩ := h21
  refine AllV_nil ?_
  refine O_extract rfl rfl rfl rfl ?_
  exact WL_nil ⟨(Ext.refl _), rfl⟩
 refine AnyR_nil fun y22 hy22 => ?_
 have zy22 := hy22.size
 refine AllV_v ?_
 refine AllV_v ?_
 refine AllV_v ?_
 refine AllV_v ?_
 refine AllV_r fun a23 b23 v23 la23 lb23 lc23 h23 ap23 => ?_
 clear ap23
 obtain ⟨_, rfl, v23_0, _, rfl, rfl, v23_1, _, rfl, h23_1, rfl⟩ := h23
 refine AllV_v ?_
 refine AllV_v ?_
 refine AllV_v ?_
 refine AllV_v ?_
 refine AllV_v ?_
 refine AllV_r fun a24 b24 v24 la24 lb24 lc24 h24 ap24 => ?_
 clear ap24
 obtain ⟨_, rfl, v24_0, _, rfl, ⟨_, rfl, v24_0_0, _, rfl, rfl, v24_0_1, _, rfl, h24_0_1, v24_0_2, _, rfl, rfl, rfl⟩, v24_1, _, rfl, rfl, rfl⟩ := h24
 refine AllV_r fun a25 b25 v25 la25 lb25 lc25 h25 ap25 => ?_
 clear ap25
 obtain ⟨_, rfl, v25_0, _, rfl, rfl, v25_1, _, rfl, h25_1, v25_2, _, rfl, rfl, rfl⟩ := h25
 refine AllV_v ?_
 refine AllV_nil ?_
 refine O_storeA (cs' := [_, _, _]) S26 rfl rfl rfl (b3.ext hy22) rfl rfl (one_cons rfl (one_cons (h25_1.nl).one (one_cons rfl one_nil))) rfl (fun w26 b26 q26 => ?_)
 have z26 := Nat.le_of_eq q26.size.symm
 have e26 : Ext w w26 := q26.ext (((e1.trans e2).trans e3).trans hy22) (by omega)
 refine O_assign rfl rfl rfl ?_
 refine WL_end [(4, _), (5, _)] ⟨rfl, rfl, trivial⟩ ?_
 refine WP_ret ?_
 refine retL Tryd.results15 (.cell rfl S26 b26 rfl (.tmp rfl .nil)) ?_
 exact ⟨_, rfl, e26, _, rfl, (h25_1.chgBk (b3.ext hy22) (by decide) q26).mono (by omega)⟩

theorem rdmul_c {w : World} {vx vy : Value} {x y e f : Int} {bx by_ : Bool} (hbx : bx = decide (x < 0)) (hx : Nl w vx (dig x.natAbs)) (hby : by_ = decide (y < 0)) (hy : Nl w vy (dig y.natAbs)) (hvx : dval x e = true) (hvy : dval y f = true) :
    Calls Tryd.prog 16 #[.agg #[.bool bx, vx, .int .i64 e], .agg #[.bool by_, vy, .int .i64 f]] w (Ret w fun r w' => ∃ q, r = .tuple #[.agg #[.bool (decide ((dman (x * y) (e + f)) < 0)), q, .int .i64 (dexp (x * y) (e + f))], .int .i64 (dcode (x * y) (e + f))] ∧ No w.heap.size 89 w' q (dig (dman (x * y) (e + f)).natAbs)) := by
 subst hbx
 subst hby
 have hr1 := dval_range hvx
 have hr2 := dval_range hvy
 have he1 : -200000 ≤ e := by omega
 have he2 : e ≤ 200000 := by omega
 have hf1 : -200000 ≤ f := by omega
 have hf2 : f ≤ 200000 := by omega
 have hlx : (dig x.natAbs).length ≤ 2049 := dval_len hvx
 have hly : (dig y.natAbs).length ≤ 2049 := dval_len hvy
 have hS5 := mul_len hlx hly
 replace hS5 := Nat.le_trans hS5 (show 2049 + 2049 ≤ 30000 by decide)
 refine enter (args := [_, _]) Tryd.func16 rfl Tryd.ntmps16 rfl ?_
 refine WP_seq ?_
 refine WP_region ?_
 refine O_box _ rfl rfl rfl rfl (fun g1 w1 b1 e1 gl1 gh1 => ?_)
 have z1 := e1.size
 refine O_box _ rfl rfl rfl rfl (fun g2 w2 b2 e2 gl2 gh2 => ?_)
 have z2 := e2.size
 refine O_alloc S26 rfl rfl (fun g3 w3 b3 e3 gl3 gh3 => ?_)
 have z3 := e3.size
 refine O_assign rfl rfl rfl ?_
 refine WL_end [(2, _), (3, _), (4, _)] ⟨rfl, rfl, rfl, trivial⟩ ?_
 refine WP_seq ?_
 refine WP_sub [(2, _), (3, _), (4, _)] ⟨rfl, rfl, rfl, trivial⟩ ?_
 refine WP_anyR 13 [2, 3, 4] mixed rfl (by kernel_rfl) ?_
 apply AnyR_val [2] rfl (by kernel_rfl)
 · --
  intro y4 hy4
  have zy4 := hy4.size
  refine AllV_nil ?_
  refine O_field F26_0 rfl rfl rfl ?_
  exact WL_nil ⟨(Ext.refl _), rfl⟩
 apply AnyR_val [6] rfl (by kernel_rfl)
 · --
  intro y5 hy5
  have zy5 := hy5.size
  refine AllV_v ?_
  refine AllV_nil ?_
  refine O_loadA (vs := [_, _]) S24 rfl rfl rfl (((b1.ext e2).ext e3).ext hy5) rfl rfl ?_
  exact WL_nil ⟨(Ext.refl _), rfl⟩
 apply AnyR_val [3] rfl (by kernel_rfl)
 · --
  intro y6 hy6
  have zy6 := hy6.size
  refine AllV_nil ?_
  refine O_field F26_0 rfl rfl rfl ?_
  exact WL_nil ⟨(Ext.refl _), rfl⟩
 apply AnyR_val [8] rfl (by kernel_rfl)
 · --
  intro y7 hy7
  have zy7 := hy7.size
  refine AllV_v ?_
  refine AllV_nil ?_
  refine O_loadA (vs := [_, _]) S24 rfl rfl rfl ((b2.ext e3).ext hy7) rfl rfl ?_
  exact WL_nil ⟨(Ext.refl _), rfl⟩
 apply AnyR_rel (RelP (pAgg [pEq _, pNo w3.heap.size 89 _])) [7, 9] rfl (RelP.mono (pAgg_mono (PsM.cons pEq_mono (PsM.cons pNo_mono PsM.nil)))) (by kernel_rfl)
 · --
  intro y8 hy8
  have zy8 := hy8.size
  refine AllV_v ?_
  refine AllV_v ?_
  refine AllV_nil ?_
  refine O_call enters54 rfl rfl rfl (rimul_c rfl (hx.ext (((e1.trans e2).trans e3).trans hy8)) rfl (hy.ext (((e1.trans e2).trans e3).trans hy8)) (by (try simp only [lens]); omega) (by (try simp only [lens]); omega)) (fun v9 w9 e9 h9 => ?_)
  have z9 := e9.size
  try simp only [val_dig] at h9
  obtain ⟨q9, rfl, hq9⟩ := h9
  exact WL_nil ⟨e9, _, rfl, ⟨_, rfl, (AllP.cons rfl (AllP.cons (hq9.mono (by omega)) AllP.nil))⟩⟩
 apply AnyR_val [2] rfl (by kernel_rfl)
 · --
  intro y10 hy10
  have zy10 := hy10.size
  refine AllV_nil ?_
  refine O_field F26_1 rfl rfl rfl ?_
  exact WL_nil ⟨(Ext.refl _), rfl⟩
 apply AnyR_val [11] rfl (by kernel_rfl)
 · --
  intro y11 hy11
  have zy11 := hy11.size
  refine AllV_v ?_
  refine AllV_nil ?_
  refine O_loadC Tryd.underlying3 rfl rfl rfl rfl (((b1.ext e2).ext e3).ext hy11) rfl ?_
  exact WL_nil ⟨(Ext.refl _), rfl⟩
 apply AnyR_val [3] rfl (by kernel_rfl)
 · --
  intro y12 hy12
  have zy12 := hy12.size
  refine AllV_nil ?_
  refine O_field F26_1 rfl rfl rfl ?_
  exact WL_nil ⟨(Ext.refl _), rfl⟩
 apply AnyR_val [13] rfl (by kernel_rfl)
 · --
  intro y13 hy13
  have zy13 := hy13.size
  refine AllV_v ?_
  refine AllV_nil ?_
  refine O_loadC Tryd.underlying3 rfl rfl rfl rfl ((b2.ext e3).ext hy13) rfl ?_
  exact WL_nil ⟨(Ext.refl _), rfl⟩
 apply AnyR_val [12, 14] rfl (by kernel_rfl)
 · --
  intro y14 hy14
  have zy14 := hy14.size
  refine AllV_v ?_
  refine AllV_v ?_
  refine AllV_nil ?_
  refine O_add rfl rfl rfl rfl (wrap_i64_id (by omega) (by omega)) ?_
  exact WL_nil ⟨(Ext.refl _), rfl⟩
 apply AnyR_rel (RelP (pTup [pAgg [pEq _, pNo w3.heap.size 89 _, pEq _], pEq _])) [10, 15] rfl (RelP.mono (pTup_mono (PsM.cons (pAgg_mono (PsM.cons pEq_mono (PsM.cons pNo_mono (PsM.cons pEq_mono PsM.nil)))) (PsM.cons pEq_mono PsM.nil)))) (by kernel_rfl)
 · --
  intro y15 hy15
  have zy15 := hy15.size
  refine AllV_r fun a16 b16 v16 la16 lb16 lc16 h16 ap16 => ?_
  clear ap16
  obtain ⟨_, rfl, v16_0, _, rfl, rfl, v16_1, _, rfl, h16_1, rfl⟩ := h16
  refine AllV_v ?_
  refine AllV_nil ?_
  refine O_call enters11 rfl rfl rfl (rdmake_c rfl h16_1.nl (by (try simp only [lens]); omega)) (fun v17 w17 e17 h17 => ?_)
  have z17 := e17.size
  try simp only [val_dig] at h17
  obtain ⟨q17, rfl, hq17⟩ := h17
  exact WL_nil ⟨e17, _, rfl, ⟨_, rfl, (AllP.cons ⟨_, rfl, (AllP.cons rfl (AllP.cons (hq17.mono (by omega)) (AllP.cons rfl AllP.nil)))⟩ (AllP.cons rfl AllP.nil))⟩⟩
 apply AnyR_rel (RelP (pAgg [pEq _, pNo w3.heap.size 89 _, pEq _])) [16] rfl (RelP.mono (pAgg_mono (PsM.cons pEq_mono (PsM.cons pNo_mono (PsM.cons pEq_mono PsM.nil))))) (by kernel_rfl)
 · --
  intro y18 hy18
  have zy18 := hy18.size
  refine AllV_r fun a19 b19 v19 la19 lb19 lc19 h19 ap19 => ?_
  clear ap19
  obtain ⟨_, rfl, v19_0, _, rfl, ⟨_, rfl, v19_0_0, _, rfl, rfl, v19_0_1, _, rfl, h19_0_1, v19_0_2, _, rfl, rfl, rfl⟩, v19_1, _, rfl, rfl, rfl⟩ := h19
  refine AllV_nil ?_
  refine O_extract rfl rfl rfl rfl ?_
  exact WL_nil ⟨(Ext.refl _), _, rfl, ⟨_, rfl, (AllP.cons rfl (AllP.cons (h19_0_1.mono (by omega)) (AllP.cons rfl AllP.nil)))⟩⟩
 apply AnyR_val [16] rfl (by kernel_rfl)
 · --
  intro y20 hy20
  have zy20 := hy20.size
  refine AllV_r fun a21 b21 v21 la21 lb21 lc21 h21 ap21 => ?_
  clear ap21
  obtain ⟨_, rfl, v21_0, _, rfl, ⟨_, rfl, v21_0_0, _, rfl, rfl, v21_0_1, _, rfl, h21_0_1, v21_0_2, _, rfl, rfl, rfl⟩, v21_1, _, rfl, rfl, rfl⟩ := h21
  refine AllV_nil ?_
  refine O_extract rfl rfl rfl rfl ?_
  exact WL_nil ⟨(Ext.refl _), rfl⟩
 refine AnyR_nil fun y22 hy22 => ?_
 have zy22 := hy22.size
 refine AllV_v ?_
 refine AllV_v ?_
 refine AllV_v ?_
 refine AllV_v ?_
 refine AllV_r fun a23 b23 v23 la23 lb23 lc23 h23 ap23 => ?_
 clear ap23
 obtain ⟨_, rfl, v23_0, _, rfl, rfl, v23_1, _, rfl, h23_1, rfl⟩ := h23
 refine AllV_v ?_
 refine AllV_v ?_
 refine AllV_v ?_
 refine AllV_v ?_
 refine AllV_v ?_
 refine AllV_r fun a24 b24 v24 la24 lb24 lc24 h24 ap24 => ?_
 clear ap24
 obtain ⟨_, rfl, v24_0, _, rfl, ⟨_, rfl, v24_0_0, _, rfl, rfl, v24_0_1, _, rfl, h24_0_1, v24_0_2, _, rfl, rfl, rfl⟩, v24_1, _, rfl, rfl, rfl⟩ := h24
 refine AllV_r fun a25 b25 v25 la25 lb25 lc25 h25 ap25 => ?_
 clear ap25
 obtain ⟨_, rfl, v25_0, _, rfl, rfl, v25_1, _, rfl, h25_1, v25_2, _, rfl, rfl, rfl⟩ := h25
 refine AllV_v ?_
 refine AllV_nil ?_
 refine O_storeA (cs' := [_, _, _]) S26 rfl rfl rfl (b3.ext hy22) rfl rfl (one_cons rfl (one_cons (h25_1.nl).one (one_cons rfl one_nil))) rfl (fun w26 b26 q26 => ?_)
 have z26 := Nat.le_of_eq q26.size.symm
 have e26 : Ext w w26 := q26.ext (((e1.trans e2).trans e3).trans hy22) (by omega)
 refine O_assign rfl rfl rfl ?_
 refine WL_end [(4, _), (5, _)] ⟨rfl, rfl, trivial⟩ ?_
 refine WP_ret ?_
 refine retL Tryd.results16 (.cell rfl S26 b26 rfl (.tmp rfl .nil)) ?_
 exact ⟨_, rfl, e26, _, rfl, (h25_1.chgBk (b3.ext hy22) (by decide) q26).mono (by omega)⟩

theorem rdsame_c {w : World} {vx vy : Value} {lx ly : List Nat} {bx by_ : Bool} {e f : Int} (hb : bx = by_) (hx : Nl w vx lx) (hy : Nl w vy ly) (hlx : lx.length ≤ 100000000) (hly : ly.length ≤ 100000000) (hl : lx = ly) (he : e = f) :
    Calls Tryd.prog 17 #[.agg #[.bool bx, vx, .int .i64 e], .agg #[.bool by_, vy, .int .i64 f]] w (Ret w fun r _ => r = .bool true) := by
 refine enter (args := [_, _]) Tryd.func17 rfl Tryd.ntmps17 rfl ?_
 refine WP_seq ?_
 refine WP_region ?_
 refine O_box _ rfl rfl rfl rfl (fun g1 w1 b1 e1 gl1 gh1 => ?_)
 have z1 := e1.size
 refine O_box _ rfl rfl rfl rfl (fun g2 w2 b2 e2 gl2 gh2 => ?_)
 have z2 := e2.size
 refine O_assign rfl rfl rfl ?_
 refine WL_end [(2, _), (3, _)] ⟨rfl, rfl, trivial⟩ ?_
 refine WP_seq ?_
 refine WP_region ?_
 refine O_field F26_1 rfl rfl rfl ?_
 refine O_loadC Tryd.underlying3 rfl rfl rfl rfl (b1.ext e2) rfl ?_
 refine O_field F26_1 rfl rfl rfl ?_
 refine O_loadC Tryd.underlying3 rfl rfl rfl rfl b2 rfl ?_
 refine O_eql (t := true) rfl rfl rfl rfl (decide_eq_true he) ?_
 refine O_move rfl rfl rfl ?_
 refine O_field F26_0 rfl rfl rfl ?_
 refine O_loadA (vs := [_, _]) S24 rfl rfl rfl (b1.ext e2) rfl rfl ?_
 refine O_field F26_0 rfl rfl rfl ?_
 refine O_loadA (vs := [_, _]) S24 rfl rfl rfl b2 rfl rfl ?_
 refine O_call enters44 rfl rfl rfl (isame_c hb (hx.ext (e1.trans e2)) (hy.ext (e1.trans e2)) (by (try simp only [lens]); omega) (by (try simp only [lens]); omega) hl) (fun v3 w3 e3 h3 => ?_)
 have z3 := e3.size
 obtain rfl := h3
 refine O_pickT rfl rfl rfl rfl ?_
 refine O_assign rfl rfl rfl ?_
 refine WL_end [(4, _)] ⟨rfl, trivial⟩ ?_
 refine WP_ret ?_
 refine ret1 Tryd.results17 rfl ?_
 exact ⟨_, rfl, ((e1.trans e2).trans e3), rfl⟩

end Go.Proofs.YtnfnadhbjdcbnaaDoor
