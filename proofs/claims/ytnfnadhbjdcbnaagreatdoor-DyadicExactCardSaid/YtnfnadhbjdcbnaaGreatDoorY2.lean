/-
  Walks.
-/
import Derived.Test.YtnfnadhbjdcbnaaGreatDoorY1
set_option linter.unusedVariables false
set_option linter.unusedSimpArgs false
set_option maxRecDepth 100000
namespace Go.Proofs.YtnfnadhbjdcbnaaGreatDoor
open Go Go.RowKit
theorem dsign_c {w : World} {vx : Value} {x e : Int} {bx : Bool} (hbx : bx = decide (x < 0)) (hx : Nl w vx (dig x.natAbs)) (hlx : (dig x.natAbs).length ≤ 30000) :
    Calls Tryz.prog 28 #[.agg #[.bool bx, vx, .int .i64 e]] w (Ret w fun r _ => r = .int .i64 x.sign) := by
 subst hbx
 refine enter (args := [_]) Tryz.func28 rfl Tryz.ntmps28 rfl ?_
 refine WP_seq ?_
 refine WP_region ?_
 refine O_box _ rfl rfl rfl rfl (fun g1 w1 b1 e1 gl1 gh1 => ?_)
 have z1 := e1.size
 refine O_assign rfl rfl rfl ?_
 refine WL_end [(1, _)] ⟨rfl, trivial⟩ ?_
 refine WP_seq ?_
 refine WP_region ?_
 refine O_field F26_0 rfl rfl rfl ?_
 refine O_loadA (vs := [_, _]) S24 rfl rfl rfl b1 rfl rfl ?_
 refine O_call enters51 rfl rfl rfl (isign_c rfl (hx.ext e1) (by (try simp only [lens]); omega)) (fun v2 w2 e2 h2 => ?_)
 have z2 := e2.size
 obtain rfl := h2
 refine O_assign rfl rfl rfl ?_
 refine WL_end [(2, _)] ⟨rfl, trivial⟩ ?_
 refine WP_ret ?_
 refine ret1 Tryz.results28 rfl ?_
 exact ⟨_, rfl, (e1.trans e2), rfl⟩

theorem dtop_c {w : World} {vx : Value} {x e : Int} {bx : Bool} (hbx : bx = decide (x < 0)) (hx : Nl w vx (dig x.natAbs)) (hlx : (dig x.natAbs).length ≤ 30000) (he1 : -200000 ≤ e) (he2 : e ≤ 200000) :
    Calls Tryz.prog 26 #[.agg #[.bool bx, vx, .int .i64 e]] w (Ret w fun r _ => r = .int .i64 (dtop x e)) := by
 subst hbx
 have hbl := bl_dig x.natAbs
 refine enter (args := [_]) Tryz.func26 rfl Tryz.ntmps26 rfl ?_
 refine WP_seq ?_
 refine WP_region ?_
 refine O_box _ rfl rfl rfl rfl (fun g1 w1 b1 e1 gl1 gh1 => ?_)
 have z1 := e1.size
 refine O_assign rfl rfl rfl ?_
 refine WL_end [(1, _)] ⟨rfl, trivial⟩ ?_
 refine WP_seq ?_
 refine WP_seq ?_
 refine WP_region ?_
 refine O_loadA (vs := [_, _, _]) S26 rfl rfl rfl b1 rfl rfl ?_
 refine O_call enters28 rfl rfl rfl (dsign_c rfl (hx.ext e1) (by (try simp only [lens]); omega)) (fun v2 w2 e2 h2 => ?_)
 have z2 := e2.size
 obtain rfl := h2
 refine O_eql rfl rfl rfl rfl rfl ?_
 refine WL_end [(1, _), (5, _)] ⟨rfl, rfl, trivial⟩ ?_
 refine WP_condD rfl (fun c5 => ?_) (fun c5 => ?_)
 · --
  refine WP_seq ?_
  refine WP_region ?_
  refine O_assign rfl rfl rfl ?_
  refine WL_end [(2, _)] ⟨rfl, trivial⟩ ?_
  refine WP_ret ?_
  refine ret1 Tryz.results26 rfl ?_
  have hx0 : x = 0 := sign_zero_iff.1 c5
  exact ⟨_, rfl, (e1.trans e2), by unfold dtop; rw [if_pos hx0]⟩
 · --
  refine WP_skip ?_
  refine WP_seq ?_
  refine WP_sub [(1, _)] ⟨rfl, trivial⟩ ?_
  refine WP_anyR 6 [1] mixed rfl (by kernel_rfl) ?_
  apply AnyR_val [1] rfl (by kernel_rfl)
  · --
   intro y3 hy3
   have zy3 := hy3.size
   refine AllV_nil ?_
   refine O_field F26_0 rfl rfl rfl ?_
   exact WL_nil ⟨(Ext.refl _), rfl⟩
  apply AnyR_val [6] rfl (by kernel_rfl)
  · --
   intro y4 hy4
   have zy4 := hy4.size
   refine AllV_v ?_
   refine AllV_nil ?_
   refine O_field F24_1 rfl rfl rfl ?_
   exact WL_nil ⟨(Ext.refl _), rfl⟩
  apply AnyR_val [7] rfl (by kernel_rfl)
  · --
   intro y5 hy5
   have zy5 := hy5.size
   refine AllV_v ?_
   refine AllV_nil ?_
   refine O_loadC Tryz.underlying22 rfl rfl rfl rfl ((b1.ext e2).ext hy5) rfl ?_
   exact WL_nil ⟨(Ext.refl _), rfl⟩
  apply AnyR_val [8] rfl (by kernel_rfl)
  · --
   intro y6 hy6
   have zy6 := hy6.size
   refine AllV_v ?_
   refine AllV_nil ?_
   refine O_call enters34 rfl rfl rfl (bits_c (hx.ext ((e1.trans e2).trans hy6)) (by (try simp only [lens]); omega)) (fun v7 w7 e7 h7 => ?_)
   have z7 := e7.size
   obtain rfl := h7
   simp only [val_dig]
   exact WL_nil ⟨e7, rfl⟩
  apply AnyR_val [1] rfl (by kernel_rfl)
  · --
   intro y8 hy8
   have zy8 := hy8.size
   refine AllV_nil ?_
   refine O_field F26_1 rfl rfl rfl ?_
   exact WL_nil ⟨(Ext.refl _), rfl⟩
  apply AnyR_val [10] rfl (by kernel_rfl)
  · --
   intro y9 hy9
   have zy9 := hy9.size
   refine AllV_v ?_
   refine AllV_nil ?_
   refine O_loadC Tryz.underlying3 rfl rfl rfl rfl ((b1.ext e2).ext hy9) rfl ?_
   exact WL_nil ⟨(Ext.refl _), rfl⟩
  refine AnyR_nil fun y10 hy10 => ?_
  have zy10 := hy10.size
  refine AllV_v ?_
  refine AllV_v ?_
  refine AllV_v ?_
  refine AllV_v ?_
  refine AllV_v ?_
  refine AllV_v ?_
  refine AllV_nil ?_
  refine O_add rfl rfl rfl rfl (wrap_i64_id (by omega) (by omega)) ?_
  refine O_assign rfl rfl rfl ?_
  refine WL_end [(2, _)] ⟨rfl, trivial⟩ ?_
  refine WP_ret ?_
  refine ret1 Tryz.results26 rfl ?_
  have hx0 : x ≠ 0 := fun h => c5 (by rw [h]; rfl)
  exact ⟨_, rfl, ((e1.trans e2).trans hy10), by unfold dtop; rw [if_neg hx0]⟩

theorem dalign_c {w : World} {vx vy : Value} {x y e f : Int} {bx by_ : Bool} (hbx : bx = decide (x < 0)) (hx : Nl w vx (dig x.natAbs)) (hby : by_ = decide (y < 0)) (hy : Nl w vy (dig y.natAbs)) (hlx : (dig x.natAbs).length ≤ 30000) (hly : (dig y.natAbs).length ≤ 30000) (he1 : -200000 ≤ e) (he2 : e ≤ 200000) (hf1 : -200000 ≤ f) (hf2 : f ≤ 200000) :
    Calls Tryz.prog 30 #[.agg #[.bool bx, vx, .int .i64 e], .agg #[.bool by_, vy, .int .i64 f]] w (Ret w fun r w' => ∃ q s, r = .tuple #[.agg #[.bool (decide (x * 2 ^ (e - min e f).toNat < 0)), q], .agg #[.bool (decide (y * 2 ^ (f - min e f).toNat < 0)), s], .int .i64 (min e f)] ∧ No w.heap.size 83 w' q (dig (x * 2 ^ (e - min e f).toNat).natAbs) ∧ No w.heap.size 83 w' s (dig (y * 2 ^ (f - min e f).toNat).natAbs)) := by
 subst hbx
 subst hby
 refine enter (args := [_, _]) Tryz.func30 rfl Tryz.ntmps30 rfl ?_
 refine WP_seq ?_
 refine WP_region ?_
 refine O_box _ rfl rfl rfl rfl (fun g1 w1 b1 e1 gl1 gh1 => ?_)
 have z1 := e1.size
 refine O_box _ rfl rfl rfl rfl (fun g2 w2 b2 e2 gl2 gh2 => ?_)
 have z2 := e2.size
 refine O_alloc S24 rfl rfl (fun g3 w3 b3 e3 gl3 gh3 => ?_)
 have z3 := e3.size
 refine O_alloc S24 rfl rfl (fun g4 w4 b4 e4 gl4 gh4 => ?_)
 have z4 := e4.size
 refine O_assign rfl rfl rfl ?_
 refine WL_end [(2, _), (3, _), (4, _), (5, _)] ⟨rfl, rfl, rfl, rfl, trivial⟩ ?_
 refine WP_seq ?_
 refine WP_region ?_
 refine O_field F26_1 rfl rfl rfl ?_
 refine O_loadC Tryz.underlying3 rfl rfl rfl rfl (((b1.ext e2).ext e3).ext e4) rfl ?_
 refine O_field F26_1 rfl rfl rfl ?_
 refine O_loadC Tryz.underlying3 rfl rfl rfl rfl ((b2.ext e3).ext e4) rfl ?_
 refine O_min rfl rfl rfl rfl rfl ?_
 refine O_assign rfl rfl rfl ?_
 refine WL_end [(2, _), (3, _), (4, _), (5, _), (7, _)] ⟨rfl, rfl, rfl, rfl, rfl, trivial⟩ ?_
 refine WP_seq ?_
 refine WP_sub [(2, _), (3, _), (4, _), (5, _), (7, _)] ⟨rfl, rfl, rfl, rfl, rfl, trivial⟩ ?_
 have hS5 : ∀ g T, (g, T) ∈ (⟨[(g3, (24, 2)), (g4, (24, 2))], [], (w4).heap.size⟩ : SS) → (BkT w4 g T ∨ (w4).heap.size ≤ g) ∧ 83 ≠ T.1 := by
   intro g T hm; rw [mem_SS] at hm; simp only [List.mem_cons, Prod.mk.injEq, List.not_mem_nil, or_false, false_or, and_false] at hm
   rcases hm with ⟨rfl, rfl⟩ | ⟨rfl, rfl⟩
   · exact ⟨.inl ⟨_, (b3.ext e4), rfl⟩, by decide⟩
   · exact ⟨.inl ⟨_, b4, rfl⟩, by decide⟩
 have hS5n := fun g T hm => (hS5 g T hm).2
 refine WP_anySR (⟨[(g3, (24, 2)), (g4, (24, 2))], [], (w4).heap.size⟩ : SS) 17 [2, 3, 4, 5, 7] mixed rfl (by kernel_rfl) (Nat.le_refl _) ?_
 apply AnySR_val [2] rfl (by kernel_rfl)
 · --
  intro y6 hy6
  have zy6 := hy6.size
  have hyE6 : Ext w y6 := hy6.ext (((e1.trans e2).trans e3).trans e4) (by intro g T hm; rw [mem_SS] at hm; simp only [List.mem_cons, Prod.mk.injEq, List.not_mem_nil, or_false, false_or, and_false] at hm; omega)
  refine AllS_nil ?_
  refine O_field F26_0 rfl rfl rfl ?_
  exact WL_nil ⟨(Ext.refl _), rfl⟩
 apply AnySR_val [13] rfl (by kernel_rfl)
 · --
  intro y7 hy7
  have zy7 := hy7.size
  have hyE7 : Ext w y7 := hy7.ext (((e1.trans e2).trans e3).trans e4) (by intro g T hm; rw [mem_SS] at hm; simp only [List.mem_cons, Prod.mk.injEq, List.not_mem_nil, or_false, false_or, and_false] at hm; omega)
  refine AllS_v ?_
  refine AllS_nil ?_
  refine O_loadA (vs := [_, _]) S24 rfl rfl rfl ((((b1.ext e2).ext e3).ext e4).extS hy7 (by intro T hm; rw [mem_SS] at hm; simp only [List.mem_cons, Prod.mk.injEq, List.not_mem_nil, or_false, false_or, and_false] at hm; omega)) rfl rfl ?_
  exact WL_nil ⟨(Ext.refl _), rfl⟩
 apply AnySR_val [2] rfl (by kernel_rfl)
 · --
  intro y8 hy8
  have zy8 := hy8.size
  have hyE8 : Ext w y8 := hy8.ext (((e1.trans e2).trans e3).trans e4) (by intro g T hm; rw [mem_SS] at hm; simp only [List.mem_cons, Prod.mk.injEq, List.not_mem_nil, or_false, false_or, and_false] at hm; omega)
  refine AllS_nil ?_
  refine O_field F26_1 rfl rfl rfl ?_
  exact WL_nil ⟨(Ext.refl _), rfl⟩
 apply AnySR_val [15] rfl (by kernel_rfl)
 · --
  intro y9 hy9
  have zy9 := hy9.size
  have hyE9 : Ext w y9 := hy9.ext (((e1.trans e2).trans e3).trans e4) (by intro g T hm; rw [mem_SS] at hm; simp only [List.mem_cons, Prod.mk.injEq, List.not_mem_nil, or_false, false_or, and_false] at hm; omega)
  refine AllS_v ?_
  refine AllS_nil ?_
  refine O_loadC Tryz.underlying3 rfl rfl rfl rfl ((((b1.ext e2).ext e3).ext e4).extS hy9 (by intro T hm; rw [mem_SS] at hm; simp only [List.mem_cons, Prod.mk.injEq, List.not_mem_nil, or_false, false_or, and_false] at hm; omega)) rfl ?_
  exact WL_nil ⟨(Ext.refl _), rfl⟩
 apply AnySR_val [7] rfl (by kernel_rfl)
 · --
  intro y10 hy10
  have zy10 := hy10.size
  have hyE10 : Ext w y10 := hy10.ext (((e1.trans e2).trans e3).trans e4) (by intro g T hm; rw [mem_SS] at hm; simp only [List.mem_cons, Prod.mk.injEq, List.not_mem_nil, or_false, false_or, and_false] at hm; omega)
  refine AllS_nil ?_
  refine O_move rfl rfl rfl ?_
  exact WL_nil ⟨(Ext.refl _), rfl⟩
 apply AnySR_val [16, 17] rfl (by kernel_rfl)
 · --
  intro y11 hy11
  have zy11 := hy11.size
  have hyE11 : Ext w y11 := hy11.ext (((e1.trans e2).trans e3).trans e4) (by intro g T hm; rw [mem_SS] at hm; simp only [List.mem_cons, Prod.mk.injEq, List.not_mem_nil, or_false, false_or, and_false] at hm; omega)
  refine AllS_v ?_
  refine AllS_v ?_
  refine AllS_nil ?_
  refine O_sub (r := (((e - min e f).toNat : Nat) : Int)) rfl rfl rfl rfl (by rw [IntKind.wrap_i64]; omega) ?_
  exact WL_nil ⟨(Ext.refl _), rfl⟩
 apply AnySR_rel (RelP (pAgg [pEq _, pNo w4.heap.size 83 _])) [14, 18] rfl (RelP.monoS (pAgg_monoS (PsS.cons pEq_monoS (PsS.cons (pNo_monoS hS5n) PsS.nil)))) (by kernel_rfl)
 · --
  intro y12 hy12
  have zy12 := hy12.size
  have hyE12 : Ext w y12 := hy12.ext (((e1.trans e2).trans e3).trans e4) (by intro g T hm; rw [mem_SS] at hm; simp only [List.mem_cons, Prod.mk.injEq, List.not_mem_nil, or_false, false_or, and_false] at hm; omega)
  refine AllS_v ?_
  refine AllS_v ?_
  refine AllS_nil ?_
  refine O_call enters40 rfl rfl rfl (ishl_c rfl (hx.ext hyE12) (by (try simp only [lens]); omega) (by (try simp only [lens]); omega)) (fun v13 w13 e13 h13 => ?_)
  have z13 := e13.size
  try simp only [val_dig] at h13
  obtain ⟨q13, rfl, hq13⟩ := h13
  exact WL_nil ⟨e13, _, rfl, ⟨_, rfl, (AllP.cons rfl (AllP.cons (hq13.mono (by omega)) AllP.nil))⟩⟩
 apply AnySR_val [3] rfl (by kernel_rfl)
 · --
  intro y14 hy14
  have zy14 := hy14.size
  have hyE14 : Ext w y14 := hy14.ext (((e1.trans e2).trans e3).trans e4) (by intro g T hm; rw [mem_SS] at hm; simp only [List.mem_cons, Prod.mk.injEq, List.not_mem_nil, or_false, false_or, and_false] at hm; omega)
  refine AllS_nil ?_
  refine O_field F26_0 rfl rfl rfl ?_
  exact WL_nil ⟨(Ext.refl _), rfl⟩
 apply AnySR_val [20] rfl (by kernel_rfl)
 · --
  intro y15 hy15
  have zy15 := hy15.size
  have hyE15 : Ext w y15 := hy15.ext (((e1.trans e2).trans e3).trans e4) (by intro g T hm; rw [mem_SS] at hm; simp only [List.mem_cons, Prod.mk.injEq, List.not_mem_nil, or_false, false_or, and_false] at hm; omega)
  refine AllS_v ?_
  refine AllS_nil ?_
  refine O_loadA (vs := [_, _]) S24 rfl rfl rfl (((b2.ext e3).ext e4).extS hy15 (by intro T hm; rw [mem_SS] at hm; simp only [List.mem_cons, Prod.mk.injEq, List.not_mem_nil, or_false, false_or, and_false] at hm; omega)) rfl rfl ?_
  exact WL_nil ⟨(Ext.refl _), rfl⟩
 apply AnySR_val [3] rfl (by kernel_rfl)
 · --
  intro y16 hy16
  have zy16 := hy16.size
  have hyE16 : Ext w y16 := hy16.ext (((e1.trans e2).trans e3).trans e4) (by intro g T hm; rw [mem_SS] at hm; simp only [List.mem_cons, Prod.mk.injEq, List.not_mem_nil, or_false, false_or, and_false] at hm; omega)
  refine AllS_nil ?_
  refine O_field F26_1 rfl rfl rfl ?_
  exact WL_nil ⟨(Ext.refl _), rfl⟩
 apply AnySR_val [22] rfl (by kernel_rfl)
 · --
  intro y17 hy17
  have zy17 := hy17.size
  have hyE17 : Ext w y17 := hy17.ext (((e1.trans e2).trans e3).trans e4) (by intro g T hm; rw [mem_SS] at hm; simp only [List.mem_cons, Prod.mk.injEq, List.not_mem_nil, or_false, false_or, and_false] at hm; omega)
  refine AllS_v ?_
  refine AllS_nil ?_
  refine O_loadC Tryz.underlying3 rfl rfl rfl rfl (((b2.ext e3).ext e4).extS hy17 (by intro T hm; rw [mem_SS] at hm; simp only [List.mem_cons, Prod.mk.injEq, List.not_mem_nil, or_false, false_or, and_false] at hm; omega)) rfl ?_
  exact WL_nil ⟨(Ext.refl _), rfl⟩
 apply AnySR_val [7] rfl (by kernel_rfl)
 · --
  intro y18 hy18
  have zy18 := hy18.size
  have hyE18 : Ext w y18 := hy18.ext (((e1.trans e2).trans e3).trans e4) (by intro g T hm; rw [mem_SS] at hm; simp only [List.mem_cons, Prod.mk.injEq, List.not_mem_nil, or_false, false_or, and_false] at hm; omega)
  refine AllS_nil ?_
  refine O_move rfl rfl rfl ?_
  exact WL_nil ⟨(Ext.refl _), rfl⟩
 apply AnySR_val [23, 24] rfl (by kernel_rfl)
 · --
  intro y19 hy19
  have zy19 := hy19.size
  have hyE19 : Ext w y19 := hy19.ext (((e1.trans e2).trans e3).trans e4) (by intro g T hm; rw [mem_SS] at hm; simp only [List.mem_cons, Prod.mk.injEq, List.not_mem_nil, or_false, false_or, and_false] at hm; omega)
  refine AllS_v ?_
  refine AllS_v ?_
  refine AllS_nil ?_
  refine O_sub (r := (((f - min e f).toNat : Nat) : Int)) rfl rfl rfl rfl (by rw [IntKind.wrap_i64]; omega) ?_
  exact WL_nil ⟨(Ext.refl _), rfl⟩
 apply AnySR_rel (RelP (pAgg [pEq _, pNo w4.heap.size 83 _])) [21, 25] rfl (RelP.monoS (pAgg_monoS (PsS.cons pEq_monoS (PsS.cons (pNo_monoS hS5n) PsS.nil)))) (by kernel_rfl)
 · --
  intro y20 hy20
  have zy20 := hy20.size
  have hyE20 : Ext w y20 := hy20.ext (((e1.trans e2).trans e3).trans e4) (by intro g T hm; rw [mem_SS] at hm; simp only [List.mem_cons, Prod.mk.injEq, List.not_mem_nil, or_false, false_or, and_false] at hm; omega)
  refine AllS_v ?_
  refine AllS_v ?_
  refine AllS_nil ?_
  refine O_call enters40 rfl rfl rfl (ishl_c rfl (hy.ext hyE20) (by (try simp only [lens]); omega) (by (try simp only [lens]); omega)) (fun v21 w21 e21 h21 => ?_)
  have z21 := e21.size
  try simp only [val_dig] at h21
  obtain ⟨q21, rfl, hq21⟩ := h21
  exact WL_nil ⟨e21, _, rfl, ⟨_, rfl, (AllP.cons rfl (AllP.cons (hq21.mono (by omega)) AllP.nil))⟩⟩
 apply AnySR_val [7] rfl (by kernel_rfl)
 · --
  intro y22 hy22
  have zy22 := hy22.size
  have hyE22 : Ext w y22 := hy22.ext (((e1.trans e2).trans e3).trans e4) (by intro g T hm; rw [mem_SS] at hm; simp only [List.mem_cons, Prod.mk.injEq, List.not_mem_nil, or_false, false_or, and_false] at hm; omega)
  refine AllS_nil ?_
  refine O_move rfl rfl rfl ?_
  exact WL_nil ⟨(Ext.refl _), rfl⟩
 apply AnySR_st g3 (24, 2) (pSt g3 24 [pEq _, pNo w4.heap.size 83 _]) [4, 19] rfl (.inl (by simp)) (pSt_monoS (PsS.cons pEq_monoS (PsS.cons (pNo_monoS hS5n) PsS.nil))) (by exact (compat_cons ⟨trivial, trivial⟩ (compat_cons ⟨trivial, trivial⟩ (compat_cons ⟨trivial, trivial⟩ (compat_cons ⟨trivial, trivial⟩ (compat_cons ⟨trivial, trivial⟩ (compat_cons ⟨trivial, trivial⟩ (compat_cons ⟨trivial, trivial⟩ (compat_cons ⟨trivial, trivial⟩ (compat_cons ⟨trivial, trivial⟩ (compat_cons ⟨trivial, trivial⟩ (compat_cons ⟨trivial, trivial⟩ (compat_cons ⟨trivial, trivial⟩ (compat_cons ⟨trivial, trivial⟩ (compat_cons ⟨trivial, trivial⟩ (compat_cons ⟨trivial, trivial⟩ compat_nil)))))))))))))))) (by kernel_rfl)
 · --
  intro y23 hy23
  have zy23 := hy23.size
  have hyE23 : Ext w y23 := hy23.ext (((e1.trans e2).trans e3).trans e4) (by intro g T hm; rw [mem_SS] at hm; simp only [List.mem_cons, Prod.mk.injEq, List.not_mem_nil, or_false, false_or, and_false] at hm; omega)
  refine AllS_r fun a24 b24 v24 la24 lb24 lc24 h24 ap24 => ?_
  clear ap24
  obtain ⟨_, rfl, v24_0, _, rfl, rfl, v24_1, _, rfl, h24_1, rfl⟩ := h24
  refine AllS_nil ?_
  have hB23 := hy23.tag g3 (24, 2) (.inl (by simp)) ⟨_, (b3.ext e4), rfl⟩
  refine O_storeW S24 rfl rfl rfl hB23 rfl (one_cons rfl (one_cons (h24_1.nl).one one_nil)) (fun w23 b23 q23 => ?_)
  obtain ⟨cs23, hk23, hl23⟩ := hB23
  exact WL_nil ⟨⟨⟨cs23, hk23, hl23⟩, q23, ⟨_, b23, rfl⟩⟩, _, b23, (AllP.cons rfl (AllP.cons (((h24_1).mono (by omega)).chgBk hk23 (by decide) q23) AllP.nil))⟩
 apply AnySR_st g4 (24, 2) (pSt g4 24 [pEq _, pNo w4.heap.size 83 _]) [5, 26] rfl (.inl (by simp)) (pSt_monoS (PsS.cons pEq_monoS (PsS.cons (pNo_monoS hS5n) PsS.nil))) (by exact (compat_cons ⟨(show g4 ≠ g3 from by omega), (show g3 ≠ g4 from by omega)⟩ (compat_cons ⟨trivial, trivial⟩ (compat_cons ⟨trivial, trivial⟩ (compat_cons ⟨trivial, trivial⟩ (compat_cons ⟨trivial, trivial⟩ (compat_cons ⟨trivial, trivial⟩ (compat_cons ⟨trivial, trivial⟩ (compat_cons ⟨trivial, trivial⟩ (compat_cons ⟨trivial, trivial⟩ (compat_cons ⟨trivial, trivial⟩ (compat_cons ⟨trivial, trivial⟩ (compat_cons ⟨trivial, trivial⟩ (compat_cons ⟨trivial, trivial⟩ (compat_cons ⟨trivial, trivial⟩ (compat_cons ⟨trivial, trivial⟩ (compat_cons ⟨trivial, trivial⟩ compat_nil))))))))))))))))) (by kernel_rfl)
 · --
  intro y25 hy25
  have zy25 := hy25.size
  have hyE25 : Ext w y25 := hy25.ext (((e1.trans e2).trans e3).trans e4) (by intro g T hm; rw [mem_SS] at hm; simp only [List.mem_cons, Prod.mk.injEq, List.not_mem_nil, or_false, false_or, and_false] at hm; omega)
  refine AllS_r fun a26 b26 v26 la26 lb26 lc26 h26 ap26 => ?_
  clear ap26
  obtain ⟨_, rfl, v26_0, _, rfl, rfl, v26_1, _, rfl, h26_1, rfl⟩ := h26
  refine AllS_nil ?_
  have hB25 := hy25.tag g4 (24, 2) (.inl (by simp)) ⟨_, b4, rfl⟩
  refine O_storeW S24 rfl rfl rfl hB25 rfl (one_cons rfl (one_cons (h26_1.nl).one one_nil)) (fun w25 b25 q25 => ?_)
  obtain ⟨cs25, hk25, hl25⟩ := hB25
  exact WL_nil ⟨⟨⟨cs25, hk25, hl25⟩, q25, ⟨_, b25, rfl⟩⟩, _, b25, (AllP.cons rfl (AllP.cons (((h26_1).mono (by omega)).chgBk hk25 (by decide) q25) AllP.nil))⟩
 refine AnySR_nil fun y27 hy27 => ?_
 have zy27 := hy27.size
 have hyE27 : Ext w y27 := hy27.ext (((e1.trans e2).trans e3).trans e4) (by intro g T hm; rw [mem_SS] at hm; simp only [List.mem_cons, Prod.mk.injEq, List.not_mem_nil, or_false, false_or, and_false] at hm; omega)
 refine AllS_v ?_
 refine AllS_v ?_
 refine AllS_v ?_
 refine AllS_v ?_
 refine AllS_v ?_
 refine AllS_v ?_
 refine AllS_r fun a28 b28 v28 la28 lb28 lc28 h28 ap28 => ?_
 clear ap28
 obtain ⟨_, rfl, v28_0, _, rfl, rfl, v28_1, _, rfl, h28_1, rfl⟩ := h28
 refine AllS_v ?_
 refine AllS_v ?_
 refine AllS_v ?_
 refine AllS_v ?_
 refine AllS_v ?_
 refine AllS_v ?_
 refine AllS_r fun a29 b29 v29 la29 lb29 lc29 h29 ap29 => ?_
 clear ap29
 obtain ⟨_, rfl, v29_0, _, rfl, rfl, v29_1, _, rfl, h29_1, rfl⟩ := h29
 refine AllS_v ?_
 refine AllS_q fun hq30 => ?_
 obtain ⟨_, hb30, u30_0, _, rfl, rfl, u30_1, _, rfl, hu30_1, rfl⟩ := hq30
 refine AllS_q fun hq31 => ?_
 obtain ⟨_, hb31, u31_0, _, rfl, rfl, u31_1, _, rfl, hu31_1, rfl⟩ := hq31
 refine AllS_nil ?_
 refine O_assign rfl rfl rfl ?_
 refine WL_end [(4, _), (5, _), (6, _)] ⟨rfl, rfl, rfl, trivial⟩ ?_
 refine WP_ret ?_
 refine retL Tryz.results30 (.cell rfl S24 hb30 rfl (.cell rfl S24 hb31 rfl (.tmp rfl .nil))) ?_
 exact ⟨_, rfl, hyE27, _, _, rfl, hu30_1.mono (by omega), hu31_1.mono (by omega)⟩

theorem dadd_c {w : World} {vx vy : Value} {x y e f : Int} {bx by_ : Bool} (hbx : bx = decide (x < 0)) (hx : Nl w vx (dig x.natAbs)) (hby : by_ = decide (y < 0)) (hy : Nl w vy (dig y.natAbs)) (hvx : dval x e = true) (hvy : dval y f = true) (hT : Tab w) :
    Calls Tryz.prog 6 #[.agg #[.bool bx, vx, .int .i64 e], .agg #[.bool by_, vy, .int .i64 f]] w (Ret w fun r w' => ∃ q, r = .tuple #[.agg #[.bool (decide ((dman (dsum x e y f) (min e f)) < 0)), q, .int .i64 (dexp (dsum x e y f) (min e f))], .int .i64 (dcode3 (dsum x e y f) (min e f))] ∧ No w.heap.size 83 w' q (dig (dman (dsum x e y f) (min e f)).natAbs)) := by
 subst hbx
 subst hby
 have hr1 := dval_range hvx
 have hr2 := dval_range hvy
 have he1 : -200000 ≤ e := by omega
 have he2 : e ≤ 200000 := by omega
 have hf1 : -200000 ≤ f := by omega
 have hf2 : f ≤ 200000 := by omega
 have hlx : (dig x.natAbs).length ≤ 2049 := dval_len hvx
 have hly : (dig y.natAbs).length ≤ 2049 := dval_len hvy
 have hS1 := shl_len' (k := (e - min e f).toNat) hlx
 have hS2 := shl_len' (k := (f - min e f).toNat) hly
 have hS3 : (e - min e f).toNat ≤ 400000 := by omega
 have hS4 : (f - min e f).toNat ≤ 400000 := by omega
 replace hS1 := Nat.le_trans hS1 (show _ ≤ 20000 by omega)
 replace hS2 := Nat.le_trans hS2 (show _ ≤ 20000 by omega)
 have hS5 := add_len hS1 hS2
 replace hS5 := Nat.le_trans hS5 (show max 20000 20000 + 1 ≤ 30000 by decide)
 refine enter (args := [_, _]) Tryz.func6 rfl Tryz.ntmps6 rfl ?_
 refine WP_seq ?_
 refine WP_region ?_
 refine O_box _ rfl rfl rfl rfl (fun g1 w1 b1 e1 gl1 gh1 => ?_)
 have z1 := e1.size
 refine O_box _ rfl rfl rfl rfl (fun g2 w2 b2 e2 gl2 gh2 => ?_)
 have z2 := e2.size
 refine O_alloc S26 rfl rfl (fun g3 w3 b3 e3 gl3 gh3 => ?_)
 have z3 := e3.size
 refine O_assign rfl rfl rfl ?_
 refine WL_end [(2, _), (3, _), (4, _)] ⟨rfl, rfl, rfl, trivial⟩ ?_
 refine WP_seq ?_
 refine WP_block ?_
 refine WP_seq ?_
 refine WP_region ?_
 refine O_loadA (vs := [_, _, _]) S26 rfl rfl rfl ((b1.ext e2).ext e3) rfl rfl ?_
 refine O_call enters28 rfl rfl rfl (dsign_c rfl (hx.ext ((e1.trans e2).trans e3)) (by (try simp only [lens]); omega)) (fun v4 w4 e4 h4 => ?_)
 have z4 := e4.size
 obtain rfl := h4
 refine O_eql rfl rfl rfl rfl rfl ?_
 refine O_assign rfl rfl rfl ?_
 refine WL_end [(2, _), (3, _), (4, _), (9, _)] ⟨rfl, rfl, rfl, rfl, trivial⟩ ?_
 refine WP_condD rfl (fun c9 => ?_) (fun c9 => ?_)
 · --
  refine WP_seq ?_
  refine WP_region ?_
  refine O_field F26_0 rfl rfl rfl ?_
  refine O_loadA (vs := [_, _]) S24 rfl rfl rfl ((b2.ext e3).ext e4) rfl rfl ?_
  refine O_field F26_1 rfl rfl rfl ?_
  refine O_loadC Tryz.underlying3 rfl rfl rfl rfl ((b2.ext e3).ext e4) rfl ?_
  refine O_call enters29 rfl rfl rfl (dexact_c rfl (hy.ext (((e1.trans e2).trans e3).trans e4)) (by (try simp only [lens]); omega) (hT.ext (((e1.trans e2).trans e3).trans e4))) (fun v5 w5 e5 h5 => ?_)
  have z5 := e5.size
  try simp only [val_dig] at h5
  obtain ⟨q5, rfl, hq5⟩ := h5
  refine O_extract rfl rfl rfl rfl ?_
  refine O_extract rfl rfl rfl rfl ?_
  refine O_storeA (cs' := [_, _, _]) S26 rfl rfl rfl ((b3.ext e4).ext e5) rfl rfl (one_cons rfl (one_cons (hq5.nl).one (one_cons rfl one_nil))) rfl (fun w6 b6 q6 => ?_)
  have z6 := Nat.le_of_eq q6.size.symm
  have e6 : Ext w w6 := q6.ext ((((e1.trans e2).trans e3).trans e4).trans e5) (by omega)
  refine O_assign rfl rfl rfl ?_
  refine WL_end [(4, _), (5, _)] ⟨rfl, rfl, trivial⟩ ?_
  refine WP_ret ?_
  refine inBlk_ret ?_
  refine retL Tryz.results6 (.cell rfl S26 b6 rfl (.tmp rfl .nil)) ?_
  have hx0 : x = 0 := sign_zero_iff.1 c9
  subst hx0
  obtain rfl := dval_exp0 hvx
  obtain ⟨k1, k2, k3⟩ := dadd_zero_l (y := y) hr2.1 hr2.2
  rw [k2, k3, show dcode3 (dsum 0 0 y f) (min 0 f) = dcode3 y f from by unfold dcode3; rw [k1]]
  exact ⟨_, rfl, e6, _, rfl, (hq5.chgBk ((b3.ext e4).ext e5) (by decide) q6).mono (by omega)⟩
 · --
  refine WP_seq ?_
  refine WP_region ?_
  refine O_loadA (vs := [_, _, _]) S26 rfl rfl rfl ((b2.ext e3).ext e4) rfl rfl ?_
  refine O_call enters28 rfl rfl rfl (dsign_c rfl (hy.ext (((e1.trans e2).trans e3).trans e4)) (by (try simp only [lens]); omega)) (fun v7 w7 e7 h7 => ?_)
  have z7 := e7.size
  obtain rfl := h7
  refine O_eql rfl rfl rfl rfl rfl ?_
  refine O_assign rfl rfl rfl ?_
  refine WL_end [(2, _), (3, _), (4, _), (20, _)] ⟨rfl, rfl, rfl, rfl, trivial⟩ ?_
  refine WP_condD rfl (fun c20 => ?_) (fun c20 => ?_)
  · --
   refine WP_seq ?_
   refine WP_region ?_
   refine O_field F26_0 rfl rfl rfl ?_
   refine O_loadA (vs := [_, _]) S24 rfl rfl rfl ((((b1.ext e2).ext e3).ext e4).ext e7) rfl rfl ?_
   refine O_field F26_1 rfl rfl rfl ?_
   refine O_loadC Tryz.underlying3 rfl rfl rfl rfl ((((b1.ext e2).ext e3).ext e4).ext e7) rfl ?_
   refine O_call enters29 rfl rfl rfl (dexact_c rfl (hx.ext ((((e1.trans e2).trans e3).trans e4).trans e7)) (by (try simp only [lens]); omega) (hT.ext ((((e1.trans e2).trans e3).trans e4).trans e7))) (fun v8 w8 e8 h8 => ?_)
   have z8 := e8.size
   try simp only [val_dig] at h8
   obtain ⟨q8, rfl, hq8⟩ := h8
   refine O_extract rfl rfl rfl rfl ?_
   refine O_extract rfl rfl rfl rfl ?_
   refine O_storeA (cs' := [_, _, _]) S26 rfl rfl rfl (((b3.ext e4).ext e7).ext e8) rfl rfl (one_cons rfl (one_cons (hq8.nl).one (one_cons rfl one_nil))) rfl (fun w9 b9 q9 => ?_)
   have z9 := Nat.le_of_eq q9.size.symm
   have e9 : Ext w w9 := q9.ext (((((e1.trans e2).trans e3).trans e4).trans e7).trans e8) (by omega)
   refine O_assign rfl rfl rfl ?_
   refine WL_end [(4, _), (5, _)] ⟨rfl, rfl, trivial⟩ ?_
   refine WP_ret ?_
   refine inBlk_ret ?_
   refine retL Tryz.results6 (.cell rfl S26 b9 rfl (.tmp rfl .nil)) ?_
   have hy0 : y = 0 := sign_zero_iff.1 c20
   subst hy0
   obtain rfl := dval_exp0 hvy
   obtain ⟨k1, k2, k3⟩ := dadd_zero_r (x := x) hr1.1 hr1.2
   rw [k2, k3, show dcode3 (dsum x e 0 0) (min e 0) = dcode3 x e from by unfold dcode3; rw [k1]]
   exact ⟨_, rfl, e9, _, rfl, (hq8.chgBk (((b3.ext e4).ext e7).ext e8) (by decide) q9).mono (by omega)⟩
  · --
   refine WP_skip ?_
   refine WP_seq ?_
   refine WP_region ?_
   refine O_loadA (vs := [_, _, _]) S26 rfl rfl rfl ((((b1.ext e2).ext e3).ext e4).ext e7) rfl rfl ?_
   refine O_loadA (vs := [_, _, _]) S26 rfl rfl rfl (((b2.ext e3).ext e4).ext e7) rfl rfl ?_
   refine O_call enters30 rfl rfl rfl (dalign_c rfl (hx.ext ((((e1.trans e2).trans e3).trans e4).trans e7)) rfl (hy.ext ((((e1.trans e2).trans e3).trans e4).trans e7)) (by (try simp only [lens]); omega) (by (try simp only [lens]); omega) (by (try simp only [lens]); omega) (by (try simp only [lens]); omega) (by (try simp only [lens]); omega) (by (try simp only [lens]); omega)) (fun v10 w10 e10 h10 => ?_)
   have z10 := e10.size
   try simp only [val_dig] at h10
   obtain ⟨q10, s10, rfl, hq10, hs10⟩ := h10
   refine O_move rfl rfl rfl ?_
   refine O_extract rfl rfl rfl rfl ?_
   refine O_extract rfl rfl rfl rfl ?_
   refine O_extract rfl rfl rfl rfl ?_
   refine O_alloc S24 rfl rfl (fun g11 w11 b11 e11 gl11 gh11 => ?_)
   have z11 := e11.size
   refine O_alloc S24 rfl rfl (fun g12 w12 b12 e12 gl12 gh12 => ?_)
   have z12 := e12.size
   refine O_storeA (cs' := [_, _]) S24 rfl rfl rfl (b11.ext e12) rfl rfl (one_cons rfl (one_cons (((hq10.ext e11).ext e12).nl).one one_nil)) rfl (fun w13 b13 q13 => ?_)
   have z13 := Nat.le_of_eq q13.size.symm
   have e13 : Ext w w13 := q13.ext (((((((e1.trans e2).trans e3).trans e4).trans e7).trans e10).trans e11).trans e12) (by omega)
   refine O_storeA (cs' := [_, _]) S24 rfl rfl rfl (b12.chg q13 (by first | assumption | omega)) rfl rfl (one_cons rfl (one_cons ((((hs10.ext e11).ext e12).chgBk (b11.ext e12) (by decide) q13).nl).one one_nil)) rfl (fun w14 b14 q14 => ?_)
   have z14 := Nat.le_of_eq q14.size.symm
   have e14 : Ext w w14 := q14.ext e13 (by omega)
   refine O_assign rfl rfl rfl ?_
   refine WL_end [(4, _), (6, _), (7, _), (8, _)] ⟨rfl, rfl, rfl, rfl, trivial⟩ ?_
   refine WP_seq ?_
   refine WP_region ?_
   refine O_loadA (vs := [_, _]) S24 rfl rfl rfl (b13.chg q14 (by first | assumption | omega)) rfl rfl ?_
   refine O_loadA (vs := [_, _]) S24 rfl rfl rfl b14 rfl rfl ?_
   refine O_call enters31 rfl rfl rfl (iadd_c rfl ((((hq10.ext e11).ext e12).chgBk (b11.ext e12) (by decide) q13).chgBk (b12.chg q13 (by first | assumption | omega)) (by decide) q14).nl rfl ((((hs10.ext e11).ext e12).chgBk (b11.ext e12) (by decide) q13).chgBk (b12.chg q13 (by first | assumption | omega)) (by decide) q14).nl (by (try simp only [lens]); omega) (by (try simp only [lens]); omega)) (fun v15 w15 e15 h15 => ?_)
   have z15 := e15.size
   try simp only [val_dig] at h15
   obtain ⟨q15, rfl, hq15⟩ := h15
   refine O_move rfl rfl rfl ?_
   refine O_call enters29 rfl rfl rfl (dexact_c rfl hq15.nl (by (try simp only [lens]); omega) (hT.ext (e14.trans e15))) (fun v16 w16 e16 h16 => ?_)
   have z16 := e16.size
   try simp only [val_dig] at h16
   obtain ⟨q16, rfl, hq16⟩ := h16
   refine O_extract rfl rfl rfl rfl ?_
   refine O_extract rfl rfl rfl rfl ?_
   refine O_storeA (cs' := [_, _, _]) S26 rfl rfl rfl (((((((((b3.ext e4).ext e7).ext e10).ext e11).ext e12).chg q13 (by first | assumption | omega)).chg q14 (by first | assumption | omega)).ext e15).ext e16) rfl rfl (one_cons rfl (one_cons (hq16.nl).one (one_cons rfl one_nil))) rfl (fun w17 b17 q17 => ?_)
   have z17 := Nat.le_of_eq q17.size.symm
   have e17 : Ext w w17 := q17.ext ((e14.trans e15).trans e16) (by omega)
   refine O_assign rfl rfl rfl ?_
   refine WL_end [(4, _), (5, _)] ⟨rfl, rfl, trivial⟩ ?_
   refine WP_ret ?_
   refine retL Tryz.results6 (.cell rfl S26 b17 rfl (.tmp rfl .nil)) ?_
   exact ⟨_, rfl, e17, _, rfl, (hq16.chgBk (((((((((b3.ext e4).ext e7).ext e10).ext e11).ext e12).chg q13 (by first | assumption | omega)).chg q14 (by first | assumption | omega)).ext e15).ext e16) (by decide) q17).mono (by omega)⟩

theorem dmul_c {w : World} {vx vy : Value} {x y e f : Int} {bx by_ : Bool} (hbx : bx = decide (x < 0)) (hx : Nl w vx (dig x.natAbs)) (hby : by_ = decide (y < 0)) (hy : Nl w vy (dig y.natAbs)) (hvx : dval x e = true) (hvy : dval y f = true) (hT : Tab w) :
    Calls Tryz.prog 8 #[.agg #[.bool bx, vx, .int .i64 e], .agg #[.bool by_, vy, .int .i64 f]] w (Ret w fun r w' => ∃ q, r = .tuple #[.agg #[.bool (decide ((dman (x * y) (e + f)) < 0)), q, .int .i64 (dexp (x * y) (e + f))], .int .i64 (dcode3 (x * y) (e + f))] ∧ No w.heap.size 83 w' q (dig (dman (x * y) (e + f)).natAbs)) := by
 subst hbx
 subst hby
 have hr1 := dval_range hvx
 have hr2 := dval_range hvy
 have he1 : -200000 ≤ e := by omega
 have he2 : e ≤ 200000 := by omega
 have hf1 : -200000 ≤ f := by omega
 have hf2 : f ≤ 200000 := by omega
 have hlx : (dig x.natAbs).length ≤ 2049 := dval_len hvx
 have hly : (dig y.natAbs).length ≤ 2049 := dval_len hvy
 have hS5 := mul_len hlx hly
 replace hS5 := Nat.le_trans hS5 (show 2049 + 2049 ≤ 30000 by decide)
 refine enter (args := [_, _]) Tryz.func8 rfl Tryz.ntmps8 rfl ?_
 refine WP_seq ?_
 refine WP_region ?_
 refine O_box _ rfl rfl rfl rfl (fun g1 w1 b1 e1 gl1 gh1 => ?_)
 have z1 := e1.size
 refine O_box _ rfl rfl rfl rfl (fun g2 w2 b2 e2 gl2 gh2 => ?_)
 have z2 := e2.size
 refine O_alloc S26 rfl rfl (fun g3 w3 b3 e3 gl3 gh3 => ?_)
 have z3 := e3.size
 refine O_assign rfl rfl rfl ?_
 refine WL_end [(2, _), (3, _), (4, _)] ⟨rfl, rfl, rfl, trivial⟩ ?_
 refine WP_seq ?_
 refine WP_sub [(2, _), (3, _), (4, _)] ⟨rfl, rfl, rfl, trivial⟩ ?_
 refine WP_anyR 13 [2, 3, 4] mixed rfl (by kernel_rfl) ?_
 apply AnyR_val [2] rfl (by kernel_rfl)
 · --
  intro y4 hy4
  have zy4 := hy4.size
  refine AllV_nil ?_
  refine O_field F26_0 rfl rfl rfl ?_
  exact WL_nil ⟨(Ext.refl _), rfl⟩
 apply AnyR_val [6] rfl (by kernel_rfl)
 · --
  intro y5 hy5
  have zy5 := hy5.size
  refine AllV_v ?_
  refine AllV_nil ?_
  refine O_loadA (vs := [_, _]) S24 rfl rfl rfl (((b1.ext e2).ext e3).ext hy5) rfl rfl ?_
  exact WL_nil ⟨(Ext.refl _), rfl⟩
 apply AnyR_val [3] rfl (by kernel_rfl)
 · --
  intro y6 hy6
  have zy6 := hy6.size
  refine AllV_nil ?_
  refine O_field F26_0 rfl rfl rfl ?_
  exact WL_nil ⟨(Ext.refl _), rfl⟩
 apply AnyR_val [8] rfl (by kernel_rfl)
 · --
  intro y7 hy7
  have zy7 := hy7.size
  refine AllV_v ?_
  refine AllV_nil ?_
  refine O_loadA (vs := [_, _]) S24 rfl rfl rfl ((b2.ext e3).ext hy7) rfl rfl ?_
  exact WL_nil ⟨(Ext.refl _), rfl⟩
 apply AnyR_rel (RelP (pAgg [pEq _, pNo w3.heap.size 83 _])) [7, 9] rfl (RelP.mono (pAgg_mono (PsM.cons pEq_mono (PsM.cons pNo_mono PsM.nil)))) (by kernel_rfl)
 · --
  intro y8 hy8
  have zy8 := hy8.size
  refine AllV_v ?_
  refine AllV_v ?_
  refine AllV_nil ?_
  refine O_call enters32 rfl rfl rfl (imul_c rfl (hx.ext (((e1.trans e2).trans e3).trans hy8)) rfl (hy.ext (((e1.trans e2).trans e3).trans hy8)) (by (try simp only [lens]); omega) (by (try simp only [lens]); omega)) (fun v9 w9 e9 h9 => ?_)
  have z9 := e9.size
  try simp only [val_dig] at h9
  obtain ⟨q9, rfl, hq9⟩ := h9
  exact WL_nil ⟨e9, _, rfl, ⟨_, rfl, (AllP.cons rfl (AllP.cons (hq9.mono (by omega)) AllP.nil))⟩⟩
 apply AnyR_val [2] rfl (by kernel_rfl)
 · --
  intro y10 hy10
  have zy10 := hy10.size
  refine AllV_nil ?_
  refine O_field F26_1 rfl rfl rfl ?_
  exact WL_nil ⟨(Ext.refl _), rfl⟩
 apply AnyR_val [11] rfl (by kernel_rfl)
 · --
  intro y11 hy11
  have zy11 := hy11.size
  refine AllV_v ?_
  refine AllV_nil ?_
  refine O_loadC Tryz.underlying3 rfl rfl rfl rfl (((b1.ext e2).ext e3).ext hy11) rfl ?_
  exact WL_nil ⟨(Ext.refl _), rfl⟩
 apply AnyR_val [3] rfl (by kernel_rfl)
 · --
  intro y12 hy12
  have zy12 := hy12.size
  refine AllV_nil ?_
  refine O_field F26_1 rfl rfl rfl ?_
  exact WL_nil ⟨(Ext.refl _), rfl⟩
 apply AnyR_val [13] rfl (by kernel_rfl)
 · --
  intro y13 hy13
  have zy13 := hy13.size
  refine AllV_v ?_
  refine AllV_nil ?_
  refine O_loadC Tryz.underlying3 rfl rfl rfl rfl ((b2.ext e3).ext hy13) rfl ?_
  exact WL_nil ⟨(Ext.refl _), rfl⟩
 apply AnyR_val [12, 14] rfl (by kernel_rfl)
 · --
  intro y14 hy14
  have zy14 := hy14.size
  refine AllV_v ?_
  refine AllV_v ?_
  refine AllV_nil ?_
  refine O_add rfl rfl rfl rfl (wrap_i64_id (by omega) (by omega)) ?_
  exact WL_nil ⟨(Ext.refl _), rfl⟩
 apply AnyR_rel (RelP (pTup [pAgg [pEq _, pNo w3.heap.size 83 _, pEq _], pEq _])) [10, 15] rfl (RelP.mono (pTup_mono (PsM.cons (pAgg_mono (PsM.cons pEq_mono (PsM.cons pNo_mono (PsM.cons pEq_mono PsM.nil)))) (PsM.cons pEq_mono PsM.nil)))) (by kernel_rfl)
 · --
  intro y15 hy15
  have zy15 := hy15.size
  refine AllV_r fun a16 b16 v16 la16 lb16 lc16 h16 ap16 => ?_
  clear ap16
  obtain ⟨_, rfl, v16_0, _, rfl, rfl, v16_1, _, rfl, h16_1, rfl⟩ := h16
  refine AllV_v ?_
  refine AllV_nil ?_
  refine O_call enters29 rfl rfl rfl (dexact_c rfl h16_1.nl (by (try simp only [lens]); omega) (hT.ext (((e1.trans e2).trans e3).trans hy15))) (fun v17 w17 e17 h17 => ?_)
  have z17 := e17.size
  try simp only [val_dig] at h17
  obtain ⟨q17, rfl, hq17⟩ := h17
  exact WL_nil ⟨e17, _, rfl, ⟨_, rfl, (AllP.cons ⟨_, rfl, (AllP.cons rfl (AllP.cons (hq17.mono (by omega)) (AllP.cons rfl AllP.nil)))⟩ (AllP.cons rfl AllP.nil))⟩⟩
 apply AnyR_rel (RelP (pAgg [pEq _, pNo w3.heap.size 83 _, pEq _])) [16] rfl (RelP.mono (pAgg_mono (PsM.cons pEq_mono (PsM.cons pNo_mono (PsM.cons pEq_mono PsM.nil))))) (by kernel_rfl)
 · --
  intro y18 hy18
  have zy18 := hy18.size
  refine AllV_r fun a19 b19 v19 la19 lb19 lc19 h19 ap19 => ?_
  clear ap19
  obtain ⟨_, rfl, v19_0, _, rfl, ⟨_, rfl, v19_0_0, _, rfl, rfl, v19_0_1, _, rfl, h19_0_1, v19_0_2, _, rfl, rfl, rfl⟩, v19_1, _, rfl, rfl, rfl⟩ := h19
  refine AllV_nil ?_
  refine O_extract rfl rfl rfl rfl ?_
  exact WL_nil ⟨(Ext.refl _), _, rfl, ⟨_, rfl, (AllP.cons rfl (AllP.cons (h19_0_1.mono (by omega)) (AllP.cons rfl AllP.nil)))⟩⟩
 apply AnyR_val [16] rfl (by kernel_rfl)
 · --
  intro y20 hy20
  have zy20 := hy20.size
  refine AllV_r fun a21 b21 v21 la21 lb21 lc21 h21 ap21 => ?_
  clear ap21
  obtain ⟨_, rfl, v21_0, _, rfl, ⟨_, rfl, v21_0_0, _, rfl, rfl, v21_0_1, _, rfl, h21_0_1, v21_0_2, _, rfl, rfl, rfl⟩, v21_1, _, rfl, rfl, rfl⟩ := h21
  refine AllV_nil ?_
  refine O_extract rfl rfl rfl rfl ?_
  exact WL_nil ⟨(Ext.refl _), rfl⟩
 refine AnyR_nil fun y22 hy22 => ?_
 have zy22 := hy22.size
 refine AllV_v ?_
 refine AllV_v ?_
 refine AllV_v ?_
 refine AllV_v ?_
 refine AllV_r fun a23 b23 v23 la23 lb23 lc23 h23 ap23 => ?_
 clear ap23
 obtain ⟨_, rfl, v23_0, _, rfl, rfl, v23_1, _, rfl, h23_1, rfl⟩ := h23
 refine AllV_v ?_
 refine AllV_v ?_
 refine AllV_v ?_
 refine AllV_v ?_
 refine AllV_v ?_
 refine AllV_r fun a24 b24 v24 la24 lb24 lc24 h24 ap24 => ?_
 clear ap24
 obtain ⟨_, rfl, v24_0, _, rfl, ⟨_, rfl, v24_0_0, _, rfl, rfl, v24_0_1, _, rfl, h24_0_1, v24_0_2, _, rfl, rfl, rfl⟩, v24_1, _, rfl, rfl, rfl⟩ := h24
 refine AllV_r fun a25 b25 v25 la25 lb25 lc25 h25 ap25 => ?_
 clear ap25
 obtain ⟨_, rfl, v25_0, _, rfl, rfl, v25_1, _, rfl, h25_1, v25_2, _, rfl, rfl, rfl⟩ := h25
 refine AllV_v ?_
 refine AllV_nil ?_
 refine O_storeA (cs' := [_, _, _]) S26 rfl rfl rfl (b3.ext hy22) rfl rfl (one_cons rfl (one_cons (h25_1.nl).one (one_cons rfl one_nil))) rfl (fun w26 b26 q26 => ?_)
 have z26 := Nat.le_of_eq q26.size.symm
 have e26 : Ext w w26 := q26.ext (((e1.trans e2).trans e3).trans hy22) (by omega)
 refine O_assign rfl rfl rfl ?_
 refine WL_end [(4, _), (5, _)] ⟨rfl, rfl, trivial⟩ ?_
 refine WP_ret ?_
 refine retL Tryz.results8 (.cell rfl S26 b26 rfl (.tmp rfl .nil)) ?_
 exact ⟨_, rfl, e26, _, rfl, (h25_1.chgBk (b3.ext hy22) (by decide) q26).mono (by omega)⟩

theorem dneg_c {w : World} {vx : Value} {x e : Int} {bx : Bool} (hbx : bx = decide (x < 0)) (hx : Nl w vx (dig x.natAbs)) (hlx : (dig x.natAbs).length ≤ 30000) :
    Calls Tryz.prog 17 #[.agg #[.bool bx, vx, .int .i64 e]] w (Ret w fun r w' => ∃ q, r = .agg #[.bool (decide ((-x) < 0)), q, .int .i64 (e)] ∧ No w.heap.size 83 w' q (dig (-x).natAbs)) := by
 subst hbx
 refine enter (args := [_]) Tryz.func17 rfl Tryz.ntmps17 rfl ?_
 refine WP_seq ?_
 refine WP_region ?_
 refine O_box _ rfl rfl rfl rfl (fun g1 w1 b1 e1 gl1 gh1 => ?_)
 have z1 := e1.size
 refine O_alloc S26 rfl rfl (fun g2 w2 b2 e2 gl2 gh2 => ?_)
 have z2 := e2.size
 refine WL_end [(1, _), (2, _)] ⟨rfl, rfl, trivial⟩ ?_
 refine WP_seq ?_
 refine WP_sub [(1, _), (2, _)] ⟨rfl, rfl, trivial⟩ ?_
 refine WP_anyR 5 [1, 2] mixed rfl (by kernel_rfl) ?_
 apply AnyR_val [1] rfl (by kernel_rfl)
 · --
  intro y3 hy3
  have zy3 := hy3.size
  refine AllV_nil ?_
  refine O_field F26_0 rfl rfl rfl ?_
  exact WL_nil ⟨(Ext.refl _), rfl⟩
 apply AnyR_val [3] rfl (by kernel_rfl)
 · --
  intro y4 hy4
  have zy4 := hy4.size
  refine AllV_v ?_
  refine AllV_nil ?_
  refine O_loadA (vs := [_, _]) S24 rfl rfl rfl ((b1.ext e2).ext hy4) rfl rfl ?_
  exact WL_nil ⟨(Ext.refl _), rfl⟩
 apply AnyR_rel (RelP (pAgg [pEq _, pNo w2.heap.size 83 _])) [4] rfl (RelP.mono (pAgg_mono (PsM.cons pEq_mono (PsM.cons pNo_mono PsM.nil)))) (by kernel_rfl)
 · --
  intro y5 hy5
  have zy5 := hy5.size
  refine AllV_v ?_
  refine AllV_nil ?_
  refine O_call enters49 rfl rfl rfl (ineg_c rfl (hx.ext ((e1.trans e2).trans hy5)) (by (try simp only [lens]); omega)) (fun v6 w6 e6 h6 => ?_)
  have z6 := e6.size
  try simp only [val_dig] at h6
  obtain ⟨q6, rfl, hq6⟩ := h6
  exact WL_nil ⟨e6, _, rfl, ⟨_, rfl, (AllP.cons rfl (AllP.cons (hq6.mono (by omega)) AllP.nil))⟩⟩
 apply AnyR_val [1] rfl (by kernel_rfl)
 · --
  intro y7 hy7
  have zy7 := hy7.size
  refine AllV_nil ?_
  refine O_field F26_1 rfl rfl rfl ?_
  exact WL_nil ⟨(Ext.refl _), rfl⟩
 apply AnyR_val [6] rfl (by kernel_rfl)
 · --
  intro y8 hy8
  have zy8 := hy8.size
  refine AllV_v ?_
  refine AllV_nil ?_
  refine O_loadC Tryz.underlying3 rfl rfl rfl rfl ((b1.ext e2).ext hy8) rfl ?_
  exact WL_nil ⟨(Ext.refl _), rfl⟩
 refine AnyR_nil fun y9 hy9 => ?_
 have zy9 := hy9.size
 refine AllV_v ?_
 refine AllV_v ?_
 refine AllV_r fun a10 b10 v10 la10 lb10 lc10 h10 ap10 => ?_
 clear ap10
 obtain ⟨_, rfl, v10_0, _, rfl, rfl, v10_1, _, rfl, h10_1, rfl⟩ := h10
 refine AllV_v ?_
 refine AllV_v ?_
 refine AllV_nil ?_
 refine O_build (cs := [_, _, _]) B26 rfl rfl rfl (cells_cons rfl (cells_cons rfl cells_nil)) rfl ?_
 refine O_storeA (cs' := [_, _, _]) S26 rfl rfl rfl (b2.ext hy9) rfl rfl (one_cons rfl (one_cons (h10_1.nl).one (one_cons rfl one_nil))) rfl (fun w11 b11 q11 => ?_)
 have z11 := Nat.le_of_eq q11.size.symm
 have e11 : Ext w w11 := q11.ext ((e1.trans e2).trans hy9) (by omega)
 refine WL_end [(2, _)] ⟨rfl, trivial⟩ ?_
 refine WP_ret ?_
 refine retL Tryz.results17 (.cell rfl S26 b11 rfl .nil) ?_
 exact ⟨_, rfl, e11, _, rfl, (h10_1.chgBk (b2.ext hy9) (by decide) q11).mono (by omega)⟩

theorem rdneg_c {w : World} {vx : Value} {x e : Int} {bx : Bool} (hbx : bx = decide (x < 0)) (hx : Nl w vx (dig x.natAbs)) (hlx : (dig x.natAbs).length ≤ 30000) :
    Calls Tryz.prog 18 #[.agg #[.bool bx, vx, .int .i64 e]] w (Ret w fun r w' => ∃ q, r = .agg #[.bool (decide ((-x) < 0)), q, .int .i64 (e)] ∧ No w.heap.size 83 w' q (dig (-x).natAbs)) := by
 subst hbx
 refine enter (args := [_]) Tryz.func18 rfl Tryz.ntmps18 rfl ?_
 refine WP_seq ?_
 refine WP_region ?_
 refine O_box _ rfl rfl rfl rfl (fun g1 w1 b1 e1 gl1 gh1 => ?_)
 have z1 := e1.size
 refine O_alloc S26 rfl rfl (fun g2 w2 b2 e2 gl2 gh2 => ?_)
 have z2 := e2.size
 refine WL_end [(1, _), (2, _)] ⟨rfl, rfl, trivial⟩ ?_
 refine WP_seq ?_
 refine WP_sub [(1, _), (2, _)] ⟨rfl, rfl, trivial⟩ ?_
 refine WP_anyR 5 [1, 2] mixed rfl (by kernel_rfl) ?_
 apply AnyR_val [1] rfl (by kernel_rfl)
 · --
  intro y3 hy3
  have zy3 := hy3.size
  refine AllV_nil ?_
  refine O_field F26_0 rfl rfl rfl ?_
  exact WL_nil ⟨(Ext.refl _), rfl⟩
 apply AnyR_val [3] rfl (by kernel_rfl)
 · --
  intro y4 hy4
  have zy4 := hy4.size
  refine AllV_v ?_
  refine AllV_nil ?_
  refine O_loadA (vs := [_, _]) S24 rfl rfl rfl ((b1.ext e2).ext hy4) rfl rfl ?_
  exact WL_nil ⟨(Ext.refl _), rfl⟩
 apply AnyR_rel (RelP (pAgg [pEq _, pNo w2.heap.size 83 _])) [4] rfl (RelP.mono (pAgg_mono (PsM.cons pEq_mono (PsM.cons pNo_mono PsM.nil)))) (by kernel_rfl)
 · --
  intro y5 hy5
  have zy5 := hy5.size
  refine AllV_v ?_
  refine AllV_nil ?_
  refine O_call enters50 rfl rfl rfl (rineg_c rfl (hx.ext ((e1.trans e2).trans hy5)) (by (try simp only [lens]); omega)) (fun v6 w6 e6 h6 => ?_)
  have z6 := e6.size
  try simp only [val_dig] at h6
  obtain ⟨q6, rfl, hq6⟩ := h6
  exact WL_nil ⟨e6, _, rfl, ⟨_, rfl, (AllP.cons rfl (AllP.cons (hq6.mono (by omega)) AllP.nil))⟩⟩
 apply AnyR_val [1] rfl (by kernel_rfl)
 · --
  intro y7 hy7
  have zy7 := hy7.size
  refine AllV_nil ?_
  refine O_field F26_1 rfl rfl rfl ?_
  exact WL_nil ⟨(Ext.refl _), rfl⟩
 apply AnyR_val [6] rfl (by kernel_rfl)
 · --
  intro y8 hy8
  have zy8 := hy8.size
  refine AllV_v ?_
  refine AllV_nil ?_
  refine O_loadC Tryz.underlying3 rfl rfl rfl rfl ((b1.ext e2).ext hy8) rfl ?_
  exact WL_nil ⟨(Ext.refl _), rfl⟩
 refine AnyR_nil fun y9 hy9 => ?_
 have zy9 := hy9.size
 refine AllV_v ?_
 refine AllV_v ?_
 refine AllV_r fun a10 b10 v10 la10 lb10 lc10 h10 ap10 => ?_
 clear ap10
 obtain ⟨_, rfl, v10_0, _, rfl, rfl, v10_1, _, rfl, h10_1, rfl⟩ := h10
 refine AllV_v ?_
 refine AllV_v ?_
 refine AllV_nil ?_
 refine O_build (cs := [_, _, _]) B26 rfl rfl rfl (cells_cons rfl (cells_cons rfl cells_nil)) rfl ?_
 refine O_storeA (cs' := [_, _, _]) S26 rfl rfl rfl (b2.ext hy9) rfl rfl (one_cons rfl (one_cons (h10_1.nl).one (one_cons rfl one_nil))) rfl (fun w11 b11 q11 => ?_)
 have z11 := Nat.le_of_eq q11.size.symm
 have e11 : Ext w w11 := q11.ext ((e1.trans e2).trans hy9) (by omega)
 refine WL_end [(2, _)] ⟨rfl, trivial⟩ ?_
 refine WP_ret ?_
 refine retL Tryz.results18 (.cell rfl S26 b11 rfl .nil) ?_
 exact ⟨_, rfl, e11, _, rfl, (h10_1.chgBk (b2.ext hy9) (by decide) q11).mono (by omega)⟩

theorem rdsame_c {w : World} {vx vy : Value} {lx ly : List Nat} {bx by_ : Bool} {e f : Int} (hb : bx = by_) (hx : Nl w vx lx) (hy : Nl w vy ly) (hlx : lx.length ≤ 100000000) (hly : ly.length ≤ 100000000) (hl : lx = ly) (he : e = f) :
    Calls Tryz.prog 16 #[.agg #[.bool bx, vx, .int .i64 e], .agg #[.bool by_, vy, .int .i64 f]] w (Ret w fun r _ => r = .bool true) := by
 refine enter (args := [_, _]) Tryz.func16 rfl Tryz.ntmps16 rfl ?_
 refine WP_seq ?_
 refine WP_region ?_
 refine O_box _ rfl rfl rfl rfl (fun g1 w1 b1 e1 gl1 gh1 => ?_)
 have z1 := e1.size
 refine O_box _ rfl rfl rfl rfl (fun g2 w2 b2 e2 gl2 gh2 => ?_)
 have z2 := e2.size
 refine O_assign rfl rfl rfl ?_
 refine WL_end [(2, _), (3, _)] ⟨rfl, rfl, trivial⟩ ?_
 refine WP_seq ?_
 refine WP_region ?_
 refine O_field F26_1 rfl rfl rfl ?_
 refine O_loadC Tryz.underlying3 rfl rfl rfl rfl (b1.ext e2) rfl ?_
 refine O_field F26_1 rfl rfl rfl ?_
 refine O_loadC Tryz.underlying3 rfl rfl rfl rfl b2 rfl ?_
 refine O_eql (t := true) rfl rfl rfl rfl (decide_eq_true he) ?_
 refine O_move rfl rfl rfl ?_
 refine O_field F26_0 rfl rfl rfl ?_
 refine O_loadA (vs := [_, _]) S24 rfl rfl rfl (b1.ext e2) rfl rfl ?_
 refine O_field F26_0 rfl rfl rfl ?_
 refine O_loadA (vs := [_, _]) S24 rfl rfl rfl b2 rfl rfl ?_
 refine O_call enters22 rfl rfl rfl (isame_c hb (hx.ext (e1.trans e2)) (hy.ext (e1.trans e2)) (by (try simp only [lens]); omega) (by (try simp only [lens]); omega) hl) (fun v3 w3 e3 h3 => ?_)
 have z3 := e3.size
 obtain rfl := h3
 refine O_pickT rfl rfl rfl rfl ?_
 refine O_assign rfl rfl rfl ?_
 refine WL_end [(4, _)] ⟨rfl, trivial⟩ ?_
 refine WP_ret ?_
 refine ret1 Tryz.results16 rfl ?_
 exact ⟨_, rfl, ((e1.trans e2).trans e3), rfl⟩

end Go.Proofs.YtnfnadhbjdcbnaaGreatDoor
