/-
  Walks.
-/
import Derived.Test.YthbfhljpfkicpaaY1
set_option linter.unusedVariables false
set_option linter.unusedSimpArgs false
set_option maxRecDepth 100000
namespace Go.Proofs.Ythbfhljpfkicpaa
open Go Go.RowKit
theorem dsign_c {w : World} {vx : Value} {x e : Int} {bx : Bool} (hbx : bx = decide (x < 0)) (hx : Nl w vx (dig x.natAbs)) (hlx : (dig x.natAbs).length ≤ 30000) :
    Calls Try.prog 33 #[.agg #[.bool bx, vx, .int .i64 e]] w (Ret w fun r _ => r = .int .i64 x.sign) := by
  subst hbx
  refine enter (args := [_]) Try.func33 rfl Try.ntmps33 rfl ?_
  refine WP_seq ?_
  refine WP_region ?_
  refine O_box _ rfl rfl rfl rfl (fun g1 w1 b1 e1 gl1 gh1 => ?_)
  have z1 := e1.size
  refine O_assign rfl rfl rfl ?_
  refine WL_end [(1, _)] ⟨rfl, trivial⟩ ?_
  refine WP_seq ?_
  refine WP_region ?_
  refine O_field F26_0 rfl rfl rfl ?_
  refine O_loadA (vs := [_, _]) S24 rfl rfl rfl b1 rfl rfl ?_
  refine O_call enters60 rfl rfl rfl (isign_c rfl (hx.ext e1) (by (try simp only [val_dig, List.length_take, List.length_nil, List.length_cons, List.length_append, List.length_replicate, List.length_set, List.length_map, List.length_drop]); omega)) (fun v2 w2 e2 h2 => ?_)
  have z2 := e2.size
  obtain rfl := h2
  refine O_assign rfl rfl rfl ?_
  refine WL_end [(2, _)] ⟨rfl, trivial⟩ ?_
  refine WP_ret ?_
  refine ret1 Try.results33 rfl ?_
  exact ⟨_, rfl, (e1.trans e2), rfl⟩

theorem rdsign_c {w : World} {vx : Value} {x e : Int} {bx : Bool} (hbx : bx = decide (x < 0)) (hx : Nl w vx (dig x.natAbs)) (hlx : (dig x.natAbs).length ≤ 30000) :
    Calls Try.prog 34 #[.agg #[.bool bx, vx, .int .i64 e]] w (Ret w fun r _ => r = .int .i64 x.sign) := by
  subst hbx
  refine enter (args := [_]) Try.func34 rfl Try.ntmps34 rfl ?_
  refine WP_seq ?_
  refine WP_region ?_
  refine O_box _ rfl rfl rfl rfl (fun g1 w1 b1 e1 gl1 gh1 => ?_)
  have z1 := e1.size
  refine O_assign rfl rfl rfl ?_
  refine WL_end [(1, _)] ⟨rfl, trivial⟩ ?_
  refine WP_seq ?_
  refine WP_region ?_
  refine O_field F26_0 rfl rfl rfl ?_
  refine O_loadA (vs := [_, _]) S24 rfl rfl rfl b1 rfl rfl ?_
  refine O_call enters61 rfl rfl rfl (risign_c rfl (hx.ext e1) (by (try simp only [val_dig, List.length_take, List.length_nil, List.length_cons, List.length_append, List.length_replicate, List.length_set, List.length_map, List.length_drop]); omega)) (fun v2 w2 e2 h2 => ?_)
  have z2 := e2.size
  obtain rfl := h2
  refine O_assign rfl rfl rfl ?_
  refine WL_end [(2, _)] ⟨rfl, trivial⟩ ?_
  refine WP_ret ?_
  refine ret1 Try.results34 rfl ?_
  exact ⟨_, rfl, (e1.trans e2), rfl⟩

theorem dtop_c {w : World} {vx : Value} {x e : Int} {bx : Bool} (hbx : bx = decide (x < 0)) (hx : Nl w vx (dig x.natAbs)) (hlx : (dig x.natAbs).length ≤ 30000) (he1 : -200000 ≤ e) (he2 : e ≤ 200000) :
    Calls Try.prog 62 #[.agg #[.bool bx, vx, .int .i64 e]] w (Ret w fun r _ => r = .int .i64 (dtop x e)) := by
  subst hbx
  have hbl := bl_dig x.natAbs
  refine enter (args := [_]) Try.func62 rfl Try.ntmps62 rfl ?_
  refine WP_seq ?_
  refine WP_region ?_
  refine O_box _ rfl rfl rfl rfl (fun g1 w1 b1 e1 gl1 gh1 => ?_)
  have z1 := e1.size
  refine O_assign rfl rfl rfl ?_
  refine WL_end [(1, _)] ⟨rfl, trivial⟩ ?_
  refine WP_seq ?_
  refine WP_seq ?_
  refine WP_region ?_
  refine O_loadA (vs := [_, _, _]) S26 rfl rfl rfl b1 rfl rfl ?_
  refine O_call enters33 rfl rfl rfl (dsign_c rfl (hx.ext e1) (by (try simp only [val_dig, List.length_take, List.length_nil, List.length_cons, List.length_append, List.length_replicate, List.length_set, List.length_map, List.length_drop]); omega)) (fun v2 w2 e2 h2 => ?_)
  have z2 := e2.size
  obtain rfl := h2
  refine O_eql rfl rfl rfl rfl rfl ?_
  refine WL_end [(1, _), (5, _)] ⟨rfl, rfl, trivial⟩ ?_
  refine WP_condD rfl (fun c5 => ?_) (fun c5 => ?_)
  · --
    refine WP_seq ?_
    refine WP_region ?_
    refine O_assign rfl rfl rfl ?_
    refine WL_end [(2, _)] ⟨rfl, trivial⟩ ?_
    refine WP_ret ?_
    refine ret1 Try.results62 rfl ?_
    have hx0 : x = 0 := sign_zero_iff.1 c5
    exact ⟨_, rfl, (e1.trans e2), by unfold dtop; rw [if_pos hx0]⟩
  · --
    refine WP_skip ?_
    refine WP_seq ?_
    refine WP_sub [(1, _)] ⟨rfl, trivial⟩ ?_
    refine WP_anyR 6 [1] mixed rfl (by kernel_rfl) ?_
    apply AnyR_val [1] rfl (by kernel_rfl)
    · --
      intro y3 hy3
      have zy3 := hy3.size
      refine AllV_nil ?_
      refine O_field F26_0 rfl rfl rfl ?_
      exact WL_nil ⟨(Ext.refl _), rfl⟩
    apply AnyR_val [6] rfl (by kernel_rfl)
    · --
      intro y4 hy4
      have zy4 := hy4.size
      refine AllV_v ?_
      refine AllV_nil ?_
      refine O_field F24_1 rfl rfl rfl ?_
      exact WL_nil ⟨(Ext.refl _), rfl⟩
    apply AnyR_val [7] rfl (by kernel_rfl)
    · --
      intro y5 hy5
      have zy5 := hy5.size
      refine AllV_v ?_
      refine AllV_nil ?_
      refine O_loadC Try.underlying22 rfl rfl rfl rfl ((b1.ext e2).ext hy5) rfl ?_
      exact WL_nil ⟨(Ext.refl _), rfl⟩
    apply AnyR_val [8] rfl (by kernel_rfl)
    · --
      intro y6 hy6
      have zy6 := hy6.size
      refine AllV_v ?_
      refine AllV_nil ?_
      refine O_call enters71 rfl rfl rfl (bits_c (hx.ext ((e1.trans e2).trans hy6)) (by (try simp only [val_dig, List.length_take, List.length_nil, List.length_cons, List.length_append, List.length_replicate, List.length_set, List.length_map, List.length_drop]); omega)) (fun v7 w7 e7 h7 => ?_)
      have z7 := e7.size
      obtain rfl := h7
      simp only [val_dig]
      exact WL_nil ⟨e7, rfl⟩
    apply AnyR_val [1] rfl (by kernel_rfl)
    · --
      intro y8 hy8
      have zy8 := hy8.size
      refine AllV_nil ?_
      refine O_field F26_1 rfl rfl rfl ?_
      exact WL_nil ⟨(Ext.refl _), rfl⟩
    apply AnyR_val [10] rfl (by kernel_rfl)
    · --
      intro y9 hy9
      have zy9 := hy9.size
      refine AllV_v ?_
      refine AllV_nil ?_
      refine O_loadC Try.underlying3 rfl rfl rfl rfl ((b1.ext e2).ext hy9) rfl ?_
      exact WL_nil ⟨(Ext.refl _), rfl⟩
    refine AnyR_nil fun y10 hy10 => ?_
    have zy10 := hy10.size
    refine AllV_v ?_
    refine AllV_v ?_
    refine AllV_v ?_
    refine AllV_v ?_
    refine AllV_v ?_
    refine AllV_v ?_
    refine AllV_nil ?_
    refine O_add rfl rfl rfl rfl (wrap_i64_id (by omega) (by omega)) ?_
    refine O_assign rfl rfl rfl ?_
    refine WL_end [(2, _)] ⟨rfl, trivial⟩ ?_
    refine WP_ret ?_
    refine ret1 Try.results62 rfl ?_
    have hx0 : x ≠ 0 := fun h => c5 (by rw [h]; rfl)
    exact ⟨_, rfl, ((e1.trans e2).trans hy10), by unfold dtop; rw [if_neg hx0]⟩

theorem dalign_c {w : World} {vx vy : Value} {x y e f : Int} {bx by_ : Bool} (hbx : bx = decide (x < 0)) (hx : Nl w vx (dig x.natAbs)) (hby : by_ = decide (y < 0)) (hy : Nl w vy (dig y.natAbs)) (hlx : (dig x.natAbs).length ≤ 30000) (hly : (dig y.natAbs).length ≤ 30000) (he1 : -200000 ≤ e) (he2 : e ≤ 200000) (hf1 : -200000 ≤ f) (hf2 : f ≤ 200000) :
    Calls Try.prog 63 #[.agg #[.bool bx, vx, .int .i64 e], .agg #[.bool by_, vy, .int .i64 f]] w (Ret w fun r w' => ∃ q s, r = .tuple #[.agg #[.bool (decide (x * 2 ^ (e - min e f).toNat < 0)), q], .agg #[.bool (decide (y * 2 ^ (f - min e f).toNat < 0)), s], .int .i64 (min e f)] ∧ No w.heap.size 93 w' q (dig (x * 2 ^ (e - min e f).toNat).natAbs) ∧ No w.heap.size 93 w' s (dig (y * 2 ^ (f - min e f).toNat).natAbs)) := by
  subst hbx
  subst hby
  refine enter (args := [_, _]) Try.func63 rfl Try.ntmps63 rfl ?_
  refine WP_seq ?_
  refine WP_region ?_
  refine O_box _ rfl rfl rfl rfl (fun g1 w1 b1 e1 gl1 gh1 => ?_)
  have z1 := e1.size
  refine O_box _ rfl rfl rfl rfl (fun g2 w2 b2 e2 gl2 gh2 => ?_)
  have z2 := e2.size
  refine O_alloc S24 rfl rfl (fun g3 w3 b3 e3 gl3 gh3 => ?_)
  have z3 := e3.size
  refine O_alloc S24 rfl rfl (fun g4 w4 b4 e4 gl4 gh4 => ?_)
  have z4 := e4.size
  refine O_assign rfl rfl rfl ?_
  refine WL_end [(2, _), (3, _), (4, _), (5, _)] ⟨rfl, rfl, rfl, rfl, trivial⟩ ?_
  refine WP_seq ?_
  refine WP_region ?_
  refine O_field F26_1 rfl rfl rfl ?_
  refine O_loadC Try.underlying3 rfl rfl rfl rfl (((b1.ext e2).ext e3).ext e4) rfl ?_
  refine O_field F26_1 rfl rfl rfl ?_
  refine O_loadC Try.underlying3 rfl rfl rfl rfl ((b2.ext e3).ext e4) rfl ?_
  refine O_min rfl rfl rfl rfl rfl ?_
  refine O_assign rfl rfl rfl ?_
  refine WL_end [(2, _), (3, _), (4, _), (5, _), (7, _)] ⟨rfl, rfl, rfl, rfl, rfl, trivial⟩ ?_
  refine WP_seq ?_
  refine WP_sub [(2, _), (3, _), (4, _), (5, _), (7, _)] ⟨rfl, rfl, rfl, rfl, rfl, trivial⟩ ?_
  have hS5 : ∀ g T, (g, T) ∈ (⟨[(g3, (24, 2)), (g4, (24, 2))], [], (w4).heap.size⟩ : SS) → (BkT w4 g T ∨ (w4).heap.size ≤ g) ∧ 93 ≠ T.1 := by
    intro g T hm; rw [mem_SS] at hm; simp only [List.mem_cons, Prod.mk.injEq, List.not_mem_nil, or_false, false_or, and_false] at hm
    rcases hm with ⟨rfl, rfl⟩ | ⟨rfl, rfl⟩
    · exact ⟨.inl ⟨_, (b3.ext e4), rfl⟩, by decide⟩
    · exact ⟨.inl ⟨_, b4, rfl⟩, by decide⟩
  have hS5n := fun g T hm => (hS5 g T hm).2
  refine WP_anySR (⟨[(g3, (24, 2)), (g4, (24, 2))], [], (w4).heap.size⟩ : SS) 17 [2, 3, 4, 5, 7] mixed rfl (by kernel_rfl) (Nat.le_refl _) ?_
  apply AnySR_val [2] rfl (by kernel_rfl)
  · --
    intro y6 hy6
    have zy6 := hy6.size
    have hyE6 : Ext w y6 := hy6.ext (((e1.trans e2).trans e3).trans e4) (by intro g T hm; rw [mem_SS] at hm; simp only [List.mem_cons, Prod.mk.injEq, List.not_mem_nil, or_false, false_or, and_false] at hm; omega)
    refine AllS_nil ?_
    refine O_field F26_0 rfl rfl rfl ?_
    exact WL_nil ⟨(Ext.refl _), rfl⟩
  apply AnySR_val [13] rfl (by kernel_rfl)
  · --
    intro y7 hy7
    have zy7 := hy7.size
    have hyE7 : Ext w y7 := hy7.ext (((e1.trans e2).trans e3).trans e4) (by intro g T hm; rw [mem_SS] at hm; simp only [List.mem_cons, Prod.mk.injEq, List.not_mem_nil, or_false, false_or, and_false] at hm; omega)
    refine AllS_v ?_
    refine AllS_nil ?_
    refine O_loadA (vs := [_, _]) S24 rfl rfl rfl ((((b1.ext e2).ext e3).ext e4).extS hy7 (by intro T hm; rw [mem_SS] at hm; simp only [List.mem_cons, Prod.mk.injEq, List.not_mem_nil, or_false, false_or, and_false] at hm; omega)) rfl rfl ?_
    exact WL_nil ⟨(Ext.refl _), rfl⟩
  apply AnySR_val [2] rfl (by kernel_rfl)
  · --
    intro y8 hy8
    have zy8 := hy8.size
    have hyE8 : Ext w y8 := hy8.ext (((e1.trans e2).trans e3).trans e4) (by intro g T hm; rw [mem_SS] at hm; simp only [List.mem_cons, Prod.mk.injEq, List.not_mem_nil, or_false, false_or, and_false] at hm; omega)
    refine AllS_nil ?_
    refine O_field F26_1 rfl rfl rfl ?_
    exact WL_nil ⟨(Ext.refl _), rfl⟩
  apply AnySR_val [15] rfl (by kernel_rfl)
  · --
    intro y9 hy9
    have zy9 := hy9.size
    have hyE9 : Ext w y9 := hy9.ext (((e1.trans e2).trans e3).trans e4) (by intro g T hm; rw [mem_SS] at hm; simp only [List.mem_cons, Prod.mk.injEq, List.not_mem_nil, or_false, false_or, and_false] at hm; omega)
    refine AllS_v ?_
    refine AllS_nil ?_
    refine O_loadC Try.underlying3 rfl rfl rfl rfl ((((b1.ext e2).ext e3).ext e4).extS hy9 (by intro T hm; rw [mem_SS] at hm; simp only [List.mem_cons, Prod.mk.injEq, List.not_mem_nil, or_false, false_or, and_false] at hm; omega)) rfl ?_
    exact WL_nil ⟨(Ext.refl _), rfl⟩
  apply AnySR_val [7] rfl (by kernel_rfl)
  · --
    intro y10 hy10
    have zy10 := hy10.size
    have hyE10 : Ext w y10 := hy10.ext (((e1.trans e2).trans e3).trans e4) (by intro g T hm; rw [mem_SS] at hm; simp only [List.mem_cons, Prod.mk.injEq, List.not_mem_nil, or_false, false_or, and_false] at hm; omega)
    refine AllS_nil ?_
    refine O_move rfl rfl rfl ?_
    exact WL_nil ⟨(Ext.refl _), rfl⟩
  apply AnySR_val [16, 17] rfl (by kernel_rfl)
  · --
    intro y11 hy11
    have zy11 := hy11.size
    have hyE11 : Ext w y11 := hy11.ext (((e1.trans e2).trans e3).trans e4) (by intro g T hm; rw [mem_SS] at hm; simp only [List.mem_cons, Prod.mk.injEq, List.not_mem_nil, or_false, false_or, and_false] at hm; omega)
    refine AllS_v ?_
    refine AllS_v ?_
    refine AllS_nil ?_
    refine O_sub (r := (((e - min e f).toNat : Nat) : Int)) rfl rfl rfl rfl (by rw [IntKind.wrap_i64]; omega) ?_
    exact WL_nil ⟨(Ext.refl _), rfl⟩
  apply AnySR_rel (RelP (pAgg [pEq _, pNo w4.heap.size 93 _])) [14, 18] rfl (RelP.monoS (pAgg_monoS (PsS.cons pEq_monoS (PsS.cons (pNo_monoS hS5n) PsS.nil)))) (by kernel_rfl)
  · --
    intro y12 hy12
    have zy12 := hy12.size
    have hyE12 : Ext w y12 := hy12.ext (((e1.trans e2).trans e3).trans e4) (by intro g T hm; rw [mem_SS] at hm; simp only [List.mem_cons, Prod.mk.injEq, List.not_mem_nil, or_false, false_or, and_false] at hm; omega)
    refine AllS_v ?_
    refine AllS_v ?_
    refine AllS_nil ?_
    refine O_call enters80 rfl rfl rfl (ishl_c rfl (hx.ext hyE12) (by (try simp only [val_dig, List.length_take, List.length_nil, List.length_cons, List.length_append, List.length_replicate, List.length_set, List.length_map, List.length_drop]); omega) (by (try simp only [val_dig, List.length_take, List.length_nil, List.length_cons, List.length_append, List.length_replicate, List.length_set, List.length_map, List.length_drop]); omega)) (fun v13 w13 e13 h13 => ?_)
    have z13 := e13.size
    try simp only [val_dig] at h13
    obtain ⟨q13, rfl, hq13⟩ := h13
    exact WL_nil ⟨e13, _, rfl, ⟨_, rfl, (AllP.cons rfl (AllP.cons (hq13.mono (by omega)) AllP.nil))⟩⟩
  apply AnySR_val [3] rfl (by kernel_rfl)
  · --
    intro y14 hy14
    have zy14 := hy14.size
    have hyE14 : Ext w y14 := hy14.ext (((e1.trans e2).trans e3).trans e4) (by intro g T hm; rw [mem_SS] at hm; simp only [List.mem_cons, Prod.mk.injEq, List.not_mem_nil, or_false, false_or, and_false] at hm; omega)
    refine AllS_nil ?_
    refine O_field F26_0 rfl rfl rfl ?_
    exact WL_nil ⟨(Ext.refl _), rfl⟩
  apply AnySR_val [20] rfl (by kernel_rfl)
  · --
    intro y15 hy15
    have zy15 := hy15.size
    have hyE15 : Ext w y15 := hy15.ext (((e1.trans e2).trans e3).trans e4) (by intro g T hm; rw [mem_SS] at hm; simp only [List.mem_cons, Prod.mk.injEq, List.not_mem_nil, or_false, false_or, and_false] at hm; omega)
    refine AllS_v ?_
    refine AllS_nil ?_
    refine O_loadA (vs := [_, _]) S24 rfl rfl rfl (((b2.ext e3).ext e4).extS hy15 (by intro T hm; rw [mem_SS] at hm; simp only [List.mem_cons, Prod.mk.injEq, List.not_mem_nil, or_false, false_or, and_false] at hm; omega)) rfl rfl ?_
    exact WL_nil ⟨(Ext.refl _), rfl⟩
  apply AnySR_val [3] rfl (by kernel_rfl)
  · --
    intro y16 hy16
    have zy16 := hy16.size
    have hyE16 : Ext w y16 := hy16.ext (((e1.trans e2).trans e3).trans e4) (by intro g T hm; rw [mem_SS] at hm; simp only [List.mem_cons, Prod.mk.injEq, List.not_mem_nil, or_false, false_or, and_false] at hm; omega)
    refine AllS_nil ?_
    refine O_field F26_1 rfl rfl rfl ?_
    exact WL_nil ⟨(Ext.refl _), rfl⟩
  apply AnySR_val [22] rfl (by kernel_rfl)
  · --
    intro y17 hy17
    have zy17 := hy17.size
    have hyE17 : Ext w y17 := hy17.ext (((e1.trans e2).trans e3).trans e4) (by intro g T hm; rw [mem_SS] at hm; simp only [List.mem_cons, Prod.mk.injEq, List.not_mem_nil, or_false, false_or, and_false] at hm; omega)
    refine AllS_v ?_
    refine AllS_nil ?_
    refine O_loadC Try.underlying3 rfl rfl rfl rfl (((b2.ext e3).ext e4).extS hy17 (by intro T hm; rw [mem_SS] at hm; simp only [List.mem_cons, Prod.mk.injEq, List.not_mem_nil, or_false, false_or, and_false] at hm; omega)) rfl ?_
    exact WL_nil ⟨(Ext.refl _), rfl⟩
  apply AnySR_val [7] rfl (by kernel_rfl)
  · --
    intro y18 hy18
    have zy18 := hy18.size
    have hyE18 : Ext w y18 := hy18.ext (((e1.trans e2).trans e3).trans e4) (by intro g T hm; rw [mem_SS] at hm; simp only [List.mem_cons, Prod.mk.injEq, List.not_mem_nil, or_false, false_or, and_false] at hm; omega)
    refine AllS_nil ?_
    refine O_move rfl rfl rfl ?_
    exact WL_nil ⟨(Ext.refl _), rfl⟩
  apply AnySR_val [23, 24] rfl (by kernel_rfl)
  · --
    intro y19 hy19
    have zy19 := hy19.size
    have hyE19 : Ext w y19 := hy19.ext (((e1.trans e2).trans e3).trans e4) (by intro g T hm; rw [mem_SS] at hm; simp only [List.mem_cons, Prod.mk.injEq, List.not_mem_nil, or_false, false_or, and_false] at hm; omega)
    refine AllS_v ?_
    refine AllS_v ?_
    refine AllS_nil ?_
    refine O_sub (r := (((f - min e f).toNat : Nat) : Int)) rfl rfl rfl rfl (by rw [IntKind.wrap_i64]; omega) ?_
    exact WL_nil ⟨(Ext.refl _), rfl⟩
  apply AnySR_rel (RelP (pAgg [pEq _, pNo w4.heap.size 93 _])) [21, 25] rfl (RelP.monoS (pAgg_monoS (PsS.cons pEq_monoS (PsS.cons (pNo_monoS hS5n) PsS.nil)))) (by kernel_rfl)
  · --
    intro y20 hy20
    have zy20 := hy20.size
    have hyE20 : Ext w y20 := hy20.ext (((e1.trans e2).trans e3).trans e4) (by intro g T hm; rw [mem_SS] at hm; simp only [List.mem_cons, Prod.mk.injEq, List.not_mem_nil, or_false, false_or, and_false] at hm; omega)
    refine AllS_v ?_
    refine AllS_v ?_
    refine AllS_nil ?_
    refine O_call enters80 rfl rfl rfl (ishl_c rfl (hy.ext hyE20) (by (try simp only [val_dig, List.length_take, List.length_nil, List.length_cons, List.length_append, List.length_replicate, List.length_set, List.length_map, List.length_drop]); omega) (by (try simp only [val_dig, List.length_take, List.length_nil, List.length_cons, List.length_append, List.length_replicate, List.length_set, List.length_map, List.length_drop]); omega)) (fun v21 w21 e21 h21 => ?_)
    have z21 := e21.size
    try simp only [val_dig] at h21
    obtain ⟨q21, rfl, hq21⟩ := h21
    exact WL_nil ⟨e21, _, rfl, ⟨_, rfl, (AllP.cons rfl (AllP.cons (hq21.mono (by omega)) AllP.nil))⟩⟩
  apply AnySR_val [7] rfl (by kernel_rfl)
  · --
    intro y22 hy22
    have zy22 := hy22.size
    have hyE22 : Ext w y22 := hy22.ext (((e1.trans e2).trans e3).trans e4) (by intro g T hm; rw [mem_SS] at hm; simp only [List.mem_cons, Prod.mk.injEq, List.not_mem_nil, or_false, false_or, and_false] at hm; omega)
    refine AllS_nil ?_
    refine O_move rfl rfl rfl ?_
    exact WL_nil ⟨(Ext.refl _), rfl⟩
  apply AnySR_st g3 (24, 2) (pSt g3 24 [pEq _, pNo w4.heap.size 93 _]) [4, 19] rfl (.inl (by simp)) (pSt_monoS (PsS.cons pEq_monoS (PsS.cons (pNo_monoS hS5n) PsS.nil))) (by exact (compat_cons ⟨trivial, trivial⟩ (compat_cons ⟨trivial, trivial⟩ (compat_cons ⟨trivial, trivial⟩ (compat_cons ⟨trivial, trivial⟩ (compat_cons ⟨trivial, trivial⟩ (compat_cons ⟨trivial, trivial⟩ (compat_cons ⟨trivial, trivial⟩ (compat_cons ⟨trivial, trivial⟩ (compat_cons ⟨trivial, trivial⟩ (compat_cons ⟨trivial, trivial⟩ (compat_cons ⟨trivial, trivial⟩ (compat_cons ⟨trivial, trivial⟩ (compat_cons ⟨trivial, trivial⟩ (compat_cons ⟨trivial, trivial⟩ (compat_cons ⟨trivial, trivial⟩ compat_nil)))))))))))))))) (by kernel_rfl)
  · --
    intro y23 hy23
    have zy23 := hy23.size
    have hyE23 : Ext w y23 := hy23.ext (((e1.trans e2).trans e3).trans e4) (by intro g T hm; rw [mem_SS] at hm; simp only [List.mem_cons, Prod.mk.injEq, List.not_mem_nil, or_false, false_or, and_false] at hm; omega)
    refine AllS_r fun a24 b24 v24 la24 lb24 lc24 h24 ap24 => ?_
    clear ap24
    obtain ⟨_, rfl, v24_0, _, rfl, rfl, v24_1, _, rfl, h24_1, rfl⟩ := h24
    refine AllS_nil ?_
    have hB23 := hy23.tag g3 (24, 2) (.inl (by simp)) ⟨_, (b3.ext e4), rfl⟩
    refine O_storeW S24 rfl rfl rfl hB23 rfl (one_cons rfl (one_cons (h24_1.nl).one one_nil)) (fun w23 b23 q23 => ?_)
    obtain ⟨cs23, hk23, hl23⟩ := hB23
    exact WL_nil ⟨⟨⟨cs23, hk23, hl23⟩, q23, ⟨_, b23, rfl⟩⟩, _, b23, (AllP.cons rfl (AllP.cons (((h24_1).mono (by omega)).chgBk hk23 (by decide) q23) AllP.nil))⟩
  apply AnySR_st g4 (24, 2) (pSt g4 24 [pEq _, pNo w4.heap.size 93 _]) [5, 26] rfl (.inl (by simp)) (pSt_monoS (PsS.cons pEq_monoS (PsS.cons (pNo_monoS hS5n) PsS.nil))) (by exact (compat_cons ⟨(show g4 ≠ g3 from by omega), (show g3 ≠ g4 from by omega)⟩ (compat_cons ⟨trivial, trivial⟩ (compat_cons ⟨trivial, trivial⟩ (compat_cons ⟨trivial, trivial⟩ (compat_cons ⟨trivial, trivial⟩ (compat_cons ⟨trivial, trivial⟩ (compat_cons ⟨trivial, trivial⟩ (compat_cons ⟨trivial, trivial⟩ (compat_cons ⟨trivial, trivial⟩ (compat_cons ⟨trivial, trivial⟩ (compat_cons ⟨trivial, trivial⟩ (compat_cons ⟨trivial, trivial⟩ (compat_cons ⟨trivial, trivial⟩ (compat_cons ⟨trivial, trivial⟩ (compat_cons ⟨trivial, trivial⟩ (compat_cons ⟨trivial, trivial⟩ compat_nil))))))))))))))))) (by kernel_rfl)
  · --
    intro y25 hy25
    have zy25 := hy25.size
    have hyE25 : Ext w y25 := hy25.ext (((e1.trans e2).trans e3).trans e4) (by intro g T hm; rw [mem_SS] at hm; simp only [List.mem_cons, Prod.mk.injEq, List.not_mem_nil, or_false, false_or, and_false] at hm; omega)
    refine AllS_r fun a26 b26 v26 la26 lb26 lc26 h26 ap26 => ?_
    clear ap26
    obtain ⟨_, rfl, v26_0, _, rfl, rfl, v26_1, _, rfl, h26_1, rfl⟩ := h26
    refine AllS_nil ?_
    have hB25 := hy25.tag g4 (24, 2) (.inl (by simp)) ⟨_, b4, rfl⟩
    refine O_storeW S24 rfl rfl rfl hB25 rfl (one_cons rfl (one_cons (h26_1.nl).one one_nil)) (fun w25 b25 q25 => ?_)
    obtain ⟨cs25, hk25, hl25⟩ := hB25
    exact WL_nil ⟨⟨⟨cs25, hk25, hl25⟩, q25, ⟨_, b25, rfl⟩⟩, _, b25, (AllP.cons rfl (AllP.cons (((h26_1).mono (by omega)).chgBk hk25 (by decide) q25) AllP.nil))⟩
  refine AnySR_nil fun y27 hy27 => ?_
  have zy27 := hy27.size
  have hyE27 : Ext w y27 := hy27.ext (((e1.trans e2).trans e3).trans e4) (by intro g T hm; rw [mem_SS] at hm; simp only [List.mem_cons, Prod.mk.injEq, List.not_mem_nil, or_false, false_or, and_false] at hm; omega)
  refine AllS_v ?_
  refine AllS_v ?_
  refine AllS_v ?_
  refine AllS_v ?_
  refine AllS_v ?_
  refine AllS_v ?_
  refine AllS_r fun a28 b28 v28 la28 lb28 lc28 h28 ap28 => ?_
  clear ap28
  obtain ⟨_, rfl, v28_0, _, rfl, rfl, v28_1, _, rfl, h28_1, rfl⟩ := h28
  refine AllS_v ?_
  refine AllS_v ?_
  refine AllS_v ?_
  refine AllS_v ?_
  refine AllS_v ?_
  refine AllS_v ?_
  refine AllS_r fun a29 b29 v29 la29 lb29 lc29 h29 ap29 => ?_
  clear ap29
  obtain ⟨_, rfl, v29_0, _, rfl, rfl, v29_1, _, rfl, h29_1, rfl⟩ := h29
  refine AllS_v ?_
  refine AllS_q fun hq30 => ?_
  obtain ⟨_, hb30, u30_0, _, rfl, rfl, u30_1, _, rfl, hu30_1, rfl⟩ := hq30
  refine AllS_q fun hq31 => ?_
  obtain ⟨_, hb31, u31_0, _, rfl, rfl, u31_1, _, rfl, hu31_1, rfl⟩ := hq31
  refine AllS_nil ?_
  refine O_assign rfl rfl rfl ?_
  refine WL_end [(4, _), (5, _), (6, _)] ⟨rfl, rfl, rfl, trivial⟩ ?_
  refine WP_ret ?_
  refine retL Try.results63 (.cell rfl S24 hb30 rfl (.cell rfl S24 hb31 rfl (.tmp rfl .nil))) ?_
  exact ⟨_, rfl, hyE27, _, _, rfl, hu30_1.mono (by omega), hu31_1.mono (by omega)⟩

set_option maxHeartbeats 2000000 in
theorem dcmp_c {w : World} {vx vy : Value} {x y e f : Int} {bx by_ : Bool} (hbx : bx = decide (x < 0)) (hx : Nl w vx (dig x.natAbs)) (hby : by_ = decide (y < 0)) (hy : Nl w vy (dig y.natAbs)) (hlx : (dig x.natAbs).length ≤ 30000) (hly : (dig y.natAbs).length ≤ 30000) (he1 : -200000 ≤ e) (he2 : e ≤ 200000) (hf1 : -200000 ≤ f) (hf2 : f ≤ 200000) :
    Calls Try.prog 35 #[.agg #[.bool bx, vx, .int .i64 e], .agg #[.bool by_, vy, .int .i64 f]] w (Ret w fun r _ => r = .int .i64 (dcmp x e y f)) := by
  subst hbx
  subst hby
  have hS1 := shl_len' (k := (e - min e f).toNat) hlx
  have hS2 := shl_len' (k := (f - min e f).toNat) hly
  have hS3 : (e - min e f).toNat ≤ 400000 := by omega
  have hS4 : (f - min e f).toNat ≤ 400000 := by omega
  replace hS1 := Nat.le_trans hS1 (show _ ≤ 80000 by omega)
  replace hS2 := Nat.le_trans hS2 (show _ ≤ 80000 by omega)
  have hsx : -1 ≤ x.sign ∧ x.sign ≤ 1 := by rcases Int.sign_trichotomy x with h | h | h <;> omega
  have hsy : -1 ≤ y.sign ∧ y.sign ≤ 1 := by rcases Int.sign_trichotomy y with h | h | h <;> omega
  refine enter (args := [_, _]) Try.func35 rfl Try.ntmps35 rfl ?_
  refine WP_seq ?_
  refine WP_region ?_
  refine O_box _ rfl rfl rfl rfl (fun g1 w1 b1 e1 gl1 gh1 => ?_)
  have z1 := e1.size
  refine O_box _ rfl rfl rfl rfl (fun g2 w2 b2 e2 gl2 gh2 => ?_)
  have z2 := e2.size
  refine O_assign rfl rfl rfl ?_
  refine WL_end [(2, _), (3, _)] ⟨rfl, rfl, trivial⟩ ?_
  refine WP_seq ?_
  refine WP_sub [(2, _), (3, _)] ⟨rfl, rfl, trivial⟩ ?_
  refine WP_anyR 3 [2, 3] mixed rfl (by kernel_rfl) ?_
  apply AnyR_val [2] rfl (by kernel_rfl)
  · --
    intro y3 hy3
    have zy3 := hy3.size
    refine AllV_nil ?_
    refine O_loadA (vs := [_, _, _]) S26 rfl rfl rfl ((b1.ext e2).ext hy3) rfl rfl ?_
    exact WL_nil ⟨(Ext.refl _), rfl⟩
  apply AnyR_val [12] rfl (by kernel_rfl)
  · --
    intro y4 hy4
    have zy4 := hy4.size
    refine AllV_v ?_
    refine AllV_nil ?_
    refine O_call enters33 rfl rfl rfl (dsign_c rfl (hx.ext ((e1.trans e2).trans hy4)) (by (try simp only [val_dig, List.length_take, List.length_nil, List.length_cons, List.length_append, List.length_replicate, List.length_set, List.length_map, List.length_drop]); omega)) (fun v5 w5 e5 h5 => ?_)
    have z5 := e5.size
    obtain rfl := h5
    exact WL_nil ⟨e5, rfl⟩
  apply AnyR_val [3] rfl (by kernel_rfl)
  · --
    intro y6 hy6
    have zy6 := hy6.size
    refine AllV_nil ?_
    refine O_loadA (vs := [_, _, _]) S26 rfl rfl rfl (b2.ext hy6) rfl rfl ?_
    exact WL_nil ⟨(Ext.refl _), rfl⟩
  refine AnyR_nil fun y7 hy7 => ?_
  have zy7 := hy7.size
  refine AllV_v ?_
  refine AllV_v ?_
  refine AllV_v ?_
  refine AllV_nil ?_
  refine O_call enters33 rfl rfl rfl (dsign_c rfl (hy.ext ((e1.trans e2).trans hy7)) (by (try simp only [val_dig, List.length_take, List.length_nil, List.length_cons, List.length_append, List.length_replicate, List.length_set, List.length_map, List.length_drop]); omega)) (fun v8 w8 e8 h8 => ?_)
  have z8 := e8.size
  obtain rfl := h8
  refine O_assign rfl rfl rfl ?_
  refine O_assign rfl rfl rfl ?_
  refine WL_end [(2, _), (3, _), (5, _), (6, _)] ⟨rfl, rfl, rfl, rfl, trivial⟩ ?_
  refine WP_seq ?_
  refine WP_block ?_
  refine WP_seq ?_
  refine WP_region ?_
  refine O_move rfl rfl rfl ?_
  refine O_move rfl rfl rfl ?_
  refine O_neq rfl rfl rfl rfl rfl ?_
  refine O_move rfl rfl rfl ?_
  refine WL_ndec 20 rfl (fun g20 => ?_) (fun g20 => ?_)
  · --
    refine O_move rfl rfl rfl ?_
    refine O_move rfl rfl rfl ?_
    refine O_lss rfl rfl rfl rfl rfl ?_
    refine O_pickT rfl rfl rfl rfl ?_
    refine O_assign rfl rfl rfl ?_
    refine WL_end [(2, _), (3, _), (5, _), (6, _), (16, _)] ⟨rfl, rfl, rfl, rfl, rfl, trivial⟩ ?_
    refine WP_condD rfl (fun c16 => ?_) (fun c16 => ?_)
    · --
      refine WP_seq ?_
      refine WP_region ?_
      refine O_assign rfl rfl rfl ?_
      refine WL_end [(4, _)] ⟨rfl, trivial⟩ ?_
      refine WP_ret ?_
      refine inBlk_ret ?_
      refine ret1 Try.results35 rfl ?_
      first
        | exact ⟨_, rfl, (((e1.trans e2).trans hy7).trans e8), rfl⟩
        | (exfalso; omega)
        | exact ⟨_, rfl, (((e1.trans e2).trans hy7).trans e8), by rw [dcmp_signs (x := x) (y := y) (by omega), if_pos (by omega)]⟩
        | exact ⟨_, rfl, (((e1.trans e2).trans hy7).trans e8), by rw [dcmp_signs (x := x) (y := y) (by omega), if_neg (by omega)]⟩
        | exact ⟨_, rfl, (((e1.trans e2).trans hy7).trans e8), by rw [sign_zero_iff.1 (show x.sign = 0 by omega), sign_zero_iff.1 (show y.sign = 0 by omega), dcmp_zero]⟩
        | exact ⟨_, rfl, (((e1.trans e2).trans hy7).trans e8), by rw [dcmp_tops (x := x) (y := y) (e := e) (f := f) (by omega) (by intro h9; apply c29; rw [h9]; rfl) (by omega), if_pos (by omega)]⟩
        | exact ⟨_, rfl, (((e1.trans e2).trans hy7).trans e8), by rw [dcmp_tops (x := x) (y := y) (e := e) (f := f) (by omega) (by intro h9; apply c29; rw [h9]; rfl) (by omega), if_neg (by omega)]⟩
    · --
      refine WP_seq ?_
      refine WP_region ?_
      refine O_move rfl rfl rfl ?_
      refine O_move rfl rfl rfl ?_
      refine O_neq rfl rfl rfl rfl rfl ?_
      refine O_assign rfl rfl rfl ?_
      refine WL_end [(2, _), (3, _), (5, _), (25, _)] ⟨rfl, rfl, rfl, rfl, trivial⟩ ?_
      refine WP_condN rfl (fun c25 => ?_) (fun c25 => ?_)
      · --
        refine WP_seq ?_
        refine WP_region ?_
        refine O_assign rfl rfl rfl ?_
        refine WL_end [(4, _)] ⟨rfl, trivial⟩ ?_
        refine WP_ret ?_
        refine inBlk_ret ?_
        refine ret1 Try.results35 rfl ?_
        first
          | exact ⟨_, rfl, (((e1.trans e2).trans hy7).trans e8), rfl⟩
          | (exfalso; omega)
          | exact ⟨_, rfl, (((e1.trans e2).trans hy7).trans e8), by rw [dcmp_signs (x := x) (y := y) (by omega), if_pos (by omega)]⟩
          | exact ⟨_, rfl, (((e1.trans e2).trans hy7).trans e8), by rw [dcmp_signs (x := x) (y := y) (by omega), if_neg (by omega)]⟩
          | exact ⟨_, rfl, (((e1.trans e2).trans hy7).trans e8), by rw [sign_zero_iff.1 (show x.sign = 0 by omega), sign_zero_iff.1 (show y.sign = 0 by omega), dcmp_zero]⟩
          | exact ⟨_, rfl, (((e1.trans e2).trans hy7).trans e8), by rw [dcmp_tops (x := x) (y := y) (e := e) (f := f) (by omega) (by intro h9; apply c29; rw [h9]; rfl) (by omega), if_pos (by omega)]⟩
          | exact ⟨_, rfl, (((e1.trans e2).trans hy7).trans e8), by rw [dcmp_tops (x := x) (y := y) (e := e) (f := f) (by omega) (by intro h9; apply c29; rw [h9]; rfl) (by omega), if_neg (by omega)]⟩
      · --
        refine WP_seq ?_
        refine WP_region ?_
        refine O_move rfl rfl rfl ?_
        refine O_eql rfl rfl rfl rfl rfl ?_
        refine O_assign rfl rfl rfl ?_
        refine WL_end [(2, _), (3, _), (5, _), (29, _)] ⟨rfl, rfl, rfl, rfl, trivial⟩ ?_
        refine WP_condD rfl (fun c29 => ?_) (fun c29 => ?_)
        · --
          refine WP_seq ?_
          refine WP_region ?_
          refine O_assign rfl rfl rfl ?_
          refine WL_end [(4, _)] ⟨rfl, trivial⟩ ?_
          refine WP_ret ?_
          refine inBlk_ret ?_
          refine ret1 Try.results35 rfl ?_
          first
            | exact ⟨_, rfl, (((e1.trans e2).trans hy7).trans e8), rfl⟩
            | (exfalso; omega)
            | exact ⟨_, rfl, (((e1.trans e2).trans hy7).trans e8), by rw [dcmp_signs (x := x) (y := y) (by omega), if_pos (by omega)]⟩
            | exact ⟨_, rfl, (((e1.trans e2).trans hy7).trans e8), by rw [dcmp_signs (x := x) (y := y) (by omega), if_neg (by omega)]⟩
            | exact ⟨_, rfl, (((e1.trans e2).trans hy7).trans e8), by rw [sign_zero_iff.1 (show x.sign = 0 by omega), sign_zero_iff.1 (show y.sign = 0 by omega), dcmp_zero]⟩
            | exact ⟨_, rfl, (((e1.trans e2).trans hy7).trans e8), by rw [dcmp_tops (x := x) (y := y) (e := e) (f := f) (by omega) (by intro h9; apply c29; rw [h9]; rfl) (by omega), if_pos (by omega)]⟩
            | exact ⟨_, rfl, (((e1.trans e2).trans hy7).trans e8), by rw [dcmp_tops (x := x) (y := y) (e := e) (f := f) (by omega) (by intro h9; apply c29; rw [h9]; rfl) (by omega), if_neg (by omega)]⟩
        · --
          refine WP_skip ?_
          refine WP_seq ?_
          refine WP_seq ?_
          refine WP_sub [(2, _), (3, _), (5, _)] ⟨rfl, rfl, rfl, trivial⟩ ?_
          refine WP_anyR 3 [2, 3, 5] mixed rfl (by kernel_rfl) ?_
          apply AnyR_val [2] rfl (by kernel_rfl)
          · --
            intro y9 hy9
            have zy9 := hy9.size
            refine AllV_nil ?_
            refine O_loadA (vs := [_, _, _]) S26 rfl rfl rfl ((((b1.ext e2).ext hy7).ext e8).ext hy9) rfl rfl ?_
            exact WL_nil ⟨(Ext.refl _), rfl⟩
          apply AnyR_val [32] rfl (by kernel_rfl)
          · --
            intro y10 hy10
            have zy10 := hy10.size
            refine AllV_v ?_
            refine AllV_nil ?_
            refine O_call enters62 rfl rfl rfl (dtop_c rfl (hx.ext ((((e1.trans e2).trans hy7).trans e8).trans hy10)) (by (try simp only [val_dig, List.length_take, List.length_nil, List.length_cons, List.length_append, List.length_replicate, List.length_set, List.length_map, List.length_drop]); omega) (by (try simp only [val_dig, List.length_take, List.length_nil, List.length_cons, List.length_append, List.length_replicate, List.length_set, List.length_map, List.length_drop]); omega) (by (try simp only [val_dig, List.length_take, List.length_nil, List.length_cons, List.length_append, List.length_replicate, List.length_set, List.length_map, List.length_drop]); omega)) (fun v11 w11 e11 h11 => ?_)
            have z11 := e11.size
            obtain rfl := h11
            exact WL_nil ⟨e11, rfl⟩
          apply AnyR_val [3] rfl (by kernel_rfl)
          · --
            intro y12 hy12
            have zy12 := hy12.size
            refine AllV_nil ?_
            refine O_loadA (vs := [_, _, _]) S26 rfl rfl rfl (((b2.ext hy7).ext e8).ext hy12) rfl rfl ?_
            exact WL_nil ⟨(Ext.refl _), rfl⟩
          refine AnyR_nil fun y13 hy13 => ?_
          have zy13 := hy13.size
          refine AllV_v ?_
          refine AllV_v ?_
          refine AllV_v ?_
          refine AllV_nil ?_
          refine O_call enters62 rfl rfl rfl (dtop_c rfl (hy.ext ((((e1.trans e2).trans hy7).trans e8).trans hy13)) (by (try simp only [val_dig, List.length_take, List.length_nil, List.length_cons, List.length_append, List.length_replicate, List.length_set, List.length_map, List.length_drop]); omega) (by (try simp only [val_dig, List.length_take, List.length_nil, List.length_cons, List.length_append, List.length_replicate, List.length_set, List.length_map, List.length_drop]); omega) (by (try simp only [val_dig, List.length_take, List.length_nil, List.length_cons, List.length_append, List.length_replicate, List.length_set, List.length_map, List.length_drop]); omega)) (fun v14 w14 e14 h14 => ?_)
          have z14 := e14.size
          obtain rfl := h14
          refine O_assign rfl rfl rfl ?_
          refine O_assign rfl rfl rfl ?_
          refine WL_end [(2, _), (3, _), (5, _), (7, _), (8, _)] ⟨rfl, rfl, rfl, rfl, rfl, trivial⟩ ?_
          refine WP_seq ?_
          refine WP_region ?_
          refine O_move rfl rfl rfl ?_
          refine O_move rfl rfl rfl ?_
          refine O_neq rfl rfl rfl rfl rfl ?_
          refine WL_end [(2, _), (3, _), (5, _), (7, _), (8, _), (38, _)] ⟨rfl, rfl, rfl, rfl, rfl, rfl, trivial⟩ ?_
          refine WP_condN rfl (fun c38 => ?_) (fun c38 => ?_)
          · --
            refine WP_seq ?_
            refine WP_seq ?_
            refine WP_region ?_
            refine O_move rfl rfl rfl ?_
            refine O_move rfl rfl rfl ?_
            refine O_lss rfl rfl rfl rfl rfl ?_
            refine WL_end [(5, _), (41, _)] ⟨rfl, rfl, trivial⟩ ?_
            refine WP_condD rfl (fun c41 => ?_) (fun c41 => ?_)
            · --
              refine WP_seq ?_
              refine WP_region ?_
              refine O_move rfl rfl rfl ?_
              refine O_neg (r := (-x.sign)) rfl rfl rfl (by rw [IntKind.wrap_i64]; omega) ?_
              refine O_assign rfl rfl rfl ?_
              refine WL_end [(4, _)] ⟨rfl, trivial⟩ ?_
              refine WP_ret ?_
              refine ret1 Try.results35 rfl ?_
              first
                | exact ⟨_, rfl, (((((e1.trans e2).trans hy7).trans e8).trans hy13).trans e14), rfl⟩
                | (exfalso; omega)
                | exact ⟨_, rfl, (((((e1.trans e2).trans hy7).trans e8).trans hy13).trans e14), by rw [dcmp_signs (x := x) (y := y) (by omega), if_pos (by omega)]⟩
                | exact ⟨_, rfl, (((((e1.trans e2).trans hy7).trans e8).trans hy13).trans e14), by rw [dcmp_signs (x := x) (y := y) (by omega), if_neg (by omega)]⟩
                | exact ⟨_, rfl, (((((e1.trans e2).trans hy7).trans e8).trans hy13).trans e14), by rw [sign_zero_iff.1 (show x.sign = 0 by omega), sign_zero_iff.1 (show y.sign = 0 by omega), dcmp_zero]⟩
                | exact ⟨_, rfl, (((((e1.trans e2).trans hy7).trans e8).trans hy13).trans e14), by rw [dcmp_tops (x := x) (y := y) (e := e) (f := f) (by omega) (by intro h9; apply c29; rw [h9]; rfl) (by omega), if_pos (by omega)]⟩
                | exact ⟨_, rfl, (((((e1.trans e2).trans hy7).trans e8).trans hy13).trans e14), by rw [dcmp_tops (x := x) (y := y) (e := e) (f := f) (by omega) (by intro h9; apply c29; rw [h9]; rfl) (by omega), if_neg (by omega)]⟩
            · --
              refine WP_skip ?_
              refine WP_seq ?_
              refine WP_region ?_
              refine O_move rfl rfl rfl ?_
              refine O_assign rfl rfl rfl ?_
              refine WL_end [(4, _)] ⟨rfl, trivial⟩ ?_
              refine WP_ret ?_
              refine ret1 Try.results35 rfl ?_
              first
                | exact ⟨_, rfl, (((((e1.trans e2).trans hy7).trans e8).trans hy13).trans e14), rfl⟩
                | (exfalso; omega)
                | exact ⟨_, rfl, (((((e1.trans e2).trans hy7).trans e8).trans hy13).trans e14), by rw [dcmp_signs (x := x) (y := y) (by omega), if_pos (by omega)]⟩
                | exact ⟨_, rfl, (((((e1.trans e2).trans hy7).trans e8).trans hy13).trans e14), by rw [dcmp_signs (x := x) (y := y) (by omega), if_neg (by omega)]⟩
                | exact ⟨_, rfl, (((((e1.trans e2).trans hy7).trans e8).trans hy13).trans e14), by rw [sign_zero_iff.1 (show x.sign = 0 by omega), sign_zero_iff.1 (show y.sign = 0 by omega), dcmp_zero]⟩
                | exact ⟨_, rfl, (((((e1.trans e2).trans hy7).trans e8).trans hy13).trans e14), by rw [dcmp_tops (x := x) (y := y) (e := e) (f := f) (by omega) (by intro h9; apply c29; rw [h9]; rfl) (by omega), if_pos (by omega)]⟩
                | exact ⟨_, rfl, (((((e1.trans e2).trans hy7).trans e8).trans hy13).trans e14), by rw [dcmp_tops (x := x) (y := y) (e := e) (f := f) (by omega) (by intro h9; apply c29; rw [h9]; rfl) (by omega), if_neg (by omega)]⟩
          · --
            refine WP_skip ?_
            refine WP_seq ?_
            refine WP_region ?_
            refine O_loadA (vs := [_, _, _]) S26 rfl rfl rfl (((((b1.ext e2).ext hy7).ext e8).ext hy13).ext e14) rfl rfl ?_
            refine O_loadA (vs := [_, _, _]) S26 rfl rfl rfl ((((b2.ext hy7).ext e8).ext hy13).ext e14) rfl rfl ?_
            refine O_call enters63 rfl rfl rfl (dalign_c rfl (hx.ext (((((e1.trans e2).trans hy7).trans e8).trans hy13).trans e14)) rfl (hy.ext (((((e1.trans e2).trans hy7).trans e8).trans hy13).trans e14)) (by (try simp only [val_dig, List.length_take, List.length_nil, List.length_cons, List.length_append, List.length_replicate, List.length_set, List.length_map, List.length_drop]); omega) (by (try simp only [val_dig, List.length_take, List.length_nil, List.length_cons, List.length_append, List.length_replicate, List.length_set, List.length_map, List.length_drop]); omega) (by (try simp only [val_dig, List.length_take, List.length_nil, List.length_cons, List.length_append, List.length_replicate, List.length_set, List.length_map, List.length_drop]); omega) (by (try simp only [val_dig, List.length_take, List.length_nil, List.length_cons, List.length_append, List.length_replicate, List.length_set, List.length_map, List.length_drop]); omega) (by (try simp only [val_dig, List.length_take, List.length_nil, List.length_cons, List.length_append, List.length_replicate, List.length_set, List.length_map, List.length_drop]); omega) (by (try simp only [val_dig, List.length_take, List.length_nil, List.length_cons, List.length_append, List.length_replicate, List.length_set, List.length_map, List.length_drop]); omega)) (fun v15 w15 e15 h15 => ?_)
            have z15 := e15.size
            try simp only [val_dig] at h15
            obtain ⟨q15, s15, rfl, hq15, hs15⟩ := h15
            refine O_move rfl rfl rfl ?_
            refine O_extract rfl rfl rfl rfl ?_
            refine O_extract rfl rfl rfl rfl ?_
            refine O_extract rfl rfl rfl rfl ?_
            refine O_alloc S24 rfl rfl (fun g16 w16 b16 e16 gl16 gh16 => ?_)
            have z16 := e16.size
            refine O_alloc S24 rfl rfl (fun g17 w17 b17 e17 gl17 gh17 => ?_)
            have z17 := e17.size
            refine O_storeA (cs' := [_, _]) S24 rfl rfl rfl (b16.ext e17) rfl rfl (one_cons rfl (one_cons (((hq15.ext e16).ext e17).nl).one one_nil)) rfl (fun w18 b18 q18 => ?_)
            have z18 := Nat.le_of_eq q18.size.symm
            have e18 : Ext w w18 := q18.ext ((((((((e1.trans e2).trans hy7).trans e8).trans hy13).trans e14).trans e15).trans e16).trans e17) (by omega)
            refine O_storeA (cs' := [_, _]) S24 rfl rfl rfl (b17.chg q18 (by first | assumption | omega)) rfl rfl (one_cons rfl (one_cons ((((hs15.ext e16).ext e17).chgBk (b16.ext e17) (by decide) q18).nl).one one_nil)) rfl (fun w19 b19 q19 => ?_)
            have z19 := Nat.le_of_eq q19.size.symm
            have e19 : Ext w w19 := q19.ext e18 (by omega)
            refine O_assign rfl rfl rfl ?_
            refine WL_end [(9, _), (10, _)] ⟨rfl, rfl, trivial⟩ ?_
            refine WP_seq ?_
            refine WP_region ?_
            refine O_loadA (vs := [_, _]) S24 rfl rfl rfl (b18.chg q19 (by first | assumption | omega)) rfl rfl ?_
            refine O_loadA (vs := [_, _]) S24 rfl rfl rfl b19 rfl rfl ?_
            refine O_call enters64 rfl rfl rfl (icmp_c rfl ((((hq15.ext e16).ext e17).chgBk (b16.ext e17) (by decide) q18).chgBk (b17.chg q18 (by first | assumption | omega)) (by decide) q19).nl rfl ((((hs15.ext e16).ext e17).chgBk (b16.ext e17) (by decide) q18).chgBk (b17.chg q18 (by first | assumption | omega)) (by decide) q19).nl (by (try simp only [val_dig, List.length_take, List.length_nil, List.length_cons, List.length_append, List.length_replicate, List.length_set, List.length_map, List.length_drop]); omega) (by (try simp only [val_dig, List.length_take, List.length_nil, List.length_cons, List.length_append, List.length_replicate, List.length_set, List.length_map, List.length_drop]); omega)) (fun v20 w20 e20 h20 => ?_)
            have z20 := e20.size
            obtain rfl := h20
            refine O_assign rfl rfl rfl ?_
            refine WL_end [(4, _)] ⟨rfl, trivial⟩ ?_
            refine WP_ret ?_
            refine ret1 Try.results35 rfl ?_
            first
              | exact ⟨_, rfl, (e19.trans e20), rfl⟩
              | (exfalso; omega)
              | exact ⟨_, rfl, (e19.trans e20), by rw [dcmp_signs (x := x) (y := y) (by omega), if_pos (by omega)]⟩
              | exact ⟨_, rfl, (e19.trans e20), by rw [dcmp_signs (x := x) (y := y) (by omega), if_neg (by omega)]⟩
              | exact ⟨_, rfl, (e19.trans e20), by rw [sign_zero_iff.1 (show x.sign = 0 by omega), sign_zero_iff.1 (show y.sign = 0 by omega), dcmp_zero]⟩
              | exact ⟨_, rfl, (e19.trans e20), by rw [dcmp_tops (x := x) (y := y) (e := e) (f := f) (by omega) (by intro h9; apply c29; rw [h9]; rfl) (by omega), if_pos (by omega)]⟩
              | exact ⟨_, rfl, (e19.trans e20), by rw [dcmp_tops (x := x) (y := y) (e := e) (f := f) (by omega) (by intro h9; apply c29; rw [h9]; rfl) (by omega), if_neg (by omega)]⟩
  · --
    refine O_skip rfl rfl ?_
    refine O_skip rfl rfl ?_
    refine O_skip rfl rfl ?_
    refine O_pickF rfl rfl rfl rfl ?_
    refine O_assign rfl rfl rfl ?_
    refine WL_end [(2, _), (3, _), (5, _), (6, _), (16, _)] ⟨rfl, rfl, rfl, rfl, rfl, trivial⟩ ?_
    refine WP_condF rfl ?_
    refine WP_seq ?_
    refine WP_region ?_
    refine O_move rfl rfl rfl ?_
    refine O_move rfl rfl rfl ?_
    refine O_neq rfl rfl rfl rfl rfl ?_
    refine O_assign rfl rfl rfl ?_
    refine WL_end [(2, _), (3, _), (5, _), (25, _)] ⟨rfl, rfl, rfl, rfl, trivial⟩ ?_
    refine WP_condN rfl (fun c25 => ?_) (fun c25 => ?_)
    · --
      refine WP_seq ?_
      refine WP_region ?_
      refine O_assign rfl rfl rfl ?_
      refine WL_end [(4, _)] ⟨rfl, trivial⟩ ?_
      refine WP_ret ?_
      refine inBlk_ret ?_
      refine ret1 Try.results35 rfl ?_
      first
        | exact ⟨_, rfl, (((e1.trans e2).trans hy7).trans e8), rfl⟩
        | (exfalso; omega)
        | exact ⟨_, rfl, (((e1.trans e2).trans hy7).trans e8), by rw [dcmp_signs (x := x) (y := y) (by omega), if_pos (by omega)]⟩
        | exact ⟨_, rfl, (((e1.trans e2).trans hy7).trans e8), by rw [dcmp_signs (x := x) (y := y) (by omega), if_neg (by omega)]⟩
        | exact ⟨_, rfl, (((e1.trans e2).trans hy7).trans e8), by rw [sign_zero_iff.1 (show x.sign = 0 by omega), sign_zero_iff.1 (show y.sign = 0 by omega), dcmp_zero]⟩
        | exact ⟨_, rfl, (((e1.trans e2).trans hy7).trans e8), by rw [dcmp_tops (x := x) (y := y) (e := e) (f := f) (by omega) (by intro h9; apply c29; rw [h9]; rfl) (by omega), if_pos (by omega)]⟩
        | exact ⟨_, rfl, (((e1.trans e2).trans hy7).trans e8), by rw [dcmp_tops (x := x) (y := y) (e := e) (f := f) (by omega) (by intro h9; apply c29; rw [h9]; rfl) (by omega), if_neg (by omega)]⟩
    · --
      refine WP_seq ?_
      refine WP_region ?_
      refine O_move rfl rfl rfl ?_
      refine O_eql rfl rfl rfl rfl rfl ?_
      refine O_assign rfl rfl rfl ?_
      refine WL_end [(2, _), (3, _), (5, _), (29, _)] ⟨rfl, rfl, rfl, rfl, trivial⟩ ?_
      refine WP_condD rfl (fun c29 => ?_) (fun c29 => ?_)
      · --
        refine WP_seq ?_
        refine WP_region ?_
        refine O_assign rfl rfl rfl ?_
        refine WL_end [(4, _)] ⟨rfl, trivial⟩ ?_
        refine WP_ret ?_
        refine inBlk_ret ?_
        refine ret1 Try.results35 rfl ?_
        first
          | exact ⟨_, rfl, (((e1.trans e2).trans hy7).trans e8), rfl⟩
          | (exfalso; omega)
          | exact ⟨_, rfl, (((e1.trans e2).trans hy7).trans e8), by rw [dcmp_signs (x := x) (y := y) (by omega), if_pos (by omega)]⟩
          | exact ⟨_, rfl, (((e1.trans e2).trans hy7).trans e8), by rw [dcmp_signs (x := x) (y := y) (by omega), if_neg (by omega)]⟩
          | exact ⟨_, rfl, (((e1.trans e2).trans hy7).trans e8), by rw [sign_zero_iff.1 (show x.sign = 0 by omega), sign_zero_iff.1 (show y.sign = 0 by omega), dcmp_zero]⟩
          | exact ⟨_, rfl, (((e1.trans e2).trans hy7).trans e8), by rw [dcmp_tops (x := x) (y := y) (e := e) (f := f) (by omega) (by intro h9; apply c29; rw [h9]; rfl) (by omega), if_pos (by omega)]⟩
          | exact ⟨_, rfl, (((e1.trans e2).trans hy7).trans e8), by rw [dcmp_tops (x := x) (y := y) (e := e) (f := f) (by omega) (by intro h9; apply c29; rw [h9]; rfl) (by omega), if_neg (by omega)]⟩
      · --
        refine WP_skip ?_
        refine WP_seq ?_
        refine WP_seq ?_
        refine WP_sub [(2, _), (3, _), (5, _)] ⟨rfl, rfl, rfl, trivial⟩ ?_
        refine WP_anyR 3 [2, 3, 5] mixed rfl (by kernel_rfl) ?_
        apply AnyR_val [2] rfl (by kernel_rfl)
        · --
          intro y21 hy21
          have zy21 := hy21.size
          refine AllV_nil ?_
          refine O_loadA (vs := [_, _, _]) S26 rfl rfl rfl ((((b1.ext e2).ext hy7).ext e8).ext hy21) rfl rfl ?_
          exact WL_nil ⟨(Ext.refl _), rfl⟩
        apply AnyR_val [32] rfl (by kernel_rfl)
        · --
          intro y22 hy22
          have zy22 := hy22.size
          refine AllV_v ?_
          refine AllV_nil ?_
          refine O_call enters62 rfl rfl rfl (dtop_c rfl (hx.ext ((((e1.trans e2).trans hy7).trans e8).trans hy22)) (by (try simp only [val_dig, List.length_take, List.length_nil, List.length_cons, List.length_append, List.length_replicate, List.length_set, List.length_map, List.length_drop]); omega) (by (try simp only [val_dig, List.length_take, List.length_nil, List.length_cons, List.length_append, List.length_replicate, List.length_set, List.length_map, List.length_drop]); omega) (by (try simp only [val_dig, List.length_take, List.length_nil, List.length_cons, List.length_append, List.length_replicate, List.length_set, List.length_map, List.length_drop]); omega)) (fun v23 w23 e23 h23 => ?_)
          have z23 := e23.size
          obtain rfl := h23
          exact WL_nil ⟨e23, rfl⟩
        apply AnyR_val [3] rfl (by kernel_rfl)
        · --
          intro y24 hy24
          have zy24 := hy24.size
          refine AllV_nil ?_
          refine O_loadA (vs := [_, _, _]) S26 rfl rfl rfl (((b2.ext hy7).ext e8).ext hy24) rfl rfl ?_
          exact WL_nil ⟨(Ext.refl _), rfl⟩
        refine AnyR_nil fun y25 hy25 => ?_
        have zy25 := hy25.size
        refine AllV_v ?_
        refine AllV_v ?_
        refine AllV_v ?_
        refine AllV_nil ?_
        refine O_call enters62 rfl rfl rfl (dtop_c rfl (hy.ext ((((e1.trans e2).trans hy7).trans e8).trans hy25)) (by (try simp only [val_dig, List.length_take, List.length_nil, List.length_cons, List.length_append, List.length_replicate, List.length_set, List.length_map, List.length_drop]); omega) (by (try simp only [val_dig, List.length_take, List.length_nil, List.length_cons, List.length_append, List.length_replicate, List.length_set, List.length_map, List.length_drop]); omega) (by (try simp only [val_dig, List.length_take, List.length_nil, List.length_cons, List.length_append, List.length_replicate, List.length_set, List.length_map, List.length_drop]); omega)) (fun v26 w26 e26 h26 => ?_)
        have z26 := e26.size
        obtain rfl := h26
        refine O_assign rfl rfl rfl ?_
        refine O_assign rfl rfl rfl ?_
        refine WL_end [(2, _), (3, _), (5, _), (7, _), (8, _)] ⟨rfl, rfl, rfl, rfl, rfl, trivial⟩ ?_
        refine WP_seq ?_
        refine WP_region ?_
        refine O_move rfl rfl rfl ?_
        refine O_move rfl rfl rfl ?_
        refine O_neq rfl rfl rfl rfl rfl ?_
        refine WL_end [(2, _), (3, _), (5, _), (7, _), (8, _), (38, _)] ⟨rfl, rfl, rfl, rfl, rfl, rfl, trivial⟩ ?_
        refine WP_condN rfl (fun c38 => ?_) (fun c38 => ?_)
        · --
          refine WP_seq ?_
          refine WP_seq ?_
          refine WP_region ?_
          refine O_move rfl rfl rfl ?_
          refine O_move rfl rfl rfl ?_
          refine O_lss rfl rfl rfl rfl rfl ?_
          refine WL_end [(5, _), (41, _)] ⟨rfl, rfl, trivial⟩ ?_
          refine WP_condD rfl (fun c41 => ?_) (fun c41 => ?_)
          · --
            refine WP_seq ?_
            refine WP_region ?_
            refine O_move rfl rfl rfl ?_
            refine O_neg (r := (-x.sign)) rfl rfl rfl (by rw [IntKind.wrap_i64]; omega) ?_
            refine O_assign rfl rfl rfl ?_
            refine WL_end [(4, _)] ⟨rfl, trivial⟩ ?_
            refine WP_ret ?_
            refine ret1 Try.results35 rfl ?_
            first
              | exact ⟨_, rfl, (((((e1.trans e2).trans hy7).trans e8).trans hy25).trans e26), rfl⟩
              | (exfalso; omega)
              | exact ⟨_, rfl, (((((e1.trans e2).trans hy7).trans e8).trans hy25).trans e26), by rw [dcmp_signs (x := x) (y := y) (by omega), if_pos (by omega)]⟩
              | exact ⟨_, rfl, (((((e1.trans e2).trans hy7).trans e8).trans hy25).trans e26), by rw [dcmp_signs (x := x) (y := y) (by omega), if_neg (by omega)]⟩
              | exact ⟨_, rfl, (((((e1.trans e2).trans hy7).trans e8).trans hy25).trans e26), by rw [sign_zero_iff.1 (show x.sign = 0 by omega), sign_zero_iff.1 (show y.sign = 0 by omega), dcmp_zero]⟩
              | exact ⟨_, rfl, (((((e1.trans e2).trans hy7).trans e8).trans hy25).trans e26), by rw [dcmp_tops (x := x) (y := y) (e := e) (f := f) (by omega) (by intro h9; apply c29; rw [h9]; rfl) (by omega), if_pos (by omega)]⟩
              | exact ⟨_, rfl, (((((e1.trans e2).trans hy7).trans e8).trans hy25).trans e26), by rw [dcmp_tops (x := x) (y := y) (e := e) (f := f) (by omega) (by intro h9; apply c29; rw [h9]; rfl) (by omega), if_neg (by omega)]⟩
          · --
            refine WP_skip ?_
            refine WP_seq ?_
            refine WP_region ?_
            refine O_move rfl rfl rfl ?_
            refine O_assign rfl rfl rfl ?_
            refine WL_end [(4, _)] ⟨rfl, trivial⟩ ?_
            refine WP_ret ?_
            refine ret1 Try.results35 rfl ?_
            first
              | exact ⟨_, rfl, (((((e1.trans e2).trans hy7).trans e8).trans hy25).trans e26), rfl⟩
              | (exfalso; omega)
              | exact ⟨_, rfl, (((((e1.trans e2).trans hy7).trans e8).trans hy25).trans e26), by rw [dcmp_signs (x := x) (y := y) (by omega), if_pos (by omega)]⟩
              | exact ⟨_, rfl, (((((e1.trans e2).trans hy7).trans e8).trans hy25).trans e26), by rw [dcmp_signs (x := x) (y := y) (by omega), if_neg (by omega)]⟩
              | exact ⟨_, rfl, (((((e1.trans e2).trans hy7).trans e8).trans hy25).trans e26), by rw [sign_zero_iff.1 (show x.sign = 0 by omega), sign_zero_iff.1 (show y.sign = 0 by omega), dcmp_zero]⟩
              | exact ⟨_, rfl, (((((e1.trans e2).trans hy7).trans e8).trans hy25).trans e26), by rw [dcmp_tops (x := x) (y := y) (e := e) (f := f) (by omega) (by intro h9; apply c29; rw [h9]; rfl) (by omega), if_pos (by omega)]⟩
              | exact ⟨_, rfl, (((((e1.trans e2).trans hy7).trans e8).trans hy25).trans e26), by rw [dcmp_tops (x := x) (y := y) (e := e) (f := f) (by omega) (by intro h9; apply c29; rw [h9]; rfl) (by omega), if_neg (by omega)]⟩
        · --
          refine WP_skip ?_
          refine WP_seq ?_
          refine WP_region ?_
          refine O_loadA (vs := [_, _, _]) S26 rfl rfl rfl (((((b1.ext e2).ext hy7).ext e8).ext hy25).ext e26) rfl rfl ?_
          refine O_loadA (vs := [_, _, _]) S26 rfl rfl rfl ((((b2.ext hy7).ext e8).ext hy25).ext e26) rfl rfl ?_
          refine O_call enters63 rfl rfl rfl (dalign_c rfl (hx.ext (((((e1.trans e2).trans hy7).trans e8).trans hy25).trans e26)) rfl (hy.ext (((((e1.trans e2).trans hy7).trans e8).trans hy25).trans e26)) (by (try simp only [val_dig, List.length_take, List.length_nil, List.length_cons, List.length_append, List.length_replicate, List.length_set, List.length_map, List.length_drop]); omega) (by (try simp only [val_dig, List.length_take, List.length_nil, List.length_cons, List.length_append, List.length_replicate, List.length_set, List.length_map, List.length_drop]); omega) (by (try simp only [val_dig, List.length_take, List.length_nil, List.length_cons, List.length_append, List.length_replicate, List.length_set, List.length_map, List.length_drop]); omega) (by (try simp only [val_dig, List.length_take, List.length_nil, List.length_cons, List.length_append, List.length_replicate, List.length_set, List.length_map, List.length_drop]); omega) (by (try simp only [val_dig, List.length_take, List.length_nil, List.length_cons, List.length_append, List.length_replicate, List.length_set, List.length_map, List.length_drop]); omega) (by (try simp only [val_dig, List.length_take, List.length_nil, List.length_cons, List.length_append, List.length_replicate, List.length_set, List.length_map, List.length_drop]); omega)) (fun v27 w27 e27 h27 => ?_)
          have z27 := e27.size
          try simp only [val_dig] at h27
          obtain ⟨q27, s27, rfl, hq27, hs27⟩ := h27
          refine O_move rfl rfl rfl ?_
          refine O_extract rfl rfl rfl rfl ?_
          refine O_extract rfl rfl rfl rfl ?_
          refine O_extract rfl rfl rfl rfl ?_
          refine O_alloc S24 rfl rfl (fun g28 w28 b28 e28 gl28 gh28 => ?_)
          have z28 := e28.size
          refine O_alloc S24 rfl rfl (fun g29 w29 b29 e29 gl29 gh29 => ?_)
          have z29 := e29.size
          refine O_storeA (cs' := [_, _]) S24 rfl rfl rfl (b28.ext e29) rfl rfl (one_cons rfl (one_cons (((hq27.ext e28).ext e29).nl).one one_nil)) rfl (fun w30 b30 q30 => ?_)
          have z30 := Nat.le_of_eq q30.size.symm
          have e30 : Ext w w30 := q30.ext ((((((((e1.trans e2).trans hy7).trans e8).trans hy25).trans e26).trans e27).trans e28).trans e29) (by omega)
          refine O_storeA (cs' := [_, _]) S24 rfl rfl rfl (b29.chg q30 (by first | assumption | omega)) rfl rfl (one_cons rfl (one_cons ((((hs27.ext e28).ext e29).chgBk (b28.ext e29) (by decide) q30).nl).one one_nil)) rfl (fun w31 b31 q31 => ?_)
          have z31 := Nat.le_of_eq q31.size.symm
          have e31 : Ext w w31 := q31.ext e30 (by omega)
          refine O_assign rfl rfl rfl ?_
          refine WL_end [(9, _), (10, _)] ⟨rfl, rfl, trivial⟩ ?_
          refine WP_seq ?_
          refine WP_region ?_
          refine O_loadA (vs := [_, _]) S24 rfl rfl rfl (b30.chg q31 (by first | assumption | omega)) rfl rfl ?_
          refine O_loadA (vs := [_, _]) S24 rfl rfl rfl b31 rfl rfl ?_
          refine O_call enters64 rfl rfl rfl (icmp_c rfl ((((hq27.ext e28).ext e29).chgBk (b28.ext e29) (by decide) q30).chgBk (b29.chg q30 (by first | assumption | omega)) (by decide) q31).nl rfl ((((hs27.ext e28).ext e29).chgBk (b28.ext e29) (by decide) q30).chgBk (b29.chg q30 (by first | assumption | omega)) (by decide) q31).nl (by (try simp only [val_dig, List.length_take, List.length_nil, List.length_cons, List.length_append, List.length_replicate, List.length_set, List.length_map, List.length_drop]); omega) (by (try simp only [val_dig, List.length_take, List.length_nil, List.length_cons, List.length_append, List.length_replicate, List.length_set, List.length_map, List.length_drop]); omega)) (fun v32 w32 e32 h32 => ?_)
          have z32 := e32.size
          obtain rfl := h32
          refine O_assign rfl rfl rfl ?_
          refine WL_end [(4, _)] ⟨rfl, trivial⟩ ?_
          refine WP_ret ?_
          refine ret1 Try.results35 rfl ?_
          first
            | exact ⟨_, rfl, (e31.trans e32), rfl⟩
            | (exfalso; omega)
            | exact ⟨_, rfl, (e31.trans e32), by rw [dcmp_signs (x := x) (y := y) (by omega), if_pos (by omega)]⟩
            | exact ⟨_, rfl, (e31.trans e32), by rw [dcmp_signs (x := x) (y := y) (by omega), if_neg (by omega)]⟩
            | exact ⟨_, rfl, (e31.trans e32), by rw [sign_zero_iff.1 (show x.sign = 0 by omega), sign_zero_iff.1 (show y.sign = 0 by omega), dcmp_zero]⟩
            | exact ⟨_, rfl, (e31.trans e32), by rw [dcmp_tops (x := x) (y := y) (e := e) (f := f) (by omega) (by intro h9; apply c29; rw [h9]; rfl) (by omega), if_pos (by omega)]⟩
            | exact ⟨_, rfl, (e31.trans e32), by rw [dcmp_tops (x := x) (y := y) (e := e) (f := f) (by omega) (by intro h9; apply c29; rw [h9]; rfl) (by omega), if_neg (by omega)]⟩

theorem rdcmp_c {w : World} {vx vy : Value} {x y e f : Int} {bx by_ : Bool} (hbx : bx = decide (x < 0)) (hx : Nl w vx (dig x.natAbs)) (hby : by_ = decide (y < 0)) (hy : Nl w vy (dig y.natAbs)) (hlx : (dig x.natAbs).length ≤ 30000) (hly : (dig y.natAbs).length ≤ 30000) (he1 : -200000 ≤ e) (he2 : e ≤ 200000) (hf1 : -200000 ≤ f) (hf2 : f ≤ 200000) :
    Calls Try.prog 19 #[.agg #[.bool bx, vx, .int .i64 e], .agg #[.bool by_, vy, .int .i64 f]] w (Ret w fun r _ => r = .int .i64 (dcmp x e y f)) := by
  subst hbx
  subst hby
  have hS1 := shl_len' (k := (e - min e f).toNat) hlx
  have hS2 := shl_len' (k := (f - min e f).toNat) hly
  have hS3 : (e - min e f).toNat ≤ 400000 := by omega
  have hS4 : (f - min e f).toNat ≤ 400000 := by omega
  replace hS1 := Nat.le_trans hS1 (show _ ≤ 80000 by omega)
  replace hS2 := Nat.le_trans hS2 (show _ ≤ 80000 by omega)
  refine enter (args := [_, _]) Try.func19 rfl Try.ntmps19 rfl ?_
  refine WP_seq ?_
  refine WP_region ?_
  refine O_box _ rfl rfl rfl rfl (fun g1 w1 b1 e1 gl1 gh1 => ?_)
  have z1 := e1.size
  refine O_box _ rfl rfl rfl rfl (fun g2 w2 b2 e2 gl2 gh2 => ?_)
  have z2 := e2.size
  refine O_assign rfl rfl rfl ?_
  refine WL_end [(2, _), (3, _)] ⟨rfl, rfl, trivial⟩ ?_
  refine WP_seq ?_
  refine WP_region ?_
  refine O_field F26_1 rfl rfl rfl ?_
  refine O_loadC Try.underlying3 rfl rfl rfl rfl (b1.ext e2) rfl ?_
  refine O_field F26_1 rfl rfl rfl ?_
  refine O_loadC Try.underlying3 rfl rfl rfl rfl b2 rfl ?_
  refine O_min rfl rfl rfl rfl rfl ?_
  refine O_assign rfl rfl rfl ?_
  refine WL_end [(2, _), (3, _), (5, _)] ⟨rfl, rfl, rfl, trivial⟩ ?_
  refine WP_seq ?_
  refine WP_sub [(2, _), (3, _), (5, _)] ⟨rfl, rfl, rfl, trivial⟩ ?_
  refine WP_anyR 13 [2, 3, 5] mixed rfl (by kernel_rfl) ?_
  apply AnyR_val [2] rfl (by kernel_rfl)
  · --
    intro y3 hy3
    have zy3 := hy3.size
    refine AllV_nil ?_
    refine O_field F26_0 rfl rfl rfl ?_
    exact WL_nil ⟨(Ext.refl _), rfl⟩
  apply AnyR_val [11] rfl (by kernel_rfl)
  · --
    intro y4 hy4
    have zy4 := hy4.size
    refine AllV_v ?_
    refine AllV_nil ?_
    refine O_loadA (vs := [_, _]) S24 rfl rfl rfl ((b1.ext e2).ext hy4) rfl rfl ?_
    exact WL_nil ⟨(Ext.refl _), rfl⟩
  apply AnyR_val [2] rfl (by kernel_rfl)
  · --
    intro y5 hy5
    have zy5 := hy5.size
    refine AllV_nil ?_
    refine O_field F26_1 rfl rfl rfl ?_
    exact WL_nil ⟨(Ext.refl _), rfl⟩
  apply AnyR_val [13] rfl (by kernel_rfl)
  · --
    intro y6 hy6
    have zy6 := hy6.size
    refine AllV_v ?_
    refine AllV_nil ?_
    refine O_loadC Try.underlying3 rfl rfl rfl rfl ((b1.ext e2).ext hy6) rfl ?_
    exact WL_nil ⟨(Ext.refl _), rfl⟩
  apply AnyR_val [5] rfl (by kernel_rfl)
  · --
    intro y7 hy7
    have zy7 := hy7.size
    refine AllV_nil ?_
    refine O_move rfl rfl rfl ?_
    exact WL_nil ⟨(Ext.refl _), rfl⟩
  apply AnyR_val [14, 15] rfl (by kernel_rfl)
  · --
    intro y8 hy8
    have zy8 := hy8.size
    refine AllV_v ?_
    refine AllV_v ?_
    refine AllV_nil ?_
    refine O_sub (r := (((e - min e f).toNat : Nat) : Int)) rfl rfl rfl rfl (by rw [IntKind.wrap_i64]; omega) ?_
    exact WL_nil ⟨(Ext.refl _), rfl⟩
  apply AnyR_rel (RelP (pAgg [pEq _, pNo w2.heap.size 93 _])) [12, 16] rfl (RelP.mono (pAgg_mono (PsM.cons pEq_mono (PsM.cons pNo_mono PsM.nil)))) (by kernel_rfl)
  · --
    intro y9 hy9
    have zy9 := hy9.size
    refine AllV_v ?_
    refine AllV_v ?_
    refine AllV_nil ?_
    refine O_call enters46 rfl rfl rfl (rishl_c rfl (hx.ext ((e1.trans e2).trans hy9)) (by (try simp only [val_dig, List.length_take, List.length_nil, List.length_cons, List.length_append, List.length_replicate, List.length_set, List.length_map, List.length_drop]); omega) (by (try simp only [val_dig, List.length_take, List.length_nil, List.length_cons, List.length_append, List.length_replicate, List.length_set, List.length_map, List.length_drop]); omega)) (fun v10 w10 e10 h10 => ?_)
    have z10 := e10.size
    try simp only [val_dig] at h10
    obtain ⟨q10, rfl, hq10⟩ := h10
    exact WL_nil ⟨e10, _, rfl, ⟨_, rfl, (AllP.cons rfl (AllP.cons (hq10.mono (by omega)) AllP.nil))⟩⟩
  apply AnyR_val [3] rfl (by kernel_rfl)
  · --
    intro y11 hy11
    have zy11 := hy11.size
    refine AllV_nil ?_
    refine O_field F26_0 rfl rfl rfl ?_
    exact WL_nil ⟨(Ext.refl _), rfl⟩
  apply AnyR_val [18] rfl (by kernel_rfl)
  · --
    intro y12 hy12
    have zy12 := hy12.size
    refine AllV_v ?_
    refine AllV_nil ?_
    refine O_loadA (vs := [_, _]) S24 rfl rfl rfl (b2.ext hy12) rfl rfl ?_
    exact WL_nil ⟨(Ext.refl _), rfl⟩
  apply AnyR_val [3] rfl (by kernel_rfl)
  · --
    intro y13 hy13
    have zy13 := hy13.size
    refine AllV_nil ?_
    refine O_field F26_1 rfl rfl rfl ?_
    exact WL_nil ⟨(Ext.refl _), rfl⟩
  apply AnyR_val [20] rfl (by kernel_rfl)
  · --
    intro y14 hy14
    have zy14 := hy14.size
    refine AllV_v ?_
    refine AllV_nil ?_
    refine O_loadC Try.underlying3 rfl rfl rfl rfl (b2.ext hy14) rfl ?_
    exact WL_nil ⟨(Ext.refl _), rfl⟩
  apply AnyR_val [5] rfl (by kernel_rfl)
  · --
    intro y15 hy15
    have zy15 := hy15.size
    refine AllV_nil ?_
    refine O_move rfl rfl rfl ?_
    exact WL_nil ⟨(Ext.refl _), rfl⟩
  apply AnyR_val [21, 22] rfl (by kernel_rfl)
  · --
    intro y16 hy16
    have zy16 := hy16.size
    refine AllV_v ?_
    refine AllV_v ?_
    refine AllV_nil ?_
    refine O_sub (r := (((f - min e f).toNat : Nat) : Int)) rfl rfl rfl rfl (by rw [IntKind.wrap_i64]; omega) ?_
    exact WL_nil ⟨(Ext.refl _), rfl⟩
  refine AnyR_nil fun y17 hy17 => ?_
  have zy17 := hy17.size
  refine AllV_v ?_
  refine AllV_v ?_
  refine AllV_v ?_
  refine AllV_v ?_
  refine AllV_v ?_
  refine AllV_v ?_
  refine AllV_r fun a18 b18 v18 la18 lb18 lc18 h18 ap18 => ?_
  clear ap18
  obtain ⟨_, rfl, v18_0, _, rfl, rfl, v18_1, _, rfl, h18_1, rfl⟩ := h18
  refine AllV_v ?_
  refine AllV_v ?_
  refine AllV_v ?_
  refine AllV_v ?_
  refine AllV_v ?_
  refine AllV_v ?_
  refine AllV_nil ?_
  refine O_call enters46 rfl rfl rfl (rishl_c rfl (hy.ext ((e1.trans e2).trans hy17)) (by (try simp only [val_dig, List.length_take, List.length_nil, List.length_cons, List.length_append, List.length_replicate, List.length_set, List.length_map, List.length_drop]); omega) (by (try simp only [val_dig, List.length_take, List.length_nil, List.length_cons, List.length_append, List.length_replicate, List.length_set, List.length_map, List.length_drop]); omega)) (fun v19 w19 e19 h19 => ?_)
  have z19 := e19.size
  try simp only [val_dig] at h19
  obtain ⟨q19, rfl, hq19⟩ := h19
  refine O_call enters45 rfl rfl rfl (ricmp_c rfl (h18_1.ext e19).nl rfl hq19.nl (by (try simp only [val_dig, List.length_take, List.length_nil, List.length_cons, List.length_append, List.length_replicate, List.length_set, List.length_map, List.length_drop]); omega) (by (try simp only [val_dig, List.length_take, List.length_nil, List.length_cons, List.length_append, List.length_replicate, List.length_set, List.length_map, List.length_drop]); omega)) (fun v20 w20 e20 h20 => ?_)
  have z20 := e20.size
  obtain rfl := h20
  refine O_assign rfl rfl rfl ?_
  refine WL_end [(4, _)] ⟨rfl, trivial⟩ ?_
  refine WP_ret ?_
  refine ret1 Try.results19 rfl ?_
  exact ⟨_, rfl, ((((e1.trans e2).trans hy17).trans e19).trans e20), rfl⟩

theorem rdsame_c {w : World} {vx vy : Value} {lx ly : List Nat} {bx by_ : Bool} {e f : Int} (hb : bx = by_) (hx : Nl w vx lx) (hy : Nl w vy ly) (hlx : lx.length ≤ 100000000) (hly : ly.length ≤ 100000000) (hl : lx = ly) (he : e = f) :
    Calls Try.prog 47 #[.agg #[.bool bx, vx, .int .i64 e], .agg #[.bool by_, vy, .int .i64 f]] w (Ret w fun r _ => r = .bool true) := by
  refine enter (args := [_, _]) Try.func47 rfl Try.ntmps47 rfl ?_
  refine WP_seq ?_
  refine WP_region ?_
  refine O_box _ rfl rfl rfl rfl (fun g1 w1 b1 e1 gl1 gh1 => ?_)
  have z1 := e1.size
  refine O_box _ rfl rfl rfl rfl (fun g2 w2 b2 e2 gl2 gh2 => ?_)
  have z2 := e2.size
  refine O_assign rfl rfl rfl ?_
  refine WL_end [(2, _), (3, _)] ⟨rfl, rfl, trivial⟩ ?_
  refine WP_seq ?_
  refine WP_region ?_
  refine O_field F26_1 rfl rfl rfl ?_
  refine O_loadC Try.underlying3 rfl rfl rfl rfl (b1.ext e2) rfl ?_
  refine O_field F26_1 rfl rfl rfl ?_
  refine O_loadC Try.underlying3 rfl rfl rfl rfl b2 rfl ?_
  refine O_eql (t := true) rfl rfl rfl rfl (decide_eq_true he) ?_
  refine O_move rfl rfl rfl ?_
  refine O_field F26_0 rfl rfl rfl ?_
  refine O_loadA (vs := [_, _]) S24 rfl rfl rfl (b1.ext e2) rfl rfl ?_
  refine O_field F26_0 rfl rfl rfl ?_
  refine O_loadA (vs := [_, _]) S24 rfl rfl rfl b2 rfl rfl ?_
  refine O_call enters76 rfl rfl rfl (isame_c hb (hx.ext (e1.trans e2)) (hy.ext (e1.trans e2)) (by (try simp only [val_dig, List.length_take, List.length_nil, List.length_cons, List.length_append, List.length_replicate, List.length_set, List.length_map, List.length_drop]); omega) (by (try simp only [val_dig, List.length_take, List.length_nil, List.length_cons, List.length_append, List.length_replicate, List.length_set, List.length_map, List.length_drop]); omega) hl) (fun v3 w3 e3 h3 => ?_)
  have z3 := e3.size
  obtain rfl := h3
  refine O_pickT rfl rfl rfl rfl ?_
  refine O_assign rfl rfl rfl ?_
  refine WL_end [(4, _)] ⟨rfl, trivial⟩ ?_
  refine WP_ret ?_
  refine ret1 Try.results47 rfl ?_
  exact ⟨_, rfl, ((e1.trans e2).trans e3), rfl⟩

end Go.Proofs.Ythbfhljpfkicpaa
