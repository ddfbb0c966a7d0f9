/-
  Walks.
-/
import Derived.Test.YthbfhljpfkicpaaDoorV4
set_option linter.unusedVariables false
set_option linter.unusedSimpArgs false
set_option maxRecDepth 100000
namespace Go.Proofs.YthbfhljpfkicpaaDoor
open Go Go.RowKit
theorem rneg07_c {w : World} {vp vq : Value} {p : Int} {q : Nat} {bp : Bool} (hbp : bp = decide (p < 0)) (hp : Nl w vp (dig p.natAbs)) (hq : Nl w vq (dig q)) (hlp : (dig p.natAbs).length ≤ 30000) (hlq : (dig q).length ≤ 30000) :
    Calls Tryd.prog 28 #[.agg #[.bool bp, vp, vq]] w (Ret w fun r w' => ∃ a b, r = .agg #[.bool (decide (-p < 0)), a, b] ∧ Nl w' a (dig (-p).natAbs) ∧ Nl w' b (dig q)) := by
 subst hbp
 refine enter (args := [_]) Tryd.func28 rfl Tryd.ntmps28 rfl ?_
 refine WP_seq ?_
 refine WP_region ?_
 refine O_box _ rfl rfl rfl rfl (fun g1 w1 b1 e1 gl1 gh1 => ?_)
 have z1 := e1.size
 refine O_alloc S40 rfl rfl (fun g2 w2 b2 e2 gl2 gh2 => ?_)
 have z2 := e2.size
 refine WL_end [(1, _), (2, _)] ⟨rfl, rfl, trivial⟩ ?_
 refine WP_seq ?_
 refine WP_sub [(1, _), (2, _)] ⟨rfl, rfl, trivial⟩ ?_
 refine WP_anyR 5 [1, 2] mixed rfl (by kernel_rfl) ?_
 apply AnyR_val [1] rfl (by kernel_rfl)
 · --
  intro y3 hy3
  have zy3 := hy3.size
  refine AllV_nil ?_
  refine O_field F40_0 rfl rfl rfl ?_
  exact WL_nil ⟨(Ext.refl _), rfl⟩
 apply AnyR_val [3] rfl (by kernel_rfl)
 · --
  intro y4 hy4
  have zy4 := hy4.size
  refine AllV_v ?_
  refine AllV_nil ?_
  refine O_loadA (vs := [_, _]) S24 rfl rfl rfl ((b1.ext e2).ext hy4) rfl rfl ?_
  exact WL_nil ⟨(Ext.refl _), rfl⟩
 apply AnyR_rel (RelP (pAgg [pEq _, pNo w2.heap.size 111 _])) [4] rfl (RelP.mono (pAgg_mono (PsM.cons pEq_mono (PsM.cons pNo_mono PsM.nil)))) (by kernel_rfl)
 · --
  intro y5 hy5
  have zy5 := hy5.size
  refine AllV_v ?_
  refine AllV_nil ?_
  refine O_call enters82 rfl rfl rfl (rineg_c rfl (hp.ext ((e1.trans e2).trans hy5)) (by (try simp only [lens]); omega)) (fun v6 w6 e6 h6 => ?_)
  have z6 := e6.size
  try simp only [val_dig] at h6
  obtain ⟨q6, rfl, hq6⟩ := h6
  exact WL_nil ⟨e6, _, rfl, ⟨_, rfl, (AllP.cons rfl (AllP.cons (hq6.mono (by omega)) AllP.nil))⟩⟩
 apply AnyR_val [1] rfl (by kernel_rfl)
 · --
  intro y7 hy7
  have zy7 := hy7.size
  refine AllV_nil ?_
  refine O_field F40_1 rfl rfl rfl ?_
  exact WL_nil ⟨(Ext.refl _), rfl⟩
 apply AnyR_val [6] rfl (by kernel_rfl)
 · --
  intro y8 hy8
  have zy8 := hy8.size
  refine AllV_v ?_
  refine AllV_nil ?_
  refine O_loadC Tryd.underlying22 rfl rfl rfl rfl ((b1.ext e2).ext hy8) rfl ?_
  exact WL_nil ⟨(Ext.refl _), rfl⟩
 refine AnyR_nil fun y9 hy9 => ?_
 have zy9 := hy9.size
 refine AllV_v ?_
 refine AllV_v ?_
 refine AllV_r fun a10 b10 v10 la10 lb10 lc10 h10 ap10 => ?_
 clear ap10
 obtain ⟨_, rfl, v10_0, _, rfl, rfl, v10_1, _, rfl, h10_1, rfl⟩ := h10
 refine AllV_v ?_
 refine AllV_v ?_
 refine AllV_nil ?_
 refine O_build (cs := [_, _, _]) B40 rfl rfl rfl (cells_cons rfl (cells_cons ((hq.ext ((e1.trans e2).trans hy9))).cells1 cells_nil)) rfl ?_
 refine O_storeA (cs' := [_, _, _]) S40 rfl rfl rfl (b2.ext hy9) rfl rfl (one_cons rfl (one_cons (h10_1.nl).one (one_cons ((hq.ext ((e1.trans e2).trans hy9))).one one_nil))) rfl (fun w11 b11 q11 => ?_)
 have z11 := Nat.le_of_eq q11.size.symm
 have e11 : Ext w w11 := q11.ext ((e1.trans e2).trans hy9) (by omega)
 refine WL_end [(2, _)] ⟨rfl, trivial⟩ ?_
 refine WP_ret ?_
 refine retL Tryd.results28 (.cell rfl S40 b11 rfl .nil) ?_
 exact ⟨_, rfl, e11, _, _, rfl, (h10_1.chgBk (b2.ext hy9) (by decide) q11).nl, (hq.ext e11)⟩

end Go.Proofs.YthbfhljpfkicpaaDoor
