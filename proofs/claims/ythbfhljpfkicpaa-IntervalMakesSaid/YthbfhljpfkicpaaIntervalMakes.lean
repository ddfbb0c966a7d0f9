/-
  IntervalMakes: for every input the law returns true, and each argument reads afterwards as before. No condition.
-/
import Derived.Test.YthbfhljpfkicpaaRows
import Derived.Test.YthbfhljpfkicpaaVL4
import Derived.Test.YthbfhljpfkicpaaShell
import Derived.WalkKit
import Derived.ProofKit
import Derived.OpenShut
import Derived.ShutString
import Derived.ChangeOld
import Derived.Below
import Derived.Carry
import Derived.Lib.SmallJoins
namespace Go.Proofs.Ythbfhljpfkicpaa.intervalMakes
open Go.ChangeShapes Go.WideShapes Go.ChangeAt Go.RowKit Go.Joins Go.Deep
open Go.ChangeMaps (open_string shut_string)
set_option linter.unusedVariables false

theorem own : ownKnob Try.prog.godebug = none := by kernel_rfl
theorem laidOut : laidOutB Try.prog = true := by kernel_rfl

set_option maxRecDepth 100000 in
theorem lifted (os : Os) (started : os.Started) (H : Type) (enc : TypeId × Value → H) :
    ReturnsInHanded {} Try.checked os 4 .any (Rows.intervalMakesSpec.pre6 enc Try.prog Try.f4 Rows.intervalMakesRow.domain false) (Rows.intervalMakesSpec.post enc Try.prog Try.f4 false true false false) := by
  refine returnsInHanded_of_change (C := Try.checked) own started (by kernel_rfl) Try.func4
    (ChangeSpec.witness6 (enc := enc) (C := Try.checked) false ⟨#[], #[.agg #[.bool false, .slice none 0 0, .int .i64 0, .bool false, .slice none 0 0, .int .i64 0], .agg #[.bool false, .slice none 0 0, .int .i64 0], .agg #[.bool false, .slice none 0 0, .int .i64 0]], []⟩ 8 (by kernel_rfl) (by kernel_rfl) (by kernel_rfl) (by kernel_rfl)) ?_
  intro W base args ds gs before hval0 hW hcnd _
  have hval : ∀ (j : Nat) t v, Try.f4.params[j]? = some t → args[j]? = some v → Value.okWide Try.prog W .any base t v := hval0
  have hW' := hW
  obtain ⟨p, q, hA0, hV, rfl, hfz, hnd⟩ := hW
  have hA : DataW.TrodAll enc Try.prog W 0 (fun _ => true) true Try.f4.params.toList args.toList ds p := hA0
  rw [Try.params4] at hA hval
  obtain ⟨v0, vs0, d0, ds0, p0, q0, hargs, rfl, rfl, h0, r0⟩ := trodAll_cons hA
  obtain ⟨v1, vs1, d1, ds1, p1, q1, rfl, rfl, rfl, h1, r1⟩ := trodAll_cons r0
  obtain ⟨v2, vs2, d2, ds2, p2, q2, rfl, rfl, rfl, h2, r2⟩ := trodAll_cons r1
  obtain ⟨rfl, rfl, rfl⟩ := trodAll_nil r2
  obtain rfl : args = #[v0, v1, v2] := by cases args; simp_all
  obtain ⟨rfl, rfl⟩ := trodVars_none hV
  have k0 := h0
  have lt0 : ∀ x ∈ p0, x.block < W.heap.size := by obtain ⟨m, hm⟩ := k0; exact DataW.trod_lt m _ _ _ hm
  obtain ⟨cs0, rfl, hz0⟩ := okWide_struct Try.underlying28 (hval 0 28 v0 rfl rfl)
  obtain ⟨v0_0, v0_1, v0_2, v0_3, v0_4, v0_5, rfl⟩ := arr6 (hz0.trans (by kernel_rfl))
  obtain ⟨fu0, hf0⟩ := h0
  obtain ⟨fug0_1, yg0_1, g0_1⟩ := open_field Try.underlying28 hf0 0 _ rfl 0 3 rfl (by kernel_rfl)
  obtain ⟨fug0_2, yg0_2, g0_2⟩ := open_field Try.underlying26 g0_1 0 _ rfl 0 2 rfl (by kernel_rfl)
  obtain ⟨fug0_3, yg0_3, g0_3⟩ := open_field Try.underlying24 g0_2 0 _ rfl 0 1 rfl (by kernel_rfl)
  replace g0_3 : DataW.trod enc Try.prog W 0 (fun _ => true) true _ 4 [v0_0] = some _ := g0_3
  obtain ⟨fug0_4, yg0_4, g0_4⟩ := open_field Try.underlying24 g0_2 1 _ rfl 1 1 rfl (by kernel_rfl)
  replace g0_4 : DataW.trod enc Try.prog W 0 (fun _ => true) true _ 22 [v0_1] = some _ := g0_4
  obtain ⟨fug0_5, yg0_5, g0_5⟩ := open_field Try.underlying26 g0_1 1 _ rfl 2 1 rfl (by kernel_rfl)
  replace g0_5 : DataW.trod enc Try.prog W 0 (fun _ => true) true _ 3 [v0_2] = some _ := g0_5
  obtain ⟨fug0_6, yg0_6, g0_6⟩ := open_field Try.underlying28 hf0 1 _ rfl 3 3 rfl (by kernel_rfl)
  obtain ⟨fug0_7, yg0_7, g0_7⟩ := open_field Try.underlying26 g0_6 0 _ rfl 0 2 rfl (by kernel_rfl)
  obtain ⟨fug0_8, yg0_8, g0_8⟩ := open_field Try.underlying24 g0_7 0 _ rfl 0 1 rfl (by kernel_rfl)
  replace g0_8 : DataW.trod enc Try.prog W 0 (fun _ => true) true _ 4 [v0_3] = some _ := g0_8
  obtain ⟨fug0_9, yg0_9, g0_9⟩ := open_field Try.underlying24 g0_7 1 _ rfl 1 1 rfl (by kernel_rfl)
  replace g0_9 : DataW.trod enc Try.prog W 0 (fun _ => true) true _ 22 [v0_4] = some _ := g0_9
  obtain ⟨fug0_10, yg0_10, g0_10⟩ := open_field Try.underlying26 g0_6 1 _ rfl 2 1 rfl (by kernel_rfl)
  replace g0_10 : DataW.trod enc Try.prog W 0 (fun _ => true) true _ 3 [v0_5] = some _ := g0_10
  obtain ⟨b0_0, hb0_0, _⟩ := DataW.trod_bool Try.underlying4 g0_3
  obtain rfl := List.singleton_inj.1 hb0_0
  obtain ⟨l0_1, h0_1⟩ := Nl_of_trod Try.underlying22 Try.underlying93 (by kernel_rfl) g0_4
  obtain ⟨n0_2, hb0_2, _, m0_2⟩ := DataW.trod_int Try.underlying3 g0_5
  obtain rfl := List.singleton_inj.1 hb0_2
  obtain ⟨b0_3, hb0_3, _⟩ := DataW.trod_bool Try.underlying4 g0_8
  obtain rfl := List.singleton_inj.1 hb0_3
  obtain ⟨l0_4, h0_4⟩ := Nl_of_trod Try.underlying22 Try.underlying93 (by kernel_rfl) g0_9
  obtain ⟨n0_5, hb0_5, _, m0_5⟩ := DataW.trod_int Try.underlying3 g0_10
  obtain rfl := List.singleton_inj.1 hb0_5
  have k1 := h1
  have lt1 : ∀ x ∈ p1, x.block < W.heap.size := by obtain ⟨m, hm⟩ := k1; exact DataW.trod_lt m _ _ _ hm
  obtain ⟨cs1, rfl, hz1⟩ := okWide_struct Try.underlying26 (hval 1 26 v1 rfl rfl)
  obtain ⟨v1_0, v1_1, v1_2, rfl⟩ := arr3 (hz1.trans (by kernel_rfl))
  obtain ⟨fu1, hf1⟩ := h1
  obtain ⟨fug1_1, yg1_1, g1_1⟩ := open_field Try.underlying26 hf1 0 _ rfl 0 2 rfl (by kernel_rfl)
  obtain ⟨fug1_2, yg1_2, g1_2⟩ := open_field Try.underlying24 g1_1 0 _ rfl 0 1 rfl (by kernel_rfl)
  replace g1_2 : DataW.trod enc Try.prog W 0 (fun _ => true) true _ 4 [v1_0] = some _ := g1_2
  obtain ⟨fug1_3, yg1_3, g1_3⟩ := open_field Try.underlying24 g1_1 1 _ rfl 1 1 rfl (by kernel_rfl)
  replace g1_3 : DataW.trod enc Try.prog W 0 (fun _ => true) true _ 22 [v1_1] = some _ := g1_3
  obtain ⟨fug1_4, yg1_4, g1_4⟩ := open_field Try.underlying26 hf1 1 _ rfl 2 1 rfl (by kernel_rfl)
  replace g1_4 : DataW.trod enc Try.prog W 0 (fun _ => true) true _ 3 [v1_2] = some _ := g1_4
  obtain ⟨b1_0, hb1_0, _⟩ := DataW.trod_bool Try.underlying4 g1_2
  obtain rfl := List.singleton_inj.1 hb1_0
  obtain ⟨l1_1, h1_1⟩ := Nl_of_trod Try.underlying22 Try.underlying93 (by kernel_rfl) g1_3
  obtain ⟨n1_2, hb1_2, _, m1_2⟩ := DataW.trod_int Try.underlying3 g1_4
  obtain rfl := List.singleton_inj.1 hb1_2
  have k2 := h2
  have lt2 : ∀ x ∈ p2, x.block < W.heap.size := by obtain ⟨m, hm⟩ := k2; exact DataW.trod_lt m _ _ _ hm
  obtain ⟨cs2, rfl, hz2⟩ := okWide_struct Try.underlying26 (hval 2 26 v2 rfl rfl)
  obtain ⟨v2_0, v2_1, v2_2, rfl⟩ := arr3 (hz2.trans (by kernel_rfl))
  obtain ⟨fu2, hf2⟩ := h2
  obtain ⟨fug2_1, yg2_1, g2_1⟩ := open_field Try.underlying26 hf2 0 _ rfl 0 2 rfl (by kernel_rfl)
  obtain ⟨fug2_2, yg2_2, g2_2⟩ := open_field Try.underlying24 g2_1 0 _ rfl 0 1 rfl (by kernel_rfl)
  replace g2_2 : DataW.trod enc Try.prog W 0 (fun _ => true) true _ 4 [v2_0] = some _ := g2_2
  obtain ⟨fug2_3, yg2_3, g2_3⟩ := open_field Try.underlying24 g2_1 1 _ rfl 1 1 rfl (by kernel_rfl)
  replace g2_3 : DataW.trod enc Try.prog W 0 (fun _ => true) true _ 22 [v2_1] = some _ := g2_3
  obtain ⟨fug2_4, yg2_4, g2_4⟩ := open_field Try.underlying26 hf2 1 _ rfl 2 1 rfl (by kernel_rfl)
  replace g2_4 : DataW.trod enc Try.prog W 0 (fun _ => true) true _ 3 [v2_2] = some _ := g2_4
  obtain ⟨b2_0, hb2_0, _⟩ := DataW.trod_bool Try.underlying4 g2_2
  obtain rfl := List.singleton_inj.1 hb2_0
  obtain ⟨l2_1, h2_1⟩ := Nl_of_trod Try.underlying22 Try.underlying93 (by kernel_rfl) g2_3
  obtain ⟨n2_2, hb2_2, _, m2_2⟩ := DataW.trod_int Try.underlying3 g2_4
  obtain rfl := List.singleton_inj.1 hb2_2
  clear hA0 hval0
  refine (law_IntervalMakes h0_1 h0_4 h1_1 h2_1).mono fun e W' h => ?_
  obtain ⟨u, he, bel, hu⟩ := h
  subst he hu
  exact ⟨_, rfl, _, _, _, [], _, [], hW', trodAll_mk1 (shut_bool Try.underlying4 _), (trodAll_cons_mk (Below.trod laidOut (by kernel_rfl) (of_decide_eq_true (by kernel_rfl)) k0 bel lt0) (trodAll_cons_mk (Below.trod laidOut (by kernel_rfl) (of_decide_eq_true (by kernel_rfl)) k1 bel lt1) (trodAll_cons_mk (Below.trod laidOut (by kernel_rfl) (of_decide_eq_true (by kernel_rfl)) k2 bel lt2) trodAll_mk0))), rfl, bel.frame _, fun h => by cases h⟩

theorem over : Rows.intervalMakesRow.holds Try.pinned (OpenSpec.ofChange Rows.intervalMakesSpec) :=
  OpenClaim.holds_of_wide 4 Try.f4 rfl rfl rfl rfl rfl rfl rfl ⟨rfl, rfl, rfl, rfl, rfl⟩ rfl rfl rfl rfl rfl (by kernel_rfl) Try.func4 (by kernel_rfl)
    (of_decide_eq_true (by kernel_rfl)) (by unfold Func.isWrapper; first | (rw [if_pos (by decide +kernel)]; kernel_rfl) | (rw [if_neg (by decide +kernel)]; exact ⟨rfl, rfl⟩))
    (fun os started H enc _ => lifted os started H enc)

/-- The statement. -/
theorem proved : Rows.IntervalMakesSaid := over
#print axioms proved
end Go.Proofs.Ythbfhljpfkicpaa.intervalMakes
