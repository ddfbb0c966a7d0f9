/-
  DyadicExact: for every input the law returns true, and each argument reads afterwards as before; the listed table as the text lays it.
-/
import Derived.Test.YtnfnadhbjdcbnaaGreatDoorRows
import Derived.Test.YtnfnadhbjdcbnaaGreatDoorCards
import Derived.Test.YtnfnadhbjdcbnaaGreatDoorTie
import Derived.Test.YtnfnadhbjdcbnaaGreatDoorTabl
import Derived.Test.YtnfnadhbjdcbnaaGreatDoorEL1
import Derived.Test.YtnfnadhbjdcbnaaGreatDoorShell
import Derived.WalkKit
import Derived.ProofKit
import Derived.OpenShut
import Derived.ShutString
import Derived.ChangeOld
import Derived.Below
import Derived.Carry
import Derived.Lib.SmallJoins
import Derived.Lay
import Derived.LaidMore
import Derived.SevenTiedAt
namespace Go.Proofs.YtnfnadhbjdcbnaaGreatDoor.dyadicExact
open Go.ChangeShapes Go.WideShapes Go.ChangeAt Go.RowKit Go.Joins Go.Deep
open Go.ChangeMaps (open_string shut_string)
set_option linter.unusedVariables false

theorem own : ownKnob Tryz.prog.godebug = none := by kernel_rfl
theorem laidOut : laidOutB Tryz.prog = true := by kernel_rfl

set_option maxRecDepth 100000 in
theorem lifted (os : Os) (started : os.Started) (H : Type) (enc : TypeId × Value → H) :
    ReturnsInHanded {} Tryz.checked os 3 .any (fun w args => (Rows.dyadicExactSpec.pre enc Tryz.prog Tryz.f3 [] false w args ∧ laidMetH Tryz.prog Rows.dyadicExactRow.laid w) ∧ sizedMet enc Tryz.prog Tryz.f3 (OpenSpec.ofChange Rows.dyadicExactSpec) false w args)
      (Rows.dyadicExactSpec.post enc Tryz.prog Tryz.f3 false true false false) := by
  refine returnsInHanded_of_change_and (C := Tryz.checked) (X := fun w _ => laidMetH Tryz.prog Rows.dyadicExactRow.laid w) (fun _ _ _ hh h => h.of_heap hh) own started (by kernel_rfl) Tryz.func3
    (ChangeSpec.witness_shaped (enc := enc) (C := Tryz.checked) (os := os) (X := fun w _ => laidMetH Tryz.prog Rows.dyadicExactRow.laid w) false (World.laidAll Tryz.prog os Rows.dyadicExactRow.laid) #[.agg #[.bool false, .slice none 0 0, .int .i64 0], .agg #[.bool false, .slice none 0 0, .int .i64 0]] 8 (World.laidAll_os _ _ _)
      (World.shaped_of_ZipB (by kernel_rfl) (by kernel_rfl)) (by kernel_rfl) (by kernel_rfl) (by kernel_rfl)
      (by rw [MakeChecks.laidMetH_plain _ _ _ (by kernel_rfl)]; exact laidMet_laidAll _ (by kernel_rfl) (by kernel_rfl))) ?_
  intro W base args ds gs before hval0 hW _ _ hL _
  have hval : ∀ (j : Nat) t v, Tryz.f3.params[j]? = some t → args[j]? = some v → Value.okWide Tryz.prog W .any base t v := hval0
  have hW' := hW
  obtain ⟨p, q, hA0, hV, rfl, hfz, hnd⟩ := hW
  have hA : DataW.TrodAll enc Tryz.prog W 0 (fun _ => true) true Tryz.f3.params.toList args.toList ds p := hA0
  rw [Tryz.params3] at hA hval
  obtain ⟨v0, vs0, d0, ds0, p0, q0, hargs, rfl, rfl, h0, r0⟩ := trodAll_cons hA
  obtain ⟨v1, vs1, d1, ds1, p1, q1, rfl, rfl, rfl, h1, r1⟩ := trodAll_cons r0
  obtain ⟨rfl, rfl, rfl⟩ := trodAll_nil r1
  obtain rfl : args = #[v0, v1] := by cases args; simp_all
  obtain ⟨rfl, rfl⟩ := trodVars_none hV
  have k0 := h0
  have lt0 : ∀ x ∈ p0, x.block < W.heap.size := by obtain ⟨m, hm⟩ := k0; exact DataW.trod_lt m _ _ _ hm
  obtain ⟨cs0, rfl, hz0⟩ := okWide_struct Tryz.underlying26 (hval 0 26 v0 rfl rfl)
  obtain ⟨v0_0, v0_1, v0_2, rfl⟩ := arr3 (hz0.trans (by kernel_rfl))
  obtain ⟨fu0, hf0⟩ := h0
  obtain ⟨fug0_1, yg0_1, g0_1⟩ := open_field Tryz.underlying26 hf0 0 _ rfl 0 2 rfl (by kernel_rfl)
  obtain ⟨fug0_2, yg0_2, g0_2⟩ := open_field Tryz.underlying24 g0_1 0 _ rfl 0 1 rfl (by kernel_rfl)
  replace g0_2 : DataW.trod enc Tryz.prog W 0 (fun _ => true) true _ 4 [v0_0] = some _ := g0_2
  obtain ⟨fug0_3, yg0_3, g0_3⟩ := open_field Tryz.underlying24 g0_1 1 _ rfl 1 1 rfl (by kernel_rfl)
  replace g0_3 : DataW.trod enc Tryz.prog W 0 (fun _ => true) true _ 22 [v0_1] = some _ := g0_3
  obtain ⟨fug0_4, yg0_4, g0_4⟩ := open_field Tryz.underlying26 hf0 1 _ rfl 2 1 rfl (by kernel_rfl)
  replace g0_4 : DataW.trod enc Tryz.prog W 0 (fun _ => true) true _ 3 [v0_2] = some _ := g0_4
  obtain ⟨b0_0, hb0_0, _⟩ := DataW.trod_bool Tryz.underlying4 g0_2
  obtain rfl := List.singleton_inj.1 hb0_0
  obtain ⟨l0_1, h0_1⟩ := Nl_of_trod Tryz.underlying22 Tryz.underlying83 (by kernel_rfl) g0_3
  obtain ⟨n0_2, hb0_2, _, m0_2⟩ := DataW.trod_int Tryz.underlying3 g0_4
  obtain rfl := List.singleton_inj.1 hb0_2
  have k1 := h1
  have lt1 : ∀ x ∈ p1, x.block < W.heap.size := by obtain ⟨m, hm⟩ := k1; exact DataW.trod_lt m _ _ _ hm
  obtain ⟨cs1, rfl, hz1⟩ := okWide_struct Tryz.underlying26 (hval 1 26 v1 rfl rfl)
  obtain ⟨v1_0, v1_1, v1_2, rfl⟩ := arr3 (hz1.trans (by kernel_rfl))
  obtain ⟨fu1, hf1⟩ := h1
  obtain ⟨fug1_1, yg1_1, g1_1⟩ := open_field Tryz.underlying26 hf1 0 _ rfl 0 2 rfl (by kernel_rfl)
  obtain ⟨fug1_2, yg1_2, g1_2⟩ := open_field Tryz.underlying24 g1_1 0 _ rfl 0 1 rfl (by kernel_rfl)
  replace g1_2 : DataW.trod enc Tryz.prog W 0 (fun _ => true) true _ 4 [v1_0] = some _ := g1_2
  obtain ⟨fug1_3, yg1_3, g1_3⟩ := open_field Tryz.underlying24 g1_1 1 _ rfl 1 1 rfl (by kernel_rfl)
  replace g1_3 : DataW.trod enc Tryz.prog W 0 (fun _ => true) true _ 22 [v1_1] = some _ := g1_3
  obtain ⟨fug1_4, yg1_4, g1_4⟩ := open_field Tryz.underlying26 hf1 1 _ rfl 2 1 rfl (by kernel_rfl)
  replace g1_4 : DataW.trod enc Tryz.prog W 0 (fun _ => true) true _ 3 [v1_2] = some _ := g1_4
  obtain ⟨b1_0, hb1_0, _⟩ := DataW.trod_bool Tryz.underlying4 g1_2
  obtain rfl := List.singleton_inj.1 hb1_0
  obtain ⟨l1_1, h1_1⟩ := Nl_of_trod Tryz.underlying22 Tryz.underlying83 (by kernel_rfl) g1_3
  obtain ⟨n1_2, hb1_2, _, m1_2⟩ := DataW.trod_int Tryz.underlying3 g1_4
  obtain rfl := List.singleton_inj.1 hb1_2
  clear hA0 hval0
  have hT : Tab W := tab_of_laid hL
  refine (law_DyadicExact h0_1 h1_1 hT).mono fun e W' h => ?_
  obtain ⟨u, he, bel, hu⟩ := h
  subst he hu
  exact ⟨_, rfl, _, _, _, [], _, [], hW', trodAll_mk1 (shut_bool Tryz.underlying4 _), (trodAll_cons_mk (Below.trod laidOut (by kernel_rfl) (of_decide_eq_true (by kernel_rfl)) k0 bel lt0) (trodAll_cons_mk (Below.trod laidOut (by kernel_rfl) (of_decide_eq_true (by kernel_rfl)) k1 bel lt1) trodAll_mk0)), rfl, bel.frame _, fun h => by cases h⟩

theorem over : Rows.dyadicExactRow.holds Tryz.pinned (OpenSpec.ofChange Rows.dyadicExactSpec) :=
  OpenClaim.holds_of_wide 3 Tryz.f3 rfl rfl rfl rfl rfl rfl rfl ⟨rfl, rfl, rfl, rfl, rfl⟩ rfl rfl rfl rfl rfl (by kernel_rfl) Tryz.func3 (by kernel_rfl)
    (of_decide_eq_true (by kernel_rfl)) (by unfold Func.isWrapper; first | (rw [if_pos (by decide +kernel)]; kernel_rfl) | (rw [if_neg (by decide +kernel)]; exact ⟨rfl, rfl⟩))
    (fun os started H enc _ => lifted os started H enc)

/-- The card. -/
theorem proved : Rows.DyadicExactCardSaid :=
  Claim7.holds_tied_plain_at .later [] [.data] true (true, "954327fcf4dab958f16b7489b7b6050bc0229472322100fbafc9fafc8316edd7") false over (fun _ h => by cases h) (by kernel_rfl) (fun _ h => by cases h) dyadicExact_row_tie rfl ⟨rfl, rfl⟩ (by kernel_rfl) rfl
    (fun f fn hf hfn => by
      obtain rfl : f = 3 := Option.some.inj ((show Tryz.prog.funcNamed "exactreal/exactreallaw08.DyadicExact" = some 3 by kernel_rfl).symm.trans hf) |>.symm
      obtain rfl : fn = Tryz.f3 := (Option.some.inj (Tryz.func3.symm.trans hfn)).symm
      exact ⟨by kernel_rfl, fun j t ht => by
        rw [Tryz.params3] at ht
        have hm : t ∈ [26, 26] := by simpa using Array.mem_of_getElem? ht
        have hall : ([26, 26].all fun u => !Tryz.prog.wantsStandIn u) = true := by kernel_rfl
        exact (show Tryz.prog.wantsStandIn t = false by simpa using List.all_eq_true.1 hall t hm)⟩)
    (by kernel_rfl)
#print axioms proved
end Go.Proofs.YtnfnadhbjdcbnaaGreatDoor.dyadicExact
