/-
  DyadicFar: for every input the law returns true, and each argument reads afterwards as before; the listed table as the text lays it.
-/
import Derived.Test.YtnfnadhbjdcbnaaDoorRows
import Derived.Test.YtnfnadhbjdcbnaaDoorCards
import Derived.Test.YtnfnadhbjdcbnaaDoorTie
import Derived.Test.YtnfnadhbjdcbnaaDoorTabl
import Derived.Test.YtnfnadhbjdcbnaaDoorDL7
import Derived.Test.YtnfnadhbjdcbnaaDoorShell
import Derived.WalkKit
import Derived.ProofKit
import Derived.OpenShut
import Derived.ShutString
import Derived.ChangeOld
import Derived.Below
import Derived.Carry
import Derived.Lib.SmallJoins
import Derived.Lay
import Derived.LaidMore
import Derived.SevenTiedAt
namespace Go.Proofs.YtnfnadhbjdcbnaaDoor.dyadicFar
open Go.ChangeShapes Go.WideShapes Go.ChangeAt Go.RowKit Go.Joins Go.Deep
open Go.ChangeMaps (open_string shut_string)
set_option linter.unusedVariables false

theorem own : ownKnob Tryd.prog.godebug = none := by kernel_rfl
theorem laidOut : laidOutB Tryd.prog = true := by kernel_rfl

set_option maxRecDepth 100000 in
theorem lifted (os : Os) (started : os.Started) (H : Type) (enc : TypeId × Value → H) :
    ReturnsInHanded {} Tryd.checked os 3 .any (fun w args => (Rows.dyadicFarSpec.pre enc Tryd.prog Tryd.f3 [] false w args ∧ laidMetH Tryd.prog Rows.dyadicFarRow.laid w) ∧ sizedMet enc Tryd.prog Tryd.f3 (OpenSpec.ofChange Rows.dyadicFarSpec) false w args)
      (Rows.dyadicFarSpec.post enc Tryd.prog Tryd.f3 false true false false) := by
  refine returnsInHanded_of_change_and (C := Tryd.checked) (X := fun w _ => laidMetH Tryd.prog Rows.dyadicFarRow.laid w) (fun _ _ _ hh h => h.of_heap hh) own started (by kernel_rfl) Tryd.func3
    (ChangeSpec.witness_shaped (enc := enc) (C := Tryd.checked) (os := os) (X := fun w _ => laidMetH Tryd.prog Rows.dyadicFarRow.laid w) false (World.laidAll Tryd.prog os Rows.dyadicFarRow.laid) #[.agg #[.bool false, .slice none 0 0, .int .i64 0], .agg #[.bool false, .slice none 0 0, .int .i64 0], .int .i64 0, .int .i64 0] 8 (World.laidAll_os _ _ _)
      (World.shaped_of_ZipB (by kernel_rfl) (by kernel_rfl)) (by kernel_rfl) (by kernel_rfl) (by kernel_rfl)
      (by rw [MakeChecks.laidMetH_plain _ _ _ (by kernel_rfl)]; exact laidMet_laidAll _ (by kernel_rfl) (by kernel_rfl))) ?_
  intro W base args ds gs before hval0 hW _ _ hL _
  have hval : ∀ (j : Nat) t v, Tryd.f3.params[j]? = some t → args[j]? = some v → Value.okWide Tryd.prog W .any base t v := hval0
  have hW' := hW
  obtain ⟨p, q, hA0, hV, rfl, hfz, hnd⟩ := hW
  have hA : DataW.TrodAll enc Tryd.prog W 0 (fun _ => true) true Tryd.f3.params.toList args.toList ds p := hA0
  rw [Tryd.params3] at hA hval
  obtain ⟨v0, vs0, d0, ds0, p0, q0, hargs, rfl, rfl, h0, r0⟩ := trodAll_cons hA
  obtain ⟨v1, vs1, d1, ds1, p1, q1, rfl, rfl, rfl, h1, r1⟩ := trodAll_cons r0
  obtain ⟨v2, vs2, d2, ds2, p2, q2, rfl, rfl, rfl, h2, r2⟩ := trodAll_cons r1
  obtain ⟨v3, vs3, d3, ds3, p3, q3, rfl, rfl, rfl, h3, r3⟩ := trodAll_cons r2
  obtain ⟨rfl, rfl, rfl⟩ := trodAll_nil r3
  obtain rfl : args = #[v0, v1, v2, v3] := by cases args; simp_all
  obtain ⟨rfl, rfl⟩ := trodVars_none hV
  have k0 := h0
  have lt0 : ∀ x ∈ p0, x.block < W.heap.size := by obtain ⟨m, hm⟩ := k0; exact DataW.trod_lt m _ _ _ hm
  obtain ⟨cs0, rfl, hz0⟩ := okWide_struct Tryd.underlying26 (hval 0 26 v0 rfl rfl)
  obtain ⟨v0_0, v0_1, v0_2, rfl⟩ := arr3 (hz0.trans (by kernel_rfl))
  obtain ⟨fu0, hf0⟩ := h0
  obtain ⟨fug0_1, yg0_1, g0_1⟩ := open_field Tryd.underlying26 hf0 0 _ rfl 0 2 rfl (by kernel_rfl)
  obtain ⟨fug0_2, yg0_2, g0_2⟩ := open_field Tryd.underlying24 g0_1 0 _ rfl 0 1 rfl (by kernel_rfl)
  replace g0_2 : DataW.trod enc Tryd.prog W 0 (fun _ => true) true _ 4 [v0_0] = some _ := g0_2
  obtain ⟨fug0_3, yg0_3, g0_3⟩ := open_field Tryd.underlying24 g0_1 1 _ rfl 1 1 rfl (by kernel_rfl)
  replace g0_3 : DataW.trod enc Tryd.prog W 0 (fun _ => true) true _ 22 [v0_1] = some _ := g0_3
  obtain ⟨fug0_4, yg0_4, g0_4⟩ := open_field Tryd.underlying26 hf0 1 _ rfl 2 1 rfl (by kernel_rfl)
  replace g0_4 : DataW.trod enc Tryd.prog W 0 (fun _ => true) true _ 3 [v0_2] = some _ := g0_4
  obtain ⟨b0_0, hb0_0, _⟩ := DataW.trod_bool Tryd.underlying4 g0_2
  obtain rfl := List.singleton_inj.1 hb0_0
  obtain ⟨l0_1, h0_1⟩ := Nl_of_trod Tryd.underlying22 Tryd.underlying89 (by kernel_rfl) g0_3
  obtain ⟨n0_2, hb0_2, _, m0_2⟩ := DataW.trod_int Tryd.underlying3 g0_4
  obtain rfl := List.singleton_inj.1 hb0_2
  have k1 := h1
  have lt1 : ∀ x ∈ p1, x.block < W.heap.size := by obtain ⟨m, hm⟩ := k1; exact DataW.trod_lt m _ _ _ hm
  obtain ⟨cs1, rfl, hz1⟩ := okWide_struct Tryd.underlying26 (hval 1 26 v1 rfl rfl)
  obtain ⟨v1_0, v1_1, v1_2, rfl⟩ := arr3 (hz1.trans (by kernel_rfl))
  obtain ⟨fu1, hf1⟩ := h1
  obtain ⟨fug1_1, yg1_1, g1_1⟩ := open_field Tryd.underlying26 hf1 0 _ rfl 0 2 rfl (by kernel_rfl)
  obtain ⟨fug1_2, yg1_2, g1_2⟩ := open_field Tryd.underlying24 g1_1 0 _ rfl 0 1 rfl (by kernel_rfl)
  replace g1_2 : DataW.trod enc Tryd.prog W 0 (fun _ => true) true _ 4 [v1_0] = some _ := g1_2
  obtain ⟨fug1_3, yg1_3, g1_3⟩ := open_field Tryd.underlying24 g1_1 1 _ rfl 1 1 rfl (by kernel_rfl)
  replace g1_3 : DataW.trod enc Tryd.prog W 0 (fun _ => true) true _ 22 [v1_1] = some _ := g1_3
  obtain ⟨fug1_4, yg1_4, g1_4⟩ := open_field Tryd.underlying26 hf1 1 _ rfl 2 1 rfl (by kernel_rfl)
  replace g1_4 : DataW.trod enc Tryd.prog W 0 (fun _ => true) true _ 3 [v1_2] = some _ := g1_4
  obtain ⟨b1_0, hb1_0, _⟩ := DataW.trod_bool Tryd.underlying4 g1_2
  obtain rfl := List.singleton_inj.1 hb1_0
  obtain ⟨l1_1, h1_1⟩ := Nl_of_trod Tryd.underlying22 Tryd.underlying89 (by kernel_rfl) g1_3
  obtain ⟨n1_2, hb1_2, _, m1_2⟩ := DataW.trod_int Tryd.underlying3 g1_4
  obtain rfl := List.singleton_inj.1 hb1_2
  obtain ⟨a2, rfl, rfl, rfl, w2⟩ := open_int Tryd.underlying3 (hval 2 3 v2 rfl rfl) h2
  obtain ⟨a3, rfl, rfl, rfl, w3⟩ := open_int Tryd.underlying3 (hval 3 3 v3 rfl rfl) h3
  clear hA0 hval0
  have hT : Tab W := tab_of_laid hL
  refine (law_DyadicFar h0_1 h1_1 hT).mono fun e W' h => ?_
  obtain ⟨u, he, bel, hu⟩ := h
  subst he hu
  exact ⟨_, rfl, _, _, _, [], _, [], hW', trodAll_mk1 (shut_bool Tryd.underlying4 _), (trodAll_cons_mk (Below.trod laidOut (by kernel_rfl) (of_decide_eq_true (by kernel_rfl)) k0 bel lt0) (trodAll_cons_mk (Below.trod laidOut (by kernel_rfl) (of_decide_eq_true (by kernel_rfl)) k1 bel lt1) (trodAll_cons_mk (shut_int Tryd.underlying3 w2) (trodAll_cons_mk (shut_int Tryd.underlying3 w3) trodAll_mk0)))), rfl, bel.frame _, fun h => by cases h⟩

theorem over : Rows.dyadicFarRow.holds Tryd.pinned (OpenSpec.ofChange Rows.dyadicFarSpec) :=
  OpenClaim.holds_of_wide 3 Tryd.f3 rfl rfl rfl rfl rfl rfl rfl ⟨rfl, rfl, rfl, rfl, rfl⟩ rfl rfl rfl rfl rfl (by kernel_rfl) Tryd.func3 (by kernel_rfl)
    (of_decide_eq_true (by kernel_rfl)) (by unfold Func.isWrapper; first | (rw [if_pos (by decide +kernel)]; kernel_rfl) | (rw [if_neg (by decide +kernel)]; exact ⟨rfl, rfl⟩))
    (fun os started H enc _ => lifted os started H enc)

/-- The card. -/
theorem proved : Rows.DyadicFarCardSaid :=
  Claim7.holds_tied_plain_at .later [] [.data] true (true, "129879718592dc35ad11e59fd2bcf54ad9d776972c65a9470fd292fb401f8852") false over (fun _ h => by cases h) (by kernel_rfl) (fun _ h => by cases h) dyadicFar_row_tie rfl ⟨rfl, rfl⟩ (by kernel_rfl) rfl
    (fun f fn hf hfn => by
      obtain rfl : f = 3 := Option.some.inj ((show Tryd.prog.funcNamed "exactreal/exactreallaw08.DyadicFar" = some 3 by kernel_rfl).symm.trans hf) |>.symm
      obtain rfl : fn = Tryd.f3 := (Option.some.inj (Tryd.func3.symm.trans hfn)).symm
      exact ⟨by kernel_rfl, fun j t ht => by
        rw [Tryd.params3] at ht
        have hm : t ∈ [26, 26, 3, 3] := by simpa using Array.mem_of_getElem? ht
        have hall : ([26, 26, 3, 3].all fun u => !Tryd.prog.wantsStandIn u) = true := by kernel_rfl
        exact (show Tryd.prog.wantsStandIn t = false by simpa using List.all_eq_true.1 hall t hm)⟩)
    (by kernel_rfl)
#print axioms proved
end Go.Proofs.YtnfnadhbjdcbnaaDoor.dyadicFar
