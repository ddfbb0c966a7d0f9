/-
  DyadicMakes: for every input the law returns true, and each argument reads afterwards as before; the listed table as the text lays it.
-/
import Derived.Test.YtnfnadhbjdcbnaaDoorRows
import Derived.Test.YtnfnadhbjdcbnaaDoorCards
import Derived.Test.YtnfnadhbjdcbnaaDoorTie
import Derived.Test.YtnfnadhbjdcbnaaDoorTabl
import Derived.Test.YtnfnadhbjdcbnaaDoorDL6
import Derived.Test.YtnfnadhbjdcbnaaDoorShell
import Derived.WalkKit
import Derived.ProofKit
import Derived.OpenShut
import Derived.ShutString
import Derived.ChangeOld
import Derived.Below
import Derived.Carry
import Derived.Lib.SmallJoins
import Derived.Lay
import Derived.LaidMore
import Derived.SevenTiedAt
namespace Go.Proofs.YtnfnadhbjdcbnaaDoor.dyadicMakes
open Go.ChangeShapes Go.WideShapes Go.ChangeAt Go.RowKit Go.Joins Go.Deep
open Go.ChangeMaps (open_string shut_string)
set_option linter.unusedVariables false

theorem own : ownKnob Tryd.prog.godebug = none := by kernel_rfl
theorem laidOut : laidOutB Tryd.prog = true := by kernel_rfl

set_option maxRecDepth 100000 in
theorem lifted (os : Os) (started : os.Started) (H : Type) (enc : TypeId × Value → H) :
    ReturnsInHanded {} Tryd.checked os 4 .any (fun w args => (Rows.dyadicMakesSpec.pre enc Tryd.prog Tryd.f4 [] false w args ∧ laidMetH Tryd.prog Rows.dyadicMakesRow.laid w) ∧ sizedMet enc Tryd.prog Tryd.f4 (OpenSpec.ofChange Rows.dyadicMakesSpec) false w args)
      (Rows.dyadicMakesSpec.post enc Tryd.prog Tryd.f4 false true false false) := by
  refine returnsInHanded_of_change_and (C := Tryd.checked) (X := fun w _ => laidMetH Tryd.prog Rows.dyadicMakesRow.laid w) (fun _ _ _ hh h => h.of_heap hh) own started (by kernel_rfl) Tryd.func4
    (ChangeSpec.witness_shaped (enc := enc) (C := Tryd.checked) (os := os) (X := fun w _ => laidMetH Tryd.prog Rows.dyadicMakesRow.laid w) false (World.laidAll Tryd.prog os Rows.dyadicMakesRow.laid) #[.agg #[.bool false, .slice none 0 0, .int .i64 0], .agg #[.bool false, .slice none 0 0], .int .i64 0, .int .i64 0, .int .i64 0] 8 (World.laidAll_os _ _ _)
      (World.shaped_of_ZipB (by kernel_rfl) (by kernel_rfl)) (by kernel_rfl) (by kernel_rfl) (by kernel_rfl)
      (by rw [MakeChecks.laidMetH_plain _ _ _ (by kernel_rfl)]; exact laidMet_laidAll _ (by kernel_rfl) (by kernel_rfl))) ?_
  intro W base args ds gs before hval0 hW _ _ hL _
  have hval : ∀ (j : Nat) t v, Tryd.f4.params[j]? = some t → args[j]? = some v → Value.okWide Tryd.prog W .any base t v := hval0
  have hW' := hW
  obtain ⟨p, q, hA0, hV, rfl, hfz, hnd⟩ := hW
  have hA : DataW.TrodAll enc Tryd.prog W 0 (fun _ => true) true Tryd.f4.params.toList args.toList ds p := hA0
  rw [Tryd.params4] at hA hval
  obtain ⟨v0, vs0, d0, ds0, p0, q0, hargs, rfl, rfl, h0, r0⟩ := trodAll_cons hA
  obtain ⟨v1, vs1, d1, ds1, p1, q1, rfl, rfl, rfl, h1, r1⟩ := trodAll_cons r0
  obtain ⟨v2, vs2, d2, ds2, p2, q2, rfl, rfl, rfl, h2, r2⟩ := trodAll_cons r1
  obtain ⟨v3, vs3, d3, ds3, p3, q3, rfl, rfl, rfl, h3, r3⟩ := trodAll_cons r2
  obtain ⟨v4, vs4, d4, ds4, p4, q4, rfl, rfl, rfl, h4, r4⟩ := trodAll_cons r3
  obtain ⟨rfl, rfl, rfl⟩ := trodAll_nil r4
  obtain rfl : args = #[v0, v1, v2, v3, v4] := by cases args; simp_all
  obtain ⟨rfl, rfl⟩ := trodVars_none hV
  have k0 := h0
  have lt0 : ∀ x ∈ p0, x.block < W.heap.size := by obtain ⟨m, hm⟩ := k0; exact DataW.trod_lt m _ _ _ hm
  obtain ⟨cs0, rfl, hz0⟩ := okWide_struct Tryd.underlying26 (hval 0 26 v0 rfl rfl)
  obtain ⟨v0_0, v0_1, v0_2, rfl⟩ := arr3 (hz0.trans (by kernel_rfl))
  obtain ⟨fu0, hf0⟩ := h0
  obtain ⟨fug0_1, yg0_1, g0_1⟩ := open_field Tryd.underlying26 hf0 0 _ rfl 0 2 rfl (by kernel_rfl)
  obtain ⟨fug0_2, yg0_2, g0_2⟩ := open_field Tryd.underlying24 g0_1 0 _ rfl 0 1 rfl (by kernel_rfl)
  replace g0_2 : DataW.trod enc Tryd.prog W 0 (fun _ => true) true _ 4 [v0_0] = some _ := g0_2
  obtain ⟨fug0_3, yg0_3, g0_3⟩ := open_field Tryd.underlying24 g0_1 1 _ rfl 1 1 rfl (by kernel_rfl)
  replace g0_3 : DataW.trod enc Tryd.prog W 0 (fun _ => true) true _ 22 [v0_1] = some _ := g0_3
  obtain ⟨fug0_4, yg0_4, g0_4⟩ := open_field Tryd.underlying26 hf0 1 _ rfl 2 1 rfl (by kernel_rfl)
  replace g0_4 : DataW.trod enc Tryd.prog W 0 (fun _ => true) true _ 3 [v0_2] = some _ := g0_4
  obtain ⟨b0_0, hb0_0, _⟩ := DataW.trod_bool Tryd.underlying4 g0_2
  obtain rfl := List.singleton_inj.1 hb0_0
  obtain ⟨l0_1, h0_1⟩ := Nl_of_trod Tryd.underlying22 Tryd.underlying89 (by kernel_rfl) g0_3
  obtain ⟨n0_2, hb0_2, _, m0_2⟩ := DataW.trod_int Tryd.underlying3 g0_4
  obtain rfl := List.singleton_inj.1 hb0_2
  have k1 := h1
  have lt1 : ∀ x ∈ p1, x.block < W.heap.size := by obtain ⟨m, hm⟩ := k1; exact DataW.trod_lt m _ _ _ hm
  obtain ⟨cs1, rfl, hz1⟩ := okWide_struct Tryd.underlying24 (hval 1 24 v1 rfl rfl)
  obtain ⟨v1_0, v1_1, rfl⟩ := arr2 (hz1.trans (by kernel_rfl))
  obtain ⟨fu1, hf1⟩ := h1
  obtain ⟨fug1_1, yg1_1, g1_1⟩ := open_field Tryd.underlying24 hf1 0 _ rfl 0 1 rfl (by kernel_rfl)
  replace g1_1 : DataW.trod enc Tryd.prog W 0 (fun _ => true) true _ 4 [v1_0] = some _ := g1_1
  obtain ⟨fug1_2, yg1_2, g1_2⟩ := open_field Tryd.underlying24 hf1 1 _ rfl 1 1 rfl (by kernel_rfl)
  replace g1_2 : DataW.trod enc Tryd.prog W 0 (fun _ => true) true _ 22 [v1_1] = some _ := g1_2
  obtain ⟨b1_0, hb1_0, _⟩ := DataW.trod_bool Tryd.underlying4 g1_1
  obtain rfl := List.singleton_inj.1 hb1_0
  obtain ⟨l1_1, h1_1⟩ := Nl_of_trod Tryd.underlying22 Tryd.underlying89 (by kernel_rfl) g1_2
  obtain ⟨a2, rfl, rfl, rfl, w2⟩ := open_int Tryd.underlying3 (hval 2 3 v2 rfl rfl) h2
  obtain ⟨a3, rfl, rfl, rfl, w3⟩ := open_int Tryd.underlying3 (hval 3 3 v3 rfl rfl) h3
  obtain ⟨a4, rfl, rfl, rfl, w4⟩ := open_int Tryd.underlying3 (hval 4 3 v4 rfl rfl) h4
  clear hA0 hval0
  have hT : Tab W := tab_of_laid hL
  refine (law_DyadicMakes h0_1 h1_1 (i64_lo w4) (i64_hi w4) hT).mono fun e W' h => ?_
  obtain ⟨u, he, bel, hu⟩ := h
  subst he hu
  exact ⟨_, rfl, _, _, _, [], _, [], hW', trodAll_mk1 (shut_bool Tryd.underlying4 _), (trodAll_cons_mk (Below.trod laidOut (by kernel_rfl) (of_decide_eq_true (by kernel_rfl)) k0 bel lt0) (trodAll_cons_mk (Below.trod laidOut (by kernel_rfl) (of_decide_eq_true (by kernel_rfl)) k1 bel lt1) (trodAll_cons_mk (shut_int Tryd.underlying3 w2) (trodAll_cons_mk (shut_int Tryd.underlying3 w3) (trodAll_cons_mk (shut_int Tryd.underlying3 w4) trodAll_mk0))))), rfl, bel.frame _, fun h => by cases h⟩

theorem over : Rows.dyadicMakesRow.holds Tryd.pinned (OpenSpec.ofChange Rows.dyadicMakesSpec) :=
  OpenClaim.holds_of_wide 4 Tryd.f4 rfl rfl rfl rfl rfl rfl rfl ⟨rfl, rfl, rfl, rfl, rfl⟩ rfl rfl rfl rfl rfl (by kernel_rfl) Tryd.func4 (by kernel_rfl)
    (of_decide_eq_true (by kernel_rfl)) (by unfold Func.isWrapper; first | (rw [if_pos (by decide +kernel)]; kernel_rfl) | (rw [if_neg (by decide +kernel)]; exact ⟨rfl, rfl⟩))
    (fun os started H enc _ => lifted os started H enc)

/-- The card. -/
theorem proved : Rows.DyadicMakesCardSaid :=
  Claim7.holds_tied_plain_at .later [] [.data] true (true, "129879718592dc35ad11e59fd2bcf54ad9d776972c65a9470fd292fb401f8852") false over (fun _ h => by cases h) (by kernel_rfl) (fun _ h => by cases h) dyadicMakes_row_tie rfl ⟨rfl, rfl⟩ (by kernel_rfl) rfl
    (fun f fn hf hfn => by
      obtain rfl : f = 4 := Option.some.inj ((show Tryd.prog.funcNamed "exactreal/exactreallaw08.DyadicMakes" = some 4 by kernel_rfl).symm.trans hf) |>.symm
      obtain rfl : fn = Tryd.f4 := (Option.some.inj (Tryd.func4.symm.trans hfn)).symm
      exact ⟨by kernel_rfl, fun j t ht => by
        rw [Tryd.params4] at ht
        have hm : t ∈ [26, 24, 3, 3, 3] := by simpa using Array.mem_of_getElem? ht
        have hall : ([26, 24, 3, 3, 3].all fun u => !Tryd.prog.wantsStandIn u) = true := by kernel_rfl
        exact (show Tryd.prog.wantsStandIn t = false by simpa using List.all_eq_true.1 hall t hm)⟩)
    (by kernel_rfl)
#print axioms proved
end Go.Proofs.YtnfnadhbjdcbnaaDoor.dyadicMakes
