/-
  IntervalOuts: for every input the law returns true, and each argument reads afterwards as before; the listed table as the text lays it.
-/
import Derived.Test.YthbfhljpfkicpaaDoorRows
import Derived.Test.YthbfhljpfkicpaaDoorCards
import Derived.Test.YthbfhljpfkicpaaDoorTie
import Derived.Test.YthbfhljpfkicpaaDoorTabl
import Derived.Test.YthbfhljpfkicpaaDoorHL3
import Derived.Test.YthbfhljpfkicpaaDoorShell
import Derived.WalkKit
import Derived.ProofKit
import Derived.OpenShut
import Derived.ShutString
import Derived.ChangeOld
import Derived.Below
import Derived.Carry
import Derived.Lib.SmallJoins
import Derived.Lay
import Derived.LaidMore
import Derived.SevenTiedAt
namespace Go.Proofs.YthbfhljpfkicpaaDoor.intervalOuts
open Go.ChangeShapes Go.WideShapes Go.ChangeAt Go.RowKit Go.Joins Go.Deep
open Go.ChangeMaps (open_string shut_string)
set_option linter.unusedVariables false

theorem own : ownKnob Tryd.prog.godebug = none := by kernel_rfl
theorem laidOut : laidOutB Tryd.prog = true := by kernel_rfl

set_option maxRecDepth 100000 in
theorem lifted (os : Os) (started : os.Started) (H : Type) (enc : TypeId × Value → H) :
    ReturnsInHanded {} Tryd.checked os 8 .any (fun w args => (Rows.intervalOutsSpec.pre enc Tryd.prog Tryd.f8 [] false w args ∧ laidMetH Tryd.prog Rows.intervalOutsRow.laid w) ∧ sizedMet enc Tryd.prog Tryd.f8 (OpenSpec.ofChange Rows.intervalOutsSpec) false w args)
      (Rows.intervalOutsSpec.post enc Tryd.prog Tryd.f8 false true false false) := by
  refine returnsInHanded_of_change_and (C := Tryd.checked) (X := fun w _ => laidMetH Tryd.prog Rows.intervalOutsRow.laid w) (fun _ _ _ hh h => h.of_heap hh) own started (by kernel_rfl) Tryd.func8
    (ChangeSpec.witness_shaped (enc := enc) (C := Tryd.checked) (os := os) (X := fun w _ => laidMetH Tryd.prog Rows.intervalOutsRow.laid w) false (World.laidAll Tryd.prog os Rows.intervalOutsRow.laid) #[.agg #[.bool false, .slice none 0 0, .int .i64 0, .bool false, .slice none 0 0, .int .i64 0], .int .i64 0] 8 (World.laidAll_os _ _ _)
      (World.shaped_of_ZipB (by kernel_rfl) (by kernel_rfl)) (by kernel_rfl) (by kernel_rfl) (by kernel_rfl)
      (by rw [MakeChecks.laidMetH_plain _ _ _ (by kernel_rfl)]; exact laidMet_laidAll _ (by kernel_rfl) (by kernel_rfl))) ?_
  intro W base args ds gs before hval0 hW _ _ hL _
  have hval : ∀ (j : Nat) t v, Tryd.f8.params[j]? = some t → args[j]? = some v → Value.okWide Tryd.prog W .any base t v := hval0
  have hW' := hW
  obtain ⟨p, q, hA0, hV, rfl, hfz, hnd⟩ := hW
  have hA : DataW.TrodAll enc Tryd.prog W 0 (fun _ => true) true Tryd.f8.params.toList args.toList ds p := hA0
  rw [Tryd.params8] at hA hval
  obtain ⟨v0, vs0, d0, ds0, p0, q0, hargs, rfl, rfl, h0, r0⟩ := trodAll_cons hA
  obtain ⟨v1, vs1, d1, ds1, p1, q1, rfl, rfl, rfl, h1, r1⟩ := trodAll_cons r0
  obtain ⟨rfl, rfl, rfl⟩ := trodAll_nil r1
  obtain rfl : args = #[v0, v1] := by cases args; simp_all
  obtain ⟨rfl, rfl⟩ := trodVars_none hV
  have k0 := h0
  have lt0 : ∀ x ∈ p0, x.block < W.heap.size := by obtain ⟨m, hm⟩ := k0; exact DataW.trod_lt m _ _ _ hm
  obtain ⟨cs0, rfl, hz0⟩ := okWide_struct Tryd.underlying53 (hval 0 53 v0 rfl rfl)
  obtain ⟨v0_0, v0_1, v0_2, v0_3, v0_4, v0_5, rfl⟩ := arr6 (hz0.trans (by kernel_rfl))
  obtain ⟨fu0, hf0⟩ := h0
  obtain ⟨fug0_1, yg0_1, g0_1⟩ := open_field Tryd.underlying53 hf0 0 _ rfl 0 3 rfl (by kernel_rfl)
  obtain ⟨fug0_2, yg0_2, g0_2⟩ := open_field Tryd.underlying26 g0_1 0 _ rfl 0 2 rfl (by kernel_rfl)
  obtain ⟨fug0_3, yg0_3, g0_3⟩ := open_field Tryd.underlying24 g0_2 0 _ rfl 0 1 rfl (by kernel_rfl)
  replace g0_3 : DataW.trod enc Tryd.prog W 0 (fun _ => true) true _ 4 [v0_0] = some _ := g0_3
  obtain ⟨fug0_4, yg0_4, g0_4⟩ := open_field Tryd.underlying24 g0_2 1 _ rfl 1 1 rfl (by kernel_rfl)
  replace g0_4 : DataW.trod enc Tryd.prog W 0 (fun _ => true) true _ 22 [v0_1] = some _ := g0_4
  obtain ⟨fug0_5, yg0_5, g0_5⟩ := open_field Tryd.underlying26 g0_1 1 _ rfl 2 1 rfl (by kernel_rfl)
  replace g0_5 : DataW.trod enc Tryd.prog W 0 (fun _ => true) true _ 3 [v0_2] = some _ := g0_5
  obtain ⟨fug0_6, yg0_6, g0_6⟩ := open_field Tryd.underlying53 hf0 1 _ rfl 3 3 rfl (by kernel_rfl)
  obtain ⟨fug0_7, yg0_7, g0_7⟩ := open_field Tryd.underlying26 g0_6 0 _ rfl 0 2 rfl (by kernel_rfl)
  obtain ⟨fug0_8, yg0_8, g0_8⟩ := open_field Tryd.underlying24 g0_7 0 _ rfl 0 1 rfl (by kernel_rfl)
  replace g0_8 : DataW.trod enc Tryd.prog W 0 (fun _ => true) true _ 4 [v0_3] = some _ := g0_8
  obtain ⟨fug0_9, yg0_9, g0_9⟩ := open_field Tryd.underlying24 g0_7 1 _ rfl 1 1 rfl (by kernel_rfl)
  replace g0_9 : DataW.trod enc Tryd.prog W 0 (fun _ => true) true _ 22 [v0_4] = some _ := g0_9
  obtain ⟨fug0_10, yg0_10, g0_10⟩ := open_field Tryd.underlying26 g0_6 1 _ rfl 2 1 rfl (by kernel_rfl)
  replace g0_10 : DataW.trod enc Tryd.prog W 0 (fun _ => true) true _ 3 [v0_5] = some _ := g0_10
  obtain ⟨b0_0, hb0_0, _⟩ := DataW.trod_bool Tryd.underlying4 g0_3
  obtain rfl := List.singleton_inj.1 hb0_0
  obtain ⟨l0_1, h0_1⟩ := Nl_of_trod Tryd.underlying22 Tryd.underlying111 (by kernel_rfl) g0_4
  obtain ⟨n0_2, hb0_2, _, m0_2⟩ := DataW.trod_int Tryd.underlying3 g0_5
  obtain rfl := List.singleton_inj.1 hb0_2
  obtain ⟨b0_3, hb0_3, _⟩ := DataW.trod_bool Tryd.underlying4 g0_8
  obtain rfl := List.singleton_inj.1 hb0_3
  obtain ⟨l0_4, h0_4⟩ := Nl_of_trod Tryd.underlying22 Tryd.underlying111 (by kernel_rfl) g0_9
  obtain ⟨n0_5, hb0_5, _, m0_5⟩ := DataW.trod_int Tryd.underlying3 g0_10
  obtain rfl := List.singleton_inj.1 hb0_5
  obtain ⟨a1, rfl, rfl, rfl, w1⟩ := open_int Tryd.underlying3 (hval 1 3 v1 rfl rfl) h1
  clear hA0 hval0
  have hT : Tab W := tab_of_laid hL
  refine (law_IntervalOuts h0_1 h0_4 hT).mono fun e W' h => ?_
  obtain ⟨u, he, bel, hu⟩ := h
  subst he hu
  exact ⟨_, rfl, _, _, _, [], _, [], hW', trodAll_mk1 (shut_bool Tryd.underlying4 _), (trodAll_cons_mk (Below.trod laidOut (by kernel_rfl) (of_decide_eq_true (by kernel_rfl)) k0 bel lt0) (trodAll_cons_mk (shut_int Tryd.underlying3 w1) trodAll_mk0)), rfl, bel.frame _, fun h => by cases h⟩

theorem over : Rows.intervalOutsRow.holds Tryd.pinned (OpenSpec.ofChange Rows.intervalOutsSpec) :=
  OpenClaim.holds_of_wide 8 Tryd.f8 rfl rfl rfl rfl rfl rfl rfl ⟨rfl, rfl, rfl, rfl, rfl⟩ rfl rfl rfl rfl rfl (by kernel_rfl) Tryd.func8 (by kernel_rfl)
    (of_decide_eq_true (by kernel_rfl)) (by unfold Func.isWrapper; first | (rw [if_pos (by decide +kernel)]; kernel_rfl) | (rw [if_neg (by decide +kernel)]; exact ⟨rfl, rfl⟩))
    (fun os started H enc _ => lifted os started H enc)

/-- The card. -/
theorem proved : Rows.IntervalOutsCardSaid :=
  Claim7.holds_tied_plain_at .later [] [.data] true (true, "d4782130fae7653590275ccaeffd9e78c6baf7a994cb0fd79165155fe30f4e98") false over (fun _ h => by cases h) (by kernel_rfl) (fun _ h => by cases h) intervalOuts_row_tie rfl ⟨rfl, rfl⟩ (by kernel_rfl) rfl
    (fun f fn hf hfn => by
      obtain rfl : f = 8 := Option.some.inj ((show Tryd.prog.funcNamed "exactreal/exactreallaw10.IntervalOuts" = some 8 by kernel_rfl).symm.trans hf) |>.symm
      obtain rfl : fn = Tryd.f8 := (Option.some.inj (Tryd.func8.symm.trans hfn)).symm
      exact ⟨by kernel_rfl, fun j t ht => by
        rw [Tryd.params8] at ht
        have hm : t ∈ [53, 3] := by simpa using Array.mem_of_getElem? ht
        have hall : ([53, 3].all fun u => !Tryd.prog.wantsStandIn u) = true := by kernel_rfl
        exact (show Tryd.prog.wantsStandIn t = false by simpa using List.all_eq_true.1 hall t hm)⟩)
    (by kernel_rfl)
#print axioms proved
end Go.Proofs.YthbfhljpfkicpaaDoor.intervalOuts
