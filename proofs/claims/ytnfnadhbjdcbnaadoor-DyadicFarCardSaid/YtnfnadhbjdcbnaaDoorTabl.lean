/-
  The listed table: what the row's condition gives the walks.
-/
import Derived.Test.YtnfnadhbjdcbnaaDoorRows
import Derived.Test.YtnfnadhbjdcbnaaDoorDops
import Derived.ProofKit
import Derived.LaidMore
import Derived.OpenShut
import Derived.Stop.Joined
namespace Go.Proofs.YtnfnadhbjdcbnaaDoor
open Go.ChangeShapes Go.WideShapes Go.ChangeAt Go.WideMaps Go.WideElems Go.RowKit
theorem gTab : Tryd.prog.globalNamed "math/bits.deBruijn32tab" = some 0 := by kernel_rfl
theorem tTab : (Tryd.prog.globals[0]?).map (·.type) = some 108 := by kernel_rfl
theorem cTab : Tryd.prog.cellsOf 5 = 1 := by kernel_rfl
theorem tabD : (Rows.laid_math_bits_deBruijn32tab : DataW Unit) = .agg (tabL.map fun n => .lit (.int .u8 (n : Nat))) := rfl
theorem tab_of_laid {W : World} (h : laidMetH Tryd.prog [("math/bits.deBruijn32tab", Rows.laid_math_bits_deBruijn32tab)] W) : Tab W := by
  rw [MakeChecks.laidMetH_plain _ _ _ (by kernel_rfl)] at h
  obtain ⟨ps, ⟨g0, t0, cs0, f0, p0, q0, hg0, ht0, hv0, hd0, _, _⟩, _, _⟩ := h
  obtain rfl := Option.some.inj (gTab.symm.trans hg0)
  obtain rfl := Option.some.inj (tTab.symm.trans ht0)
  obtain ⟨xs, m, rfl, hx, hlen, hn, hel⟩ := DataW.trod_array Tryd.underlying108 hd0
  intro i u hu
  have hi : i < 32 := (List.getElem?_eq_some_iff.1 hu).1
  have h1 := hel i hi
  rw [cTab, Nat.mul_one] at h1
  obtain ⟨x, hx2⟩ : ∃ x, xs[i]? = some x := ⟨xs[i]'(by omega), List.getElem?_eq_getElem (by omega)⟩
  rw [hx2] at h1
  obtain ⟨k, e1, e2, _⟩ := DataW.trod_int Tryd.underlying5 h1
  have hmap : (xs.map (·.1))[i]? = some (.lit (.int .u8 (u : Nat))) := by
    have h2 := congrArg Prod.fst hx
    rw [tabD] at h2
    have h3 : tabL.map (fun n => (DataW.lit (.int .u8 (n : Nat)) : DataW Unit)) = xs.map (·.1) := by injection h2
    rw [← h3, List.getElem?_map, hu]
    rfl
  rw [List.getElem?_map, hx2, e2] at hmap
  have hk : k = (u : Nat) := by
    simp only [Option.map_some, Option.some.injEq, DataW.lit.injEq, Lit.int.injEq] at hmap
    exact hmap.2
  have hc : cs0.toList[i]? = some (.int .u8 k) := by
    have h4 := congrArg (fun l => l[0]?) e1
    simpa [List.getElem?_take, List.getElem?_drop] using h4
  have h5 := World.var?_cell hg0 hv0 i
  rw [← Array.getElem?_toList, hc, hk] at h5
  by_cases h0 : i = 0
  · subst h0; simpa [Addr.add] using h5
  · simpa [Addr.add, h0] using h5
end Go.Proofs.YtnfnadhbjdcbnaaDoor
