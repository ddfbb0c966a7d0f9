/-
  How arguments that came in read.
-/
import Derived.Test.YthbbcnlpfjbleaaNum
import Derived.ProofKit
import Derived.ChangeSlices
set_option linter.unusedVariables false
set_option linter.unusedSimpArgs false
set_option maxRecDepth 100000
namespace Go.Proofs.Ythbbcnlpfjbleaa
open Go Go.RowKit Go.ChangeShapes
/-- A slice that came in, as digits. -/
theorem Nl_of_row0 {w : World} {a : Option Addr} {len cap : Nat} {zs : List Int} (h : (a = none ∧ len = 0 ∧ cap = 0 ∧ zs = []) ∨
    ∃ x, a = some x ∧ len ≤ cap ∧ cap ≤ maxLen ∧ zs.length = cap ∧ (∀ i, i < zs.length → w.cell? (x.add i) = some (.int .u32 (zs.getD i 0))) ∧ ∀ n ∈ zs, (Lit.int .u32 n).wf = true) :
    Nl w (.slice a len cap) ((zs.take len).map Int.toNat) := by
  rcases h with ⟨rfl, rfl, rfl, rfl⟩ | ⟨x, rfl, h1, h2, h3, h4, h5⟩
  · exact Nl.nil w
  · have hb : ∀ n ∈ zs, 0 ≤ n ∧ n < 4294967296 := by
      intro n hn
      have := h5 n hn
      simp [Lit.wf, IntKind.has, IntKind.min, IntKind.max, IntKind.bits, IntKind.signed] at this
      omega
    have hl : ((zs.take len).map Int.toNat).length = len := by simp; omega
    refine ⟨⟨some x, cap, by simp [List.length_map] ; omega, by simp; omega, h2, by simp, fun i u hu => ⟨x, rfl, ?_⟩⟩, fun y hy => ?_⟩
    · simp only [List.map_map, List.getElem?_map, List.getElem?_take] at hu
      split at hu
      · rename_i hi
        have hiz : i < zs.length := by omega
        rw [h4 i hiz]
        rw [List.getElem?_eq_getElem hiz] at hu
        simp only [Option.map_some, Option.some.injEq, Function.comp_apply, dv] at hu
        rw [← hu, List.getD_eq_getElem?_getD, List.getElem?_eq_getElem hiz]
        have := hb zs[i] (List.getElem_mem hiz)
        simp only [Option.getD_some]
        congr 2
        omega
      · cases hu
    · obtain ⟨n, hn, rfl⟩ := List.mem_map.1 hy
      have := hb n (List.mem_of_mem_take hn)
      omega
section
variable {H : Type} {enc : TypeId × Value → H} {P : Program} {w : World} {held : Bool}
/-- A slice of digits among the cells of a datum. -/
theorem Nl_of_trod {t e : TypeId} {fuel : Nat} {v : Value} {x : DataW H × List MemPlace} (ht : P.underlying t = some (.slice e)) (he : P.underlying e = some (.int .u32)) (hc : P.cellsOf e = 1)
    (h : DataW.trod enc P w 0 (fun _ => true) held fuel t [v] = some x) : ∃ l, Nl w v l := by
  rcases open_ints ht he hc h with ⟨hcs, _⟩ | ⟨a, len, cap, zs, hcs, _, hl, hm, hz, _, hcell, hwz⟩
  · obtain rfl := List.singleton_inj.1 hcs
    exact ⟨[], Nl.nil w⟩
  · obtain rfl := List.singleton_inj.1 hcs
    exact ⟨_, Nl_of_row0 (.inr ⟨a, rfl, hl, hm, by simpa using hz, hcell, hwz⟩)⟩
theorem Nl_of_Trod {t e : TypeId} {a : Option Addr} {len cap : Nat} {d : DataW H} {p : List MemPlace} (ht : P.underlying t = some (.slice e)) (he : P.underlying e = some (.int .u32)) (hc : P.cellsOf e = 1)
    (h : DataW.Trod enc P w 0 (fun _ => true) held t (.slice a len cap) d p) : ∃ l, Nl w (.slice a len cap) l := by
  obtain ⟨fuel, hf⟩ := h
  exact Nl_of_trod ht he hc hf
end
end Go.Proofs.Ythbbcnlpfjbleaa
