/-
  How arguments that came in read.
-/
import Derived.Test.YtoccimigjjndpaaNum
import Derived.ProofKit
import Derived.ChangeSlices
set_option linter.unusedVariables false
set_option linter.unusedSimpArgs false
set_option maxRecDepth 100000
namespace Go.Proofs.Ytoccimigjjndpaa
open Go Go.RowKit Go.ChangeShapes
/-- A slice that came in, as digits. -/
theorem Nl_of_row0 {w : World} {a : Option Addr} {len cap : Nat} {zs : List Int} (h : (a = none ∧ len = 0 ∧ cap = 0 ∧ zs = []) ∨
    ∃ x, a = some x ∧ len ≤ cap ∧ cap ≤ maxLen ∧ zs.length = cap ∧ (∀ i, i < zs.length → w.cell? (x.add i) = some (.int .u32 (zs.getD i 0))) ∧ ∀ n ∈ zs, (Lit.int .u32 n).wf = true) :
    Nl w (.slice a len cap) ((zs.take len).map Int.toNat) := by
  rcases h with ⟨rfl, rfl, rfl, rfl⟩ | ⟨x, rfl, h1, h2, h3, h4, h5⟩
  · exact Nl.nil w
  · have hb : ∀ n ∈ zs, 0 ≤ n ∧ n < 4294967296 := by
      intro n hn
      have := h5 n hn
      simp [Lit.wf, IntKind.has, IntKind.min, IntKind.max, IntKind.bits, IntKind.signed] at this
      omega
    have hl : ((zs.take len).map Int.toNat).length = len := by simp; omega
    refine ⟨⟨some x, cap, by simp [List.length_map] ; omega, by simp; omega, h2, by simp, fun i u hu => ⟨x, rfl, ?_⟩⟩, fun y hy => ?_⟩
    · simp only [List.map_map, List.getElem?_map, List.getElem?_take] at hu
      split at hu
      · rename_i hi
        have hiz : i < zs.length := by omega
        rw [h4 i hiz]
        rw [List.getElem?_eq_getElem hiz] at hu
        simp only [Option.map_some, Option.some.injEq, Function.comp_apply, dv] at hu
        rw [← hu, List.getD_eq_getElem?_getD, List.getElem?_eq_getElem hiz]
        have := hb zs[i] (List.getElem_mem hiz)
        simp only [Option.getD_some]
        congr 2
        omega
      · cases hu
    · obtain ⟨n, hn, rfl⟩ := List.mem_map.1 hy
      have := hb n (List.mem_of_mem_take hn)
      omega
section
variable {H : Type} {enc : TypeId × Value → H} {P : Program} {w : World} {held : Bool}
/-- A slice of digits among the cells of a datum. -/
theorem Nl_of_trod {t e : TypeId} {fuel : Nat} {v : Value} {x : DataW H × List MemPlace} (ht : P.underlying t = some (.slice e)) (he : P.underlying e = some (.int .u32)) (hc : P.cellsOf e = 1)
    (h : DataW.trod enc P w 0 (fun _ => true) held fuel t [v] = some x) : ∃ l, Nl w v l := by
  rcases open_ints ht he hc h with ⟨hcs, _⟩ | ⟨a, len, cap, zs, hcs, _, hl, hm, hz, _, hcell, hwz⟩
  · obtain rfl := List.singleton_inj.1 hcs
    exact ⟨[], Nl.nil w⟩
  · obtain rfl := List.singleton_inj.1 hcs
    exact ⟨_, Nl_of_row0 (.inr ⟨a, rfl, hl, hm, by simpa using hz, hcell, hwz⟩)⟩
theorem Nl_of_Trod {t e : TypeId} {a : Option Addr} {len cap : Nat} {d : DataW H} {p : List MemPlace} (ht : P.underlying t = some (.slice e)) (he : P.underlying e = some (.int .u32)) (hc : P.cellsOf e = 1)
    (h : DataW.Trod enc P w 0 (fun _ => true) held t (.slice a len cap) d p) : ∃ l, Nl w (.slice a len cap) l := by
  obtain ⟨fuel, hf⟩ := h
  exact Nl_of_trod ht he hc hf
/-- A field among the cells of a datum. -/
theorem open_field {t : TypeId} {fs : Array Field} {fuel : Nat} {cs : List Value} {x : DataW H × List MemPlace} (ht : P.underlying t = some (.struct fs)) (h : DataW.trod enc P w 0 (fun _ => true) held fuel t cs = some x) (i : Nat) (f : Field) (hf : fs[i]? = some f) (off sz : Nat) (ho : f.offset = off) (hs : P.cellsOf f.type = sz) :
    ∃ n y, DataW.trod enc P w 0 (fun _ => true) held n f.type ((cs.drop off).take sz) = some y := by
  obtain ⟨xs, n, _, _, _, hlen, hall⟩ := DataW.trod_struct ht h
  have h1 := hall i f hf
  have hlt : i < fs.size := by
    rcases Nat.lt_or_ge i fs.size with k | k
    · exact k
    · rw [Array.getElem?_eq_none k] at hf; cases hf
  rw [List.getElem?_eq_getElem (by omega)] at h1
  subst ho; subst hs
  exact ⟨n, _, h1⟩
end
theorem arr1 {cs : Array Value} (h : cs.size = 1) : ∃ c0, cs = #[c0] := ⟨cs[0], by
  apply Array.ext
  · simpa using h
  · intro i h1 h2
    simp at h2
    match i, h2 with
    | 0, _ => rfl⟩
theorem arr2 {cs : Array Value} (h : cs.size = 2) : ∃ c0 c1, cs = #[c0, c1] := ⟨cs[0], cs[1], by
  apply Array.ext
  · simpa using h
  · intro i h1 h2
    simp at h2
    match i, h2 with
    | 0, _ => rfl
    | 1, _ => rfl⟩
theorem arr3 {cs : Array Value} (h : cs.size = 3) : ∃ c0 c1 c2, cs = #[c0, c1, c2] := ⟨cs[0], cs[1], cs[2], by
  apply Array.ext
  · simpa using h
  · intro i h1 h2
    simp at h2
    match i, h2 with
    | 0, _ => rfl
    | 1, _ => rfl
    | 2, _ => rfl⟩
theorem arr4 {cs : Array Value} (h : cs.size = 4) : ∃ c0 c1 c2 c3, cs = #[c0, c1, c2, c3] := ⟨cs[0], cs[1], cs[2], cs[3], by
  apply Array.ext
  · simpa using h
  · intro i h1 h2
    simp at h2
    match i, h2 with
    | 0, _ => rfl
    | 1, _ => rfl
    | 2, _ => rfl
    | 3, _ => rfl⟩
theorem arr5 {cs : Array Value} (h : cs.size = 5) : ∃ c0 c1 c2 c3 c4, cs = #[c0, c1, c2, c3, c4] := ⟨cs[0], cs[1], cs[2], cs[3], cs[4], by
  apply Array.ext
  · simpa using h
  · intro i h1 h2
    simp at h2
    match i, h2 with
    | 0, _ => rfl
    | 1, _ => rfl
    | 2, _ => rfl
    | 3, _ => rfl
    | 4, _ => rfl⟩
theorem arr6 {cs : Array Value} (h : cs.size = 6) : ∃ c0 c1 c2 c3 c4 c5, cs = #[c0, c1, c2, c3, c4, c5] := ⟨cs[0], cs[1], cs[2], cs[3], cs[4], cs[5], by
  apply Array.ext
  · simpa using h
  · intro i h1 h2
    simp at h2
    match i, h2 with
    | 0, _ => rfl
    | 1, _ => rfl
    | 2, _ => rfl
    | 3, _ => rfl
    | 4, _ => rfl
    | 5, _ => rfl⟩
theorem arr7 {cs : Array Value} (h : cs.size = 7) : ∃ c0 c1 c2 c3 c4 c5 c6, cs = #[c0, c1, c2, c3, c4, c5, c6] := ⟨cs[0], cs[1], cs[2], cs[3], cs[4], cs[5], cs[6], by
  apply Array.ext
  · simpa using h
  · intro i h1 h2
    simp at h2
    match i, h2 with
    | 0, _ => rfl
    | 1, _ => rfl
    | 2, _ => rfl
    | 3, _ => rfl
    | 4, _ => rfl
    | 5, _ => rfl
    | 6, _ => rfl⟩
end Go.Proofs.Ytoccimigjjndpaa
