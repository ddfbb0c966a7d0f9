/-
  How slices of bindings that came in read.
-/
import Derived.Test.YtoccimigjjndpaaShelli
import Derived.Test.YtoccimigjjndpaaEnvs
set_option linter.unusedVariables false
set_option linter.unusedSimpArgs false
set_option maxRecDepth 100000
namespace Go.Proofs.Ytoccimigjjndpaa
open Go Go.RowKit Go.ChangeShapes
section
variable {H : Type} {enc : TypeId × Value → H} {P : Program} {w : World} {held : Bool}
/-- A slice of elements of z cells, each of which reads as a datum. -/
theorem SlK_of_trod {t e : TypeId} {z fuel : Nat} {v : Value} {x : DataW H × List MemPlace} (ht : P.underlying t = some (.slice e)) (hc : P.cellsOf e = z)
    (h : DataW.trod enc P w 0 (fun _ => true) held fuel t [v] = some x) :
    ∃ rows, SlK z w v rows ∧ ∀ r ∈ rows, ∃ n y, DataW.trod enc P w 0 (fun _ => true) held n e r = some y := by
  rcases DataW.trod_slice ht h with ⟨hcs, _⟩ | ⟨a, len, cap, elems, rest, n, _, hcs, rfl, hb, hl, hm, hlen, hel, _⟩
  · obtain rfl := List.singleton_inj.1 hcs
    exact ⟨[], SlK.nil z w, fun r hr => by cases hr⟩
  · obtain rfl := List.singleton_inj.1 hcs
    have each : ∀ i, i < len → ∃ cs y, w.cells? 0 (a.add (i * z)) z = some cs ∧ DataW.trod enc P w 0 (fun _ => true) held n e cs = some y := by
      intro i hi
      have h1 := hel i hi
      rw [List.getElem?_eq_getElem (by omega), hc, Option.bind_eq_some_iff] at h1
      obtain ⟨cs, h2, h3⟩ := h1
      exact ⟨cs, _, h2, h3⟩
    let rows := (List.range len).map fun i => (w.cells? 0 (a.add (i * z)) z).getD []
    have hrl : rows.length = len := by simp [rows]
    have hrow : ∀ i row, rows[i]? = some row → i < len ∧ w.cells? 0 (a.add (i * z)) z = some row := by
      intro i row hr
      have hi : i < len := by rw [← hrl]; exact (List.getElem?_eq_some_iff.1 hr).1
      obtain ⟨cs, y, h2, h3⟩ := each i hi
      refine ⟨hi, ?_⟩
      have : rows[i]? = some ((w.cells? 0 (a.add (i * z)) z).getD []) := by simp [rows, hi]
      rw [this, h2] at hr
      rw [h2]
      exact hr
    refine ⟨rows, ⟨some a, cap, by rw [hrl], by omega, hm, by simp, fun i row hr => ?_⟩, fun r hr => ?_⟩
    · obtain ⟨hi, h2⟩ := hrow i row hr
      obtain ⟨_, h4, h5⟩ := World.cells?_some h2
      refine ⟨h4, a, rfl, fun j u hu => ?_⟩
      have hj : j < z := by rw [← h4]; exact (List.getElem?_eq_some_iff.1 hu).1
      have := h5 j hj
      rw [add_add] at this
      rw [this, hu]
    · obtain ⟨i, hi⟩ := List.mem_iff_getElem?.1 hr
      obtain ⟨hlt, h2⟩ := hrow i r hi
      obtain ⟨cs, y, h3, h4⟩ := each i hlt
      rw [h2] at h3
      cases h3
      exact ⟨n, y, h4⟩
theorem rows_bind {e : TypeId} {fs : Array Field} {f0 f1 : Field} (he : P.underlying e = some (.struct fs)) (h0 : fs[0]? = some f0) (h1 : fs[1]? = some f1) (o0 : f0.offset = 0) (o1 : f1.offset = 1) (c0 : P.cellsOf f0.type = 1) (c1 : P.cellsOf f1.type = 1)
    (t0 : P.underlying f0.type = some .string) (t1 : P.underlying f1.type = some (.int .i64)) : ∀ {rows : List (List Value)}, (∀ r ∈ rows, r.length = 2 ∧ ∃ n y, DataW.trod enc P w 0 (fun _ => true) held n e r = some y) → ∃ l : Env, rows = l.map bcells
  | [], _ => ⟨[], rfl⟩
  | r :: rows, h => by
    obtain ⟨l, hl⟩ := rows_bind he h0 h1 o0 o1 c0 c1 t0 t1 (rows := rows) fun r hr => h r (List.mem_cons_of_mem _ hr)
    obtain ⟨hrl, n, y, hr⟩ := h r (by simp)
    obtain ⟨n0, y0, k0⟩ := open_field he hr 0 f0 h0 0 1 o0 c0
    obtain ⟨n1, y1, k1⟩ := open_field he hr 1 f1 h1 1 1 o1 c1
    obtain ⟨s, hs, _⟩ := DataW.trod_string t0 k0
    obtain ⟨x, hx, _⟩ := DataW.trod_int t1 k1
    refine ⟨(s, x) :: l, ?_⟩
    rw [List.map_cons, ← hl]
    congr 1
    match r, hrl with
    | [a, b], _ =>
      simp at hs hx
      subst hs hx
      rfl
end
theorem SlB_of_Trod {H : Type} {enc : TypeId × Value → H} {w : World} {held : Bool} {a : Option Addr} {len cap : Nat} {d : DataW H} {p : List MemPlace}
    (h : DataW.Trod enc Try.prog w 0 (fun _ => true) held 34 (.slice a len cap) d p) : ∃ l : Env, SlB w (.slice a len cap) l := by
  obtain ⟨fuel, hf⟩ := h
  obtain ⟨rows, hs, hall⟩ := SlK_of_trod (z := 2) Try.underlying34 (by kernel_rfl) hf
  obtain ⟨l, rfl⟩ := rows_bind Try.underlying54 rfl rfl rfl rfl (by kernel_rfl) (by kernel_rfl) Try.underlying9 Try.underlying3 fun r hr => ⟨by
    obtain ⟨i, hi⟩ := List.mem_iff_getElem?.1 hr
    exact (SlK.at_ hs hi).1, hall r hr⟩
  exact ⟨l, hs⟩
end Go.Proofs.Ytoccimigjjndpaa
