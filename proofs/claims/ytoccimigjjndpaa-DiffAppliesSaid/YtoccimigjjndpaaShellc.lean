/-
  How slices of changes that came in read.
-/
import Derived.Test.YtoccimigjjndpaaShellk
import Derived.Test.YtoccimigjjndpaaChgs
set_option linter.unusedVariables false
set_option linter.unusedSimpArgs false
set_option maxRecDepth 100000
namespace Go.Proofs.Ytoccimigjjndpaa
open Go Go.RowKit Go.ChangeShapes
section
variable {H : Type} {enc : TypeId × Value → H} {P : Program} {w : World} {held : Bool}
theorem rows_chg {e : TypeId} {fs : Array Field} {f0 f1 f2 f3 : Field} (he : P.underlying e = some (.struct fs)) (h0 : fs[0]? = some f0) (h1 : fs[1]? = some f1) (h2 : fs[2]? = some f2) (h3 : fs[3]? = some f3) (o0 : f0.offset = 0) (o1 : f1.offset = 1) (o2 : f2.offset = 2) (o3 : f3.offset = 3)
    (c0 : P.cellsOf f0.type = 1) (c1 : P.cellsOf f1.type = 1) (c2 : P.cellsOf f2.type = 1) (c3 : P.cellsOf f3.type = 1)
    (t0 : P.underlying f0.type = some (.int .i64)) (t1 : P.underlying f1.type = some .string) (t2 : P.underlying f2.type = some (.int .i64)) (t3 : P.underlying f3.type = some (.int .i64)) : ∀ {rows : List (List Value)}, (∀ r ∈ rows, r.length = 4 ∧ ∃ n y, DataW.trod enc P w 0 (fun _ => true) held n e r = some y) → ∃ l : List Ch, rows = l.map ccells
  | [], _ => ⟨[], rfl⟩
  | r :: rows, h => by
    obtain ⟨l, hl⟩ := rows_chg he h0 h1 h2 h3 o0 o1 o2 o3 c0 c1 c2 c3 t0 t1 t2 t3 (rows := rows) fun r hr => h r (List.mem_cons_of_mem _ hr)
    obtain ⟨hrl, n, y, hr⟩ := h r (by simp)
    obtain ⟨n0, y0, k0⟩ := open_field he hr 0 f0 h0 0 1 o0 c0
    obtain ⟨n1, y1, k1⟩ := open_field he hr 1 f1 h1 1 1 o1 c1
    obtain ⟨n2, y2, k2⟩ := open_field he hr 2 f2 h2 2 1 o2 c2
    obtain ⟨n3, y3, k3⟩ := open_field he hr 3 f3 h3 3 1 o3 c3
    obtain ⟨a0, ha0, _⟩ := DataW.trod_int t0 k0
    obtain ⟨s, hs, _⟩ := DataW.trod_string t1 k1
    obtain ⟨a2, ha2, _⟩ := DataW.trod_int t2 k2
    obtain ⟨a3, ha3, _⟩ := DataW.trod_int t3 k3
    refine ⟨(a0, s, a2, a3) :: l, ?_⟩
    rw [List.map_cons, ← hl]
    congr 1
    match r, hrl with
    | [a, b, c, d], _ =>
      simp at ha0 hs ha2 ha3
      subst ha0 hs ha2 ha3
      rfl
end
theorem SlC_of_Trod {H : Type} {enc : TypeId × Value → H} {w : World} {held : Bool} {a : Option Addr} {len cap : Nat} {d : DataW H} {p : List MemPlace}
    (h : DataW.Trod enc Try.prog w 0 (fun _ => true) held 66 (.slice a len cap) d p) : ∃ l : List Ch, SlC w (.slice a len cap) l := by
  obtain ⟨fuel, hf⟩ := h
  obtain ⟨rows, hs, hall⟩ := SlK_of_trod (z := 4) Try.underlying66 (by kernel_rfl) hf
  obtain ⟨l, rfl⟩ := rows_chg Try.underlying74 rfl rfl rfl rfl rfl rfl rfl rfl (by kernel_rfl) (by kernel_rfl) (by kernel_rfl) (by kernel_rfl) Try.underlying3 Try.underlying9 Try.underlying3 Try.underlying3 fun r hr => ⟨by
    obtain ⟨i, hi⟩ := List.mem_iff_getElem?.1 hr
    exact (SlK.at_ hs hi).1, hall r hr⟩
  exact ⟨l, hs⟩
end Go.Proofs.Ytoccimigjjndpaa
