/-
  A literal of two changes.
-/
import Derived.Test.YtoccimigjjndpaaV5
set_option linter.unusedVariables false
set_option linter.unusedSimpArgs false
namespace Go.Proofs.Ytoccimigjjndpaa
open Go Go.RowKit
theorem fill_one (a : Ch) (k : Nat) (cells : Array Value) (h : k + 4 ≤ cells.size) : (ccells a).toArray.zipIdx.foldl (fun cs (x : Value × Nat) => match x with | (c, j) => cs.setIfInBounds (k + j) c) cells = (cells.toList.take k ++ (ccells a ++ cells.toList.drop (k + 4))).toArray := by
  have hf := fold_set k (ccells a) 0 cells (by simpa [ccells] using h)
  rw [← Array.foldl_toList]
  simpa [ccells] using hf
theorem fill_step {place : Nat → Option (Nat × Nat)} (a : Ch) {i k : Nat} (cells : Array Value) (rest : List (Nat × Value)) (hp : place i = some (k, 4)) (h : k + 4 ≤ cells.size) :
    Instr.fill place cells ((i, .agg (ccells a).toArray) :: rest) = Instr.fill place (cells.toList.take k ++ (ccells a ++ cells.toList.drop (k + 4))).toArray rest := by
  rw [Instr.fill, hp]
  dsimp only
  split
  · exfalso
    rename_i h9
    simp [Value.cells, ccells] at h9
    omega
  · exact congrArg (fun c => Instr.fill place c rest) (fill_one a k cells h)
theorem fill_two (a b : Ch) (cells : Array Value) (h : cells.size = 8) : Instr.fill (fun i => some (i * 4, 4)) cells [(0, .agg (ccells a).toArray), (1, .agg (ccells b).toArray)] = some (ccells a ++ ccells b).toArray := by
  have hc : cells.toList.length = 8 := by simpa using h
  rw [fill_step a cells _ (k := 0) rfl (by omega), fill_step b _ _ (k := 4) rfl (by simp [ccells, h]), Instr.fill]
  simp [ccells, hc]
theorem C_lit2 {P : Program} {n : Nat} {K : Rho → World → Prop} {ρ : Rho} {w : World} {ops rest : List Oper} {ty : TypeId} {pos : String} {after : Array Edge} {g : Option (Nat × Bool)} {d : Nat} {x y : Operand} {a b : Ch} {t0 : TypeId} {zs : List Value} {bytes : Nat} (T : EkT P t0 74 4 zs bytes)
    (hg : gd ops ρ g = some true) (hd : Nat.blt d n = true) (hx : ev ρ x = some (.agg (ccells a).toArray)) (hy : ev ρ y = some (.agg (ccells b).toArray))
    (h : ∀ v w', OwC w.heap.size w' v [a, b] → Ext w w' → WL P n ops rest K ((d, v) :: ρ) w') :
    WL P n ops (⟨some d, .buildSlice t0 2 #[(0, x), (1, y)], ty, pos, after, g⟩ :: rest) K ρ w := by
  obtain ⟨inf, h1, h2, h3, h4, h5⟩ := T.info
  have hown : OwC w.heap.size (w.alloc (.cells (ccells a ++ ccells b).toArray 74)) (.slice (some ⟨w.heap.size, 0, none⟩) 2 2) [a, b] :=
    ⟨⟨by simp [ccells], .inr ⟨w.heap.size, 2, (ccells a ++ ccells b).toArray, rfl, Nat.le_refl _, heap_alloc_new w _, by simp, by simp only [maxLen]; omega, by simp [ccells], by simp [ccells]⟩⟩, fun r hr => by
      simp only [List.map_cons, List.map_nil, List.mem_cons, List.not_mem_nil, or_false] at hr
      rcases hr with rfl | rfl <;> rfl⟩
  refine WL_val rfl hg hd (v := .slice (some ⟨w.heap.size, 0, none⟩) 2 2) (w' := w.alloc (.cells (ccells a ++ ccells b).toArray 74)) (fun c hc => ?_) (h _ _ hown (Ext.alloc w _))
  have hf := fill_two a b ((Array.range (2 * 4)).map fun i => zs.toArray[i % zs.toArray.size]!) (by simp)
  have e1 := hc.eval hx
  have e2 := hc.eval hy
  have hsm : ¬ (2 * 4 > 2 ^ 24) := by omega
  have hz0 : ¬ (2 * 4 = 0) := by omega
  simp only [execOp, Instr.buildSlice, Sem.run_bind, run_underlying T.sl, Result.andThen_ok, sizeOf, typeInfo, run_program, h1, h2, h3, Sem.run_pure, hsm, hz0, if_false, zeroValue, Value.cells]
  simp [e1, e2, hf, newRow] at hf ⊢
  try simp [hf]
end Go.Proofs.Ytoccimigjjndpaa
