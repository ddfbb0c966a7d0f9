/-
  Walks.
-/
import Derived.Test.YthbfhljpfkicpaaDoorS4
set_option linter.unusedVariables false
set_option linter.unusedSimpArgs false
set_option maxRecDepth 100000
namespace Go.Proofs.YthbfhljpfkicpaaDoor
open Go Go.RowKit
section
variable {P : Program} {n : Nat} {ops rest : List Oper} {K : Rho → World → Prop} {ρ : Rho} {w : World} {d : Nat} {ty : TypeId} {pos : String} {after : Array Edge} {g : Option (Nat × Bool)} {t e : TypeId}
/-- A slice literal of values of one cell. -/
theorem V_lit {z : Value} {b : Nat} {len : Nat} {parts : List (Nat × Operand)} (T : ElT P t e z b) (hg : gd ops ρ g = some true) (hd : Nat.blt d n = true) (vs : List Value) (hone : ∀ u ∈ vs, u.cells = #[u]) (hlen : vs.length = len) (hsm : len ≤ 1000) (hpos : len ≠ 0) (hp : evs ρ (parts.map (·.2)) = some vs) (hi : parts.map (·.1) = List.range len)
    (h : ∀ v w', Own w.heap.size e w' v vs → Ext w w' → WL P n ops rest K ((d, v) :: ρ) w') :
    WL P n ops (⟨some d, .buildSlice t len parts.toArray, ty, pos, after, g⟩ :: rest) K ρ w := by
  subst hlen
  obtain ⟨inf, h1, h2, h3, h4⟩ := T.info
  refine WL_val rfl hg hd (v := .slice (some ⟨w.heap.size, 0, none⟩) vs.length vs.length) (w' := w.alloc (.cells vs.toArray e)) (fun c hc => ?_)
    (h _ _ ⟨by simp, .inr ⟨w.heap.size, vs.length, _, by simp, Nat.le_refl _, heap_alloc_new w _, by simp, by simp only [maxLen]; omega, by simp, by rw [List.take_of_length_le (by simp)]⟩⟩ (Ext.alloc w _))
  have hz : (parts.toArray.map fun x => (x.1, c.eval x.2)).toList = (List.range' 0 vs.length).zip vs := by
    have he := hc.evals hp
    have : (parts.toArray.map fun x => (x.1, c.eval x.2)).toList = (parts.map (·.1)).zip ((parts.map (·.2)).map c.eval) := by
      simp [List.zip_map', List.map_map, Function.comp_def]
    rw [this, he, hi, List.range_eq_range']
  have hf := fun (cells : Array Value) (hs : cells.size = vs.length) => fill_range vs 0 cells hone (by simp [hs])
  have hrange : ∀ x : Array Value, ((Array.range (vs.length * 1)).map fun i => x[i % x.size]!).size = vs.length := by intro x; simp
  have hsm' : ¬ (vs.length > 2 ^ 24) := by omega
  have hm : (parts.toArray.map fun x => match x with | (i, x) => (i, c.eval x)) = (parts.toArray.map fun x => (x.1, c.eval x.2)) := rfl
  have hf1 := hf (((Array.range (vs.length * 1)).map fun i => z.cells[i % z.cells.size]!)) (hrange z.cells)
  rw [← hz] at hf1
  simp at hf1
  simp only [execOp, hm, Instr.buildSlice, Sem.run_bind, run_underlying T.sl, Result.andThen_ok, sizeOf, typeInfo, run_program, h1, h2, Sem.run_pure, Nat.mul_one, hsm', hpos, if_false, zeroValue, h3, newRow]
  simp [hf1, newRow]
end
theorem TDint : ElT Tryd.prog 30 3 (.int .i64 0) 8 := ElT.mk' Tryd.underlying30 (by kernel_rfl)

theorem rivalid_c {w : World} {vx : Value} {lx : List Nat} {bx : Bool} (hx : Nl w vx lx) :
    Calls Tryd.prog 145 #[.agg #[.bool bx, vx]] w (Ret w fun r _ => r = .bool (ival bx lx)) := by
 refine enter (args := [_]) Tryd.func145 rfl Tryd.ntmps145 rfl ?_
 refine WP_seq ?_
 refine WP_region ?_
 refine O_box _ rfl rfl rfl rfl (fun g1 w1 b1 e1 gl1 gh1 => ?_)
 have z1 := e1.size
 refine O_assign rfl rfl rfl ?_
 refine WL_end [(1, _)] ⟨rfl, trivial⟩ ?_
 refine WP_seq ?_
 refine WP_region ?_
 refine O_field F24_1 rfl rfl rfl ?_
 refine O_loadC Tryd.underlying22 rfl rfl rfl rfl b1 rfl ?_
 refine O_call enters161 rfl rfl rfl (rvalid_c (hx.ext e1)) (fun v2 w2 e2 h2 => ?_)
 have z2 := e2.size
 obtain rfl := h2
 refine O_move rfl rfl rfl ?_
 refine WL_bool 6 rfl (fun g6 => ?_) (fun g6 => ?_)
 · --
  refine O_field F24_0 rfl rfl rfl ?_
  refine O_loadC Tryd.underlying4 rfl rfl rfl rfl (b1.ext e2) rfl ?_
  refine O_not rfl rfl rfl rfl ?_
  refine O_move rfl rfl rfl ?_
  refine WL_bool 10 rfl (fun g10 => ?_) (fun g10 => ?_)
  · --
   refine O_skip rfl rfl ?_
   refine O_skip rfl rfl ?_
   refine O_skip rfl rfl ?_
   refine O_skip rfl rfl ?_
   refine O_pickT rfl rfl rfl rfl ?_
   refine O_pickT rfl rfl rfl rfl ?_
   refine O_assign rfl rfl rfl ?_
   refine WL_end [(2, _)] ⟨rfl, trivial⟩ ?_
   refine WP_ret ?_
   refine ret1 Tryd.results145 rfl ?_
   first
     | exact ⟨_, rfl, (e1.trans e2), by first | rw [ival_t (by assumption) (by omega)] | rw [ival_b (by assumption) (by omega)] | rw [ival_f (by assumption)] | (simp_all [ival])⟩
  · --
   refine O_field F24_1 rfl rfl rfl ?_
   refine O_loadC Tryd.underlying22 rfl rfl rfl rfl (b1.ext e2) rfl ?_
   refine N_len T22 rfl rfl rfl (hx.ext (e1.trans e2)) ?_
   refine O_gtr rfl rfl rfl rfl rfl ?_
   refine O_pickF rfl rfl rfl rfl ?_
   refine O_pickT rfl rfl rfl rfl ?_
   refine O_assign rfl rfl rfl ?_
   refine WL_end [(2, _)] ⟨rfl, trivial⟩ ?_
   refine WP_ret ?_
   refine ret1 Tryd.results145 rfl ?_
   first
     | exact ⟨_, rfl, (e1.trans e2), by first | rw [ival_t (by assumption) (by omega)] | rw [ival_b (by assumption) (by omega)] | rw [ival_f (by assumption)] | (simp_all [ival])⟩
 · --
  refine O_skip rfl rfl ?_
  refine O_skip rfl rfl ?_
  refine O_skip rfl rfl ?_
  refine O_skip rfl rfl ?_
  refine O_skipU rfl rfl rfl ?_
  refine O_skipU rfl rfl rfl ?_
  refine O_skipU rfl rfl rfl ?_
  refine O_skipU rfl rfl rfl ?_
  refine O_skip rfl rfl ?_
  refine O_pickF rfl rfl rfl rfl ?_
  refine O_assign rfl rfl rfl ?_
  refine WL_end [(2, _)] ⟨rfl, trivial⟩ ?_
  refine WP_ret ?_
  refine ret1 Tryd.results145 rfl ?_
  first
    | exact ⟨_, rfl, (e1.trans e2), by first | rw [ival_t (by assumption) (by omega)] | rw [ival_b (by assumption) (by omega)] | rw [ival_f (by assumption)] | (simp_all [ival])⟩

end Go.Proofs.YthbfhljpfkicpaaDoor
