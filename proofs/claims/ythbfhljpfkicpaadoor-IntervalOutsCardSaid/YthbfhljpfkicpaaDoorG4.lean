/-
  Walks.
-/
import Derived.Test.YthbfhljpfkicpaaDoorG3
import Derived.Test.YthbfhljpfkicpaaDoorS5
set_option linter.unusedVariables false
set_option linter.unusedSimpArgs false
set_option maxRecDepth 100000
namespace Go.Proofs.YthbfhljpfkicpaaDoor
open Go Go.RowKit
section
variable {P : Program} {n : Nat} {ops rest : List Oper} {K : Rho → World → Prop} {ρ : Rho} {w : World} {d : Nat} {ty : TypeId} {pos : String} {after : Array Edge} {g : Option (Nat × Bool)} {t e : TypeId}
/-- A slice literal of values of one cell. -/
theorem V_litF {z : Value} {b : Nat} {len : Nat} {parts : List (Nat × Operand)} (T : ElT P t e z b) (hg : gd ops ρ g = some true) (hd : Nat.blt d n = true) (vs : List Value) (hone : ∀ u ∈ vs, u.cells = #[u]) (hlen : vs.length = len) (hsm : len ≤ 1000) (hpos : len ≠ 0) (hp : evs ρ (parts.map (·.2)) = some vs) (hi : parts.map (·.1) = List.range len)
    (h : ∀ v w', Own w.heap.size e w' v vs → Ext w w' → (∃ b, v = .slice (some b) vs.length vs.length) → WL P n ops rest K ((d, v) :: ρ) w') :
    WL P n ops (⟨some d, .buildSlice t len parts.toArray, ty, pos, after, g⟩ :: rest) K ρ w := by
  subst hlen
  obtain ⟨inf, h1, h2, h3, h4⟩ := T.info
  refine WL_val rfl hg hd (v := .slice (some ⟨w.heap.size, 0, none⟩) vs.length vs.length) (w' := w.alloc (.cells vs.toArray e)) (fun c hc => ?_)
    (h _ _ ⟨by simp, .inr ⟨w.heap.size, vs.length, _, by simp, Nat.le_refl _, heap_alloc_new w _, by simp, by simp only [maxLen]; omega, by simp, by rw [List.take_of_length_le (by simp)]⟩⟩ (Ext.alloc w _) ⟨_, rfl⟩)
  have hz : (parts.toArray.map fun x => (x.1, c.eval x.2)).toList = (List.range' 0 vs.length).zip vs := by
    have he := hc.evals hp
    have : (parts.toArray.map fun x => (x.1, c.eval x.2)).toList = (parts.map (·.1)).zip ((parts.map (·.2)).map c.eval) := by
      simp [List.zip_map', List.map_map, Function.comp_def]
    rw [this, he, hi, List.range_eq_range']
  have hf := fun (cells : Array Value) (hs : cells.size = vs.length) => fill_range vs 0 cells hone (by simp [hs])
  have hrange : ∀ x : Array Value, ((Array.range (vs.length * 1)).map fun i => x[i % x.size]!).size = vs.length := by intro x; simp
  have hsm' : ¬ (vs.length > 2 ^ 24) := by omega
  have hm : (parts.toArray.map fun x => match x with | (i, x) => (i, c.eval x)) = (parts.toArray.map fun x => (x.1, c.eval x.2)) := rfl
  have hf1 := hf (((Array.range (vs.length * 1)).map fun i => z.cells[i % z.cells.size]!)) (hrange z.cells)
  rw [← hz] at hf1
  simp at hf1
  simp only [execOp, hm, Instr.buildSlice, Sem.run_bind, run_underlying T.sl, Result.andThen_ok, sizeOf, typeInfo, run_program, h1, h2, Sem.run_pure, Nat.mul_one, hsm', hpos, if_false, zeroValue, h3, newRow]
  simp [hf1, newRow]
end

/-- A slice that reads as these values. -/
def SlR (vs : List Value) : Nat → Nat → Value → World → Prop := fun _ _ v w => SlV w v vs
theorem SlR.mono {vs : List Value} : (Kn.rel (SlR vs)).Mono := fun _ _ _ _ _ he h => SlV.ext h he
/-- .. without room. -/
def SlF (vs : List Value) : Nat → Nat → Value → World → Prop := fun _ _ v w => SlV w v vs ∧ ∃ b, v = .slice (some b) vs.length vs.length
theorem SlF.mono {vs : List Value} : (Kn.rel (SlF vs)).Mono := fun _ _ _ _ _ he h => ⟨h.1.ext he, h.2⟩
theorem O_appendFull {P : Program} {n : Nat} {ops rest : List Oper} {K : Rho → World → Prop} {ρ : Rho} {w : World} {d : Nat} {ty : TypeId} {pos : String} {after : Array Edge} {g : Option (Nat × Bool)} {t e : TypeId} {x y : Operand} {v v2 : Value} {vs vs2 : List Value} {z : Value} {bytes : Nat} (T : ElT P t e z bytes)
    (hg : gd ops ρ g = some true) (hd : Nat.blt d n = true) (hx : ev ρ x = some v) (hy : ev ρ y = some v2) (h1 : SlV w v vs) (hc : ∃ b, v = .slice (some b) vs.length vs.length) (h2 : SlV w v2 vs2) (hpos : vs2.length ≠ 0)
    (hm : vs.length + vs2.length ≤ 1000) (hfit : Builtin.nextslicecap (vs.length + vs2.length) vs.length * bytes ≤ 281474976710656) (hone : z.cells.size = 1)
    (h : ∀ v' w', SlV w' v' (vs ++ vs2) → Ext w w' → WL P n ops rest K ((d, v') :: ρ) w') :
    WL P n ops (⟨some d, .call { callee := .builtin .append, args := #[x, y], argTypes := #[t, t] }, ty, pos, after, g⟩ :: rest) K ρ w := by
  obtain ⟨inf, hi, hsz, hz, hby⟩ := T.info
  obtain ⟨b, rfl⟩ := hc
  obtain ⟨a0, cap0, he0, _, _, _, hc1⟩ := h1
  cases he0
  obtain ⟨a, cap, rfl, hle, hcm, hnone, hcells⟩ := h2
  cases a with
  | none => have := hnone rfl; omega
  | some ad =>
    have hr := run_append_grow (P := P) w t ty e inf z T.sl hi hz b vs.length vs.length vs (by rw [hsz]; omega) (fun j u hu => by obtain ⟨x, hx, hc⟩ := hc1 j u hu; cases hx; exact hc) ad vs2.length cap vs2 (by rw [hsz]; omega)
      (fun j u hu => by obtain ⟨x, hx, hc⟩ := hcells j u hu; cases hx; exact hc) (by omega) (by omega) (by rw [hby]; exact hfit)
    have hge := grownCap_ge w (vs.length + vs2.length) vs.length e
    have hcm := grownCap_le_maxLen w (vs.length + vs2.length) vs.length e (by simp only [maxLen]; omega)
    refine WL_val rfl hg hd (v := .slice (some ⟨w.heap.size, 0, none⟩) (vs.length + vs2.length) (grownCap w (vs.length + vs2.length) vs.length e)) (w' := w.drew.alloc (.cells (vs.toArray ++ vs2.toArray ++ Builtin.zeroCells z.cells (grownCap w (vs.length + vs2.length) vs.length e - (vs.length + vs2.length))) e)) (fun c hc => by simp [execOp, resolve, invoke, builtin, hc.eval hx, hc.eval hy, hr]) (h _ _ ?_ ((Ext.drew w).trans (Ext.alloc _ _)))
    refine ⟨some ⟨w.heap.size, 0, none⟩, grownCap w (vs.length + vs2.length) vs.length e, by rw [List.length_append], by rw [List.length_append]; exact hge, hcm, (fun h => by cases h), fun i u hu => ⟨_, rfl, ?_⟩⟩
    have hadd : (⟨w.heap.size, 0, none⟩ : Addr).add i = ⟨w.heap.size, i, none⟩ := by unfold Addr.add; split <;> simp_all
    rw [hadd, cell_of_row _ w.heap.size i _ e (0, 0) (heap_alloc_new w.drew _)]
    rw [Array.getElem?_append_left (by have := (List.getElem?_eq_some_iff.1 hu).1; rw [List.length_append] at this; simpa using this)]
    rw [List.append_toArray, List.getElem?_toArray]
    exact hu

theorem quarter_c {w : World} {n : Int} (h1 : -1000 ≤ n) (h2 : n ≤ 1000) :
    Calls Tryd.prog 54 #[.int .i64 n] w (Ret w fun r w' => ∃ q, r = .agg #[.bool (decide ((dman n (-2)) < 0)), q, .int .i64 (dexp n (-2))] ∧ No w.heap.size 111 w' q (dig (dman n (-2)).natAbs)) := by
 have hLn : (dig n.natAbs).length ≤ 1 := dig_len_of_lt (Nat.lt_of_le_of_lt (show n.natAbs ≤ 1000 by omega) (by decide))
 refine enter (args := [_]) Tryd.func54 rfl Tryd.ntmps54 rfl ?_
 refine WP_seq ?_
 refine WP_region ?_
 refine O_alloc S26 rfl rfl (fun g1 w1 b1 e1 gl1 gh1 => ?_)
 have z1 := e1.size
 refine WL_end [(0, _), (2, _)] ⟨rfl, rfl, trivial⟩ ?_
 refine WP_seq ?_
 refine WP_region ?_
 refine O_move rfl rfl rfl ?_
 refine O_call enters70 rfl rfl rfl (riof_c (by (try simp only [lens]); omega) (by (try simp only [lens]); omega)) (fun v2 w2 e2 h2 => ?_)
 have z2 := e2.size
 try simp only [val_dig] at h2
 obtain ⟨q2, rfl, hq2⟩ := h2
 refine O_call enters56 rfl rfl rfl (rdmake_c rfl hq2.nl (by (try simp only [lens]); omega)) (fun v3 w3 e3 h3 => ?_)
 have z3 := e3.size
 try simp only [val_dig] at h3
 obtain ⟨q3, rfl, hq3⟩ := h3
 refine O_move rfl rfl rfl ?_
 refine O_extract rfl rfl rfl rfl ?_
 refine O_extract rfl rfl rfl rfl ?_
 refine O_alloc S26 rfl rfl (fun g4 w4 b4 e4 gl4 gh4 => ?_)
 have z4 := e4.size
 refine O_storeA (cs' := [_, _, _]) S26 rfl rfl rfl b4 rfl rfl (one_cons rfl (one_cons ((hq3.ext e4).nl).one (one_cons rfl one_nil))) rfl (fun w5 b5 q5 => ?_)
 have z5 := Nat.le_of_eq q5.size.symm
 have e5 : Ext w w5 := q5.ext (((e1.trans e2).trans e3).trans e4) (by omega)
 refine O_assign rfl rfl rfl ?_
 refine WL_end [(2, _), (3, _)] ⟨rfl, rfl, trivial⟩ ?_
 refine WP_seq ?_
 refine WP_region ?_
 refine O_loadA (vs := [_, _, _]) S26 rfl rfl rfl b5 rfl rfl ?_
 refine O_storeA (cs' := [_, _, _]) S26 rfl rfl rfl ((((b1.ext e2).ext e3).ext e4).chg q5 (by first | assumption | omega)) rfl rfl (one_cons rfl (one_cons (((hq3.ext e4).chgBk b4 (by decide) q5).nl).one (one_cons rfl one_nil))) rfl (fun w6 b6 q6 => ?_)
 have z6 := Nat.le_of_eq q6.size.symm
 have e6 : Ext w w6 := q6.ext e5 (by omega)
 refine WL_end [(2, _)] ⟨rfl, trivial⟩ ?_
 refine WP_ret ?_
 refine retL Tryd.results54 (.cell rfl S26 b6 rfl .nil) ?_
 exact ⟨_, rfl, e6, _, rfl, (((hq3.ext e4).chgBk b4 (by decide) q5).chgBk ((((b1.ext e2).ext e3).ext e4).chg q5 (by first | assumption | omega)) (by decide) q6).mono (by omega)⟩

theorem precs_c {w : World} {p : Int} :
    Calls Tryd.prog 13 #[.int .i64 p] w (Ret w fun r w' => SlV w' r [Value.int .i64 p, Value.int .i64 (p % 60 - 20), Value.int .i64 (p % 1000), Value.int .i64 (-2049 + p % 3), Value.int .i64 (8191 + p % 3)] ∧ ∃ b, r = .slice (some b) 5 5) := by
 refine enter (args := [_]) Tryd.func13 rfl Tryd.ntmps13 rfl ?_
 refine WP_seq ?_
 refine WP_region ?_
 refine O_assign rfl rfl rfl ?_
 refine WL_end [(0, _)] ⟨rfl, trivial⟩ ?_
 refine WP_seq ?_
 refine WP_region ?_
 refine O_move rfl rfl rfl ?_
 refine O_move rfl rfl rfl ?_
 refine O_call enters21 rfl rfl rfl (mod_c (by (try simp only [lens]); omega) (by (try simp only [lens]); omega)) (fun v1 w1 e1 h1 => ?_)
 have z1 := e1.size
 obtain rfl := h1
 refine O_sub rfl rfl rfl rfl (wrap_i64_id (by omega) (by omega)) ?_
 refine O_move rfl rfl rfl ?_
 refine O_call enters21 rfl rfl rfl (mod_c (by (try simp only [lens]); omega) (by (try simp only [lens]); omega)) (fun v2 w2 e2 h2 => ?_)
 have z2 := e2.size
 obtain rfl := h2
 refine O_move rfl rfl rfl ?_
 refine O_call enters21 rfl rfl rfl (mod_c (by (try simp only [lens]); omega) (by (try simp only [lens]); omega)) (fun v3 w3 e3 h3 => ?_)
 have z3 := e3.size
 obtain rfl := h3
 refine O_add rfl rfl rfl rfl (wrap_i64_id (by omega) (by omega)) ?_
 refine O_move rfl rfl rfl ?_
 refine O_call enters21 rfl rfl rfl (mod_c (by (try simp only [lens]); omega) (by (try simp only [lens]); omega)) (fun v4 w4 e4 h4 => ?_)
 have z4 := e4.size
 obtain rfl := h4
 refine O_add rfl rfl rfl rfl (wrap_i64_id (by omega) (by omega)) ?_
 refine V_litF TDint rfl rfl [Value.int .i64 p, Value.int .i64 (p % 60 - 20), Value.int .i64 (p % 1000), Value.int .i64 (-2049 + p % 3), Value.int .i64 (8191 + p % 3)] (by intro u hu; simp only [List.mem_cons, List.mem_nil_iff, or_false] at hu; rcases hu with rfl | rfl | rfl | rfl | rfl <;> rfl) rfl (by decide) (by decide) rfl rfl (fun vt wt ot et hcap => ?_)
 have zt := et.size
 refine O_assign rfl rfl rfl ?_
 refine WL_end [(2, _)] ⟨rfl, trivial⟩ ?_
 refine WP_ret ?_
 refine ret1 Tryd.results13 rfl ?_
 exact ⟨_, rfl, ((((e1.trans e2).trans e3).trans e4).trans et), ot.sl, hcap⟩

end Go.Proofs.YthbfhljpfkicpaaDoor
