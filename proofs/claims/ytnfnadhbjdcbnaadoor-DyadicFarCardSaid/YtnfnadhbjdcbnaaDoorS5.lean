/-
  Walks.
-/
import Derived.Test.YtnfnadhbjdcbnaaDoorS4
set_option linter.unusedVariables false
set_option linter.unusedSimpArgs false
set_option maxRecDepth 100000
namespace Go.Proofs.YtnfnadhbjdcbnaaDoor
open Go Go.RowKit
section
variable {P : Program} {n : Nat} {ops rest : List Oper} {K : Rho → World → Prop} {ρ : Rho} {w : World} {d : Nat} {ty : TypeId} {pos : String} {after : Array Edge} {g : Option (Nat × Bool)} {t e : TypeId}
/-- A slice literal of values of one cell. -/
theorem V_lit {z : Value} {b : Nat} {len : Nat} {parts : List (Nat × Operand)} (T : ElT P t e z b) (hg : gd ops ρ g = some true) (hd : Nat.blt d n = true) (vs : List Value) (hone : ∀ u ∈ vs, u.cells = #[u]) (hlen : vs.length = len) (hsm : len ≤ 1000) (hpos : len ≠ 0) (hp : evs ρ (parts.map (·.2)) = some vs) (hi : parts.map (·.1) = List.range len)
    (h : ∀ v w', Own w.heap.size e w' v vs → Ext w w' → WL P n ops rest K ((d, v) :: ρ) w') :
    WL P n ops (⟨some d, .buildSlice t len parts.toArray, ty, pos, after, g⟩ :: rest) K ρ w := by
  subst hlen
  obtain ⟨inf, h1, h2, h3, h4⟩ := T.info
  refine WL_val rfl hg hd (v := .slice (some ⟨w.heap.size, 0, none⟩) vs.length vs.length) (w' := w.alloc (.cells vs.toArray e)) (fun c hc => ?_)
    (h _ _ ⟨by simp, .inr ⟨w.heap.size, vs.length, _, by simp, Nat.le_refl _, heap_alloc_new w _, by simp, by simp only [maxLen]; omega, by simp, by rw [List.take_of_length_le (by simp)]⟩⟩ (Ext.alloc w _))
  have hz : (parts.toArray.map fun x => (x.1, c.eval x.2)).toList = (List.range' 0 vs.length).zip vs := by
    have he := hc.evals hp
    have : (parts.toArray.map fun x => (x.1, c.eval x.2)).toList = (parts.map (·.1)).zip ((parts.map (·.2)).map c.eval) := by
      simp [List.zip_map', List.map_map, Function.comp_def]
    rw [this, he, hi, List.range_eq_range']
  have hf := fun (cells : Array Value) (hs : cells.size = vs.length) => fill_range vs 0 cells hone (by simp [hs])
  have hrange : ∀ x : Array Value, ((Array.range (vs.length * 1)).map fun i => x[i % x.size]!).size = vs.length := by intro x; simp
  have hsm' : ¬ (vs.length > 2 ^ 24) := by omega
  have hm : (parts.toArray.map fun x => match x with | (i, x) => (i, c.eval x)) = (parts.toArray.map fun x => (x.1, c.eval x.2)) := rfl
  have hf1 := hf (((Array.range (vs.length * 1)).map fun i => z.cells[i % z.cells.size]!)) (hrange z.cells)
  rw [← hz] at hf1
  simp at hf1
  simp only [execOp, hm, Instr.buildSlice, Sem.run_bind, run_underlying T.sl, Result.andThen_ok, sizeOf, typeInfo, run_program, h1, h2, Sem.run_pure, Nat.mul_one, hsm', hpos, if_false, zeroValue, h3, newRow]
  simp [hf1, newRow]
end
theorem TDint : ElT Tryd.prog 41 3 (.int .i64 0) 8 := ElT.mk' Tryd.underlying41 (by kernel_rfl)

/-- Which integers are ints, and which int. -/
def ifit (x : Int) : Bool := decide (-9223372036854775808 ≤ x ∧ x ≤ 9223372036854775807)
def iv (x : Int) : Int := if ifit x then x else 0
theorem iv_yes {x : Int} (h : -9223372036854775808 ≤ x ∧ x ≤ 9223372036854775807) : (Value.tuple #[.int .i64 x, .bool true]) = .tuple #[.int .i64 (iv x), .bool (ifit x)] := by
  unfold iv; rw [show ifit x = true from decide_eq_true h]; rfl
theorem iv_no {x : Int} (h : ¬ (-9223372036854775808 ≤ x ∧ x ≤ 9223372036854775807)) : (Value.tuple #[.int .i64 0, .bool false]) = .tuple #[.int .i64 (iv x), .bool (ifit x)] := by
  unfold iv; rw [show ifit x = false from decide_eq_false h]; rfl
theorem uintF_c {w : World} {v : Value} {l : List Nat} (hs : Nl w v l) (n : Nat) (hn : val l = n) (h : ¬ n < 18446744073709551616) : Calls Tryd.prog 105 #[v] w (Ret w fun r _ => r = .tuple #[.int .u64 0, .bool false]) :=
  (uint_c hs n hn).mono fun e w' ⟨r, he, hx, hr⟩ => ⟨r, he, hx, by rw [hr, uv_ge (by omega), decide_eq_false h]; rfl⟩
theorem ruintT_c {w : World} {v : Value} {l : List Nat} (hs : Nl w v l) (hv : validv l = true) (hl : l.length ≤ 100000000) (n : Nat) (hn : val l = n) (h : n < 18446744073709551616) : Calls Tryd.prog 109 #[v] w (Ret w fun r _ => r = .tuple #[.int .u64 (n : Nat), .bool true]) :=
  (ruint_c hs hv hl n hn).mono fun e w' ⟨r, he, hx, hr⟩ => ⟨r, he, hx, by rw [hr, uv_lt h, decide_eq_true h]⟩
theorem ruintF_c {w : World} {v : Value} {l : List Nat} (hs : Nl w v l) (hv : validv l = true) (hl : l.length ≤ 100000000) (n : Nat) (hn : val l = n) (h : ¬ n < 18446744073709551616) : Calls Tryd.prog 109 #[v] w (Ret w fun r _ => r = .tuple #[.int .u64 0, .bool false]) :=
  (ruint_c hs hv hl n hn).mono fun e w' ⟨r, he, hx, hr⟩ => ⟨r, he, hx, by rw [hr, uv_ge (by omega), decide_eq_false h]; rfl⟩
theorem ival_and (b : Bool) (l : List Nat) : (validv l && (!b || decide (0 < l.length))) = ival b l := by
  unfold ival; rw [Bool.or_comm]
theorem ival_rt {l : List Nat} (h : validv l = true) : ival false l = true := by unfold ival; rw [h]; simp

theorem int_T {w : World} {vx : Value} {x : Int} {bx : Bool} (hbx : bx = decide (x < 0)) (hx : Nl w vx (dig x.natAbs)) (hlx : (dig x.natAbs).length ≤ 1000000) (hu : x.natAbs < 18446744073709551616) :
    Calls Tryd.prog 70 #[.agg #[.bool bx, vx]] w (Ret w fun r _ => r = .tuple #[.int .i64 (iv x), .bool (ifit x)]) := by
 subst hbx
 refine enter (args := [_]) Tryd.func70 rfl Tryd.ntmps70 rfl ?_
 refine WP_seq ?_
 refine WP_region ?_
 refine O_box _ rfl rfl rfl rfl (fun g1 w1 b1 e1 gl1 gh1 => ?_)
 have z1 := e1.size
 refine O_assign rfl rfl rfl ?_
 refine O_assign rfl rfl rfl ?_
 refine WL_end [(1, _)] ⟨rfl, trivial⟩ ?_
 refine WP_seq ?_
 refine WP_region ?_
 refine O_field F24_1 rfl rfl rfl ?_
 refine O_loadC Tryd.underlying22 rfl rfl rfl rfl b1 rfl ?_
 refine O_call enters105 rfl rfl rfl (uintT_c (hx.ext e1) x.natAbs (val_dig _) hu) (fun v2 w2 e2 h2 => ?_)
 have z2 := e2.size
 try simp only [val_dig] at h2
 obtain rfl := h2
 refine O_move rfl rfl rfl ?_
 refine O_extract rfl rfl rfl rfl ?_
 refine O_extract rfl rfl rfl rfl ?_
 refine O_assign rfl rfl rfl ?_
 refine O_assign rfl rfl rfl ?_
 refine WL_end [(1, _), (4, _), (5, _)] ⟨rfl, rfl, rfl, trivial⟩ ?_
 refine WP_seq ?_
 refine WP_block ?_
 refine WP_seq ?_
 refine WP_region ?_
 refine O_move rfl rfl rfl ?_
 refine O_not rfl rfl rfl rfl ?_
 refine O_assign rfl rfl rfl ?_
 refine WL_end [(1, _), (4, _), (12, _)] ⟨rfl, rfl, rfl, trivial⟩ ?_
 refine WP_condF rfl ?_
 refine WP_seq ?_
 refine WP_region ?_
 refine O_field F24_0 rfl rfl rfl ?_
 refine O_loadC Tryd.underlying4 rfl rfl rfl rfl (b1.ext e2) rfl ?_
 refine O_not rfl rfl rfl (decide_not).symm ?_
 refine O_move rfl rfl rfl ?_
 refine WL_ndec 19 rfl (fun g19 => ?_) (fun g19 => ?_)
 · --
  refine O_move rfl rfl rfl ?_
  refine O_lss rfl rfl rfl rfl rfl ?_
  refine O_pickT rfl rfl rfl rfl ?_
  refine O_assign rfl rfl rfl ?_
  refine WL_end [(1, _), (4, _), (15, _)] ⟨rfl, rfl, rfl, trivial⟩ ?_
  refine WP_condD rfl (fun c15 => ?_) (fun c15 => ?_)
  · --
   refine WP_seq ?_
   refine WP_region ?_
   refine O_move rfl rfl rfl ?_
   refine O_conv Tryd.underlying82 Tryd.underlying3 (r := x) rfl rfl rfl (by rw [IntKind.wrap_i64]; omega) ?_
   refine O_assign rfl rfl rfl ?_
   refine O_assign rfl rfl rfl ?_
   refine WL_end [(2, _), (3, _)] ⟨rfl, rfl, trivial⟩ ?_
   refine WP_ret ?_
   refine inBlk_ret ?_
   refine ret2 Tryd.results70 rfl rfl ?_
   first
     | exact ⟨_, rfl, (e1.trans e2), iv_yes (by omega)⟩
     | exact ⟨_, rfl, (e1.trans e2), iv_no (by omega)⟩
  · --
   refine WP_seq ?_
   refine WP_region ?_
   refine O_field F24_0 rfl rfl rfl ?_
   refine O_loadC Tryd.underlying4 rfl rfl rfl rfl (b1.ext e2) rfl ?_
   refine O_move rfl rfl rfl ?_
   refine WL_dec 28 rfl (fun g28 => ?_) (fun g28 => ?_)
   · --
    refine O_move rfl rfl rfl ?_
    refine O_leq rfl rfl rfl rfl rfl ?_
    refine O_pickT rfl rfl rfl rfl ?_
    refine O_assign rfl rfl rfl ?_
    refine WL_end [(4, _), (25, _)] ⟨rfl, rfl, trivial⟩ ?_
    refine WP_condD rfl (fun c25 => ?_) (fun c25 => ?_)
    · --
     refine WP_seq ?_
     refine WP_region ?_
     refine O_move rfl rfl rfl ?_
     refine O_neg (r := (18446744073709551616 - (x.natAbs : Int))) rfl rfl rfl (by rw [wrap_u64]; omega) ?_
     refine O_conv Tryd.underlying82 Tryd.underlying3 (r := x) rfl rfl rfl (by rw [IntKind.wrap_i64]; omega) ?_
     refine O_assign rfl rfl rfl ?_
     refine O_assign rfl rfl rfl ?_
     refine WL_end [(2, _), (3, _)] ⟨rfl, rfl, trivial⟩ ?_
     refine WP_ret ?_
     refine inBlk_ret ?_
     refine ret2 Tryd.results70 rfl rfl ?_
     first
       | exact ⟨_, rfl, (e1.trans e2), iv_yes (by omega)⟩
       | exact ⟨_, rfl, (e1.trans e2), iv_no (by omega)⟩
    · --
     refine WP_skip ?_
     refine WP_seq ?_
     refine WP_region ?_
     refine O_assign rfl rfl rfl ?_
     refine O_assign rfl rfl rfl ?_
     refine WL_end [(2, _), (3, _)] ⟨rfl, rfl, trivial⟩ ?_
     refine WP_ret ?_
     refine ret2 Tryd.results70 rfl rfl ?_
     first
       | exact ⟨_, rfl, (e1.trans e2), iv_yes (by omega)⟩
       | exact ⟨_, rfl, (e1.trans e2), iv_no (by omega)⟩
   · --
    refine O_skip rfl rfl ?_
    refine O_skip rfl rfl ?_
    refine O_pickF rfl rfl rfl rfl ?_
    refine O_assign rfl rfl rfl ?_
    refine WL_end [(4, _), (25, _)] ⟨rfl, rfl, trivial⟩ ?_
    refine WP_condF rfl ?_
    refine WP_skip ?_
    refine WP_seq ?_
    refine WP_region ?_
    refine O_assign rfl rfl rfl ?_
    refine O_assign rfl rfl rfl ?_
    refine WL_end [(2, _), (3, _)] ⟨rfl, rfl, trivial⟩ ?_
    refine WP_ret ?_
    refine ret2 Tryd.results70 rfl rfl ?_
    first
      | exact ⟨_, rfl, (e1.trans e2), iv_yes (by omega)⟩
      | exact ⟨_, rfl, (e1.trans e2), iv_no (by omega)⟩
 · --
  refine O_skip rfl rfl ?_
  refine O_skip rfl rfl ?_
  refine O_pickF rfl rfl rfl rfl ?_
  refine O_assign rfl rfl rfl ?_
  refine WL_end [(1, _), (4, _), (15, _)] ⟨rfl, rfl, rfl, trivial⟩ ?_
  refine WP_condF rfl ?_
  refine WP_seq ?_
  refine WP_region ?_
  refine O_field F24_0 rfl rfl rfl ?_
  refine O_loadC Tryd.underlying4 rfl rfl rfl rfl (b1.ext e2) rfl ?_
  refine O_move rfl rfl rfl ?_
  refine WL_dec 28 rfl (fun g28 => ?_) (fun g28 => ?_)
  · --
   refine O_move rfl rfl rfl ?_
   refine O_leq rfl rfl rfl rfl rfl ?_
   refine O_pickT rfl rfl rfl rfl ?_
   refine O_assign rfl rfl rfl ?_
   refine WL_end [(4, _), (25, _)] ⟨rfl, rfl, trivial⟩ ?_
   refine WP_condD rfl (fun c25 => ?_) (fun c25 => ?_)
   · --
    refine WP_seq ?_
    refine WP_region ?_
    refine O_move rfl rfl rfl ?_
    refine O_neg (r := (18446744073709551616 - (x.natAbs : Int))) rfl rfl rfl (by rw [wrap_u64]; omega) ?_
    refine O_conv Tryd.underlying82 Tryd.underlying3 (r := x) rfl rfl rfl (by rw [IntKind.wrap_i64]; omega) ?_
    refine O_assign rfl rfl rfl ?_
    refine O_assign rfl rfl rfl ?_
    refine WL_end [(2, _), (3, _)] ⟨rfl, rfl, trivial⟩ ?_
    refine WP_ret ?_
    refine inBlk_ret ?_
    refine ret2 Tryd.results70 rfl rfl ?_
    first
      | exact ⟨_, rfl, (e1.trans e2), iv_yes (by omega)⟩
      | exact ⟨_, rfl, (e1.trans e2), iv_no (by omega)⟩
   · --
    refine WP_skip ?_
    refine WP_seq ?_
    refine WP_region ?_
    refine O_assign rfl rfl rfl ?_
    refine O_assign rfl rfl rfl ?_
    refine WL_end [(2, _), (3, _)] ⟨rfl, rfl, trivial⟩ ?_
    refine WP_ret ?_
    refine ret2 Tryd.results70 rfl rfl ?_
    first
      | exact ⟨_, rfl, (e1.trans e2), iv_yes (by omega)⟩
      | exact ⟨_, rfl, (e1.trans e2), iv_no (by omega)⟩
  · --
   refine O_skip rfl rfl ?_
   refine O_skip rfl rfl ?_
   refine O_pickF rfl rfl rfl rfl ?_
   refine O_assign rfl rfl rfl ?_
   refine WL_end [(4, _), (25, _)] ⟨rfl, rfl, trivial⟩ ?_
   refine WP_condF rfl ?_
   refine WP_skip ?_
   refine WP_seq ?_
   refine WP_region ?_
   refine O_assign rfl rfl rfl ?_
   refine O_assign rfl rfl rfl ?_
   refine WL_end [(2, _), (3, _)] ⟨rfl, rfl, trivial⟩ ?_
   refine WP_ret ?_
   refine ret2 Tryd.results70 rfl rfl ?_
   first
     | exact ⟨_, rfl, (e1.trans e2), iv_yes (by omega)⟩
     | exact ⟨_, rfl, (e1.trans e2), iv_no (by omega)⟩

theorem int_F {w : World} {vx : Value} {x : Int} {bx : Bool} (hbx : bx = decide (x < 0)) (hx : Nl w vx (dig x.natAbs)) (hlx : (dig x.natAbs).length ≤ 1000000) (hu : ¬ x.natAbs < 18446744073709551616) :
    Calls Tryd.prog 70 #[.agg #[.bool bx, vx]] w (Ret w fun r _ => r = .tuple #[.int .i64 (iv x), .bool (ifit x)]) := by
 subst hbx
 refine enter (args := [_]) Tryd.func70 rfl Tryd.ntmps70 rfl ?_
 refine WP_seq ?_
 refine WP_region ?_
 refine O_box _ rfl rfl rfl rfl (fun g1 w1 b1 e1 gl1 gh1 => ?_)
 have z1 := e1.size
 refine O_assign rfl rfl rfl ?_
 refine O_assign rfl rfl rfl ?_
 refine WL_end [(1, _)] ⟨rfl, trivial⟩ ?_
 refine WP_seq ?_
 refine WP_region ?_
 refine O_field F24_1 rfl rfl rfl ?_
 refine O_loadC Tryd.underlying22 rfl rfl rfl rfl b1 rfl ?_
 refine O_call enters105 rfl rfl rfl (uintF_c (hx.ext e1) x.natAbs (val_dig _) hu) (fun v2 w2 e2 h2 => ?_)
 have z2 := e2.size
 try simp only [val_dig] at h2
 obtain rfl := h2
 refine O_move rfl rfl rfl ?_
 refine O_extract rfl rfl rfl rfl ?_
 refine O_extract rfl rfl rfl rfl ?_
 refine O_assign rfl rfl rfl ?_
 refine O_assign rfl rfl rfl ?_
 refine WL_end [(1, _), (4, _), (5, _)] ⟨rfl, rfl, rfl, trivial⟩ ?_
 refine WP_seq ?_
 refine WP_block ?_
 refine WP_seq ?_
 refine WP_region ?_
 refine O_move rfl rfl rfl ?_
 refine O_not rfl rfl rfl rfl ?_
 refine O_assign rfl rfl rfl ?_
 refine WL_end [(1, _), (4, _), (12, _)] ⟨rfl, rfl, rfl, trivial⟩ ?_
 refine WP_condT rfl ?_
 refine WP_seq ?_
 refine WP_region ?_
 refine O_assign rfl rfl rfl ?_
 refine O_assign rfl rfl rfl ?_
 refine WL_end [(2, _), (3, _)] ⟨rfl, rfl, trivial⟩ ?_
 refine WP_ret ?_
 refine inBlk_ret ?_
 refine ret2 Tryd.results70 rfl rfl ?_
 first
   | exact ⟨_, rfl, (e1.trans e2), iv_yes (by omega)⟩
   | exact ⟨_, rfl, (e1.trans e2), iv_no (by omega)⟩

theorem intv_c {w : World} {vx : Value} {x : Int} {bx : Bool} (hbx : bx = decide (x < 0)) (hx : Nl w vx (dig x.natAbs)) (hlx : (dig x.natAbs).length ≤ 1000000) : Calls Tryd.prog 70 #[.agg #[.bool bx, vx]] w (Ret w fun r _ => r = .tuple #[.int .i64 (iv x), .bool (ifit x)]) := by
  by_cases hu : x.natAbs < 18446744073709551616
  · exact int_T hbx hx hlx hu
  · exact int_F hbx hx hlx hu

theorem rint_T {w : World} {vx : Value} {x : Int} {bx : Bool} (hbx : bx = decide (x < 0)) (hx : Nl w vx (dig x.natAbs)) (hlx : (dig x.natAbs).length ≤ 1000000) (hu : x.natAbs < 18446744073709551616) :
    Calls Tryd.prog 74 #[.agg #[.bool bx, vx]] w (Ret w fun r _ => r = .tuple #[.int .i64 (iv x), .bool (ifit x)]) := by
 subst hbx
 refine enter (args := [_]) Tryd.func74 rfl Tryd.ntmps74 rfl ?_
 refine WP_seq ?_
 refine WP_region ?_
 refine O_box _ rfl rfl rfl rfl (fun g1 w1 b1 e1 gl1 gh1 => ?_)
 have z1 := e1.size
 refine O_assign rfl rfl rfl ?_
 refine O_assign rfl rfl rfl ?_
 refine WL_end [(1, _)] ⟨rfl, trivial⟩ ?_
 refine WP_seq ?_
 refine WP_region ?_
 refine O_field F24_1 rfl rfl rfl ?_
 refine O_loadC Tryd.underlying22 rfl rfl rfl rfl b1 rfl ?_
 refine O_call enters109 rfl rfl rfl (ruintT_c (hx.ext e1) (validv_dig _) (by (try simp only [lens]); omega) x.natAbs (val_dig _) hu) (fun v2 w2 e2 h2 => ?_)
 have z2 := e2.size
 try simp only [val_dig] at h2
 obtain rfl := h2
 refine O_move rfl rfl rfl ?_
 refine O_extract rfl rfl rfl rfl ?_
 refine O_extract rfl rfl rfl rfl ?_
 refine O_assign rfl rfl rfl ?_
 refine O_assign rfl rfl rfl ?_
 refine WL_end [(1, _), (4, _), (5, _)] ⟨rfl, rfl, rfl, trivial⟩ ?_
 refine WP_seq ?_
 refine WP_block ?_
 refine WP_seq ?_
 refine WP_region ?_
 refine O_move rfl rfl rfl ?_
 refine O_not rfl rfl rfl rfl ?_
 refine O_move rfl rfl rfl ?_
 refine O_field F24_0 rfl rfl rfl ?_
 refine O_loadC Tryd.underlying4 rfl rfl rfl rfl (b1.ext e2) rfl ?_
 refine O_not rfl rfl rfl (decide_not).symm ?_
 refine O_move rfl rfl rfl ?_
 refine WL_ndec 19 rfl (fun g19 => ?_) (fun g19 => ?_)
 · --
  refine O_move rfl rfl rfl ?_
  refine O_gtr rfl rfl rfl rfl rfl ?_
  refine O_pickT rfl rfl rfl rfl ?_
  refine O_pickF rfl rfl rfl rfl ?_
  refine O_move rfl rfl rfl ?_
  refine WL_dec 24 rfl (fun g24 => ?_) (fun g24 => ?_)
  · --
   refine O_skip rfl rfl ?_
   refine O_skip rfl rfl ?_
   refine O_skip rfl rfl ?_
   refine O_skipU rfl rfl rfl ?_
   refine O_skipU rfl rfl rfl ?_
   refine O_skip rfl rfl ?_
   refine O_pickT rfl rfl rfl rfl ?_
   refine O_assign rfl rfl rfl ?_
   refine WL_end [(1, _), (4, _), (12, _)] ⟨rfl, rfl, rfl, trivial⟩ ?_
   refine WP_condT rfl ?_
   refine WP_seq ?_
   refine WP_region ?_
   refine O_assign rfl rfl rfl ?_
   refine O_assign rfl rfl rfl ?_
   refine WL_end [(2, _), (3, _)] ⟨rfl, rfl, trivial⟩ ?_
   refine WP_ret ?_
   refine inBlk_ret ?_
   refine ret2 Tryd.results74 rfl rfl ?_
   first
     | exact ⟨_, rfl, (e1.trans e2), iv_yes (by omega)⟩
     | exact ⟨_, rfl, (e1.trans e2), iv_no (by omega)⟩
  · --
   refine O_field F24_0 rfl rfl rfl ?_
   refine O_loadC Tryd.underlying4 rfl rfl rfl rfl (b1.ext e2) rfl ?_
   refine O_move rfl rfl rfl ?_
   refine WL_dec 27 rfl (fun g27 => ?_) (fun g27 => ?_)
   · --
    refine O_move rfl rfl rfl ?_
    refine O_gtr rfl rfl rfl rfl rfl ?_
    refine O_pickT rfl rfl rfl rfl ?_
    refine O_pickF rfl rfl rfl rfl ?_
    refine O_assign rfl rfl rfl ?_
    refine WL_end [(1, _), (4, _), (12, _)] ⟨rfl, rfl, rfl, trivial⟩ ?_
    refine WP_condD rfl (fun c12 => ?_) (fun c12 => ?_)
    · --
     refine WP_seq ?_
     refine WP_region ?_
     refine O_assign rfl rfl rfl ?_
     refine O_assign rfl rfl rfl ?_
     refine WL_end [(2, _), (3, _)] ⟨rfl, rfl, trivial⟩ ?_
     refine WP_ret ?_
     refine inBlk_ret ?_
     refine ret2 Tryd.results74 rfl rfl ?_
     first
       | exact ⟨_, rfl, (e1.trans e2), iv_yes (by omega)⟩
       | exact ⟨_, rfl, (e1.trans e2), iv_no (by omega)⟩
    · --
     refine WP_seq ?_
     refine WP_region ?_
     refine O_field F24_0 rfl rfl rfl ?_
     refine O_loadC Tryd.underlying4 rfl rfl rfl rfl (b1.ext e2) rfl ?_
     refine O_assign rfl rfl rfl ?_
     refine WL_end [(4, _), (32, _)] ⟨rfl, rfl, trivial⟩ ?_
     refine WP_condD rfl (fun c32 => ?_) (fun c32 => ?_)
     · --
      refine WP_seq ?_
      refine WP_region ?_
      refine O_move rfl rfl rfl ?_
      refine O_neg (r := (18446744073709551616 - (x.natAbs : Int))) rfl rfl rfl (by rw [wrap_u64]; omega) ?_
      refine O_conv Tryd.underlying82 Tryd.underlying3 (r := x) rfl rfl rfl (by rw [IntKind.wrap_i64]; omega) ?_
      refine O_assign rfl rfl rfl ?_
      refine O_assign rfl rfl rfl ?_
      refine WL_end [(2, _), (3, _)] ⟨rfl, rfl, trivial⟩ ?_
      refine WP_ret ?_
      refine inBlk_ret ?_
      refine ret2 Tryd.results74 rfl rfl ?_
      first
        | exact ⟨_, rfl, (e1.trans e2), iv_yes (by omega)⟩
        | exact ⟨_, rfl, (e1.trans e2), iv_no (by omega)⟩
     · --
      refine WP_skip ?_
      refine WP_seq ?_
      refine WP_region ?_
      refine O_move rfl rfl rfl ?_
      refine O_conv Tryd.underlying82 Tryd.underlying3 (r := x) rfl rfl rfl (by rw [IntKind.wrap_i64]; omega) ?_
      refine O_assign rfl rfl rfl ?_
      refine O_assign rfl rfl rfl ?_
      refine WL_end [(2, _), (3, _)] ⟨rfl, rfl, trivial⟩ ?_
      refine WP_ret ?_
      refine ret2 Tryd.results74 rfl rfl ?_
      first
        | exact ⟨_, rfl, (e1.trans e2), iv_yes (by omega)⟩
        | exact ⟨_, rfl, (e1.trans e2), iv_no (by omega)⟩
   · --
    refine O_skip rfl rfl ?_
    refine O_skip rfl rfl ?_
    refine O_pickF rfl rfl rfl rfl ?_
    refine O_pickF rfl rfl rfl rfl ?_
    refine O_assign rfl rfl rfl ?_
    refine WL_end [(1, _), (4, _), (12, _)] ⟨rfl, rfl, rfl, trivial⟩ ?_
    refine WP_condF rfl ?_
    refine WP_seq ?_
    refine WP_region ?_
    refine O_field F24_0 rfl rfl rfl ?_
    refine O_loadC Tryd.underlying4 rfl rfl rfl rfl (b1.ext e2) rfl ?_
    refine O_assign rfl rfl rfl ?_
    refine WL_end [(4, _), (32, _)] ⟨rfl, rfl, trivial⟩ ?_
    refine WP_condD rfl (fun c32 => ?_) (fun c32 => ?_)
    · --
     refine WP_seq ?_
     refine WP_region ?_
     refine O_move rfl rfl rfl ?_
     refine O_neg (r := (18446744073709551616 - (x.natAbs : Int))) rfl rfl rfl (by rw [wrap_u64]; omega) ?_
     refine O_conv Tryd.underlying82 Tryd.underlying3 (r := x) rfl rfl rfl (by rw [IntKind.wrap_i64]; omega) ?_
     refine O_assign rfl rfl rfl ?_
     refine O_assign rfl rfl rfl ?_
     refine WL_end [(2, _), (3, _)] ⟨rfl, rfl, trivial⟩ ?_
     refine WP_ret ?_
     refine inBlk_ret ?_
     refine ret2 Tryd.results74 rfl rfl ?_
     first
       | exact ⟨_, rfl, (e1.trans e2), iv_yes (by omega)⟩
       | exact ⟨_, rfl, (e1.trans e2), iv_no (by omega)⟩
    · --
     refine WP_skip ?_
     refine WP_seq ?_
     refine WP_region ?_
     refine O_move rfl rfl rfl ?_
     refine O_conv Tryd.underlying82 Tryd.underlying3 (r := x) rfl rfl rfl (by rw [IntKind.wrap_i64]; omega) ?_
     refine O_assign rfl rfl rfl ?_
     refine O_assign rfl rfl rfl ?_
     refine WL_end [(2, _), (3, _)] ⟨rfl, rfl, trivial⟩ ?_
     refine WP_ret ?_
     refine ret2 Tryd.results74 rfl rfl ?_
     first
       | exact ⟨_, rfl, (e1.trans e2), iv_yes (by omega)⟩
       | exact ⟨_, rfl, (e1.trans e2), iv_no (by omega)⟩
 · --
  refine O_skip rfl rfl ?_
  refine O_skip rfl rfl ?_
  refine O_pickF rfl rfl rfl rfl ?_
  refine O_pickF rfl rfl rfl rfl ?_
  refine O_move rfl rfl rfl ?_
  refine O_field F24_0 rfl rfl rfl ?_
  refine O_loadC Tryd.underlying4 rfl rfl rfl rfl (b1.ext e2) rfl ?_
  refine O_move rfl rfl rfl ?_
  refine WL_dec 27 rfl (fun g27 => ?_) (fun g27 => ?_)
  · --
   refine O_move rfl rfl rfl ?_
   refine O_gtr rfl rfl rfl rfl rfl ?_
   refine O_pickT rfl rfl rfl rfl ?_
   refine O_pickF rfl rfl rfl rfl ?_
   refine O_assign rfl rfl rfl ?_
   refine WL_end [(1, _), (4, _), (12, _)] ⟨rfl, rfl, rfl, trivial⟩ ?_
   refine WP_condD rfl (fun c12 => ?_) (fun c12 => ?_)
   · --
    refine WP_seq ?_
    refine WP_region ?_
    refine O_assign rfl rfl rfl ?_
    refine O_assign rfl rfl rfl ?_
    refine WL_end [(2, _), (3, _)] ⟨rfl, rfl, trivial⟩ ?_
    refine WP_ret ?_
    refine inBlk_ret ?_
    refine ret2 Tryd.results74 rfl rfl ?_
    first
      | exact ⟨_, rfl, (e1.trans e2), iv_yes (by omega)⟩
      | exact ⟨_, rfl, (e1.trans e2), iv_no (by omega)⟩
   · --
    refine WP_seq ?_
    refine WP_region ?_
    refine O_field F24_0 rfl rfl rfl ?_
    refine O_loadC Tryd.underlying4 rfl rfl rfl rfl (b1.ext e2) rfl ?_
    refine O_assign rfl rfl rfl ?_
    refine WL_end [(4, _), (32, _)] ⟨rfl, rfl, trivial⟩ ?_
    refine WP_condD rfl (fun c32 => ?_) (fun c32 => ?_)
    · --
     refine WP_seq ?_
     refine WP_region ?_
     refine O_move rfl rfl rfl ?_
     refine O_neg (r := (18446744073709551616 - (x.natAbs : Int))) rfl rfl rfl (by rw [wrap_u64]; omega) ?_
     refine O_conv Tryd.underlying82 Tryd.underlying3 (r := x) rfl rfl rfl (by rw [IntKind.wrap_i64]; omega) ?_
     refine O_assign rfl rfl rfl ?_
     refine O_assign rfl rfl rfl ?_
     refine WL_end [(2, _), (3, _)] ⟨rfl, rfl, trivial⟩ ?_
     refine WP_ret ?_
     refine inBlk_ret ?_
     refine ret2 Tryd.results74 rfl rfl ?_
     first
       | exact ⟨_, rfl, (e1.trans e2), iv_yes (by omega)⟩
       | exact ⟨_, rfl, (e1.trans e2), iv_no (by omega)⟩
    · --
     refine WP_skip ?_
     refine WP_seq ?_
     refine WP_region ?_
     refine O_move rfl rfl rfl ?_
     refine O_conv Tryd.underlying82 Tryd.underlying3 (r := x) rfl rfl rfl (by rw [IntKind.wrap_i64]; omega) ?_
     refine O_assign rfl rfl rfl ?_
     refine O_assign rfl rfl rfl ?_
     refine WL_end [(2, _), (3, _)] ⟨rfl, rfl, trivial⟩ ?_
     refine WP_ret ?_
     refine ret2 Tryd.results74 rfl rfl ?_
     first
       | exact ⟨_, rfl, (e1.trans e2), iv_yes (by omega)⟩
       | exact ⟨_, rfl, (e1.trans e2), iv_no (by omega)⟩
  · --
   refine O_skip rfl rfl ?_
   refine O_skip rfl rfl ?_
   refine O_pickF rfl rfl rfl rfl ?_
   refine O_pickF rfl rfl rfl rfl ?_
   refine O_assign rfl rfl rfl ?_
   refine WL_end [(1, _), (4, _), (12, _)] ⟨rfl, rfl, rfl, trivial⟩ ?_
   refine WP_condF rfl ?_
   refine WP_seq ?_
   refine WP_region ?_
   refine O_field F24_0 rfl rfl rfl ?_
   refine O_loadC Tryd.underlying4 rfl rfl rfl rfl (b1.ext e2) rfl ?_
   refine O_assign rfl rfl rfl ?_
   refine WL_end [(4, _), (32, _)] ⟨rfl, rfl, trivial⟩ ?_
   refine WP_condD rfl (fun c32 => ?_) (fun c32 => ?_)
   · --
    refine WP_seq ?_
    refine WP_region ?_
    refine O_move rfl rfl rfl ?_
    refine O_neg (r := (18446744073709551616 - (x.natAbs : Int))) rfl rfl rfl (by rw [wrap_u64]; omega) ?_
    refine O_conv Tryd.underlying82 Tryd.underlying3 (r := x) rfl rfl rfl (by rw [IntKind.wrap_i64]; omega) ?_
    refine O_assign rfl rfl rfl ?_
    refine O_assign rfl rfl rfl ?_
    refine WL_end [(2, _), (3, _)] ⟨rfl, rfl, trivial⟩ ?_
    refine WP_ret ?_
    refine inBlk_ret ?_
    refine ret2 Tryd.results74 rfl rfl ?_
    first
      | exact ⟨_, rfl, (e1.trans e2), iv_yes (by omega)⟩
      | exact ⟨_, rfl, (e1.trans e2), iv_no (by omega)⟩
   · --
    refine WP_skip ?_
    refine WP_seq ?_
    refine WP_region ?_
    refine O_move rfl rfl rfl ?_
    refine O_conv Tryd.underlying82 Tryd.underlying3 (r := x) rfl rfl rfl (by rw [IntKind.wrap_i64]; omega) ?_
    refine O_assign rfl rfl rfl ?_
    refine O_assign rfl rfl rfl ?_
    refine WL_end [(2, _), (3, _)] ⟨rfl, rfl, trivial⟩ ?_
    refine WP_ret ?_
    refine ret2 Tryd.results74 rfl rfl ?_
    first
      | exact ⟨_, rfl, (e1.trans e2), iv_yes (by omega)⟩
      | exact ⟨_, rfl, (e1.trans e2), iv_no (by omega)⟩

theorem rint_F {w : World} {vx : Value} {x : Int} {bx : Bool} (hbx : bx = decide (x < 0)) (hx : Nl w vx (dig x.natAbs)) (hlx : (dig x.natAbs).length ≤ 1000000) (hu : ¬ x.natAbs < 18446744073709551616) :
    Calls Tryd.prog 74 #[.agg #[.bool bx, vx]] w (Ret w fun r _ => r = .tuple #[.int .i64 (iv x), .bool (ifit x)]) := by
 subst hbx
 refine enter (args := [_]) Tryd.func74 rfl Tryd.ntmps74 rfl ?_
 refine WP_seq ?_
 refine WP_region ?_
 refine O_box _ rfl rfl rfl rfl (fun g1 w1 b1 e1 gl1 gh1 => ?_)
 have z1 := e1.size
 refine O_assign rfl rfl rfl ?_
 refine O_assign rfl rfl rfl ?_
 refine WL_end [(1, _)] ⟨rfl, trivial⟩ ?_
 refine WP_seq ?_
 refine WP_region ?_
 refine O_field F24_1 rfl rfl rfl ?_
 refine O_loadC Tryd.underlying22 rfl rfl rfl rfl b1 rfl ?_
 refine O_call enters109 rfl rfl rfl (ruintF_c (hx.ext e1) (validv_dig _) (by (try simp only [lens]); omega) x.natAbs (val_dig _) hu) (fun v2 w2 e2 h2 => ?_)
 have z2 := e2.size
 try simp only [val_dig] at h2
 obtain rfl := h2
 refine O_move rfl rfl rfl ?_
 refine O_extract rfl rfl rfl rfl ?_
 refine O_extract rfl rfl rfl rfl ?_
 refine O_assign rfl rfl rfl ?_
 refine O_assign rfl rfl rfl ?_
 refine WL_end [(1, _), (4, _), (5, _)] ⟨rfl, rfl, rfl, trivial⟩ ?_
 refine WP_seq ?_
 refine WP_block ?_
 refine WP_seq ?_
 refine WP_region ?_
 refine O_move rfl rfl rfl ?_
 refine O_not rfl rfl rfl rfl ?_
 refine O_move rfl rfl rfl ?_
 refine O_skip rfl rfl ?_
 refine O_skip rfl rfl ?_
 refine O_skip rfl rfl ?_
 refine O_skip rfl rfl ?_
 refine O_skipU rfl rfl rfl ?_
 refine O_skipU rfl rfl rfl ?_
 refine O_skip rfl rfl ?_
 refine O_pickT rfl rfl rfl rfl ?_
 refine O_move rfl rfl rfl ?_
 refine O_skip rfl rfl ?_
 refine O_skip rfl rfl ?_
 refine O_skip rfl rfl ?_
 refine O_skipU rfl rfl rfl ?_
 refine O_skipU rfl rfl rfl ?_
 refine O_skip rfl rfl ?_
 refine O_pickT rfl rfl rfl rfl ?_
 refine O_assign rfl rfl rfl ?_
 refine WL_end [(1, _), (4, _), (12, _)] ⟨rfl, rfl, rfl, trivial⟩ ?_
 refine WP_condT rfl ?_
 refine WP_seq ?_
 refine WP_region ?_
 refine O_assign rfl rfl rfl ?_
 refine O_assign rfl rfl rfl ?_
 refine WL_end [(2, _), (3, _)] ⟨rfl, rfl, trivial⟩ ?_
 refine WP_ret ?_
 refine inBlk_ret ?_
 refine ret2 Tryd.results74 rfl rfl ?_
 first
   | exact ⟨_, rfl, (e1.trans e2), iv_yes (by omega)⟩
   | exact ⟨_, rfl, (e1.trans e2), iv_no (by omega)⟩

theorem rintv_c {w : World} {vx : Value} {x : Int} {bx : Bool} (hbx : bx = decide (x < 0)) (hx : Nl w vx (dig x.natAbs)) (hlx : (dig x.natAbs).length ≤ 1000000) : Calls Tryd.prog 74 #[.agg #[.bool bx, vx]] w (Ret w fun r _ => r = .tuple #[.int .i64 (iv x), .bool (ifit x)]) := by
  by_cases hu : x.natAbs < 18446744073709551616
  · exact rint_T hbx hx hlx hu
  · exact rint_F hbx hx hlx hu

theorem rivalid_c {w : World} {vx : Value} {lx : List Nat} {bx : Bool} (hx : Nl w vx lx) :
    Calls Tryd.prog 65 #[.agg #[.bool bx, vx]] w (Ret w fun r _ => r = .bool (ival bx lx)) := by
 refine enter (args := [_]) Tryd.func65 rfl Tryd.ntmps65 rfl ?_
 refine WP_seq ?_
 refine WP_region ?_
 refine O_box _ rfl rfl rfl rfl (fun g1 w1 b1 e1 gl1 gh1 => ?_)
 have z1 := e1.size
 refine O_assign rfl rfl rfl ?_
 refine WL_end [(1, _)] ⟨rfl, trivial⟩ ?_
 refine WP_seq ?_
 refine WP_region ?_
 refine O_field F24_1 rfl rfl rfl ?_
 refine O_loadC Tryd.underlying22 rfl rfl rfl rfl b1 rfl ?_
 refine O_call enters102 rfl rfl rfl (rvalid_c (hx.ext e1)) (fun v2 w2 e2 h2 => ?_)
 have z2 := e2.size
 obtain rfl := h2
 refine O_move rfl rfl rfl ?_
 refine WL_bool 6 rfl (fun g6 => ?_) (fun g6 => ?_)
 · --
  refine O_field F24_0 rfl rfl rfl ?_
  refine O_loadC Tryd.underlying4 rfl rfl rfl rfl (b1.ext e2) rfl ?_
  refine O_not rfl rfl rfl rfl ?_
  refine O_move rfl rfl rfl ?_
  refine WL_bool 10 rfl (fun g10 => ?_) (fun g10 => ?_)
  · --
   refine O_skip rfl rfl ?_
   refine O_skip rfl rfl ?_
   refine O_skip rfl rfl ?_
   refine O_skip rfl rfl ?_
   refine O_pickT rfl rfl rfl rfl ?_
   refine O_pickT rfl rfl rfl rfl ?_
   refine O_assign rfl rfl rfl ?_
   refine WL_end [(2, _)] ⟨rfl, trivial⟩ ?_
   refine WP_ret ?_
   refine ret1 Tryd.results65 rfl ?_
   first
     | exact ⟨_, rfl, (e1.trans e2), by first | rw [ival_t (by assumption) (by omega)] | rw [ival_b (by assumption) (by omega)] | rw [ival_f (by assumption)] | (simp_all [ival])⟩
  · --
   refine O_field F24_1 rfl rfl rfl ?_
   refine O_loadC Tryd.underlying22 rfl rfl rfl rfl (b1.ext e2) rfl ?_
   refine N_len T22 rfl rfl rfl (hx.ext (e1.trans e2)) ?_
   refine O_gtr rfl rfl rfl rfl rfl ?_
   refine O_pickF rfl rfl rfl rfl ?_
   refine O_pickT rfl rfl rfl rfl ?_
   refine O_assign rfl rfl rfl ?_
   refine WL_end [(2, _)] ⟨rfl, trivial⟩ ?_
   refine WP_ret ?_
   refine ret1 Tryd.results65 rfl ?_
   first
     | exact ⟨_, rfl, (e1.trans e2), by first | rw [ival_t (by assumption) (by omega)] | rw [ival_b (by assumption) (by omega)] | rw [ival_f (by assumption)] | (simp_all [ival])⟩
 · --
  refine O_skip rfl rfl ?_
  refine O_skip rfl rfl ?_
  refine O_skip rfl rfl ?_
  refine O_skip rfl rfl ?_
  refine O_skipU rfl rfl rfl ?_
  refine O_skipU rfl rfl rfl ?_
  refine O_skipU rfl rfl rfl ?_
  refine O_skipU rfl rfl rfl ?_
  refine O_skip rfl rfl ?_
  refine O_pickF rfl rfl rfl rfl ?_
  refine O_assign rfl rfl rfl ?_
  refine WL_end [(2, _)] ⟨rfl, trivial⟩ ?_
  refine WP_ret ?_
  refine ret1 Tryd.results65 rfl ?_
  first
    | exact ⟨_, rfl, (e1.trans e2), by first | rw [ival_t (by assumption) (by omega)] | rw [ival_b (by assumption) (by omega)] | rw [ival_f (by assumption)] | (simp_all [ival])⟩

end Go.Proofs.YtnfnadhbjdcbnaaDoor
