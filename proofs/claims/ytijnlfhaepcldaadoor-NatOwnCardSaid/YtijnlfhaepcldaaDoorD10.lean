/-
  Walks.
-/
import Derived.Test.YtijnlfhaepcldaaDoorD6
set_option linter.unusedVariables false
set_option linter.unusedSimpArgs false
set_option maxRecDepth 100000
namespace Go.Proofs.YtijnlfhaepcldaaDoor
open Go Go.RowKit
/-- A bit; none below the first. -/
def bitv (n : Nat) (i : Int) : Bool := decide (0 ≤ i) && n.testBit i.toNat
theorem bitv_nat (n j : Nat) : bitv n (j : Nat) = n.testBit j := by simp [bitv]
theorem bitv_neg {n : Nat} {i : Int} (h : i < 0) : bitv n i = false := by simp [bitv]; omega
theorem quo32 {j : Nat} (h : j ≤ 9223372036854775807) : IntKind.i64.wrap ((j : Int).tdiv 32) = ((j / 32 : Nat) : Int) := by
  rw [Int.tdiv_eq_ediv_of_nonneg (by omega), IntKind.wrap_i64]; omega
theorem remN {j m : Nat} : (j : Int).tmod (m : Int) = ((j % m : Nat) : Int) := by
  rw [Int.tmod_eq_emod_of_nonneg (by omega)]; omega
theorem shrU64 {n m : Nat} (hm : m ≤ 64) : ((n : Int)).fdiv (2 ^ (min (Int.toNat (m : Int)) IntKind.u64.bits)) = ((n / 2 ^ m : Nat) : Int) :=
  shrN (by rw [Int.toNat_natCast]; exact Nat.min_eq_left hm) rfl
theorem bit_val {l : List Nat} (hd : D l) (j : Nat) : (val l).testBit j = decide (l.getD (j / 32) 0 / 2 ^ (j % 32) % 2 = 1) := by
  rw [Nat.testBit_eq_decide_div_mod_eq]
  have h1 := val_split l (j / 32)
  rw [val_drop, B_two] at h1
  have h2 := val_take_lt hd (j / 32)
  rw [B_two] at h2
  have h3 : val l / 2 ^ j = (l.getD (j / 32) 0 + 4294967296 * val (l.drop (j / 32 + 1))) / 2 ^ (j % 32) := by
    rw [h1]
    have e : 2 ^ j = 2 ^ (32 * (j / 32)) * 2 ^ (j % 32) := by rw [← Nat.pow_add]; congr 1; omega
    rw [e, ← Nat.div_div_eq_div_mul, Nat.add_mul_div_left _ _ (Nat.pow_pos (by decide)), Nat.div_eq_of_lt h2, Nat.zero_add]
  have h4 : 4294967296 * val (l.drop (j / 32 + 1)) = 2 ^ (j % 32) * (2 * (2 ^ (31 - j % 32) * val (l.drop (j / 32 + 1)))) := by
    rw [← Nat.mul_assoc, ← Nat.mul_assoc, ← Nat.pow_succ, ← Nat.pow_add, show j % 32 + 1 + (31 - j % 32) = 32 from by omega]
  rw [h3, h4, Nat.add_mul_div_left _ _ (Nat.pow_pos (by decide))]
  apply decide_eq_decide.2
  omega
theorem bl_of_bits {n k : Nat} (h : ∀ j, k ≤ j → n.testBit j = false) (h1 : k = 0 ∨ n.testBit (k - 1) = true) : bl n = k := by
  have h2 : n < 2 ^ k := Nat.lt_pow_two_of_testBit n h
  rcases h1 with h1 | h1
  · subst h1
    obtain rfl : n = 0 := by simpa using h2
    rfl
  · rcases Nat.eq_zero_or_pos k with h3 | h3
    · subst h3
      obtain rfl : n = 0 := by simpa using h2
      rfl
    · have h4 : 2 ^ (k - 1) ≤ n := Nat.ge_two_pow_of_testBit h1
      rw [bl_eq h4 (by rw [show k - 1 + 1 = k from by omega]; exact h2)]
      omega
theorem tz_of_bits {n k : Nat} (h : ∀ j, j < k → n.testBit j = false) (h1 : n.testBit k = true) : tz n = k := by
  have hn : n ≠ 0 := by intro e; subst e; simp at h1
  obtain ⟨q, hq⟩ := tz_spec n hn
  have hb : ∀ j, n.testBit j = (decide (tz n ≤ j) && (2 * q + 1).testBit (j - tz n)) := fun j => by
    conv => lhs; rw [hq]
    rw [Nat.testBit_two_pow_mul]
  have hz : n.testBit (tz n) = true := by rw [hb]; simp
  rcases Nat.lt_trichotomy (tz n) k with h2 | h2 | h2
  · rw [h _ h2] at hz; cases hz
  · exact h2
  · rw [hb] at h1
    simp [Nat.not_le.2 h2] at h1
theorem zero_of_bits {n k : Nat} (h : ∀ j, j < k → n.testBit j = false) (hn : n < 2 ^ k) : n = 0 := by
  apply Nat.eq_of_testBit_eq
  intro i
  rw [Nat.zero_testBit]
  rcases Nat.lt_or_ge i k with h1 | h1
  · exact h i h1
  · exact Nat.testBit_lt_two_pow (Nat.lt_of_lt_of_le hn (Nat.pow_le_pow_right (by decide) h1))
theorem val_lt_bits {l : List Nat} (hd : D l) : val l < 2 ^ (32 * l.length) := by
  have := val_lt hd
  rwa [B_two] at this
theorem bit_above {l : List Nat} (hd : D l) {j : Nat} (h : 32 * l.length ≤ j) : (val l).testBit j = false :=
  Nat.testBit_lt_two_pow (Nat.lt_of_lt_of_le (val_lt_bits hd) (Nat.pow_le_pow_right (by decide) h))
section
variable {P : Program} {n : Nat} {ops rest : List Oper} {K : Rho → World → Prop} {ρ : Rho} {w : World} {d : Nat} {ty : TypeId} {pos : String} {after : Array Edge} {g : Option (Nat × Bool)} {t e : TypeId}
/-- A slice literal of values of one cell. -/
theorem V_lit {z : Value} {b : Nat} {len : Nat} {parts : List (Nat × Operand)} (T : ElT P t e z b) (hg : gd ops ρ g = some true) (hd : Nat.blt d n = true) (vs : List Value) (hone : ∀ u ∈ vs, u.cells = #[u]) (hlen : vs.length = len) (hsm : len ≤ 1000) (hpos : len ≠ 0) (hp : evs ρ (parts.map (·.2)) = some vs) (hi : parts.map (·.1) = List.range len)
    (h : ∀ v w', Own w.heap.size e w' v vs → Ext w w' → WL P n ops rest K ((d, v) :: ρ) w') :
    WL P n ops (⟨some d, .buildSlice t len parts.toArray, ty, pos, after, g⟩ :: rest) K ρ w := by
  subst hlen
  obtain ⟨inf, h1, h2, h3, h4⟩ := T.info
  refine WL_val rfl hg hd (v := .slice (some ⟨w.heap.size, 0, none⟩) vs.length vs.length) (w' := w.alloc (.cells vs.toArray e)) (fun c hc => ?_)
    (h _ _ ⟨by simp, .inr ⟨w.heap.size, vs.length, _, by simp, Nat.le_refl _, heap_alloc_new w _, by simp, by simp only [maxLen]; omega, by simp, by rw [List.take_of_length_le (by simp)]⟩⟩ (Ext.alloc w _))
  have hz : (parts.toArray.map fun x => (x.1, c.eval x.2)).toList = (List.range' 0 vs.length).zip vs := by
    have he := hc.evals hp
    have : (parts.toArray.map fun x => (x.1, c.eval x.2)).toList = (parts.map (·.1)).zip ((parts.map (·.2)).map c.eval) := by
      simp [List.zip_map', List.map_map, Function.comp_def]
    rw [this, he, hi, List.range_eq_range']
  have hf := fun (cells : Array Value) (hs : cells.size = vs.length) => fill_range vs 0 cells hone (by simp [hs])
  have hrange : ∀ x : Array Value, ((Array.range (vs.length * 1)).map fun i => x[i % x.size]!).size = vs.length := by intro x; simp
  have hsm' : ¬ (vs.length > 2 ^ 24) := by omega
  have hm : (parts.toArray.map fun x => match x with | (i, x) => (i, c.eval x)) = (parts.toArray.map fun x => (x.1, c.eval x.2)) := rfl
  have hf1 := hf (((Array.range (vs.length * 1)).map fun i => z.cells[i % z.cells.size]!)) (hrange z.cells)
  rw [← hz] at hf1
  simp at hf1
  simp only [execOp, hm, Instr.buildSlice, Sem.run_bind, run_underlying T.sl, Result.andThen_ok, sizeOf, typeInfo, run_program, h1, h2, Sem.run_pure, Nat.mul_one, hsm', hpos, if_false, zeroValue, h3, newRow]
  simp [hf1, newRow]
end
theorem bit_n {w : World} {v : Value} {l : List Nat} {j : Nat} (hs : Nl w v l) (hj : j ≤ 9223372036854775807) :
    Calls Tryd.prog 14 #[v, .int .i64 (j : Nat)] w (Ret w fun r _ => r = .bool (bitv (val l) (j : Nat))) := by
  have hlen := hs.len_le
  refine enter (args := [v, _]) Tryd.func14 rfl Tryd.ntmps14 rfl ?_
  refine WP_seq ?_
  refine WP_region ?_
  refine O_assign rfl rfl rfl ?_
  refine WL_end [(0, _), (1, _)] ⟨rfl, rfl, trivial⟩ ?_
  refine WP_seq ?_
  refine WP_region ?_
  refine O_move rfl rfl rfl ?_
  refine O_geq (t := true) rfl rfl rfl rfl (decide_eq_true (by omega)) ?_
  refine O_move rfl rfl rfl ?_
  refine O_move rfl rfl rfl ?_
  refine O_quo (r := ((j / 32 : Nat) : Int)) rfl rfl rfl rfl (by decide) (quo32 hj) ?_
  refine O_move rfl rfl rfl ?_
  refine N_len T22 rfl rfl rfl hs ?_
  refine O_lss rfl rfl rfl rfl rfl ?_
  refine O_pickT rfl rfl rfl rfl ?_
  refine O_move rfl rfl rfl ?_
  refine WL_dec 14 rfl (fun g14 => ?_) (fun g14 => ?_)
  · --
    refine O_move rfl rfl rfl ?_
    refine O_move rfl rfl rfl ?_
    refine O_quo (r := ((j / 32 : Nat) : Int)) rfl rfl rfl rfl (by decide) (quo32 hj) ?_
    refine N_index T22 rfl rfl rfl rfl hs (j / 32) rfl (by omega) ?_
    refine N_load Tryd.underlying44 rfl rfl rfl hs (by omega) (fun d19 => ?_)
    refine O_move rfl rfl rfl ?_
    refine O_rem (r := ((j % 32 : Nat) : Int)) rfl rfl rfl rfl (by decide) (remN (m := 32)) ?_
    refine O_shr rfl rfl rfl rfl (by omega) (shrU32 (m := j % 32) (by omega)) ?_
    refine O_and rfl rfl rfl rfl (u32_and_nat _ 1 (Nat.lt_of_le_of_lt (Nat.div_le_self _ _) (hs.d.getD _)) (by decide)) ?_
    rw [Nat.and_one_is_mod]
    refine O_eql rfl rfl rfl rfl rfl ?_
    refine O_pickT rfl rfl rfl rfl ?_
    refine O_assign rfl rfl rfl ?_
    refine WL_end [(4, _)] ⟨rfl, trivial⟩ ?_
    refine WP_ret ?_
    refine ret1 Tryd.results14 rfl ?_
    exact ⟨_, rfl, (Ext.refl _), by rw [bitv_nat, bit_val hs.d]; exact congrArg Value.bool (decide_eq_decide.2 (by omega))⟩
  · --
    refine O_skip rfl rfl ?_
    refine O_skip rfl rfl ?_
    refine O_skip rfl rfl ?_
    refine O_skip rfl rfl ?_
    refine O_skip rfl rfl ?_
    refine O_skip rfl rfl ?_
    refine O_skip rfl rfl ?_
    refine O_skip rfl rfl ?_
    refine O_skip rfl rfl ?_
    refine O_skip rfl rfl ?_
    refine O_pickF rfl rfl rfl rfl ?_
    refine O_assign rfl rfl rfl ?_
    refine WL_end [(4, _)] ⟨rfl, trivial⟩ ?_
    refine WP_ret ?_
    refine ret1 Tryd.results14 rfl ?_
    have h0 := getD_ge (l := l) (j := j / 32) (by omega)
    exact ⟨_, rfl, (Ext.refl _), by rw [bitv_nat, bit_val hs.d, h0, Nat.zero_div]; rfl⟩

theorem bit_m {w : World} {v : Value} {l : List Nat} {i : Int} (hs : Nl w v l) (hi : i < 0) :
    Calls Tryd.prog 14 #[v, .int .i64 i] w (Ret w fun r _ => r = .bool (bitv (val l) i)) := by
  refine enter (args := [v, _]) Tryd.func14 rfl Tryd.ntmps14 rfl ?_
  refine WP_seq ?_
  refine WP_region ?_
  refine O_assign rfl rfl rfl ?_
  refine WL_end [(0, _), (1, _)] ⟨rfl, rfl, trivial⟩ ?_
  refine WP_seq ?_
  refine WP_region ?_
  refine O_move rfl rfl rfl ?_
  refine O_geq (t := false) rfl rfl rfl rfl (decide_eq_false (by omega)) ?_
  refine O_move rfl rfl rfl ?_
  refine O_skip rfl rfl ?_
  refine O_skip rfl rfl ?_
  refine O_skip rfl rfl ?_
  refine O_skip rfl rfl ?_
  refine O_skip rfl rfl ?_
  refine O_pickF rfl rfl rfl rfl ?_
  refine O_move rfl rfl rfl ?_
  refine O_skip rfl rfl ?_
  refine O_skip rfl rfl ?_
  refine O_skip rfl rfl ?_
  refine O_skip rfl rfl ?_
  refine O_skip rfl rfl ?_
  refine O_skip rfl rfl ?_
  refine O_skip rfl rfl ?_
  refine O_skip rfl rfl ?_
  refine O_skip rfl rfl ?_
  refine O_skip rfl rfl ?_
  refine O_pickF rfl rfl rfl rfl ?_
  refine O_assign rfl rfl rfl ?_
  refine WL_end [(4, _)] ⟨rfl, trivial⟩ ?_
  refine WP_ret ?_
  refine ret1 Tryd.results14 rfl ?_
  exact ⟨_, rfl, (Ext.refl _), by rw [bitv_neg hi]⟩

theorem bit_c {w : World} {v : Value} {l : List Nat} {i : Int} (hs : Nl w v l) (hi : i ≤ 9223372036854775807) : Calls Tryd.prog 14 #[v, .int .i64 i] w (Ret w fun r _ => r = .bool (bitv (val l) i)) := by
  rcases Int.lt_or_le i 0 with h | h
  · exact bit_m hs h
  · obtain ⟨j, rfl⟩ := Int.eq_ofNat_of_zero_le h
    exact bit_n hs (by omega)

theorem rbit_n {w : World} {v : Value} {l : List Nat} {j : Nat} (hs : Nl w v l) (hj : j ≤ 9223372036854775807) :
    Calls Tryd.prog 15 #[v, .int .i64 (j : Nat)] w (Ret w fun r _ => r = .bool (bitv (val l) (j : Nat))) := by
  have hlen := hs.len_le
  refine enter (args := [v, _]) Tryd.func15 rfl Tryd.ntmps15 rfl ?_
  refine WP_seq ?_
  refine WP_region ?_
  refine O_assign rfl rfl rfl ?_
  refine WL_end [(0, _), (1, _)] ⟨rfl, rfl, trivial⟩ ?_
  refine WP_seq ?_
  refine WP_region ?_
  refine O_move rfl rfl rfl ?_
  refine O_geq (t := true) rfl rfl rfl rfl (decide_eq_true (by omega)) ?_
  refine O_move rfl rfl rfl ?_
  refine O_move rfl rfl rfl ?_
  refine O_move rfl rfl rfl ?_
  refine O_quo (r := ((j / 32 : Nat) : Int)) rfl rfl rfl rfl (by decide) (quo32 hj) ?_
  refine O_call enters42 rfl rfl rfl (at_c hs (j / 32) rfl) (fun v1 w1 e1 h1 => ?_)
  have z1 := e1.size
  obtain rfl := h1
  refine O_move rfl rfl rfl ?_
  refine O_rem (r := ((j % 32 : Nat) : Int)) rfl rfl rfl rfl (by decide) (remN (m := 32)) ?_
  refine O_conv Tryd.underlying3 Tryd.underlying48 rfl rfl rfl (wrap_u64_id (by omega) (by omega)) ?_
  refine O_shr rfl rfl rfl rfl (by omega) (shrU64 (m := j % 32) (by omega)) ?_
  refine O_rem (r := ((l.getD (j / 32) 0 / 2 ^ (j % 32) % 2 : Nat) : Int)) rfl rfl rfl rfl (by decide) (remN (m := 2)) ?_
  refine O_eql rfl rfl rfl rfl rfl ?_
  refine O_pickT rfl rfl rfl rfl ?_
  refine O_assign rfl rfl rfl ?_
  refine WL_end [(4, _)] ⟨rfl, trivial⟩ ?_
  refine WP_ret ?_
  refine ret1 Tryd.results15 rfl ?_
  exact ⟨_, rfl, e1, by rw [bitv_nat, bit_val hs.d]; exact congrArg Value.bool (decide_eq_decide.2 (by omega))⟩

theorem rbit_m {w : World} {v : Value} {l : List Nat} {i : Int} (hs : Nl w v l) (hi : i < 0) :
    Calls Tryd.prog 15 #[v, .int .i64 i] w (Ret w fun r _ => r = .bool (bitv (val l) i)) := by
  refine enter (args := [v, _]) Tryd.func15 rfl Tryd.ntmps15 rfl ?_
  refine WP_seq ?_
  refine WP_region ?_
  refine O_assign rfl rfl rfl ?_
  refine WL_end [(0, _), (1, _)] ⟨rfl, rfl, trivial⟩ ?_
  refine WP_seq ?_
  refine WP_region ?_
  refine O_move rfl rfl rfl ?_
  refine O_geq (t := false) rfl rfl rfl rfl (decide_eq_false (by omega)) ?_
  refine O_move rfl rfl rfl ?_
  refine O_skip rfl rfl ?_
  refine O_skip rfl rfl ?_
  refine O_skip rfl rfl ?_
  refine O_skip rfl rfl ?_
  refine O_skip rfl rfl ?_
  refine O_skip rfl rfl ?_
  refine O_skip rfl rfl ?_
  refine O_skip rfl rfl ?_
  refine O_skip rfl rfl ?_
  refine O_skip rfl rfl ?_
  refine O_pickF rfl rfl rfl rfl ?_
  refine O_assign rfl rfl rfl ?_
  refine WL_end [(4, _)] ⟨rfl, trivial⟩ ?_
  refine WP_ret ?_
  refine ret1 Tryd.results15 rfl ?_
  exact ⟨_, rfl, (Ext.refl _), by rw [bitv_neg hi]⟩

theorem rbit_c {w : World} {v : Value} {l : List Nat} {i : Int} (hs : Nl w v l) (hi : i ≤ 9223372036854775807) : Calls Tryd.prog 15 #[v, .int .i64 i] w (Ret w fun r _ => r = .bool (bitv (val l) i)) := by
  rcases Int.lt_or_le i 0 with h | h
  · exact rbit_m hs h
  · obtain ⟨j, rfl⟩ := Int.eq_ofNat_of_zero_le h
    exact rbit_n hs (by omega)

theorem rbits_c {w : World} {v : Value} {l : List Nat} (hs : Nl w v l) (hl : l.length ≤ 100000000) :
    Calls Tryd.prog 16 #[v] w (Ret w fun r _ => r = .int .i64 (bl (val l) : Nat)) := by
  refine enter (args := [v]) Tryd.func16 rfl Tryd.ntmps16 rfl ?_
  refine WP_seq ?_
  refine WP_region ?_
  refine O_assign rfl rfl rfl ?_
  refine WL_end [(0, _)] ⟨rfl, trivial⟩ ?_
  refine WP_seq ?_
  refine WP_region ?_
  refine O_move rfl rfl rfl ?_
  refine N_len T22 rfl rfl rfl hs ?_
  refine O_mul (r := ((32 * l.length : Nat) : Int)) rfl rfl rfl rfl (by rw [IntKind.wrap_i64]; omega) ?_
  refine O_assign rfl rfl rfl ?_
  refine WL_end [(0, _), (3, _)] ⟨rfl, rfl, trivial⟩ ?_
  refine WP_seq ?_
  refine WP_block ?_
  refine WP_loop (S := Nat) (fun k => [(0, v), (3, .int .i64 (k : Nat))]) (fun k w' => Ext w w' ∧ k ≤ 32 * l.length ∧ ∀ j, k ≤ j → (val l).testBit j = false) (fun k => k) (32 * l.length) ⟨rfl, rfl, trivial⟩ ⟨Ext.refl _, Nat.le_refl _, fun j hj => bit_above hs.d hj⟩ ?_
  rintro k w1 ⟨hE, hk, hz⟩
  refine WP_seq ?_
  refine WP_seq ?_
  refine WP_region ?_
  refine O_move rfl rfl rfl ?_
  refine O_gtr rfl rfl rfl rfl rfl ?_
  refine O_move rfl rfl rfl ?_
  refine WL_dec 9 rfl (fun g9 => ?_) (fun g9 => ?_)
  · --
    refine O_move rfl rfl rfl ?_
    refine O_move rfl rfl rfl ?_
    refine O_sub (r := ((k - 1 : Nat) : Int)) rfl rfl rfl rfl (by rw [IntKind.wrap_i64]; omega) ?_
    refine O_call enters15 rfl rfl rfl (rbit_c (hs.ext hE) (by (try simp only [val_dig, List.length_take, List.length_nil, List.length_cons, List.length_append, List.length_replicate, List.length_set, List.length_map, List.length_drop]); omega)) (fun v1 w1 e1 h1 => ?_)
    have z1 := e1.size
    obtain rfl := h1
    rw [bitv_nat]
    refine O_not rfl rfl rfl rfl ?_
    refine O_pickT rfl rfl rfl rfl ?_
    refine WL_end [(0, _), (3, _), (15, _)] ⟨rfl, rfl, rfl, trivial⟩ ?_
    refine WP_cond rfl (fun c15 => ?_) (fun c15 => ?_)
    · --
      refine WP_skip ?_
      refine WP_block ?_
      refine WP_region ?_
      refine O_move rfl rfl rfl ?_
      refine O_sub (r := ((k - 1 : Nat) : Int)) rfl rfl rfl rfl (by rw [IntKind.wrap_i64]; omega) ?_
      refine O_assign rfl rfl rfl ?_
      refine WL_end [(0, _), (3, _)] ⟨rfl, rfl, trivial⟩ ?_
      exact ⟨k - 1, ⟨rfl, rfl, trivial⟩, ⟨(hE.trans e1), by omega, fun j hj => by
        by_cases hj2 : j = k - 1
        · rw [hj2]; simpa using c15
        · exact hz j (by omega)⟩, by omega⟩
    · --
      refine WP_exit ?_
      refine inBlk_hit ?_
      refine WP_seq ?_
      refine WP_region ?_
      refine O_move rfl rfl rfl ?_
      refine O_assign rfl rfl rfl ?_
      refine WL_end [(2, _)] ⟨rfl, trivial⟩ ?_
      refine WP_ret ?_
      refine ret1 Tryd.results16 rfl ?_
      have h1 := bl_of_bits hz (.inr (by simpa using c15))
      exact ⟨_, rfl, (hE.trans e1), by rw [h1]⟩
  · --
    refine O_skip rfl rfl ?_
    refine O_skip rfl rfl ?_
    refine O_skip rfl rfl ?_
    refine O_skip rfl rfl ?_
    refine O_skip rfl rfl ?_
    refine O_pickF rfl rfl rfl rfl ?_
    refine WL_end [(0, _), (3, _), (15, _)] ⟨rfl, rfl, rfl, trivial⟩ ?_
    refine WP_condF rfl ?_
    refine WP_exit ?_
    refine inBlk_hit ?_
    refine WP_seq ?_
    refine WP_region ?_
    refine O_move rfl rfl rfl ?_
    refine O_assign rfl rfl rfl ?_
    refine WL_end [(2, _)] ⟨rfl, trivial⟩ ?_
    refine WP_ret ?_
    refine ret1 Tryd.results16 rfl ?_
    have h1 := bl_of_bits hz (.inl (by omega))
    exact ⟨_, rfl, hE, by rw [h1]⟩

theorem rzeros_c {w : World} {v : Value} {l : List Nat} (hs : Nl w v l) (hl : l.length ≤ 100000000) :
    Calls Tryd.prog 17 #[v] w (Ret w fun r _ => r = .int .i64 (tz (val l) : Nat)) := by
  refine enter (args := [v]) Tryd.func17 rfl Tryd.ntmps17 rfl ?_
  refine WP_seq ?_
  refine WP_region ?_
  refine O_assign rfl rfl rfl ?_
  refine WL_end [(0, _)] ⟨rfl, trivial⟩ ?_
  refine WP_seq ?_
  refine WP_seq ?_
  refine WP_region ?_
  refine O_assign rfl rfl rfl ?_
  refine WL_end [(0, _), (3, _)] ⟨rfl, rfl, trivial⟩ ?_
  refine WP_block ?_
  refine WP_loop (S := Nat) (fun k => [(0, v), (3, .int .i64 (k : Nat))]) (fun k w' => Ext w w' ∧ k ≤ 32 * l.length ∧ ∀ j, j < k → (val l).testBit j = false) (fun k => 32 * l.length - k) 0 ⟨rfl, rfl, trivial⟩ ⟨Ext.refl _, Nat.zero_le _, fun j hj => absurd hj (Nat.not_lt_zero _)⟩ ?_
  rintro k w1 ⟨hE, hk, hz⟩
  refine WP_seq ?_
  refine WP_seq ?_
  refine WP_region ?_
  refine O_move rfl rfl rfl ?_
  refine O_move rfl rfl rfl ?_
  refine N_len T22 rfl rfl rfl (hs.ext hE) ?_
  refine O_mul (r := ((32 * l.length : Nat) : Int)) rfl rfl rfl rfl (by rw [IntKind.wrap_i64]; omega) ?_
  refine O_lss rfl rfl rfl rfl rfl ?_
  refine WL_end [(0, _), (3, _), (8, _)] ⟨rfl, rfl, rfl, trivial⟩ ?_
  refine WP_condD rfl (fun c8 => ?_) (fun c8 => ?_)
  · --
    refine WP_skip ?_
    refine WP_seq ?_
    refine WP_block ?_
    refine WP_seq ?_
    refine WP_region ?_
    refine O_move rfl rfl rfl ?_
    refine O_move rfl rfl rfl ?_
    refine O_call enters15 rfl rfl rfl (rbit_c (hs.ext hE) (by (try simp only [val_dig, List.length_take, List.length_nil, List.length_cons, List.length_append, List.length_replicate, List.length_set, List.length_map, List.length_drop]); omega)) (fun v1 w1 e1 h1 => ?_)
    have z1 := e1.size
    obtain rfl := h1
    rw [bitv_nat]
    refine WL_end [(0, _), (3, _), (13, _)] ⟨rfl, rfl, rfl, trivial⟩ ?_
    refine WP_cond rfl (fun c13 => ?_) (fun c13 => ?_)
    · --
      refine WP_seq ?_
      refine WP_region ?_
      refine O_move rfl rfl rfl ?_
      refine O_assign rfl rfl rfl ?_
      refine WL_end [(2, _)] ⟨rfl, trivial⟩ ?_
      refine WP_ret ?_
      refine inBlk_ret ?_
      refine inBlk_ret ?_
      refine ret1 Tryd.results17 rfl ?_
      have h1 := tz_of_bits hz c13
      exact ⟨_, rfl, (hE.trans e1), by rw [h1]⟩
    · --
      refine WP_skip ?_
      refine WP_region ?_
      refine O_move rfl rfl rfl ?_
      refine O_add rfl rfl rfl rfl (wrap_i64_id (by omega) (by omega)) ?_
      refine O_assign rfl rfl rfl ?_
      refine WL_end [(0, _), (3, _)] ⟨rfl, rfl, trivial⟩ ?_
      exact ⟨k + 1, ⟨rfl, rfl, trivial⟩, ⟨(hE.trans e1), by omega, fun j hj => by
        by_cases hj2 : j = k
        · rw [hj2]; exact c13
        · exact hz j (by omega)⟩, by omega⟩
  · --
    refine WP_exit ?_
    refine inBlk_hit ?_
    refine WP_seq ?_
    refine WP_region ?_
    refine O_assign rfl rfl rfl ?_
    refine WL_end [(2, _)] ⟨rfl, trivial⟩ ?_
    refine WP_ret ?_
    refine ret1 Tryd.results17 rfl ?_
    have h1 := zero_of_bits (k := 32 * l.length) (fun j hj => hz j (by omega)) (val_lt_bits hs.d)
    exact ⟨_, rfl, hE, by rw [h1, show tz 0 = 0 from by rw [tz]; simp]; rfl⟩

end Go.Proofs.YtijnlfhaepcldaaDoor
