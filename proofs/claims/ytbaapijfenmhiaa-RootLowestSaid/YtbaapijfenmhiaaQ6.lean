/-
  Walks.
-/
import Derived.Test.YtbaapijfenmhiaaQ5
set_option linter.unusedVariables false
set_option linter.unusedSimpArgs false
set_option maxRecDepth 100000
namespace Go.Proofs.Ytbaapijfenmhiaa
open Go Go.RowKit
/-- What 'Exact' returns. -/
def exb (a b : Nat) : Bool := decide (b ≠ 0 ∧ a % b = 0)
def exq (a b : Nat) : Nat := if b ≠ 0 ∧ a % b = 0 then a / b else 0
theorem exb_zero (a : Nat) : exb a 0 = false := by simp [exb]
theorem exq_zero (a : Nat) : exq a 0 = 0 := by simp [exq]
theorem exb_no {a b : Nat} (h : a % b ≠ 0) : exb a b = false := by simp [exb, h]
theorem exq_no {a b : Nat} (h : a % b ≠ 0) : exq a b = 0 := by simp [exq, h]
theorem exb_yes {a b : Nat} (h0 : b ≠ 0) (h : a % b = 0) : exb a b = true := by simp [exb, h, h0]
theorem exq_yes {a b : Nat} (h0 : b ≠ 0) (h : a % b = 0) : exq a b = a / b := by simp [exq, h, h0]
/-- .. and 'Powmod'. -/
def pm (a n m : Nat) : Nat := if m = 0 then 0 else a ^ n % m
theorem pm_zero (a n : Nat) : pm a n 0 = 0 := rfl
theorem pm_pos {a n m : Nat} (h : m ≠ 0) : pm a n m = a ^ n % m := if_neg h
theorem bit_half {n k : Nat} (h : 0 < k) : bitv n ((k : Int) - 1) = decide (n / 2 ^ (k - 1) % 2 = 1) := by
  rw [show (k : Int) - 1 = ((k - 1 : Nat) : Int) from by omega, bitv_nat, Nat.testBit_eq_decide_div_mod_eq]
theorem pow_sq {a n k m : Nat} (hk : 0 < k) (h : n / 2 ^ (k - 1) % 2 = 0) : a ^ (n / 2 ^ k) % m * (a ^ (n / 2 ^ k) % m) % m = a ^ (n / 2 ^ (k - 1)) % m := by
  rw [← Nat.mul_mod, ← Nat.pow_add, half_step n k hk, h, Nat.two_mul, Nat.add_zero]
theorem pow_sq1 {a n k m : Nat} (hk : 0 < k) (h : n / 2 ^ (k - 1) % 2 = 1) : a ^ (n / 2 ^ k) % m * (a ^ (n / 2 ^ k) % m) % m * a % m = a ^ (n / 2 ^ (k - 1)) % m := by
  rw [← Nat.mul_mod (a ^ (n / 2 ^ k)), ← Nat.pow_add, Nat.mod_mul_mod, ← Nat.pow_succ, half_step n k hk, h, Nat.two_mul]
theorem pow_sq2 {a n k m : Nat} (hk : 0 < k) (h : n / 2 ^ (k - 1) % 2 = 1) : a ^ (n / 2 ^ k) % m * (a ^ (n / 2 ^ k) % m) % m * (a % m) % m = a ^ (n / 2 ^ (k - 1)) % m := by
  rw [Nat.mul_mod_mod, pow_sq1 hk h]
theorem dig_len_mod (a m : Nat) (h : m ≠ 0) : (dig (a % m)).length ≤ (dig m).length := dig_len_mono (Nat.le_of_lt (Nat.mod_lt _ (Nat.pos_of_ne_zero h)))
theorem bl_zero_iff {n : Nat} : bl n = 0 ↔ n = 0 := ⟨fun h => by rcases Nat.eq_zero_or_pos n with h1 | h1; exact h1; exact absurd (bl_pos (by omega : n ≠ 0)) (by omega), fun h => by subst h; rfl⟩
theorem divmod_t {w : World} {va vb : Value} {la lb : List Nat} (ha : Nl w va la) (hb : Nl w vb lb) (hla : la.length ≤ 10000000) (hlb : lb.length ≤ 10000000) (h0 : val lb ≠ 0) : Calls Try.prog 43 #[va, vb] w (Ret w fun r w' => ∃ q r2, r = .tuple #[q, r2, .bool true] ∧ No w.heap.size 27 w' q (dig (val la / val lb)) ∧ No w.heap.size 27 w' r2 (dig (val la % val lb))) :=
  (divmod_c ha hb hla hlb).mono fun e w' ⟨r, he, hx, q, r2, hr, hq, hr2⟩ => ⟨r, he, hx, q, r2, by rw [hr, decide_eq_true h0], hq, by rw [rem0_pos h0] at hr2; exact hr2⟩
theorem divmod_z {w : World} {va vb : Value} {la lb : List Nat} (ha : Nl w va la) (hb : Nl w vb lb) (hla : la.length ≤ 10000000) (hlb : lb.length ≤ 10000000) (h0 : val lb = 0) : Calls Try.prog 43 #[va, vb] w (Ret w fun r w' => ∃ q r2, r = .tuple #[q, r2, .bool false] ∧ No w.heap.size 27 w' q [] ∧ No w.heap.size 27 w' r2 []) :=
  (divmod_c ha hb hla hlb).mono fun e w' ⟨r, he, hx, q, r2, hr, hq, hr2⟩ => ⟨r, he, hx, q, r2, by rw [hr, decide_eq_false (by omega)], by rw [h0, Nat.div_zero, dig_zero] at hq; exact hq, by rw [h0, rem0_zero, dig_zero] at hr2; exact hr2⟩

theorem exact_z {w : World} {va vb : Value} {la lb : List Nat} (ha : Nl w va la) (hb : Nl w vb lb) (hla : la.length ≤ 10000000) (hlb : lb.length ≤ 10000000) (h0 : val lb = 0) :
    Calls Try.prog 25 #[va, vb] w (Ret w fun r w' => ∃ q, r = .tuple #[q, .bool (exb (val la) (val lb))] ∧ No w.heap.size 27 w' q (dig (exq (val la) (val lb)))) := by
  refine enter (args := [va, vb]) Try.func25 rfl Try.ntmps25 rfl ?_
  refine WP_seq ?_
  refine WP_region ?_
  refine O_assign rfl rfl rfl ?_
  refine O_assign rfl rfl rfl ?_
  refine WL_end [(0, _), (1, _)] ⟨rfl, rfl, trivial⟩ ?_
  refine WP_seq ?_
  refine WP_region ?_
  refine O_move rfl rfl rfl ?_
  refine O_move rfl rfl rfl ?_
  refine O_call enters43 rfl rfl rfl (divmod_z ha hb (by (try simp only [val_dig, List.length_take, List.length_nil, List.length_cons, List.length_append, List.length_replicate, List.length_set, List.length_map, List.length_drop]); omega) (by (try simp only [val_dig, List.length_take, List.length_nil, List.length_cons, List.length_append, List.length_replicate, List.length_set, List.length_map, List.length_drop]); omega) (by first | assumption | (try simp only [val_dig]); first | assumption | omega)) (fun v1 w1 e1 h1 => ?_)
  have z1 := e1.size
  try simp only [val_dig] at h1
  obtain ⟨q1, r1, rfl, hq1, hr1⟩ := h1
  refine O_move rfl rfl rfl ?_
  refine O_extract rfl rfl rfl rfl ?_
  refine O_extract rfl rfl rfl rfl ?_
  refine O_extract rfl rfl rfl rfl ?_
  refine O_assign rfl rfl rfl ?_
  refine O_assign rfl rfl rfl ?_
  refine O_assign rfl rfl rfl ?_
  refine WL_end [(6, _), (7, _), (8, _)] ⟨rfl, rfl, rfl, trivial⟩ ?_
  refine WP_seq ?_
  refine WP_seq ?_
  refine WP_region ?_
  refine O_move rfl rfl rfl ?_
  refine O_not rfl rfl rfl rfl ?_
  refine O_move rfl rfl rfl ?_
  refine O_skip rfl rfl ?_
  refine O_skip rfl rfl ?_
  refine O_skip rfl rfl ?_
  refine O_pickT rfl rfl rfl rfl ?_
  refine WL_end [(6, _), (22, _)] ⟨rfl, rfl, trivial⟩ ?_
  refine WP_condT rfl ?_
  refine WP_seq ?_
  refine WP_region ?_
  refine O_assign rfl rfl rfl ?_
  refine O_assign rfl rfl rfl ?_
  refine WL_end [(4, _), (5, _)] ⟨rfl, rfl, trivial⟩ ?_
  refine WP_ret ?_
  refine ret2 Try.results25 rfl rfl ?_
  rw [h0, exb_zero, exq_zero, dig_zero]
  exact ⟨_, rfl, e1, _, rfl, No.nil _ _ _⟩

theorem exact_t {w : World} {va vb : Value} {la lb : List Nat} (ha : Nl w va la) (hb : Nl w vb lb) (hla : la.length ≤ 10000000) (hlb : lb.length ≤ 10000000) (h0 : val lb ≠ 0) :
    Calls Try.prog 25 #[va, vb] w (Ret w fun r w' => ∃ q, r = .tuple #[q, .bool (exb (val la) (val lb))] ∧ No w.heap.size 27 w' q (dig (exq (val la) (val lb)))) := by
  refine enter (args := [va, vb]) Try.func25 rfl Try.ntmps25 rfl ?_
  refine WP_seq ?_
  refine WP_region ?_
  refine O_assign rfl rfl rfl ?_
  refine O_assign rfl rfl rfl ?_
  refine WL_end [(0, _), (1, _)] ⟨rfl, rfl, trivial⟩ ?_
  refine WP_seq ?_
  refine WP_region ?_
  refine O_move rfl rfl rfl ?_
  refine O_move rfl rfl rfl ?_
  refine O_call enters43 rfl rfl rfl (divmod_t ha hb (by (try simp only [val_dig, List.length_take, List.length_nil, List.length_cons, List.length_append, List.length_replicate, List.length_set, List.length_map, List.length_drop]); omega) (by (try simp only [val_dig, List.length_take, List.length_nil, List.length_cons, List.length_append, List.length_replicate, List.length_set, List.length_map, List.length_drop]); omega) (by first | assumption | (try simp only [val_dig]); first | assumption | omega)) (fun v1 w1 e1 h1 => ?_)
  have z1 := e1.size
  try simp only [val_dig] at h1
  obtain ⟨q1, r1, rfl, hq1, hr1⟩ := h1
  refine O_move rfl rfl rfl ?_
  refine O_extract rfl rfl rfl rfl ?_
  refine O_extract rfl rfl rfl rfl ?_
  refine O_extract rfl rfl rfl rfl ?_
  refine O_assign rfl rfl rfl ?_
  refine O_assign rfl rfl rfl ?_
  refine O_assign rfl rfl rfl ?_
  refine WL_end [(6, _), (7, _), (8, _)] ⟨rfl, rfl, rfl, trivial⟩ ?_
  refine WP_seq ?_
  refine WP_seq ?_
  refine WP_region ?_
  refine O_move rfl rfl rfl ?_
  refine O_not rfl rfl rfl rfl ?_
  refine O_move rfl rfl rfl ?_
  refine O_move rfl rfl rfl ?_
  refine N_len T22 rfl rfl rfl hr1.nl ?_
  refine O_neq rfl rfl rfl rfl rfl ?_
  refine O_pickF rfl rfl rfl rfl ?_
  refine WL_end [(6, _), (22, _)] ⟨rfl, rfl, trivial⟩ ?_
  refine WP_condN rfl (fun c22 => ?_) (fun c22 => ?_)
  · --
    refine WP_seq ?_
    refine WP_region ?_
    refine O_assign rfl rfl rfl ?_
    refine O_assign rfl rfl rfl ?_
    refine WL_end [(4, _), (5, _)] ⟨rfl, rfl, trivial⟩ ?_
    refine WP_ret ?_
    refine ret2 Try.results25 rfl rfl ?_
    have h1 : val la % val lb ≠ 0 := fun e => c22 (by rw [e, dig_zero]; rfl)
    rw [exb_no h1, exq_no h1, dig_zero]
    exact ⟨_, rfl, e1, _, rfl, No.nil _ _ _⟩
  · --
    refine WP_skip ?_
    refine WP_seq ?_
    refine WP_region ?_
    refine O_move rfl rfl rfl ?_
    refine O_assign rfl rfl rfl ?_
    refine O_assign rfl rfl rfl ?_
    refine WL_end [(4, _), (5, _)] ⟨rfl, rfl, trivial⟩ ?_
    refine WP_ret ?_
    refine ret2 Try.results25 rfl rfl ?_
    have h1 : val la % val lb = 0 := dig_len_zero.1 (by omega)
    rw [exb_yes h0 h1, exq_yes h0 h1]
    exact ⟨_, rfl, e1, _, rfl, hq1.mono (by omega)⟩

theorem exact_c {w : World} {va vb : Value} {la lb : List Nat} (ha : Nl w va la) (hb : Nl w vb lb) (hla : la.length ≤ 10000000) (hlb : lb.length ≤ 10000000) : Calls Try.prog 25 #[va, vb] w (Ret w fun r w' => ∃ q, r = .tuple #[q, .bool (exb (val la) (val lb))] ∧ No w.heap.size 27 w' q (dig (exq (val la) (val lb)))) := by
  by_cases h0 : val lb = 0
  · exact exact_z ha hb hla hlb h0
  · exact exact_t ha hb hla hlb h0

theorem divides_z {w : World} {va vb : Value} {la lb : List Nat} (hb : Nl w vb lb) (ha : Nl w va la) (hlb : lb.length ≤ 10000000) (hla : la.length ≤ 10000000) (h0 : val lb = 0) :
    Calls Try.prog 28 #[vb, va] w (Ret w fun r _ => r = .bool (decide (val la % val lb = 0))) := by
  refine enter (args := [vb, va]) Try.func28 rfl Try.ntmps28 rfl ?_
  refine WP_seq ?_
  refine WP_region ?_
  refine O_assign rfl rfl rfl ?_
  refine WL_end [(0, _), (1, _)] ⟨rfl, rfl, trivial⟩ ?_
  refine WP_seq ?_
  refine WP_region ?_
  refine O_move rfl rfl rfl ?_
  refine O_move rfl rfl rfl ?_
  refine O_call enters43 rfl rfl rfl (divmod_z ha hb (by (try simp only [val_dig, List.length_take, List.length_nil, List.length_cons, List.length_append, List.length_replicate, List.length_set, List.length_map, List.length_drop]); omega) (by (try simp only [val_dig, List.length_take, List.length_nil, List.length_cons, List.length_append, List.length_replicate, List.length_set, List.length_map, List.length_drop]); omega) (by first | assumption | (try simp only [val_dig]); first | assumption | omega)) (fun v1 w1 e1 h1 => ?_)
  have z1 := e1.size
  try simp only [val_dig] at h1
  obtain ⟨q1, r1, rfl, hq1, hr1⟩ := h1
  refine O_move rfl rfl rfl ?_
  refine O_extract rfl rfl rfl rfl ?_
  refine O_extract rfl rfl rfl rfl ?_
  refine O_extract rfl rfl rfl rfl ?_
  refine O_assign rfl rfl rfl ?_
  refine O_assign rfl rfl rfl ?_
  refine O_assign rfl rfl rfl ?_
  refine WL_end [(1, _), (6, _), (7, _)] ⟨rfl, rfl, rfl, trivial⟩ ?_
  refine WP_seq ?_
  refine WP_seq ?_
  refine WP_region ?_
  refine O_move rfl rfl rfl ?_
  refine O_not rfl rfl rfl rfl ?_
  refine WL_end [(1, _), (6, _), (16, _)] ⟨rfl, rfl, rfl, trivial⟩ ?_
  refine WP_condT rfl ?_
  refine WP_seq ?_
  refine WP_region ?_
  refine O_move rfl rfl rfl ?_
  refine O_call enters51 rfl rfl rfl (bits_c (ha.ext e1) (by (try simp only [val_dig, List.length_take, List.length_nil, List.length_cons, List.length_append, List.length_replicate, List.length_set, List.length_map, List.length_drop]); omega)) (fun v2 w2 e2 h2 => ?_)
  have z2 := e2.size
  obtain rfl := h2
  refine O_eql rfl rfl rfl rfl rfl ?_
  refine O_assign rfl rfl rfl ?_
  refine WL_end [(4, _)] ⟨rfl, trivial⟩ ?_
  refine WP_ret ?_
  refine ret1 Try.results28 rfl ?_
  rw [h0, Nat.mod_zero]
  exact ⟨_, rfl, (e1.trans e2), by congr 1; apply decide_eq_decide.2; rw [← bl_zero_iff]; omega⟩

theorem divides_t {w : World} {va vb : Value} {la lb : List Nat} (hb : Nl w vb lb) (ha : Nl w va la) (hlb : lb.length ≤ 10000000) (hla : la.length ≤ 10000000) (h0 : val lb ≠ 0) :
    Calls Try.prog 28 #[vb, va] w (Ret w fun r _ => r = .bool (decide (val la % val lb = 0))) := by
  refine enter (args := [vb, va]) Try.func28 rfl Try.ntmps28 rfl ?_
  refine WP_seq ?_
  refine WP_region ?_
  refine O_assign rfl rfl rfl ?_
  refine WL_end [(0, _), (1, _)] ⟨rfl, rfl, trivial⟩ ?_
  refine WP_seq ?_
  refine WP_region ?_
  refine O_move rfl rfl rfl ?_
  refine O_move rfl rfl rfl ?_
  refine O_call enters43 rfl rfl rfl (divmod_t ha hb (by (try simp only [val_dig, List.length_take, List.length_nil, List.length_cons, List.length_append, List.length_replicate, List.length_set, List.length_map, List.length_drop]); omega) (by (try simp only [val_dig, List.length_take, List.length_nil, List.length_cons, List.length_append, List.length_replicate, List.length_set, List.length_map, List.length_drop]); omega) (by first | assumption | (try simp only [val_dig]); first | assumption | omega)) (fun v1 w1 e1 h1 => ?_)
  have z1 := e1.size
  try simp only [val_dig] at h1
  obtain ⟨q1, r1, rfl, hq1, hr1⟩ := h1
  refine O_move rfl rfl rfl ?_
  refine O_extract rfl rfl rfl rfl ?_
  refine O_extract rfl rfl rfl rfl ?_
  refine O_extract rfl rfl rfl rfl ?_
  refine O_assign rfl rfl rfl ?_
  refine O_assign rfl rfl rfl ?_
  refine O_assign rfl rfl rfl ?_
  refine WL_end [(1, _), (6, _), (7, _)] ⟨rfl, rfl, rfl, trivial⟩ ?_
  refine WP_seq ?_
  refine WP_seq ?_
  refine WP_region ?_
  refine O_move rfl rfl rfl ?_
  refine O_not rfl rfl rfl rfl ?_
  refine WL_end [(1, _), (6, _), (16, _)] ⟨rfl, rfl, rfl, trivial⟩ ?_
  refine WP_condF rfl ?_
  refine WP_skip ?_
  refine WP_seq ?_
  refine WP_region ?_
  refine O_move rfl rfl rfl ?_
  refine N_len T22 rfl rfl rfl hr1.nl ?_
  refine O_eql rfl rfl rfl rfl rfl ?_
  refine O_assign rfl rfl rfl ?_
  refine WL_end [(4, _)] ⟨rfl, trivial⟩ ?_
  refine WP_ret ?_
  refine ret1 Try.results28 rfl ?_
  exact ⟨_, rfl, e1, by congr 1; apply decide_eq_decide.2; rw [← dig_len_zero]; omega⟩

theorem divides_c {w : World} {va vb : Value} {la lb : List Nat} (hb : Nl w vb lb) (ha : Nl w va la) (hlb : lb.length ≤ 10000000) (hla : la.length ≤ 10000000) : Calls Try.prog 28 #[vb, va] w (Ret w fun r _ => r = .bool (decide (val la % val lb = 0))) := by
  by_cases h0 : val lb = 0
  · exact divides_z hb ha hlb hla h0
  · exact divides_t hb ha hlb hla h0

theorem powmod_z {w : World} {va vn vm : Value} {la ln lm : List Nat} (ha : Nl w va la) (hn : Nl w vn ln) (hm : Nl w vm lm) (hla : la.length ≤ 1000000) (hln : ln.length ≤ 1000000) (hlm : lm.length ≤ 1000000) (h0 : val lm = 0) :
    Calls Try.prog 30 #[va, vn, vm] w (Ret w fun r w' => ∃ q, r = .tuple #[q, .bool (decide (val lm ≠ 0))] ∧ No w.heap.size 27 w' q (dig (pm (val la) (val ln) (val lm)))) := by
  have hL0 : (dig 1).length ≤ 1 := dig_len_of_lt (by decide)
  refine enter (args := [va, vn, vm]) Try.func30 rfl Try.ntmps30 rfl ?_
  refine WP_seq ?_
  refine WP_region ?_
  refine O_assign rfl rfl rfl ?_
  refine O_assign rfl rfl rfl ?_
  refine WL_end [(0, _), (1, _), (2, _)] ⟨rfl, rfl, rfl, trivial⟩ ?_
  refine WP_seq ?_
  refine WP_region ?_
  refine O_call enters44 rfl rfl rfl (of_c 1 (by decide)) (fun v1 w1 e1 h1 => ?_)
  have z1 := e1.size
  try simp only [val_dig] at h1
  refine O_move rfl rfl rfl ?_
  refine O_call enters43 rfl rfl rfl (divmod_z h1.nl (hm.ext e1) (by (try simp only [val_dig, List.length_take, List.length_nil, List.length_cons, List.length_append, List.length_replicate, List.length_set, List.length_map, List.length_drop]); omega) (by (try simp only [val_dig, List.length_take, List.length_nil, List.length_cons, List.length_append, List.length_replicate, List.length_set, List.length_map, List.length_drop]); omega) (by first | assumption | (try simp only [val_dig]); first | assumption | omega)) (fun v2 w2 e2 h2 => ?_)
  have z2 := e2.size
  try simp only [val_dig] at h2
  obtain ⟨q2, r2, rfl, hq2, hr2⟩ := h2
  refine O_move rfl rfl rfl ?_
  refine O_extract rfl rfl rfl rfl ?_
  refine O_extract rfl rfl rfl rfl ?_
  refine O_extract rfl rfl rfl rfl ?_
  refine O_assign rfl rfl rfl ?_
  refine O_assign rfl rfl rfl ?_
  refine O_assign rfl rfl rfl ?_
  refine WL_end [(0, _), (1, _), (2, _), (9, _), (10, _)] ⟨rfl, rfl, rfl, rfl, rfl, trivial⟩ ?_
  refine WP_seq ?_
  refine WP_seq ?_
  refine WP_region ?_
  refine O_move rfl rfl rfl ?_
  refine O_not rfl rfl rfl rfl ?_
  refine WL_end [(0, _), (1, _), (2, _), (9, _), (20, _)] ⟨rfl, rfl, rfl, rfl, rfl, trivial⟩ ?_
  refine WP_condT rfl ?_
  refine WP_seq ?_
  refine WP_region ?_
  refine O_assign rfl rfl rfl ?_
  refine O_assign rfl rfl rfl ?_
  refine WL_end [(6, _), (7, _)] ⟨rfl, rfl, trivial⟩ ?_
  refine WP_ret ?_
  refine ret2 Try.results30 rfl rfl ?_
  rw [h0, pm_zero, dig_zero]
  exact ⟨_, rfl, (e1.trans e2), _, rfl, No.nil _ _ _⟩

theorem powmod_t {w : World} {va vn vm : Value} {la ln lm : List Nat} (ha : Nl w va la) (hn : Nl w vn ln) (hm : Nl w vm lm) (hla : la.length ≤ 1000000) (hln : ln.length ≤ 1000000) (hlm : lm.length ≤ 1000000) (h0 : val lm ≠ 0) :
    Calls Try.prog 30 #[va, vn, vm] w (Ret w fun r w' => ∃ q, r = .tuple #[q, .bool (decide (val lm ≠ 0))] ∧ No w.heap.size 27 w' q (dig (pm (val la) (val ln) (val lm)))) := by
  have hL0 : (dig 1).length ≤ 1 := dig_len_of_lt (by decide)
  have hbn := bl_dig (val ln)
  have hbn1 := dig_len_le hn.d
  have hL2 := dig_len_mod (val la) (val lm) h0
  have hlm1 := dig_len_le hm.d
  refine enter (args := [va, vn, vm]) Try.func30 rfl Try.ntmps30 rfl ?_
  refine WP_seq ?_
  refine WP_region ?_
  refine O_assign rfl rfl rfl ?_
  refine O_assign rfl rfl rfl ?_
  refine WL_end [(0, _), (1, _), (2, _)] ⟨rfl, rfl, rfl, trivial⟩ ?_
  refine WP_seq ?_
  refine WP_region ?_
  refine O_call enters44 rfl rfl rfl (of_c 1 (by decide)) (fun v1 w1 e1 h1 => ?_)
  have z1 := e1.size
  try simp only [val_dig] at h1
  refine O_move rfl rfl rfl ?_
  refine O_call enters43 rfl rfl rfl (divmod_t h1.nl (hm.ext e1) (by (try simp only [val_dig, List.length_take, List.length_nil, List.length_cons, List.length_append, List.length_replicate, List.length_set, List.length_map, List.length_drop]); omega) (by (try simp only [val_dig, List.length_take, List.length_nil, List.length_cons, List.length_append, List.length_replicate, List.length_set, List.length_map, List.length_drop]); omega) (by first | assumption | (try simp only [val_dig]); first | assumption | omega)) (fun v2 w2 e2 h2 => ?_)
  have z2 := e2.size
  try simp only [val_dig] at h2
  obtain ⟨q2, r2, rfl, hq2, hr2⟩ := h2
  refine O_move rfl rfl rfl ?_
  refine O_extract rfl rfl rfl rfl ?_
  refine O_extract rfl rfl rfl rfl ?_
  refine O_extract rfl rfl rfl rfl ?_
  refine O_assign rfl rfl rfl ?_
  refine O_assign rfl rfl rfl ?_
  refine O_assign rfl rfl rfl ?_
  refine WL_end [(0, _), (1, _), (2, _), (9, _), (10, _)] ⟨rfl, rfl, rfl, rfl, rfl, trivial⟩ ?_
  refine WP_seq ?_
  refine WP_seq ?_
  refine WP_region ?_
  refine O_move rfl rfl rfl ?_
  refine O_not rfl rfl rfl rfl ?_
  refine WL_end [(0, _), (1, _), (2, _), (9, _), (20, _)] ⟨rfl, rfl, rfl, rfl, rfl, trivial⟩ ?_
  refine WP_condF rfl ?_
  refine WP_skip ?_
  refine WP_seq ?_
  refine WP_region ?_
  refine O_move rfl rfl rfl ?_
  refine O_move rfl rfl rfl ?_
  refine O_call enters43 rfl rfl rfl (divmod_t (ha.ext (e1.trans e2)) (hm.ext (e1.trans e2)) (by (try simp only [val_dig, List.length_take, List.length_nil, List.length_cons, List.length_append, List.length_replicate, List.length_set, List.length_map, List.length_drop]); omega) (by (try simp only [val_dig, List.length_take, List.length_nil, List.length_cons, List.length_append, List.length_replicate, List.length_set, List.length_map, List.length_drop]); omega) (by first | assumption | (try simp only [val_dig]); first | assumption | omega)) (fun v3 w3 e3 h3 => ?_)
  have z3 := e3.size
  try simp only [val_dig] at h3
  obtain ⟨q3, r3, rfl, hq3, hr3⟩ := h3
  refine O_move rfl rfl rfl ?_
  refine O_extract rfl rfl rfl rfl ?_
  refine O_extract rfl rfl rfl rfl ?_
  refine O_extract rfl rfl rfl rfl ?_
  refine O_assign rfl rfl rfl ?_
  refine WL_end [(0, _), (1, _), (2, _), (9, _)] ⟨rfl, rfl, rfl, rfl, trivial⟩ ?_
  refine WP_seq ?_
  refine WP_seq ?_
  refine WP_region ?_
  refine O_move rfl rfl rfl ?_
  refine O_call enters51 rfl rfl rfl (bits_c (hn.ext ((e1.trans e2).trans e3)) (by (try simp only [val_dig, List.length_take, List.length_nil, List.length_cons, List.length_append, List.length_replicate, List.length_set, List.length_map, List.length_drop]); omega)) (fun v4 w4 e4 h4 => ?_)
  have z4 := e4.size
  obtain rfl := h4
  refine O_sub rfl rfl rfl rfl (wrap_i64_id (by omega) (by omega)) ?_
  refine O_assign rfl rfl rfl ?_
  refine WL_end [(0, _), (1, _), (2, _), (9, _), (11, _)] ⟨rfl, rfl, rfl, rfl, rfl, trivial⟩ ?_
  refine WP_block ?_
  refine WP_loop (S := Nat × Value) (fun (k, out) => [(0, r3), (1, vn), (2, vm), (9, out), (11, .int .i64 (((k : Nat) : Int) - 1))]) (fun (k, out) w' => Ext w w' ∧ k ≤ bl (val ln) ∧ Nl w' r3 (dig (val la % val lm)) ∧ No w.heap.size 27 w' out (dig (val la ^ (val ln / 2 ^ k) % val lm))) (fun (k, out) => k) (bl (val ln), r2) ⟨rfl, rfl, rfl, rfl, rfl, trivial⟩ ⟨(((e1.trans e2).trans e3).trans e4), Nat.le_refl _, (hr3.ext e4).nl, by rw [Nat.div_eq_of_lt (lt_of_bl (Nat.le_refl _)), Nat.pow_zero]; exact ((hr2.ext e3).ext e4).mono (by omega)⟩ ?_
  rintro ⟨k, out⟩ wL ⟨hE, hkb, haL, ho⟩
  show WP _ _ _ _ _ [(0, r3), (1, vn), (2, vm), (9, out), (11, .int .i64 (((k : Nat) : Int) - 1))] _
  have hz := hE.size
  have hL := dig_len_mod (val la ^ (val ln / 2 ^ k)) (val lm) h0
  have hL2 := dig_len_mod (val la) (val lm) h0
  have hL3 := dig_len_mul (val la ^ (val ln / 2 ^ k) % val lm) (val la ^ (val ln / 2 ^ k) % val lm)
  have hL4 := dig_len_mod (val la ^ (val ln / 2 ^ k) % val lm * (val la ^ (val ln / 2 ^ k) % val lm)) (val lm) h0
  have hL5 := dig_len_mul (val la ^ (val ln / 2 ^ k) % val lm * (val la ^ (val ln / 2 ^ k) % val lm) % val lm) (val la % val lm)
  refine WP_seq ?_
  refine WP_seq ?_
  refine WP_region ?_
  refine O_move rfl rfl rfl ?_
  refine O_geq rfl rfl rfl rfl rfl ?_
  refine WL_end [(0, _), (1, _), (2, _), (9, _), (11, _), (32, _)] ⟨rfl, rfl, rfl, rfl, rfl, rfl, trivial⟩ ?_
  refine WP_condD rfl (fun c32 => ?_) (fun c32 => ?_)
  · --
    refine WP_skip ?_
    refine WP_seq ?_
    refine WP_block ?_
    refine WP_seq ?_
    refine WP_region ?_
    refine O_move rfl rfl rfl ?_
    refine O_call enters53 rfl rfl rfl (square_c ho.nl (by (try simp only [val_dig, List.length_take, List.length_nil, List.length_cons, List.length_append, List.length_replicate, List.length_set, List.length_map, List.length_drop]); omega)) (fun v5 w5 e5 h5 => ?_)
    have z5 := e5.size
    try simp only [val_dig] at h5
    refine O_move rfl rfl rfl ?_
    refine O_call enters43 rfl rfl rfl (divmod_t h5.nl (hm.ext (hE.trans e5)) (by (try simp only [val_dig, List.length_take, List.length_nil, List.length_cons, List.length_append, List.length_replicate, List.length_set, List.length_map, List.length_drop]); omega) (by (try simp only [val_dig, List.length_take, List.length_nil, List.length_cons, List.length_append, List.length_replicate, List.length_set, List.length_map, List.length_drop]); omega) (by first | assumption | (try simp only [val_dig]); first | assumption | omega)) (fun v6 w6 e6 h6 => ?_)
    have z6 := e6.size
    try simp only [val_dig] at h6
    obtain ⟨q6, r6, rfl, hq6, hr6⟩ := h6
    refine O_move rfl rfl rfl ?_
    refine O_extract rfl rfl rfl rfl ?_
    refine O_extract rfl rfl rfl rfl ?_
    refine O_extract rfl rfl rfl rfl ?_
    refine O_assign rfl rfl rfl ?_
    refine WL_end [(0, _), (1, _), (2, _), (9, _), (11, _)] ⟨rfl, rfl, rfl, rfl, rfl, trivial⟩ ?_
    refine WP_seq ?_
    refine WP_region ?_
    refine O_move rfl rfl rfl ?_
    refine O_move rfl rfl rfl ?_
    refine O_call enters54 rfl rfl rfl (bit_c (hn.ext ((hE.trans e5).trans e6)) (by omega)) (fun v7 w7 e7 h7 => ?_)
    have z7 := e7.size
    obtain rfl := h7
    refine WL_end [(0, _), (1, _), (2, _), (9, _), (11, _), (45, _)] ⟨rfl, rfl, rfl, rfl, rfl, rfl, trivial⟩ ?_
    refine WP_cond rfl (fun c45 => ?_) (fun c45 => ?_)
    · --
      refine WP_region ?_
      refine O_move rfl rfl rfl ?_
      refine O_move rfl rfl rfl ?_
      refine O_call enters27 rfl rfl rfl (mul_c (hr6.ext e7).nl (((haL.ext e5).ext e6).ext e7) (by (try simp only [val_dig, List.length_take, List.length_nil, List.length_cons, List.length_append, List.length_replicate, List.length_set, List.length_map, List.length_drop]); omega) (by (try simp only [val_dig, List.length_take, List.length_nil, List.length_cons, List.length_append, List.length_replicate, List.length_set, List.length_map, List.length_drop]); omega)) (fun v8 w8 e8 h8 => ?_)
      have z8 := e8.size
      try simp only [val_dig] at h8
      refine O_move rfl rfl rfl ?_
      refine O_call enters43 rfl rfl rfl (divmod_t h8.nl (hm.ext ((((hE.trans e5).trans e6).trans e7).trans e8)) (by (try simp only [val_dig, List.length_take, List.length_nil, List.length_cons, List.length_append, List.length_replicate, List.length_set, List.length_map, List.length_drop]); omega) (by (try simp only [val_dig, List.length_take, List.length_nil, List.length_cons, List.length_append, List.length_replicate, List.length_set, List.length_map, List.length_drop]); omega) (by first | assumption | (try simp only [val_dig]); first | assumption | omega)) (fun v9 w9 e9 h9 => ?_)
      have z9 := e9.size
      try simp only [val_dig] at h9
      obtain ⟨q9, r9, rfl, hq9, hr9⟩ := h9
      refine O_move rfl rfl rfl ?_
      refine O_extract rfl rfl rfl rfl ?_
      refine O_extract rfl rfl rfl rfl ?_
      refine O_extract rfl rfl rfl rfl ?_
      refine O_assign rfl rfl rfl ?_
      refine WL_end [(0, _), (1, _), (2, _), (9, _), (11, _)] ⟨rfl, rfl, rfl, rfl, rfl, trivial⟩ ?_
      refine WP_region ?_
      refine O_move rfl rfl rfl ?_
      refine O_sub (r := (((k : Nat) : Int) - 1 - 1)) rfl rfl rfl rfl (wrap_i64_id (by omega) (by omega)) ?_
      refine O_assign rfl rfl rfl ?_
      refine WL_end [(0, _), (1, _), (2, _), (9, _), (11, _)] ⟨rfl, rfl, rfl, rfl, rfl, trivial⟩ ?_
      rw [bit_half (by omega), decide_eq_true_eq] at c45
      exact ⟨(k - 1, _), ⟨rfl, rfl, rfl, rfl, (by simp only [look]; congr 3; omega), trivial⟩, ⟨(((((hE.trans e5).trans e6).trans e7).trans e8).trans e9), by omega, (((((haL.ext e5).ext e6).ext e7).ext e8).ext e9), by rw [← pow_sq2 (by omega) c45]; exact hr9.mono (by omega)⟩, by dsimp only; omega⟩
    · --
      refine WP_skip ?_
      refine WP_region ?_
      refine O_move rfl rfl rfl ?_
      refine O_sub (r := (((k : Nat) : Int) - 1 - 1)) rfl rfl rfl rfl (wrap_i64_id (by omega) (by omega)) ?_
      refine O_assign rfl rfl rfl ?_
      refine WL_end [(0, _), (1, _), (2, _), (9, _), (11, _)] ⟨rfl, rfl, rfl, rfl, rfl, trivial⟩ ?_
      rw [bit_half (by omega), decide_eq_false_iff_not] at c45
      exact ⟨(k - 1, _), ⟨rfl, rfl, rfl, rfl, (by simp only [look]; congr 3; omega), trivial⟩, ⟨(((hE.trans e5).trans e6).trans e7), by omega, (((haL.ext e5).ext e6).ext e7), by rw [← pow_sq (by omega) (by omega)]; exact (hr6.ext e7).mono (by omega)⟩, by dsimp only; omega⟩
  · --
    refine WP_exit ?_
    refine inBlk_hit ?_
    refine WP_seq ?_
    refine WP_region ?_
    refine O_move rfl rfl rfl ?_
    refine O_assign rfl rfl rfl ?_
    refine O_assign rfl rfl rfl ?_
    refine WL_end [(6, _), (7, _)] ⟨rfl, rfl, trivial⟩ ?_
    refine WP_ret ?_
    refine ret2 Try.results30 rfl rfl ?_
    obtain rfl : k = 0 := by omega
    rw [Nat.pow_zero, Nat.div_one] at ho
    exact ⟨_, rfl, hE, _, by rw [decide_eq_true h0], by rw [pm_pos h0]; exact ho⟩

theorem powmod_c {w : World} {va vn vm : Value} {la ln lm : List Nat} (ha : Nl w va la) (hn : Nl w vn ln) (hm : Nl w vm lm) (hla : la.length ≤ 1000000) (hln : ln.length ≤ 1000000) (hlm : lm.length ≤ 1000000) : Calls Try.prog 30 #[va, vn, vm] w (Ret w fun r w' => ∃ q, r = .tuple #[q, .bool (decide (val lm ≠ 0))] ∧ No w.heap.size 27 w' q (dig (pm (val la) (val ln) (val lm)))) := by
  by_cases h0 : val lm = 0
  · exact powmod_z ha hn hm hla hln hlm h0
  · exact powmod_t ha hn hm hla hln hlm h0

end Go.Proofs.Ytbaapijfenmhiaa
