/-
  Roots, plain.
-/
import Derived.Test.YtnfnadhbjdcbnaaGreatDoorQ7
set_option linter.unusedVariables false
set_option maxRecDepth 100000
namespace Go.Proofs.YtnfnadhbjdcbnaaGreatDoor
open Go Go.RowKit
theorem young (z x j : Nat) : (j + 1) * (z * x ^ j) ≤ z ^ (j + 1) + j * x ^ (j + 1) := by
  induction j with
  | zero => simp
  | succ j ih =>
    have h1 := Nat.mul_le_mul_right z ih
    have sq : 2 * (z * x) ≤ z * z + x * x := by
      rcases Nat.le_total z x with h | h
      · obtain ⟨d, rfl⟩ := Nat.exists_eq_add_of_le h
        have := Nat.zero_le (d * d)
        grind
      · obtain ⟨d, rfl⟩ := Nat.exists_eq_add_of_le h
        have := Nat.zero_le (d * d)
        grind
    have h2 := Nat.mul_le_mul_left ((j + 1) * x ^ j) sq
    have e1 : x ^ (j + 1) = x ^ j * x := Nat.pow_succ _ _
    have e2 : x ^ (j + 1 + 1) = x ^ j * x * x := by rw [Nat.pow_succ, e1]
    have e3 : z ^ (j + 1 + 1) = z ^ (j + 1) * z := Nat.pow_succ _ _
    rw [e3, e2, e1]
    rw [e1] at h1
    generalize x ^ j = P at *
    generalize z ^ (j + 1) = Z at *
    grind
/-- The greatest r, at most n, whose power k is at most a. -/
def rtN (k a : Nat) : Nat → Nat
  | 0 => 0
  | n + 1 => if (n + 1) ^ k ≤ a then n + 1 else rtN k a n
def rt (k a : Nat) : Nat := rtN k a a
theorem rtN_le {k a : Nat} (hk : 1 ≤ k) (n : Nat) : rtN k a n ^ k ≤ a := by
  induction n with
  | zero => rw [rtN, Nat.zero_pow hk]; exact Nat.zero_le _
  | succ n ih => unfold rtN; split <;> assumption
theorem rtN_gt {k a : Nat} (n m : Nat) (h : rtN k a n < m) (hm : m ≤ n) : a < m ^ k := by
  induction n with
  | zero => omega
  | succ n ih =>
    unfold rtN at h
    split at h
    · omega
    · rename_i hn
      rcases Nat.lt_or_ge m (n + 1) with h1 | h1
      · exact ih h (by omega)
      · obtain rfl : m = n + 1 := by omega
        omega
theorem rt_le {k : Nat} (a : Nat) (hk : 1 ≤ k) : rt k a ^ k ≤ a := rtN_le hk a
theorem le_pow {x k : Nat} (hk : 1 ≤ k) (hx : 1 ≤ x) : x ≤ x ^ k := by
  obtain ⟨j, rfl⟩ : ∃ j, k = j + 1 := ⟨k - 1, by omega⟩
  rw [Nat.pow_succ]
  exact Nat.le_mul_of_pos_left _ (Nat.pow_pos hx)
theorem rt_gt {k : Nat} (a : Nat) (hk : 1 ≤ k) : a < (rt k a + 1) ^ k := by
  rcases Nat.lt_or_ge a (rt k a + 1) with h | h
  · exact Nat.lt_of_lt_of_le h (le_pow hk (by omega))
  · exact rtN_gt a _ (Nat.lt_succ_self _) h
theorem rt_eq {k a r : Nat} (hk : 1 ≤ k) (h1 : r ^ k ≤ a) (h2 : a < (r + 1) ^ k) : rt k a = r := by
  have h3 := rt_le a hk
  have h4 := rt_gt a hk
  rcases Nat.lt_trichotomy (rt k a) r with h | h | h
  · have := Nat.pow_le_pow_left (show rt k a + 1 ≤ r from h) k; omega
  · exact h
  · have := Nat.pow_le_pow_left (show r + 1 ≤ rt k a from h) k; omega
theorem rt_zero {k : Nat} (hk : 1 ≤ k) : rt k 0 = 0 := rt_eq hk (by rw [Nat.zero_pow hk]; exact Nat.le_refl _) (by rw [Nat.one_pow]; decide)
theorem rt_le_self {k : Nat} (a : Nat) (hk : 1 ≤ k) : rt k a ≤ a := by
  rcases Nat.eq_zero_or_pos (rt k a) with h | h
  · omega
  · exact Nat.le_trans (le_pow hk h) (rt_le a hk)
theorem newton_stop {a x k : Nat} (hk : 1 ≤ k) (h : x ≤ (x * (k - 1) + a / x ^ (k - 1)) / k) : x ^ k ≤ a := by
  obtain ⟨j, rfl⟩ : ∃ j, k = j + 1 := ⟨k - 1, by omega⟩
  rw [Nat.add_sub_cancel] at h
  have h1 : x * (j + 1) ≤ x * j + a / x ^ j := (Nat.le_div_iff_mul_le (Nat.succ_pos j)).1 h
  rw [Nat.mul_add, Nat.mul_one] at h1
  have h2 : x ≤ a / x ^ j := by omega
  have h3 := Nat.mul_le_mul_right (x ^ j) h2
  rw [Nat.pow_succ, Nat.mul_comm]
  exact Nat.le_trans h3 (Nat.div_mul_le_self _ _)
theorem newton_go {a x k : Nat} (hk : 1 ≤ k) (hx : x ≠ 0) : a < ((x * (k - 1) + a / x ^ (k - 1)) / k + 1) ^ k := by
  obtain ⟨j, rfl⟩ : ∃ j, k = j + 1 := ⟨k - 1, by omega⟩
  rw [Nat.add_sub_cancel]
  have hp : 0 < x ^ j := Nat.pow_pos (by omega)
  have h1 : a < (a / x ^ j + 1) * x ^ j := by
    have := Nat.div_add_mod a (x ^ j)
    have h9 := Nat.mod_lt a hp
    rw [Nat.add_mul, Nat.one_mul, Nat.mul_comm]; omega
  have h2 : x * j + (a / x ^ j + 1) ≤ (j + 1) * ((x * j + a / x ^ j) / (j + 1) + 1) := by
    have := Nat.div_add_mod (x * j + a / x ^ j) (j + 1)
    have h9 := Nat.mod_lt (x * j + a / x ^ j) (show 0 < j + 1 from Nat.succ_pos j)
    rw [Nat.mul_add, Nat.mul_one]; omega
  have h3 := young ((x * j + a / x ^ j) / (j + 1) + 1) x j
  generalize (x * j + a / x ^ j) / (j + 1) + 1 = z at h2 h3 ⊢
  have h4 := Nat.mul_le_mul_right (x ^ j) h2
  rw [Nat.add_mul, Nat.mul_assoc (j + 1)] at h4
  have h5 : x * j * x ^ j = j * x ^ (j + 1) := by rw [Nat.pow_succ, Nat.mul_comm x j, Nat.mul_assoc, Nat.mul_comm x]
  rw [h5] at h4
  have h6 := Nat.le_trans h4 h3
  exact Nat.lt_of_lt_of_le h1 (by omega)
theorem ceil_le {b k : Nat} (h : 1 ≤ k) : (b + k - 1) / k ≤ b := by
  rcases Nat.eq_zero_or_pos b with h0 | h0
  · subst h0; rw [Nat.div_eq_of_lt (by omega)]; exact Nat.le_refl _
  · apply Nat.div_le_of_le_mul
    obtain ⟨j, rfl⟩ : ∃ j, k = j + 1 := ⟨k - 1, by omega⟩
    rw [Nat.add_mul, Nat.one_mul]
    have := Nat.le_mul_of_pos_right j h0
    omega
theorem ceil_ge {b k : Nat} (h : 1 ≤ k) : b ≤ (b + k - 1) / k * k := by
  have h1 := Nat.div_add_mod (b + k - 1) k
  have h2 := Nat.mod_lt (b + k - 1) h
  rw [Nat.mul_comm]; omega
theorem root_start {a k e : Nat} (h : bl a ≤ e * k) : a < (2 ^ e + 1) ^ k := by
  have h1 := lt_of_bl h
  rw [Nat.pow_mul] at h1
  exact Nat.lt_of_lt_of_le h1 (Nat.pow_le_pow_left (Nat.le_succ _) k)
theorem dig_len_2 (e : Nat) : (dig (2 ^ e)).length ≤ e / 32 + 1 := by
  apply dig_len_of_lt
  rw [B_two]
  exact Nat.pow_lt_pow_right (by decide) (by omega)
theorem quoI {a b : Nat} (ha : a ≤ 9223372036854775807) : IntKind.i64.wrap ((a : Int).tdiv (b : Int)) = ((a / b : Nat) : Int) := by
  rw [Int.tdiv_eq_ediv_of_nonneg (by omega)]
  have h1 : a / b ≤ a := Nat.div_le_self _ _
  have h2 : ((a / b : Nat) : Int) = (a : Int) / (b : Int) := by simp
  rw [← h2]
  generalize a / b = q at *
  exact wrap_i64_id (by omega) (by omega)
/-- What 'Square' returns. -/
def sqb (a : Nat) : Bool := decide (a - rt 2 a * rt 2 a = 0)
def sqq (a : Nat) : Nat := if a - rt 2 a * rt 2 a = 0 then rt 2 a else 0
theorem sqb_yes {a : Nat} (h : a - rt 2 a * rt 2 a = 0) : sqb a = true := decide_eq_true h
theorem sqq_yes {a : Nat} (h : a - rt 2 a * rt 2 a = 0) : sqq a = rt 2 a := if_pos h
theorem sqb_no {a : Nat} (h : a - rt 2 a * rt 2 a ≠ 0) : sqb a = false := decide_eq_false h
theorem sqq_no {a : Nat} (h : a - rt 2 a * rt 2 a ≠ 0) : sqq a = 0 := if_neg h
theorem rt_sq (x : Nat) : rt 2 (x * x) = x := rt_eq (by decide) (by rw [Nat.pow_two]; exact Nat.le_refl _) (by rw [Nat.pow_two, Nat.add_mul, Nat.mul_add]; omega)
theorem sqb_sq (x : Nat) : sqb (x * x) = true := by unfold sqb; rw [rt_sq]; simp
theorem sqq_sq (x : Nat) : sqq (x * x) = x := by unfold sqq; rw [rt_sq]; simp
theorem sqq_le (a : Nat) : sqq a ≤ a := by
  unfold sqq; split
  · exact rt_le_self a (by decide)
  · exact Nat.zero_le _
theorem sq_le (a : Nat) : rt 2 a * rt 2 a ≤ a := by rw [← Nat.pow_two]; exact rt_le a (by decide)
theorem gcd_step {a b : Nat} : Nat.gcd b (a % b) = Nat.gcd a b := by
  rw [Nat.gcd_comm b, ← Nat.gcd_rec, Nat.gcd_comm]
theorem dig_len_gcd (a b : Nat) : (dig (Nat.gcd a b)).length ≤ max (dig a).length (dig b).length := by
  rcases Nat.eq_zero_or_pos a with h | h
  · subst h; rw [Nat.gcd_zero_left]; omega
  · exact Nat.le_trans (dig_len_mono (Nat.le_of_dvd h (Nat.gcd_dvd_left a b))) (Nat.le_max_left _ _)
theorem lowest_cross {x y z : Nat} (hy : y ≠ 0) (hz : z ≠ 0) : x * z / Nat.gcd (x * z) (y * z) * y = y * z / Nat.gcd (x * z) (y * z) * x := by
  have hg : 0 < Nat.gcd (x * z) (y * z) := Nat.gcd_pos_of_pos_right _ (Nat.mul_pos (by omega) (by omega))
  obtain ⟨p, hp⟩ := Nat.gcd_dvd_left (x * z) (y * z)
  obtain ⟨q, hq⟩ := Nat.gcd_dvd_right (x * z) (y * z)
  generalize Nat.gcd (x * z) (y * z) = g at *
  rw [hp, hq, Nat.mul_div_cancel_left _ hg, Nat.mul_div_cancel_left _ hg]
  have h1 : g * z * (p * y) = g * z * (q * x) := by
    have e1 : g * z * (p * y) = (g * p) * (y * z) := by grind
    have e2 : g * z * (q * x) = (g * q) * (x * z) := by grind
    rw [e1, e2, ← hp, ← hq, Nat.mul_comm]
  exact Nat.eq_of_mul_eq_mul_left (Nat.mul_pos hg (by omega)) h1
theorem lowest_one {p q : Nat} (hq : q ≠ 0) : Nat.gcd (p / Nat.gcd p q) (q / Nat.gcd p q) = 1 :=
by
  have hg : 0 < Nat.gcd p q := Nat.gcd_pos_of_pos_right _ (by omega)
  rw [Nat.gcd_div (Nat.gcd_dvd_left p q) (Nat.gcd_dvd_right p q), Nat.div_self hg]
end Go.Proofs.YtnfnadhbjdcbnaaGreatDoor
