/-
  Walks.
-/
import Derived.Test.YtnfnadhbjdcbnaaDoorQ5
set_option linter.unusedVariables false
set_option linter.unusedSimpArgs false
set_option maxRecDepth 100000
namespace Go.Proofs.YtnfnadhbjdcbnaaDoor
open Go Go.RowKit
/-- What 'Exact' returns. -/
def exb (a b : Nat) : Bool := decide (b ≠ 0 ∧ a % b = 0)
def exq (a b : Nat) : Nat := if b ≠ 0 ∧ a % b = 0 then a / b else 0
theorem exb_zero (a : Nat) : exb a 0 = false := by simp [exb]
theorem exq_zero (a : Nat) : exq a 0 = 0 := by simp [exq]
theorem exb_no {a b : Nat} (h : a % b ≠ 0) : exb a b = false := by simp [exb, h]
theorem exq_no {a b : Nat} (h : a % b ≠ 0) : exq a b = 0 := by simp [exq, h]
theorem exb_yes {a b : Nat} (h0 : b ≠ 0) (h : a % b = 0) : exb a b = true := by simp [exb, h, h0]
theorem exq_yes {a b : Nat} (h0 : b ≠ 0) (h : a % b = 0) : exq a b = a / b := by simp [exq, h, h0]
/-- .. and 'Powmod'. -/
def pm (a n m : Nat) : Nat := if m = 0 then 0 else a ^ n % m
theorem pm_zero (a n : Nat) : pm a n 0 = 0 := rfl
theorem pm_pos {a n m : Nat} (h : m ≠ 0) : pm a n m = a ^ n % m := if_neg h
theorem bit_half {n k : Nat} (h : 0 < k) : bitv n ((k : Int) - 1) = decide (n / 2 ^ (k - 1) % 2 = 1) := by
  rw [show (k : Int) - 1 = ((k - 1 : Nat) : Int) from by omega, bitv_nat, Nat.testBit_eq_decide_div_mod_eq]
theorem pow_sq {a n k m : Nat} (hk : 0 < k) (h : n / 2 ^ (k - 1) % 2 = 0) : a ^ (n / 2 ^ k) % m * (a ^ (n / 2 ^ k) % m) % m = a ^ (n / 2 ^ (k - 1)) % m := by
  rw [← Nat.mul_mod, ← Nat.pow_add, half_step n k hk, h, Nat.two_mul, Nat.add_zero]
theorem pow_sq1 {a n k m : Nat} (hk : 0 < k) (h : n / 2 ^ (k - 1) % 2 = 1) : a ^ (n / 2 ^ k) % m * (a ^ (n / 2 ^ k) % m) % m * a % m = a ^ (n / 2 ^ (k - 1)) % m := by
  rw [← Nat.mul_mod (a ^ (n / 2 ^ k)), ← Nat.pow_add, Nat.mod_mul_mod, ← Nat.pow_succ, half_step n k hk, h, Nat.two_mul]
theorem pow_sq2 {a n k m : Nat} (hk : 0 < k) (h : n / 2 ^ (k - 1) % 2 = 1) : a ^ (n / 2 ^ k) % m * (a ^ (n / 2 ^ k) % m) % m * (a % m) % m = a ^ (n / 2 ^ (k - 1)) % m := by
  rw [Nat.mul_mod_mod, pow_sq1 hk h]
theorem dig_len_mod (a m : Nat) (h : m ≠ 0) : (dig (a % m)).length ≤ (dig m).length := dig_len_mono (Nat.le_of_lt (Nat.mod_lt _ (Nat.pos_of_ne_zero h)))

theorem bl_zero_iff {n : Nat} : bl n = 0 ↔ n = 0 := ⟨fun h => by rcases Nat.eq_zero_or_pos n with h1 | h1; exact h1; exact absurd (bl_pos (by omega : n ≠ 0)) (by omega), fun h => by subst h; rfl⟩

end Go.Proofs.YtnfnadhbjdcbnaaDoor
