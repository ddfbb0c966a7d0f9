/-
  Walks.
-/
import Derived.Test.YthbbcnlpfjbleaaQ6
set_option linter.unusedVariables false
set_option linter.unusedSimpArgs false
set_option maxRecDepth 100000
namespace Go.Proofs.Ythbbcnlpfjbleaa
open Go Go.RowKit
theorem dig_len_B {r b : Nat} (h : r < b * 4294967296) : (dig r).length ≤ (dig b).length + 2 :=
  Nat.le_trans (dig_len_mono (Nat.le_of_lt h)) (Nat.le_trans (dig_len_mul _ _) (Nat.add_le_add_left (dig_len_of_lt (by decide)) _))
theorem cmpv_le_zero {a b : Nat} : cmpv a b ≤ 0 ↔ a ≤ b := by unfold cmpv; split <;> (try split) <;> omega
theorem cmpv_ge_zero {a b : Nat} : 0 ≤ cmpv a b ↔ b ≤ a := by unfold cmpv; split <;> (try split) <;> omega
theorem rdiv_step {la lq : List Nat} {k b r r1 : Nat} (hk : 0 < k) (hl : k ≤ lq.length) (hv : val (la.drop k) = b * val (lq.drop k) + r) (hr1 : r1 = la.getD (k - 1) 0 + 4294967296 * r) :
    val (la.drop (k - 1)) = b * val ((lq.set (k - 1) (r1 / b)).drop (k - 1)) + r1 % b := by
  rw [val_drop la, val_drop (lq.set _ _), getD_set_self _ (by omega), show k - 1 + 1 = k from by omega, hv, List.drop_set, if_pos (by omega)]
  have h2 := Nat.div_add_mod r1 b
  generalize r1 / b = q at *
  generalize r1 % b = s at *
  generalize val (lq.drop k) = V at *
  rw [Nat.mul_add b q, Nat.mul_left_comm b]
  generalize b * V = X at *
  generalize b * q = Y at *
  omega
theorem rdiv_low {la lq : List Nat} {k b r r1 : Nat} (hk : 0 < k) (hl : k ≤ lq.length) (hz : lq.getD (k - 1) 0 = 0) (hv : val (la.drop k) = b * val (lq.drop k) + r) (hr1 : r1 = la.getD (k - 1) 0 + 4294967296 * r) :
    val (la.drop (k - 1)) = b * val (lq.drop (k - 1)) + r1 := by
  rw [val_drop la, val_drop lq, show k - 1 + 1 = k from by omega, hv, hz, Nat.zero_add, Nat.mul_left_comm b]
  generalize val (lq.drop k) = V at *
  generalize b * V = X at *
  omega

end Go.Proofs.Ythbbcnlpfjbleaa
