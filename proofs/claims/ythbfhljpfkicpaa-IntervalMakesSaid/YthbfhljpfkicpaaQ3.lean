/-
  Walks.
-/
import Derived.Test.YthbfhljpfkicpaaQ2
import Derived.Test.YthbfhljpfkicpaaDigit
set_option linter.unusedVariables false
set_option linter.unusedSimpArgs false
set_option maxRecDepth 100000
namespace Go.Proofs.Ythbfhljpfkicpaa
open Go Go.RowKit
theorem idU32 {n : Nat} (h : n < 4294967296) : IntKind.u32.wrap (n : Int) = (n : Int) := wrap_u32_id (by omega) (by omega)
theorem quoN {a b : Nat} (ha : a < 18446744073709551616) : IntKind.u64.wrap ((a : Int).tdiv (b : Int)) = ((a / b : Nat) : Int) := by
  rw [Int.tdiv_eq_ediv_of_nonneg (by omega), wrap_u64]
  have h1 : a / b ≤ a := Nat.div_le_self _ _
  have h2 : ((a / b : Nat) : Int) = (a : Int) / (b : Int) := by simp
  rw [← h2]
  generalize a / b = q at *
  omega
theorem quo_lt {r x d : Nat} (hr : r < d) (hx : x < 4294967296) : (r * 4294967296 + x) / d < 4294967296 := by
  rw [Nat.div_lt_iff_lt_mul (by omega)]
  have : (r + 1) * 4294967296 ≤ d * 4294967296 := Nat.mul_le_mul_right _ hr
  rw [Nat.mul_comm 4294967296 d]
  omega
theorem small_step {la lo : List Nat} {k d r : Nat} (hk : 0 < k) (hl : k ≤ lo.length) (hv : val (la.drop k) = d * val (lo.drop k) + r) :
    val (la.drop (k - 1)) = d * val ((lo.set (k - 1) ((r * 4294967296 + la.getD (k - 1) 0) / d)).drop (k - 1)) + (r * 4294967296 + la.getD (k - 1) 0) % d := by
  rw [val_drop la, val_drop (lo.set _ _), getD_set_self _ (by omega), show k - 1 + 1 = k from by omega, hv]
  have h1 : (lo.set (k - 1) ((r * 4294967296 + la.getD (k - 1) 0) / d)).drop k = lo.drop k := by
    rw [List.drop_set, if_pos (by omega)]
  rw [h1]
  have h2 := Nat.div_add_mod (r * 4294967296 + la.getD (k - 1) 0) d
  generalize (r * 4294967296 + la.getD (k - 1) 0) / d = q at *
  generalize (r * 4294967296 + la.getD (k - 1) 0) % d = s at *
  generalize val (lo.drop k) = V at *
  rw [Nat.mul_add d q, Nat.mul_left_comm d]
  generalize d * V = X at *
  generalize d * q = Y at *
  omega

end Go.Proofs.Ythbfhljpfkicpaa
