/-
  The digits of a long division (Knuth's estimate), plain.
-/
import Derived.Test.YtnfnadhbjdcbnaaDoorQ1
set_option linter.unusedVariables false
set_option maxRecDepth 100000
namespace Go.Proofs.YtnfnadhbjdcbnaaDoor
open Go Go.RowKit
/-! A digit of a long division: U is less than V * 2^32; 'top' and 'u2' are its first three digits, 'v1' and 'v2' the first two of V. -/
theorem dg_over {g v1 v2 r top u2 P Ul Vl : Nat} (hg : g * v1 + r = top) (hU : Ul < P) (h : r * 4294967296 + u2 < g * v2) :
    (top * 4294967296 + u2) * P + Ul < g * ((v1 * 4294967296 + v2) * P + Vl) := by
  have k1 : top * 4294967296 + u2 + 1 ≤ g * (v1 * 4294967296 + v2) := by
    rw [Nat.mul_add, ← Nat.mul_assoc]
    generalize g * v1 = X at *
    generalize g * v2 = Y at *
    omega
  have k2 := Nat.mul_le_mul_right P k1
  rw [Nat.add_mul _ 1 P, Nat.one_mul, Nat.mul_assoc] at k2
  rw [Nat.mul_add]
  exact Nat.lt_of_lt_of_le (Nat.add_lt_add_left hU _) (Nat.le_trans k2 (Nat.le_add_right _ _))
theorem dg_init {v1 v2 top u2 P Ul Vl : Nat} (hv : 0 < v1) (hu2 : u2 < 4294967296) (hU : Ul < P) :
    (top * 4294967296 + u2) * P + Ul < (top / v1 + 1) * ((v1 * 4294967296 + v2) * P + Vl) := by
  have k0 : top + 1 ≤ (top / v1 + 1) * v1 := by
    have := Nat.div_add_mod top v1
    have h2 := Nat.mod_lt top hv
    rw [Nat.mul_comm] at this
    rw [Nat.add_mul, Nat.one_mul]
    omega
  have k1 : top * 4294967296 + u2 + 1 ≤ (top / v1 + 1) * (v1 * 4294967296 + v2) := by
    rw [Nat.mul_add, ← Nat.mul_assoc]
    generalize (top / v1 + 1) * v1 = X at *
    generalize (top / v1 + 1) * v2 = Y at *
    omega
  have k2 := Nat.mul_le_mul_right P k1
  rw [Nat.add_mul _ 1 P, Nat.one_mul, Nat.mul_assoc] at k2
  rw [Nat.mul_add]
  exact Nat.lt_of_lt_of_le (Nat.add_lt_add_left hU _) (Nat.le_trans k2 (Nat.le_add_right _ _))
theorem dg_exit {g v1 v2 r top u2 P Ul Vl : Nat} (hg : g * v1 + r = top) (hV : Vl < P) (hv : 0 < v1) (hgB : g < 4294967296) (h : g * v2 ≤ r * 4294967296 + u2) :
    g * ((v1 * 4294967296 + v2) * P + Vl) < (top * 4294967296 + u2) * P + Ul + ((v1 * 4294967296 + v2) * P + Vl) := by
  have k1 : g * (v1 * 4294967296 + v2) ≤ top * 4294967296 + u2 := by
    rw [Nat.mul_add, ← Nat.mul_assoc]
    generalize g * v1 = X at *
    generalize g * v2 = Y at *
    omega
  have k2 := Nat.mul_le_mul_right P k1
  rw [Nat.mul_assoc] at k2
  rw [Nat.mul_add]
  have k3 : g * Vl ≤ g * P := Nat.mul_le_mul_left _ (Nat.le_of_lt hV)
  have k4 : g * P < (v1 * 4294967296 + v2) * P := (Nat.mul_lt_mul_right (Nat.lt_of_le_of_lt (Nat.zero_le _) hV)).2 (by omega)
  omega
theorem dg_break {g v1 v2 r un u1 u2 : Nat} (hg : g * v1 + r = un * 4294967296 + u1) (hun : un ≤ v1) (hu1 : u1 < 4294967296) (hv2 : v2 < 4294967296) (hr : 4294967296 ≤ r) :
    g < 4294967296 ∧ g * v2 ≤ r * 4294967296 + u2 := by
  have k1 : g < 4294967296 := by
    rcases Nat.lt_or_ge g 4294967296 with h | h
    · exact h
    · have := Nat.mul_le_mul_right v1 h
      omega
  refine ⟨k1, ?_⟩
  have k2 : g * v2 ≤ 4294967296 * v2 := Nat.mul_le_mul_right _ (Nat.le_of_lt k1)
  omega
theorem dg_un {un u1 u2 v1 v2 P Ul Vl : Nat} (hV : Vl < P) (hv2 : v2 < 4294967296) (h : ((un * 4294967296 + u1) * 4294967296 + u2) * P + Ul < ((v1 * 4294967296 + v2) * P + Vl) * 4294967296) : un ≤ v1 := by
  rcases Nat.lt_or_ge v1 un with h1 | h1
  · exfalso
    have k1 : (v1 * 4294967296 + v2 + 1) * 4294967296 ≤ (un * 4294967296 + u1) * 4294967296 + u2 := by omega
    have k2 := Nat.mul_le_mul_right P k1
    have k3 : ((v1 * 4294967296 + v2) * P + Vl) * 4294967296 ≤ ((v1 * 4294967296 + v2 + 1) * 4294967296) * P := by
      rw [Nat.mul_right_comm _ 4294967296 P, Nat.add_mul _ 1 P, Nat.one_mul]
      exact Nat.mul_le_mul_right _ (by omega)
    omega
  · exact h1
/-- What the digit is. -/
theorem dg_quot {U V g : Nat} (h1 : U < (g + 1) * V) (h2 : g * V ≤ U) : U / V = g := by
  rw [Nat.div_eq_of_lt_le h2 h1]
/-- One step of the subtraction of a multiple. -/
theorem ms_step {N O G c b d low hi u b' gx i : Nat} (h : N + G = O + 4294967296 ^ i * (c + b)) (h1 : c + gx = low + 4294967296 * hi) (h2 : u + 4294967296 * b' = d + low + b) :
    N + 4294967296 ^ i * d + (G + 4294967296 ^ i * gx) = O + 4294967296 ^ i * u + 4294967296 ^ (i + 1) * (hi + b') := by
  rw [Nat.pow_succ]
  generalize 4294967296 ^ i = P at *
  have k1 : P * (c + gx) = P * (low + 4294967296 * hi) := by rw [h1]
  have k2 : P * (u + 4294967296 * b') = P * (d + low + b) := by rw [h2]
  simp only [Nat.mul_add, ← Nat.mul_assoc] at h k1 k2 ⊢
  omega
theorem ms_carry {c g x : Nat} (hc : c < 4294967296) (hg : g < 4294967296) (hx : x < 4294967296) : c + g * x < 18446744073709551616 ∧ (c + g * x) / 4294967296 < 4294967296 := by
  have h1 : g * x ≤ 4294967295 * 4294967295 := Nat.mul_le_mul (by omega) (by omega)
  omega
/-- One step of the sum that takes the last multiple back. -/
theorem ab_step {N O V c x u i : Nat} (h : N + 4294967296 ^ i * c = O + V) :
    N + 4294967296 ^ i * ((u + x + c) % 4294967296) + 4294967296 ^ (i + 1) * ((u + x + c) / 4294967296) = O + 4294967296 ^ i * u + (V + 4294967296 ^ i * x) := by
  rw [Nat.pow_succ]
  generalize 4294967296 ^ i = P at *
  have k1 : P * (u + x + c) = P * ((u + x + c) % 4294967296 + 4294967296 * ((u + x + c) / 4294967296)) := by
    congr 1; omega
  generalize (u + x + c) % 4294967296 = y at *
  generalize (u + x + c) / 4294967296 = z at *
  simp only [Nat.mul_add, ← Nat.mul_assoc] at h k1 ⊢
  omega
/-- No borrow is left: the guess was right. -/
theorem ms_end0 {R U V g Q : Nat} (h : R + g * V = U + Q * 0) (h1 : U < (g + 1) * V) : U / V = g ∧ R = U % V := by
  rw [Nat.mul_zero, Nat.add_zero] at h
  have h2 : U / V = g := dg_quot h1 (by omega)
  refine ⟨h2, ?_⟩
  have h3 := Nat.div_add_mod U V
  rw [h2, Nat.mul_comm] at h3
  omega
/-- A borrow is left: the guess was one too great. -/
theorem ms_end1 {R R2 U V g Q k : Nat} (h : R + g * V = U + Q * 1) (hR : R2 < Q) (hV : V ≤ Q) (hR1 : R < Q) (hk : R2 + Q * k = R + V) (h1 : U < (g + 1) * V) (hlt : g * V < U + V) : g ≠ 0 ∧ U / V = g - 1 ∧ R2 = U % V := by
  rw [Nat.mul_one] at h
  have hg : g ≠ 0 := by
    intro e; subst e; omega
  obtain ⟨f, rfl⟩ : ∃ f, g = f + 1 := ⟨g - 1, by omega⟩
  rw [Nat.add_mul, Nat.one_mul] at h hlt
  have h2 : f * V ≤ U := by omega
  have h3 : U < (f + 1) * V := by rw [Nat.add_mul, Nat.one_mul]; omega
  have h4 : U / V = f := dg_quot h3 h2
  have h5 := Nat.div_add_mod U V
  rw [h4, Nat.mul_comm] at h5
  have h6 : U % V < V := Nat.mod_lt _ (by rw [Nat.add_mul, Nat.one_mul] at h3; omega)
  have hk1 : k = 1 := by
    rcases Nat.lt_or_ge k 1 with hh | hh
    · obtain rfl : k = 0 := by omega
      omega
    · rcases Nat.lt_or_ge k 2 with h7 | h7
      · omega
      · have := Nat.mul_le_mul_left Q h7
        omega
  subst hk1
  refine ⟨hg, by rw [h4]; omega, by omega⟩
theorem val_take_congr {u u2 : List Nat} {k : Nat} (h : ∀ j, j < k → u2.getD j 0 = u.getD j 0) : val (u2.take k) = val (u.take k) := by
  induction k with
  | zero => simp [val]
  | succ k ih => rw [val_take_succ', val_take_succ', ih (fun j hj => h j (by omega)), h k (by omega)]
/-- The whole of what is divided stays: what has been taken away is the divisor times the digits found. -/
theorem div_keep {u u2 : List Nat} {V k d A Q : Nat} (hlow : ∀ j, j < k → u2.getD j 0 = u.getD j 0) (hval : val u + V * (4294967296 ^ (k + 1) * Q) = A)
    (hseg : val (u.drop k) = d * V + val (u2.drop k)) : val u2 + V * (4294967296 ^ k * (d + 4294967296 * Q)) = A := by
  have h1 := val_split u k
  have h2 := val_split u2 k
  rw [val_take_congr hlow] at h2
  rw [h2, ← hval, h1, hseg]
  rw [Nat.pow_succ]
  generalize 4294967296 ^ k = P at *
  generalize val (u.take k) = L
  generalize val (u2.drop k) = R
  rw [Nat.mul_add, Nat.mul_add, Nat.mul_add, Nat.add_assoc, Nat.add_assoc]
  congr 1
  rw [Nat.add_comm (P * R)]
  have e1 : P * (d * V) = V * (P * d) := by rw [Nat.mul_comm d V, Nat.mul_left_comm]
  have e2 : V * (P * (4294967296 * Q)) = V * (P * 4294967296 * Q) := by rw [Nat.mul_assoc P]
  rw [e1, e2]
  omega
/-- What is less than a power in its upper digits has only that many. -/
theorem seg_val {u : List Nat} (hd : D u) {k n : Nat} (h : val (u.drop (k + 1)) < 4294967296 ^ n) : val (u.drop k) = val ((u.take (k + n + 1)).drop k) := by
  rw [val_drop]
  rcases Nat.lt_or_ge k u.length with hk | hk
  · have h1 : val (u.drop (k + 1)) = val ((u.drop (k + 1)).take n) := by
      have h2 := val_split (u.drop (k + 1)) n
      rw [val_drop_sz (hd.drop _) (dig_len_of_lt h), Nat.mul_zero, Nat.add_zero] at h2
      exact h2
    rw [h1]
    have h3 : (u.take (k + n + 1)).drop k = u.getD k 0 :: (u.drop (k + 1)).take n := by
      rw [List.drop_take, show k + n + 1 - k = n + 1 from by omega, List.drop_eq_getElem_cons hk, List.take_succ_cons]
      congr 1
      simp [List.getD_eq_getElem?_getD, hk]
    rw [h3]
    rfl
  · rw [getD_ge hk, List.drop_eq_nil_of_le (by omega : u.length ≤ k + 1), List.drop_eq_nil_of_le (by simp; omega)]
    simp [val]
end Go.Proofs.YtnfnadhbjdcbnaaDoor
