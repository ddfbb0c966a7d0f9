/-
  Walks.
-/
import Derived.Test.YtnfnadhbjdcbnaaDoorQ1
set_option linter.unusedVariables false
set_option linter.unusedSimpArgs false
set_option maxRecDepth 100000
namespace Go.Proofs.YtnfnadhbjdcbnaaDoor
open Go Go.RowKit
/-- A bit; none below the first. -/
def bitv (n : Nat) (i : Int) : Bool := decide (0 ≤ i) && n.testBit i.toNat
theorem bitv_nat (n j : Nat) : bitv n (j : Nat) = n.testBit j := by simp [bitv]
theorem bitv_neg {n : Nat} {i : Int} (h : i < 0) : bitv n i = false := by simp [bitv]; omega
theorem quo32 {j : Nat} (h : j ≤ 9223372036854775807) : IntKind.i64.wrap ((j : Int).tdiv 32) = ((j / 32 : Nat) : Int) := by
  rw [Int.tdiv_eq_ediv_of_nonneg (by omega), IntKind.wrap_i64]; omega
theorem remN {j m : Nat} : (j : Int).tmod (m : Int) = ((j % m : Nat) : Int) := by
  rw [Int.tmod_eq_emod_of_nonneg (by omega)]; omega
theorem shrU64 {n m : Nat} (hm : m ≤ 64) : ((n : Int)).fdiv (2 ^ (min (Int.toNat (m : Int)) IntKind.u64.bits)) = ((n / 2 ^ m : Nat) : Int) :=
  shrN (by rw [Int.toNat_natCast]; exact Nat.min_eq_left hm) rfl
theorem bit_val {l : List Nat} (hd : D l) (j : Nat) : (val l).testBit j = decide (l.getD (j / 32) 0 / 2 ^ (j % 32) % 2 = 1) := by
  rw [Nat.testBit_eq_decide_div_mod_eq]
  have h1 := val_split l (j / 32)
  rw [val_drop, B_two] at h1
  have h2 := val_take_lt hd (j / 32)
  rw [B_two] at h2
  have h3 : val l / 2 ^ j = (l.getD (j / 32) 0 + 4294967296 * val (l.drop (j / 32 + 1))) / 2 ^ (j % 32) := by
    rw [h1]
    have e : 2 ^ j = 2 ^ (32 * (j / 32)) * 2 ^ (j % 32) := by rw [← Nat.pow_add]; congr 1; omega
    rw [e, ← Nat.div_div_eq_div_mul, Nat.add_mul_div_left _ _ (Nat.pow_pos (by decide)), Nat.div_eq_of_lt h2, Nat.zero_add]
  have h4 : 4294967296 * val (l.drop (j / 32 + 1)) = 2 ^ (j % 32) * (2 * (2 ^ (31 - j % 32) * val (l.drop (j / 32 + 1)))) := by
    rw [← Nat.mul_assoc, ← Nat.mul_assoc, ← Nat.pow_succ, ← Nat.pow_add, show j % 32 + 1 + (31 - j % 32) = 32 from by omega]
  rw [h3, h4, Nat.add_mul_div_left _ _ (Nat.pow_pos (by decide))]
  apply decide_eq_decide.2
  omega
theorem bl_of_bits {n k : Nat} (h : ∀ j, k ≤ j → n.testBit j = false) (h1 : k = 0 ∨ n.testBit (k - 1) = true) : bl n = k := by
  have h2 : n < 2 ^ k := Nat.lt_pow_two_of_testBit n h
  rcases h1 with h1 | h1
  · subst h1
    obtain rfl : n = 0 := by simpa using h2
    rfl
  · rcases Nat.eq_zero_or_pos k with h3 | h3
    · subst h3
      obtain rfl : n = 0 := by simpa using h2
      rfl
    · have h4 : 2 ^ (k - 1) ≤ n := Nat.ge_two_pow_of_testBit h1
      rw [bl_eq h4 (by rw [show k - 1 + 1 = k from by omega]; exact h2)]
      omega
theorem tz_of_bits {n k : Nat} (h : ∀ j, j < k → n.testBit j = false) (h1 : n.testBit k = true) : tz n = k := by
  have hn : n ≠ 0 := by intro e; subst e; simp at h1
  obtain ⟨q, hq⟩ := tz_spec n hn
  have hb : ∀ j, n.testBit j = (decide (tz n ≤ j) && (2 * q + 1).testBit (j - tz n)) := fun j => by
    conv => lhs; rw [hq]
    rw [Nat.testBit_two_pow_mul]
  have hz : n.testBit (tz n) = true := by rw [hb]; simp
  rcases Nat.lt_trichotomy (tz n) k with h2 | h2 | h2
  · rw [h _ h2] at hz; cases hz
  · exact h2
  · rw [hb] at h1
    simp [Nat.not_le.2 h2] at h1
theorem zero_of_bits {n k : Nat} (h : ∀ j, j < k → n.testBit j = false) (hn : n < 2 ^ k) : n = 0 := by
  apply Nat.eq_of_testBit_eq
  intro i
  rw [Nat.zero_testBit]
  rcases Nat.lt_or_ge i k with h1 | h1
  · exact h i h1
  · exact Nat.testBit_lt_two_pow (Nat.lt_of_lt_of_le hn (Nat.pow_le_pow_right (by decide) h1))
theorem val_lt_bits {l : List Nat} (hd : D l) : val l < 2 ^ (32 * l.length) := by
  have := val_lt hd
  rwa [B_two] at this
theorem bit_above {l : List Nat} (hd : D l) {j : Nat} (h : 32 * l.length ≤ j) : (val l).testBit j = false :=
  Nat.testBit_lt_two_pow (Nat.lt_of_lt_of_le (val_lt_bits hd) (Nat.pow_le_pow_right (by decide) h))

theorem shlU {x s : Nat} (hx : x < 4294967296) (hs : s ≤ 31) : IntKind.u64.wrap ((x : Int) * 2 ^ (min (Int.toNat (s : Int)) IntKind.u64.bits)) = ((x * 2 ^ s : Nat) : Int) := by
  have h1 : min (Int.toNat (s : Int)) IntKind.u64.bits = s := by rw [Int.toNat_natCast]; exact Nat.min_eq_left (by show s ≤ 64; omega)
  have h2 : x * 2 ^ s < 4294967296 * 4294967296 := by
    have h3 : 2 ^ s ≤ 2 ^ 31 := Nat.pow_le_pow_right (by decide) hs
    have h4 : x * 2 ^ s ≤ x * 2 ^ 31 := Nat.mul_le_mul_left _ h3
    have h5 : (2 : Nat) ^ 31 = 2147483648 := rfl
    rw [h5] at h4
    generalize 2 ^ s = T at *
    omega
  rw [h1, wrap_u64]
  have h6 : (x : Int) * 2 ^ s = ((x * 2 ^ s : Nat) : Int) := by push_cast; rfl
  rw [h6]
  generalize x * 2 ^ s = Y at *
  omega
theorem or_low {c x s : Nat} (hs : s ≤ 31) (hc : c < 2 ^ s) : c ||| (x * 2 ^ s % 4294967296) = c + x * 2 ^ s % 4294967296 := by
  have e : x * 2 ^ s % 4294967296 = (x % 2 ^ (32 - s)) * 2 ^ s := by
    rw [show 4294967296 = 2 ^ (32 - s) * 2 ^ s from by rw [← Nat.pow_add, show 32 - s + s = 32 from by omega], Nat.mul_mod_mul_right]
  rw [e, Nat.or_comm, ← Nat.shiftLeft_eq, ← Nat.shiftLeft_add_eq_or_of_lt hc, Nat.add_comm]
theorem or_low2 {c x s : Nat} (hc : c < 2 ^ s) : x * 2 ^ s ||| c = x * 2 ^ s + c := by
  rw [← Nat.shiftLeft_eq, ← Nat.shiftLeft_add_eq_or_of_lt hc]
theorem low_lt {c x s : Nat} (hs : s ≤ 31) (hc : c < 2 ^ s) : c + x * 2 ^ s % 4294967296 < 4294967296 := by
  have e : x * 2 ^ s % 4294967296 = (x % 2 ^ (32 - s)) * 2 ^ s := by
    rw [show 4294967296 = 2 ^ (32 - s) * 2 ^ s from by rw [← Nat.pow_add, show 32 - s + s = 32 from by omega], Nat.mul_mod_mul_right]
  have h1 : x % 2 ^ (32 - s) + 1 ≤ 2 ^ (32 - s) := Nat.mod_lt _ (Nat.pow_pos (by decide))
  have h2 := Nat.mul_le_mul_right (2 ^ s) h1
  rw [← Nat.pow_add, show 32 - s + s = 32 from by omega, Nat.add_mul] at h2
  rw [e]
  omega
theorem getD_of_lt {l : List Nat} (hd : D l) {m j : Nat} (h : val l < 4294967296 ^ m) (hj : m ≤ j) : l.getD j 0 = 0 :=
  getD_sz hd (Nat.le_trans (dig_len_of_lt h) hj)
theorem getD_lt_of {l : List Nat} {m T : Nat} (h : val l < 4294967296 ^ m * T) : l.getD m 0 < T := by
  have h1 := val_split l m
  rw [val_drop] at h1
  have h2 : 4294967296 ^ m * l.getD m 0 ≤ val l := by
    rw [h1, Nat.mul_add]; exact Nat.le_trans (Nat.le_add_right _ _) (Nat.le_add_left _ _)
  exact Nat.lt_of_mul_lt_mul_left (Nat.lt_of_le_of_lt h2 h)
/-- One digit is shifted in: what the row says behind the two stores. -/
theorem shl_step {lo : List Nat} {i K s x W : Nat} (hs : s ≤ 31) (hx : x < 4294967296) (ho : D lo) (hlen : i + K + 1 < lo.length) (hW : W < 4294967296 ^ i) (hv : val lo = 4294967296 ^ K * (2 ^ s * W)) :
    lo.getD (i + K) 0 < 2 ^ s ∧ val ((lo.set (i + K) (lo.getD (i + K) 0 + x * 2 ^ s % 4294967296)).set (i + K + 1) (x * 2 ^ s / 4294967296)) = 4294967296 ^ K * (2 ^ s * (W + 4294967296 ^ i * x)) := by
  have hp : 0 < 4294967296 ^ K * 2 ^ s := Nat.mul_pos (Nat.pow_pos (by decide)) (Nat.pow_pos (by decide))
  have h1 : val lo < 4294967296 ^ (i + K) * 2 ^ s := by
    rw [hv, ← Nat.mul_assoc, Nat.add_comm i K, Nat.pow_add, Nat.mul_assoc (4294967296 ^ K) (4294967296 ^ i) (2 ^ s), Nat.mul_comm (4294967296 ^ i) (2 ^ s), ← Nat.mul_assoc (4294967296 ^ K) (2 ^ s) (4294967296 ^ i)]
    exact (Nat.mul_lt_mul_left hp).2 hW
  have h2 : val lo < 4294967296 ^ (i + K + 1) := by
    refine Nat.lt_of_lt_of_le h1 ?_
    rw [Nat.pow_succ]
    exact Nat.mul_le_mul_left _ (by have : 2 ^ s ≤ 2 ^ 31 := Nat.pow_le_pow_right (by decide) hs; have e : (2 : Nat) ^ 31 = 2147483648 := rfl; omega)
  refine ⟨getD_lt_of h1, ?_⟩
  have h3 := getD_of_lt ho h2 (Nat.le_refl _)
  have h4 := val_set (l := lo) (j := i + K) (by omega) (lo.getD (i + K) 0 + x * 2 ^ s % 4294967296)
  have h5 := val_set (l := lo.set (i + K) (lo.getD (i + K) 0 + x * 2 ^ s % 4294967296)) (j := i + K + 1) (by simpa using hlen) (x * 2 ^ s / 4294967296)
  rw [getD_set_other _ _ (by omega), h3, Nat.mul_zero, Nat.add_zero] at h5
  rw [h5]
  have h6 : 4294967296 ^ K * (2 ^ s * (W + 4294967296 ^ i * x)) = val lo + 4294967296 ^ (i + K) * (x * 2 ^ s) := by
    rw [hv, Nat.mul_add, Nat.mul_add]
    congr 1
    rw [Nat.add_comm i K, Nat.pow_add, Nat.mul_assoc (4294967296 ^ K), Nat.mul_comm x, ← Nat.mul_assoc (2 ^ s), Nat.mul_comm (2 ^ s), Nat.mul_assoc (4294967296 ^ i)]
  rw [h6]
  have h7 : x * 2 ^ s = x * 2 ^ s % 4294967296 + 4294967296 * (x * 2 ^ s / 4294967296) := by omega
  rw [Nat.mul_add] at h4
  have h8 : 4294967296 ^ (i + K) * (x * 2 ^ s) = 4294967296 ^ (i + K) * (x * 2 ^ s % 4294967296) + 4294967296 ^ (i + K + 1) * (x * 2 ^ s / 4294967296) := by
    conv => lhs; rw [h7]
    rw [Nat.mul_add, Nat.pow_succ, Nat.mul_assoc]
  rw [h8]
  omega
/-- The reference's step. -/
theorem rshl_step {lo : List Nat} {i K s x W c : Nat} (hv : val lo + 4294967296 ^ (K + i) * c = 4294967296 ^ K * (2 ^ s * W)) (hl : lo.length = K + i) :
    val (lo ++ [(x * 2 ^ s + c) % 4294967296]) + 4294967296 ^ (K + (i + 1)) * ((x * 2 ^ s + c) / 4294967296) = 4294967296 ^ K * (2 ^ s * (W + 4294967296 ^ i * x)) := by
  rw [val_snoc, hl]
  have h6 : 4294967296 ^ K * (2 ^ s * (W + 4294967296 ^ i * x)) = 4294967296 ^ K * (2 ^ s * W) + 4294967296 ^ (K + i) * (x * 2 ^ s) := by
    rw [Nat.mul_add, Nat.mul_add]
    congr 1
    rw [Nat.pow_add, Nat.mul_assoc (4294967296 ^ K), Nat.mul_comm x, ← Nat.mul_assoc (2 ^ s), Nat.mul_comm (2 ^ s), Nat.mul_assoc (4294967296 ^ i)]
  have h7 : x * 2 ^ s + c = (x * 2 ^ s + c) % 4294967296 + 4294967296 * ((x * 2 ^ s + c) / 4294967296) := by omega
  have h8 : 4294967296 ^ (K + i) * (x * 2 ^ s + c) = 4294967296 ^ (K + i) * ((x * 2 ^ s + c) % 4294967296) + 4294967296 ^ (K + (i + 1)) * ((x * 2 ^ s + c) / 4294967296) := by
    conv => lhs; rw [h7]
    rw [Nat.mul_add, show K + (i + 1) = K + i + 1 from rfl, Nat.pow_succ, Nat.mul_assoc]
  rw [Nat.mul_add] at h8
  rw [h6, ← hv]
  omega
theorem pow_split (k : Nat) : 4294967296 ^ (k / 32) * 2 ^ (k % 32) = 2 ^ k := by
  rw [B_two, ← Nat.pow_add]; congr 1; omega
theorem rshl_end {lo : List Nat} {k c n A : Nat} (hA : A < 4294967296 ^ n) (hv : val lo + 4294967296 ^ (k / 32 + (n + 1)) * c = 4294967296 ^ (k / 32) * (2 ^ (k % 32) * A)) : val lo = A * 2 ^ k := by
  rw [← Nat.mul_assoc, pow_split] at hv
  have h1 : 2 ^ k * A < 4294967296 ^ (k / 32 + (n + 1)) := by
    have h2 : 2 ^ k < 4294967296 ^ (k / 32 + 1) := by rw [B_two]; exact Nat.pow_lt_pow_right (by decide) (by omega)
    have h3 : 2 ^ k * A ≤ 2 ^ k * 4294967296 ^ n := Nat.mul_le_mul_left _ (Nat.le_of_lt hA)
    refine Nat.lt_of_le_of_lt h3 ?_
    rw [show k / 32 + (n + 1) = (k / 32 + 1) + n from by omega, Nat.pow_add 4294967296 (k / 32 + 1) n]
    exact (Nat.mul_lt_mul_right (Nat.pow_pos (by decide))).2 h2
  have hc : c = 0 := by
    rcases Nat.eq_zero_or_pos c with h | h
    · exact h
    · exfalso
      have h4 : 4294967296 ^ (k / 32 + (n + 1)) * 1 ≤ 4294967296 ^ (k / 32 + (n + 1)) * c := Nat.mul_le_mul_left _ h
      omega
  subst hc
  rw [Nat.mul_zero, Nat.add_zero] at hv
  rw [hv, Nat.mul_comm]
theorem carry_lt {x s c : Nat} (hs : s ≤ 31) (hx : x < 4294967296) (hc : c < 2 ^ s) : (x * 2 ^ s + c) / 4294967296 < 2 ^ s := by
  rw [Nat.div_lt_iff_lt_mul (by decide)]
  have h1 : (x + 1) * 2 ^ s ≤ 4294967296 * 2 ^ s := Nat.mul_le_mul_right _ hx
  rw [Nat.add_mul, Nat.one_mul] at h1
  rw [Nat.mul_comm (2 ^ s)]
  omega
theorem y_lt {x s c : Nat} (hs : s ≤ 31) (hx : x < 4294967296) (hc : c < 2 ^ s) : x * 2 ^ s + c < 18446744073709551616 := by
  have h1 : (x + 1) * 2 ^ s ≤ 4294967296 * 2 ^ s := Nat.mul_le_mul_right _ hx
  rw [Nat.add_mul, Nat.one_mul] at h1
  have h3 : 2 ^ s ≤ 2 ^ 31 := Nat.pow_le_pow_right (by decide) hs
  have h5 : (2 : Nat) ^ 31 = 2147483648 := rfl
  omega
/-- A digit of a number shifted down. -/
def sdig (V k j : Nat) : Nat := V / 2 ^ k / 4294967296 ^ j % 4294967296
theorem sdig_at {l : List Nat} (hd : D l) (k j : Nat) : sdig (val l) k j = (l.getD (j + k / 32) 0 + l.getD (j + k / 32 + 1) 0 * 4294967296) / 2 ^ (k % 32) % 4294967296 := by
  unfold sdig
  have h1 := val_split l (j + k / 32)
  rw [val_drop, val_drop l (j + k / 32 + 1)] at h1
  have h2 := val_take_lt hd (j + k / 32)
  have hp : 0 < 4294967296 ^ (j + k / 32) := Nat.pow_pos (by decide)
  have e : 2 ^ k * 4294967296 ^ j = 4294967296 ^ (j + k / 32) * 2 ^ (k % 32) := by
    rw [← pow_split k, Nat.pow_add, Nat.mul_comm (4294967296 ^ (k / 32) * 2 ^ (k % 32)), ← Nat.mul_assoc]
  rw [Nat.div_div_eq_div_mul, e, ← Nat.div_div_eq_div_mul, h1, Nat.add_mul_div_left _ _ hp, Nat.div_eq_of_lt h2, Nat.zero_add]
  generalize l.getD (j + k / 32) 0 = a0
  generalize l.getD (j + k / 32 + 1) 0 = a1
  generalize val (l.drop (j + k / 32 + 1 + 1)) = R
  have h3 : a0 + 4294967296 * (a1 + 4294967296 * R) = (a0 + a1 * 4294967296) + 2 ^ (k % 32) * (4294967296 * (2 ^ (32 - k % 32) * R)) := by
    have e2 : 2 ^ (k % 32) * (4294967296 * (2 ^ (32 - k % 32) * R)) = 4294967296 * (4294967296 * R) := by
      rw [Nat.mul_left_comm, ← Nat.mul_assoc (2 ^ (k % 32)), ← Nat.pow_add, show k % 32 + (32 - k % 32) = 32 from by omega]
    rw [e2, Nat.mul_add]; omega
  rw [h3, Nat.add_mul_div_left _ _ (Nat.pow_pos (by decide)), Nat.add_mul_mod_self_left]
theorem val_digits {V : Nat} : ∀ (lo : List Nat), (∀ j, j < lo.length → lo.getD j 0 = V / 4294967296 ^ j % 4294967296) → V < 4294967296 ^ lo.length → val lo = V := by
  intro lo
  induction lo generalizing V with
  | nil => intro _ h; simp at h; subst h; rfl
  | cons x r ih =>
    intro h1 h2
    have h3 := h1 0 (by simp)
    simp at h3
    have h4 := ih (V := V / 4294967296) (fun j hj => by
      have h5 := h1 (j + 1) (by simp; omega)
      rw [List.getD_cons_succ] at h5
      rw [h5, Nat.pow_succ, Nat.mul_comm, Nat.div_div_eq_div_mul]) (by
      rw [Nat.div_lt_iff_lt_mul (by decide), ← Nat.pow_succ]; exact h2)
    show x + 4294967296 * val r = V
    rw [h4, h3]
    omega
theorem shr_lt {l : List Nat} (hd : D l) {k : Nat} (h : k / 32 ≤ l.length) : val l / 2 ^ k < 4294967296 ^ (l.length - k / 32) := by
  rw [Nat.div_lt_iff_lt_mul (Nat.pow_pos (by decide))]
  have h1 := val_lt hd
  refine Nat.lt_of_lt_of_le h1 ?_
  rw [B_two, B_two, ← Nat.pow_add]
  exact Nat.pow_le_pow_right (by decide) (by omega)
theorem shr_zero {l : List Nat} (hd : D l) {k : Nat} (h : l.length ≤ k / 32) : val l / 2 ^ k = 0 := by
  apply Nat.div_eq_of_lt
  refine Nat.lt_of_lt_of_le (val_lt hd) ?_
  rw [B_two]
  exact Nat.pow_le_pow_right (by decide) (by omega)
theorem low_val {l : List Nat} (hd : D l) (k : Nat) : val (l.take (k / 32)) + 4294967296 ^ (k / 32) * (l.getD (k / 32) 0 % 2 ^ (k % 32)) = val l % 2 ^ k := by
  have h1 := val_split l (k / 32)
  rw [val_drop] at h1
  have h2 := val_take_lt hd (k / 32)
  conv => rhs; rw [h1, ← pow_split k]
  generalize val (l.take (k / 32)) = A at *
  generalize hP : 4294967296 ^ (k / 32) = P at *
  have hT : 4294967296 = 2 ^ (k % 32) * 2 ^ (32 - k % 32) := by rw [← Nat.pow_add, show k % 32 + (32 - k % 32) = 32 from by omega]
  generalize hTd : 2 ^ (k % 32) = T at *
  generalize val (l.drop (k / 32 + 1)) = R
  generalize l.getD (k / 32) 0 = a
  rw [Nat.mod_mul, Nat.add_mul_mod_self_left, Nat.mod_eq_of_lt h2, Nat.add_mul_div_left _ _ (by omega), Nat.div_eq_of_lt h2, Nat.zero_add]
  conv => rhs; arg 2; arg 2; arg 1; rw [hT]
  rw [Nat.mul_assoc T, Nat.add_mul_mod_self_left]
theorem or_add' {x y : Nat} (hy : y < 4294967296) : y ||| x * 4294967296 = y + x * 4294967296 := by rw [Nat.or_comm, or_add hy, Nat.add_comm]
theorem modU32 (n : Nat) : IntKind.u32.wrap (n : Int) = ((n % 4294967296 : Nat) : Int) := by rw [wrap_u32]; omega
theorem shl1 {s : Nat} (hs : s ≤ 31) : IntKind.u32.wrap (1 * 2 ^ (min (Int.toNat (s : Int)) IntKind.u32.bits)) = ((2 ^ s : Nat) : Int) := by
  have h1 : min (Int.toNat (s : Int)) IntKind.u32.bits = s := by rw [Int.toNat_natCast]; exact Nat.min_eq_left (by show s ≤ 32; omega)
  have h3 : 2 ^ s ≤ 2 ^ 31 := Nat.pow_le_pow_right (by decide) hs
  have h5 : (2 : Nat) ^ 31 = 2147483648 := rfl
  rw [h1, wrap_u32, Int.one_mul]
  have h6 : (2 : Int) ^ s = ((2 ^ s : Nat) : Int) := by push_cast; rfl
  rw [h6]
  generalize 2 ^ s = T at *
  omega
theorem pow_bd (k : Nat) : 1 ≤ 2 ^ (k % 32) ∧ 2 ^ (k % 32) ≤ 2147483648 := by
  refine ⟨Nat.pow_pos (by decide), ?_⟩
  have h3 : 2 ^ (k % 32) ≤ 2 ^ 31 := Nat.pow_le_pow_right (by decide) (by omega)
  exact h3
theorem low_id {l : List Nat} (hd : D l) {k : Nat} (h : l.length ≤ k / 32) : val l % 2 ^ k = val l := by
  apply Nat.mod_eq_of_lt
  refine Nat.lt_of_lt_of_le (val_lt hd) ?_
  rw [B_two]
  exact Nat.pow_le_pow_right (by decide) (by omega)
theorem sub_low (A k : Nat) : A - A / 2 ^ k * 2 ^ k = A % 2 ^ k := by
  have h := Nat.div_add_mod A (2 ^ k)
  rw [Nat.mul_comm] at h
  generalize A / 2 ^ k * 2 ^ k = Q at *
  omega
theorem val_low_set {l : List Nat} {k : Nat} (hd : D l) (h : k / 32 < l.length) : val ((l.take (k / 32 + 1)).set (k / 32) ((l.take (k / 32 + 1)).getD (k / 32) 0 % 2 ^ (k % 32))) = val l % 2 ^ k := by
  have h1 := val_take_set (l := l.take (k / 32 + 1)) (k := k / 32) (by rw [List.length_take]; omega) ((l.take (k / 32 + 1)).getD (k / 32) 0 % 2 ^ (k % 32))
  rw [List.take_of_length_le (by rw [List.length_set, List.length_take]; omega), List.take_take, Nat.min_eq_left (by omega), getD_take (by omega)] at h1
  rw [getD_take (by omega), h1, low_val hd]

theorem getD_snoc {l : List Nat} {j x : Nat} (h : l.length = j) : (l ++ [x]).getD j 0 = x := by subst h; simp [List.getD_eq_getElem?_getD]
theorem getD_snoc_lt {l : List Nat} {j x : Nat} (h : j < l.length) : (l ++ [x]).getD j 0 = l.getD j 0 := by simp [List.getD_eq_getElem?_getD, List.getElem?_append_left h]

theorem bit_n {w : World} {v : Value} {l : List Nat} {j : Nat} (hs : Nl w v l) (hj : j ≤ 9223372036854775807) :
    Calls Tryd.prog 64 #[v, .int .i64 (j : Nat)] w (Ret w fun r _ => r = .bool (bitv (val l) (j : Nat))) := by
 have hlen := hs.len_le
 refine enter (args := [v, _]) Tryd.func64 rfl Tryd.ntmps64 rfl ?_
 refine WP_seq ?_
 refine WP_region ?_
 refine O_assign rfl rfl rfl ?_
 refine WL_end [(0, _), (1, _)] ⟨rfl, rfl, trivial⟩ ?_
 refine WP_seq ?_
 refine WP_region ?_
 refine O_move rfl rfl rfl ?_
 refine O_geq (t := true) rfl rfl rfl rfl (decide_eq_true (by omega)) ?_
 refine O_move rfl rfl rfl ?_
 refine O_move rfl rfl rfl ?_
 refine O_quo (r := ((j / 32 : Nat) : Int)) rfl rfl rfl rfl (by decide) (quo32 hj) ?_
 refine O_move rfl rfl rfl ?_
 refine N_len T22 rfl rfl rfl hs ?_
 refine O_lss rfl rfl rfl rfl rfl ?_
 refine O_pickT rfl rfl rfl rfl ?_
 refine O_move rfl rfl rfl ?_
 refine WL_dec 14 rfl (fun g14 => ?_) (fun g14 => ?_)
 · --
  refine O_move rfl rfl rfl ?_
  refine O_move rfl rfl rfl ?_
  refine O_quo (r := ((j / 32 : Nat) : Int)) rfl rfl rfl rfl (by decide) (quo32 hj) ?_
  refine N_index T22 rfl rfl rfl rfl hs (j / 32) rfl (by omega) ?_
  refine N_load Tryd.underlying89 rfl rfl rfl hs (by omega) (fun d19 => ?_)
  refine O_move rfl rfl rfl ?_
  refine O_rem (r := ((j % 32 : Nat) : Int)) rfl rfl rfl rfl (by decide) (remN (m := 32)) ?_
  refine O_shr rfl rfl rfl rfl (by omega) (shrU32 (m := j % 32) (by omega)) ?_
  refine O_and rfl rfl rfl rfl (u32_and_nat _ 1 (Nat.lt_of_le_of_lt (Nat.div_le_self _ _) (hs.d.getD _)) (by decide)) ?_
  rw [Nat.and_one_is_mod]
  refine O_eql rfl rfl rfl rfl rfl ?_
  refine O_pickT rfl rfl rfl rfl ?_
  refine O_assign rfl rfl rfl ?_
  refine WL_end [(4, _)] ⟨rfl, trivial⟩ ?_
  refine WP_ret ?_
  refine ret1 Tryd.results64 rfl ?_
  exact ⟨_, rfl, (Ext.refl _), by rw [bitv_nat, bit_val hs.d]; exact congrArg Value.bool (decide_eq_decide.2 (by omega))⟩
 · --
  refine O_skip rfl rfl ?_
  refine O_skip rfl rfl ?_
  refine O_skip rfl rfl ?_
  refine O_skip rfl rfl ?_
  refine O_skip rfl rfl ?_
  refine O_skip rfl rfl ?_
  refine O_skip rfl rfl ?_
  refine O_skip rfl rfl ?_
  refine O_skip rfl rfl ?_
  refine O_skip rfl rfl ?_
  refine O_pickF rfl rfl rfl rfl ?_
  refine O_assign rfl rfl rfl ?_
  refine WL_end [(4, _)] ⟨rfl, trivial⟩ ?_
  refine WP_ret ?_
  refine ret1 Tryd.results64 rfl ?_
  have h0 := getD_ge (l := l) (j := j / 32) (by omega)
  exact ⟨_, rfl, (Ext.refl _), by rw [bitv_nat, bit_val hs.d, h0, Nat.zero_div]; rfl⟩

theorem bit_m {w : World} {v : Value} {l : List Nat} {i : Int} (hs : Nl w v l) (hi : i < 0) :
    Calls Tryd.prog 64 #[v, .int .i64 i] w (Ret w fun r _ => r = .bool (bitv (val l) i)) := by
 refine enter (args := [v, _]) Tryd.func64 rfl Tryd.ntmps64 rfl ?_
 refine WP_seq ?_
 refine WP_region ?_
 refine O_assign rfl rfl rfl ?_
 refine WL_end [(0, _), (1, _)] ⟨rfl, rfl, trivial⟩ ?_
 refine WP_seq ?_
 refine WP_region ?_
 refine O_move rfl rfl rfl ?_
 refine O_geq (t := false) rfl rfl rfl rfl (decide_eq_false (by omega)) ?_
 refine O_move rfl rfl rfl ?_
 refine O_skip rfl rfl ?_
 refine O_skip rfl rfl ?_
 refine O_skip rfl rfl ?_
 refine O_skip rfl rfl ?_
 refine O_skip rfl rfl ?_
 refine O_pickF rfl rfl rfl rfl ?_
 refine O_move rfl rfl rfl ?_
 refine O_skip rfl rfl ?_
 refine O_skip rfl rfl ?_
 refine O_skip rfl rfl ?_
 refine O_skip rfl rfl ?_
 refine O_skip rfl rfl ?_
 refine O_skip rfl rfl ?_
 refine O_skip rfl rfl ?_
 refine O_skip rfl rfl ?_
 refine O_skip rfl rfl ?_
 refine O_skip rfl rfl ?_
 refine O_pickF rfl rfl rfl rfl ?_
 refine O_assign rfl rfl rfl ?_
 refine WL_end [(4, _)] ⟨rfl, trivial⟩ ?_
 refine WP_ret ?_
 refine ret1 Tryd.results64 rfl ?_
 exact ⟨_, rfl, (Ext.refl _), by rw [bitv_neg hi]⟩

theorem bit_c {w : World} {v : Value} {l : List Nat} {i : Int} (hs : Nl w v l) (hi : i ≤ 9223372036854775807) : Calls Tryd.prog 64 #[v, .int .i64 i] w (Ret w fun r _ => r = .bool (bitv (val l) i)) := by
  rcases Int.lt_or_le i 0 with h | h
  · exact bit_m hs h
  · obtain ⟨j, rfl⟩ := Int.eq_ofNat_of_zero_le h
    exact bit_n hs (by omega)

theorem rbit_n {w : World} {v : Value} {l : List Nat} {j : Nat} (hs : Nl w v l) (hj : j ≤ 9223372036854775807) :
    Calls Tryd.prog 67 #[v, .int .i64 (j : Nat)] w (Ret w fun r _ => r = .bool (bitv (val l) (j : Nat))) := by
 have hlen := hs.len_le
 refine enter (args := [v, _]) Tryd.func67 rfl Tryd.ntmps67 rfl ?_
 refine WP_seq ?_
 refine WP_region ?_
 refine O_assign rfl rfl rfl ?_
 refine WL_end [(0, _), (1, _)] ⟨rfl, rfl, trivial⟩ ?_
 refine WP_seq ?_
 refine WP_region ?_
 refine O_move rfl rfl rfl ?_
 refine O_geq (t := true) rfl rfl rfl rfl (decide_eq_true (by omega)) ?_
 refine O_move rfl rfl rfl ?_
 refine O_move rfl rfl rfl ?_
 refine O_move rfl rfl rfl ?_
 refine O_quo (r := ((j / 32 : Nat) : Int)) rfl rfl rfl rfl (by decide) (quo32 hj) ?_
 refine O_call enters86 rfl rfl rfl (at_c hs (j / 32) rfl) (fun v1 w1 e1 h1 => ?_)
 have z1 := e1.size
 obtain rfl := h1
 refine O_move rfl rfl rfl ?_
 refine O_rem (r := ((j % 32 : Nat) : Int)) rfl rfl rfl rfl (by decide) (remN (m := 32)) ?_
 refine O_conv Tryd.underlying3 Tryd.underlying91 rfl rfl rfl (wrap_u64_id (by omega) (by omega)) ?_
 refine O_shr rfl rfl rfl rfl (by omega) (shrU64 (m := j % 32) (by omega)) ?_
 refine O_rem (r := ((l.getD (j / 32) 0 / 2 ^ (j % 32) % 2 : Nat) : Int)) rfl rfl rfl rfl (by decide) (remN (m := 2)) ?_
 refine O_eql rfl rfl rfl rfl rfl ?_
 refine O_pickT rfl rfl rfl rfl ?_
 refine O_assign rfl rfl rfl ?_
 refine WL_end [(4, _)] ⟨rfl, trivial⟩ ?_
 refine WP_ret ?_
 refine ret1 Tryd.results67 rfl ?_
 exact ⟨_, rfl, e1, by rw [bitv_nat, bit_val hs.d]; exact congrArg Value.bool (decide_eq_decide.2 (by omega))⟩

theorem rbit_m {w : World} {v : Value} {l : List Nat} {i : Int} (hs : Nl w v l) (hi : i < 0) :
    Calls Tryd.prog 67 #[v, .int .i64 i] w (Ret w fun r _ => r = .bool (bitv (val l) i)) := by
 refine enter (args := [v, _]) Tryd.func67 rfl Tryd.ntmps67 rfl ?_
 refine WP_seq ?_
 refine WP_region ?_
 refine O_assign rfl rfl rfl ?_
 refine WL_end [(0, _), (1, _)] ⟨rfl, rfl, trivial⟩ ?_
 refine WP_seq ?_
 refine WP_region ?_
 refine O_move rfl rfl rfl ?_
 refine O_geq (t := false) rfl rfl rfl rfl (decide_eq_false (by omega)) ?_
 refine O_move rfl rfl rfl ?_
 refine O_skip rfl rfl ?_
 refine O_skip rfl rfl ?_
 refine O_skip rfl rfl ?_
 refine O_skip rfl rfl ?_
 refine O_skip rfl rfl ?_
 refine O_skip rfl rfl ?_
 refine O_skip rfl rfl ?_
 refine O_skip rfl rfl ?_
 refine O_skip rfl rfl ?_
 refine O_skip rfl rfl ?_
 refine O_pickF rfl rfl rfl rfl ?_
 refine O_assign rfl rfl rfl ?_
 refine WL_end [(4, _)] ⟨rfl, trivial⟩ ?_
 refine WP_ret ?_
 refine ret1 Tryd.results67 rfl ?_
 exact ⟨_, rfl, (Ext.refl _), by rw [bitv_neg hi]⟩

theorem rbit_c {w : World} {v : Value} {l : List Nat} {i : Int} (hs : Nl w v l) (hi : i ≤ 9223372036854775807) : Calls Tryd.prog 67 #[v, .int .i64 i] w (Ret w fun r _ => r = .bool (bitv (val l) i)) := by
  rcases Int.lt_or_le i 0 with h | h
  · exact rbit_m hs h
  · obtain ⟨j, rfl⟩ := Int.eq_ofNat_of_zero_le h
    exact rbit_n hs (by omega)

theorem rbits_c {w : World} {v : Value} {l : List Nat} (hs : Nl w v l) (hl : l.length ≤ 100000000) :
    Calls Tryd.prog 66 #[v] w (Ret w fun r _ => r = .int .i64 (bl (val l) : Nat)) := by
 refine enter (args := [v]) Tryd.func66 rfl Tryd.ntmps66 rfl ?_
 refine WP_seq ?_
 refine WP_region ?_
 refine O_assign rfl rfl rfl ?_
 refine WL_end [(0, _)] ⟨rfl, trivial⟩ ?_
 refine WP_seq ?_
 refine WP_region ?_
 refine O_move rfl rfl rfl ?_
 refine N_len T22 rfl rfl rfl hs ?_
 refine O_mul (r := ((32 * l.length : Nat) : Int)) rfl rfl rfl rfl (by rw [IntKind.wrap_i64]; omega) ?_
 refine O_assign rfl rfl rfl ?_
 refine WL_end [(0, _), (3, _)] ⟨rfl, rfl, trivial⟩ ?_
 refine WP_seq ?_
 refine WP_block ?_
 refine WP_loop (S := Nat) (fun k => [(0, v), (3, .int .i64 (k : Nat))]) (fun k w' => Ext w w' ∧ k ≤ 32 * l.length ∧ ∀ j, k ≤ j → (val l).testBit j = false) (fun k => k) (32 * l.length) ⟨rfl, rfl, trivial⟩ ⟨Ext.refl _, Nat.le_refl _, fun j hj => bit_above hs.d hj⟩ ?_
 rintro k w1 ⟨hE, hk, hz⟩
 refine WP_seq ?_
 refine WP_seq ?_
 refine WP_region ?_
 refine O_move rfl rfl rfl ?_
 refine O_gtr rfl rfl rfl rfl rfl ?_
 refine O_move rfl rfl rfl ?_
 refine WL_dec 9 rfl (fun g9 => ?_) (fun g9 => ?_)
 · --
  refine O_move rfl rfl rfl ?_
  refine O_move rfl rfl rfl ?_
  refine O_sub (r := ((k - 1 : Nat) : Int)) rfl rfl rfl rfl (by rw [IntKind.wrap_i64]; omega) ?_
  refine O_call enters67 rfl rfl rfl (rbit_c (hs.ext hE) (by (try simp only [lens]); omega)) (fun v1 w1 e1 h1 => ?_)
  have z1 := e1.size
  obtain rfl := h1
  rw [bitv_nat]
  refine O_not rfl rfl rfl rfl ?_
  refine O_pickT rfl rfl rfl rfl ?_
  refine WL_end [(0, _), (3, _), (15, _)] ⟨rfl, rfl, rfl, trivial⟩ ?_
  refine WP_cond rfl (fun c15 => ?_) (fun c15 => ?_)
  · --
   refine WP_skip ?_
   refine WP_block ?_
   refine WP_region ?_
   refine O_move rfl rfl rfl ?_
   refine O_sub (r := ((k - 1 : Nat) : Int)) rfl rfl rfl rfl (by rw [IntKind.wrap_i64]; omega) ?_
   refine O_assign rfl rfl rfl ?_
   refine WL_end [(0, _), (3, _)] ⟨rfl, rfl, trivial⟩ ?_
   exact ⟨k - 1, ⟨rfl, rfl, trivial⟩, ⟨(hE.trans e1), by omega, fun j hj => by
     by_cases hj2 : j = k - 1
     · rw [hj2]; simpa using c15
     · exact hz j (by omega)⟩, by omega⟩
  · --
   refine WP_exit ?_
   refine inBlk_hit ?_
   refine WP_seq ?_
   refine WP_region ?_
   refine O_move rfl rfl rfl ?_
   refine O_assign rfl rfl rfl ?_
   refine WL_end [(2, _)] ⟨rfl, trivial⟩ ?_
   refine WP_ret ?_
   refine ret1 Tryd.results66 rfl ?_
   have h1 := bl_of_bits hz (.inr (by simpa using c15))
   exact ⟨_, rfl, (hE.trans e1), by rw [h1]⟩
 · --
  refine O_skip rfl rfl ?_
  refine O_skip rfl rfl ?_
  refine O_skip rfl rfl ?_
  refine O_skip rfl rfl ?_
  refine O_skip rfl rfl ?_
  refine O_pickF rfl rfl rfl rfl ?_
  refine WL_end [(0, _), (3, _), (15, _)] ⟨rfl, rfl, rfl, trivial⟩ ?_
  refine WP_condF rfl ?_
  refine WP_exit ?_
  refine inBlk_hit ?_
  refine WP_seq ?_
  refine WP_region ?_
  refine O_move rfl rfl rfl ?_
  refine O_assign rfl rfl rfl ?_
  refine WL_end [(2, _)] ⟨rfl, trivial⟩ ?_
  refine WP_ret ?_
  refine ret1 Tryd.results66 rfl ?_
  have h1 := bl_of_bits hz (.inl (by omega))
  exact ⟨_, rfl, hE, by rw [h1]⟩

theorem places_c {w : World} {k : Nat} (hk : k ≤ 1048576) :
    Calls Tryd.prog 98 #[.int .i64 (k : Nat)] w (Ret w fun r _ => r = .int .i64 (k : Nat)) := by
 refine enter (args := [_]) Tryd.func98 rfl Tryd.ntmps98 rfl ?_
 refine WP_seq ?_
 refine WP_region ?_
 refine O_assign rfl rfl rfl ?_
 refine WL_end [(0, _)] ⟨rfl, trivial⟩ ?_
 refine WP_seq ?_
 refine WP_region ?_
 refine O_move rfl rfl rfl ?_
 refine O_max (r := ((k : Nat) : Int)) rfl rfl rfl rfl (by omega) ?_
 refine O_min (r := ((k : Nat) : Int)) rfl rfl rfl rfl (by omega) ?_
 refine O_assign rfl rfl rfl ?_
 refine WL_end [(2, _)] ⟨rfl, trivial⟩ ?_
 refine WP_ret ?_
 refine ret1 Tryd.results98 rfl ?_
 exact ⟨_, rfl, (Ext.refl _), rfl⟩

theorem shl_c {w : World} {va : Value} {la : List Nat} {k : Nat} (ha : Nl w va la) (hla : la.length ≤ 100000000) (hk : k ≤ 1048576) :
    Calls Tryd.prog 80 #[va, .int .i64 (k : Nat)] w (Ret w fun r w' => No w.heap.size 89 w' r (dig (val la * 2 ^ k))) := by
 have hkk : k / 32 ≤ 32768 := by omega
 have hpb := pow_bd k
 have hdl := dig_len_le ha.d
 refine enter (args := [va, _]) Tryd.func80 rfl Tryd.ntmps80 rfl ?_
 refine WP_seq ?_
 refine WP_region ?_
 refine O_assign rfl rfl rfl ?_
 refine WL_end [(0, _), (1, _)] ⟨rfl, rfl, trivial⟩ ?_
 refine WP_seq ?_
 refine WP_region ?_
 refine O_move rfl rfl rfl ?_
 refine O_call enters98 rfl rfl rfl (places_c (by (try simp only [lens]); omega)) (fun v1 w1 e1 h1 => ?_)
 have z1 := e1.size
 obtain rfl := h1
 refine O_assign rfl rfl rfl ?_
 refine WL_end [(0, _), (1, _)] ⟨rfl, rfl, trivial⟩ ?_
 refine WP_seq ?_
 refine WP_region ?_
 refine O_move rfl rfl rfl ?_
 refine O_move rfl rfl rfl ?_
 refine O_call enters99 rfl rfl rfl (size_c (ha.ext e1)) (fun v2 w2 e2 h2 => ?_)
 have z2 := e2.size
 obtain rfl := h2
 refine N_sliceTo T22 rfl rfl rfl rfl (ha.ext (e1.trans e2)) (sz la) rfl (sz_le ha.d) ?_
 have hu := ha.take (sz la) (sz_le ha.d)
 rw [val_take_sz ha.d] at hu
 generalize slTake _ _ = u at hu ⊢
 refine O_assign rfl rfl rfl ?_
 refine WL_end [(0, _), (1, _)] ⟨rfl, rfl, trivial⟩ ?_
 refine WP_seq ?_
 refine WP_seq ?_
 refine WP_region ?_
 refine O_move rfl rfl rfl ?_
 refine N_len T22 rfl rfl rfl (hu.ext (e1.trans e2)) ?_
 refine O_eql rfl rfl rfl rfl rfl ?_
 refine WL_end [(0, _), (1, _), (19, _)] ⟨rfl, rfl, rfl, trivial⟩ ?_
 refine WP_condD rfl (fun c19 => ?_) (fun c19 => ?_)
 · --
  refine WP_seq ?_
  refine WP_region ?_
  refine O_assign rfl rfl rfl ?_
  refine WL_end [(4, _)] ⟨rfl, trivial⟩ ?_
  refine WP_ret ?_
  refine ret1 Tryd.results80 rfl ?_
  have h0 := dig_len_zero.1 (show (dig (val la)).length = 0 by omega)
  exact ⟨_, rfl, (e1.trans e2), by rw [h0, Nat.zero_mul, dig_zero]; exact No.nil _ _ _⟩
 · --
  refine WP_skip ?_
  refine WP_seq ?_
  refine WP_region ?_
  refine O_move rfl rfl rfl ?_
  refine O_quo (r := ((k / 32 : Nat) : Int)) rfl rfl rfl rfl (by decide) (quo32 (by omega)) ?_
  refine O_move rfl rfl rfl ?_
  refine O_rem (r := ((k % 32 : Nat) : Int)) rfl rfl rfl rfl (by decide) (remN (m := 32)) ?_
  refine O_conv Tryd.underlying3 Tryd.underlying91 rfl rfl rfl (wrap_u64_id (by omega) (by omega)) ?_
  refine O_assign rfl rfl rfl ?_
  refine O_assign rfl rfl rfl ?_
  refine WL_end [(0, _), (5, _), (6, _)] ⟨rfl, rfl, rfl, trivial⟩ ?_
  refine WP_seq ?_
  refine WP_region ?_
  refine O_move rfl rfl rfl ?_
  refine N_len T22 rfl rfl rfl (hu.ext (e1.trans e2)) ?_
  refine O_move rfl rfl rfl ?_
  refine O_add rfl rfl rfl rfl (wrap_i64_id (by omega) (by omega)) ?_
  refine O_add rfl rfl rfl rfl (wrap_i64_id (by omega) (by omega)) ?_
  refine N_make T22 (by decide) rfl rfl rfl rfl ((dig (val la)).length + k / 32 + 1) rfl rfl (by omega) (fun v3 w3 o3 e3 => ?_)
  have z3 := e3.size
  refine O_assign rfl rfl rfl ?_
  refine WL_end [(0, _), (5, _), (6, _), (7, _)] ⟨rfl, rfl, rfl, rfl, trivial⟩ ?_
  refine WP_seq ?_
  refine WP_seq ?_
  refine WP_region ?_
  refine O_move rfl rfl rfl ?_
  refine N_len T22 rfl rfl rfl (hu.ext ((e1.trans e2).trans e3)) ?_
  refine O_move rfl rfl rfl ?_
  refine WL_end [(5, _), (6, _), (7, _), (31, _), (32, _), (33, _)] ⟨rfl, rfl, rfl, rfl, rfl, rfl, trivial⟩ ?_
  refine WP_block ?_
  refine WP_loop (S := Nat × List Nat) (fun (i, lo) => [(5, .int .i64 (k / 32 : Nat)), (6, .int .u64 (k % 32 : Nat)), (7, v3), (31, u), (32, .int .i64 ((dig (val la)).length : Nat)), (33, .int .i64 (i : Nat))]) (fun (i, lo) w' => Ext w w' ∧ No w.heap.size 89 w' v3 lo ∧ lo.length = (dig (val la)).length + k / 32 + 1 ∧ i ≤ (dig (val la)).length ∧ val lo = 4294967296 ^ (k / 32) * (2 ^ (k % 32) * val ((dig (val la)).take i))) (fun (i, lo) => (dig (val la)).length - i) (0, List.replicate ((dig (val la)).length + k / 32 + 1) 0) ⟨rfl, rfl, rfl, rfl, rfl, rfl, trivial⟩ ⟨((e1.trans e2).trans e3), o3.mono (by omega), by simp, by omega, by rw [val_replicate]; simp [val]⟩ ?_
  rintro ⟨i, lo⟩ w4 ⟨hE, ho, hlo, hi, hv⟩
  show WP _ _ _ _ _ [(5, .int .i64 (k / 32 : Nat)), (6, .int .u64 (k % 32 : Nat)), (7, v3), (31, u), (32, .int .i64 ((dig (val la)).length : Nat)), (33, .int .i64 (i : Nat))] _
  have hz := hE.size
  refine WP_seq ?_
  refine WP_region ?_
  refine O_lss rfl rfl rfl rfl rfl ?_
  refine WL_end [(5, _), (6, _), (7, _), (31, _), (32, _), (33, _), (34, _)] ⟨rfl, rfl, rfl, rfl, rfl, rfl, rfl, trivial⟩ ?_
  refine WP_seq ?_
  refine WP_condD rfl (fun c34 => ?_) (fun c34 => ?_)
  · --
   refine WP_skip ?_
   refine WP_seq ?_
   refine WP_block ?_
   refine WP_seq ?_
   refine WP_region ?_
   obtain ⟨hst1, hst2⟩ := shl_step (x := ((dig (val la)).getD i 0)) (by omega : k % 32 ≤ 31) ((D_dig _).getD i) ho.d (by omega) (val_take_lt (D_dig _) i) hv
   have hy := low_lt (x := ((dig (val la)).getD i 0)) (by omega : k % 32 ≤ 31) hst1
   have hY := y_lt (x := ((dig (val la)).getD i 0)) (c := 0) (by omega : k % 32 ≤ 31) ((D_dig _).getD i) (by omega)
   refine O_move rfl rfl rfl ?_
   refine N_index T22 rfl rfl rfl rfl (hu.ext hE) _ rfl (by omega) ?_
   refine N_load Tryd.underlying89 rfl rfl rfl (hu.ext hE) (by omega) (fun d37 => ?_)
   refine O_assign rfl rfl rfl ?_
   refine O_assign rfl rfl rfl ?_
   refine WL_end [(5, _), (6, _), (7, _), (8, _), (9, _), (31, _), (32, _), (33, _)] ⟨rfl, rfl, rfl, rfl, rfl, rfl, rfl, rfl, trivial⟩ ?_
   refine WP_seq ?_
   refine WP_region ?_
   refine O_move rfl rfl rfl ?_
   refine O_conv Tryd.underlying89 Tryd.underlying82 rfl rfl rfl (wrap_u64_id (by omega) (by omega)) ?_
   refine O_move rfl rfl rfl ?_
   refine O_shl rfl rfl rfl rfl (by omega) (shlU ((D_dig _).getD i) (by omega)) ?_
   refine O_assign rfl rfl rfl ?_
   refine WL_end [(5, _), (6, _), (7, _), (8, _), (10, _), (31, _), (32, _), (33, _)] ⟨rfl, rfl, rfl, rfl, rfl, rfl, rfl, rfl, trivial⟩ ?_
   refine WP_seq ?_
   refine WP_region ?_
   refine O_move rfl rfl rfl ?_
   refine O_move rfl rfl rfl ?_
   refine O_move rfl rfl rfl ?_
   refine O_add (r := ((i + k / 32 : Nat) : Int)) rfl rfl rfl rfl (by rw [IntKind.wrap_i64]; omega) ?_
   refine N_index T22 rfl rfl rfl rfl ho.nl (i + k / 32) rfl (by omega) ?_
   refine N_load Tryd.underlying89 rfl rfl rfl ho.nl (by omega) (fun d47 => ?_)
   refine O_move rfl rfl rfl ?_
   refine O_conv Tryd.underlying82 Tryd.underlying89 rfl rfl rfl (modU32 _) ?_
   refine O_or rfl rfl rfl rfl (u32_or_nat _ _ (ho.d.getD _) (Nat.mod_lt _ (by decide))) ?_
   rw [or_low (by omega) hst1]
   refine N_index T22 rfl rfl rfl rfl ho.nl (i + k / 32) rfl (by omega) ?_
   refine N_store T22 rfl rfl rfl ho (by omega) (lo.getD (i + k / 32) 0 + (((dig (val la)).getD i 0) * 2 ^ (k % 32)) % 4294967296) rfl (by omega) (fun w4 o4 q4 a4 b4 => ?_)
   have z4 := q4.size
   have e4 : Ext w w4 := q4.ext hE (by omega)
   refine WL_end [(5, _), (6, _), (7, _), (8, _), (10, _), (31, _), (32, _), (33, _)] ⟨rfl, rfl, rfl, rfl, rfl, rfl, rfl, rfl, trivial⟩ ?_
   refine WP_region ?_
   refine O_move rfl rfl rfl ?_
   refine O_move rfl rfl rfl ?_
   refine O_move rfl rfl rfl ?_
   refine O_add (r := ((i + k / 32 : Nat) : Int)) rfl rfl rfl rfl (by rw [IntKind.wrap_i64]; omega) ?_
   refine O_add (r := ((i + k / 32 + 1 : Nat) : Int)) rfl rfl rfl rfl (by rw [IntKind.wrap_i64]; omega) ?_
   refine O_move rfl rfl rfl ?_
   refine O_shr rfl rfl rfl rfl (by decide) (shr32 _) ?_
   refine O_conv Tryd.underlying82 Tryd.underlying89 rfl rfl rfl (wrap_u32_id (by omega) (by omega)) ?_
   refine N_index T22 rfl rfl rfl rfl o4.nl (i + k / 32 + 1) rfl (by simp [hlo]; omega) ?_
   refine N_store T22 rfl rfl rfl o4 (by simp [hlo]; omega) ((((dig (val la)).getD i 0) * 2 ^ (k % 32)) / 4294967296) rfl (by omega) (fun w5 o5 q5 a5 b5 => ?_)
   have z5 := q5.size
   have e5 : Ext w w5 := q5.ext e4 (by omega)
   refine WL_end [(5, _), (6, _), (7, _), (31, _), (32, _), (33, _)] ⟨rfl, rfl, rfl, rfl, rfl, rfl, trivial⟩ ?_
   refine WP_region ?_
   refine O_add rfl rfl rfl rfl (wrap_i64_id (by omega) (by omega)) ?_
   refine O_move rfl rfl rfl ?_
   refine WL_end [(5, _), (6, _), (7, _), (31, _), (32, _), (33, _)] ⟨rfl, rfl, rfl, rfl, rfl, rfl, trivial⟩ ?_
   exact ⟨(i + 1, _), ⟨rfl, rfl, rfl, rfl, rfl, rfl, trivial⟩, ⟨e5, o5, by simp [hlo], by omega, by rw [val_take_succ']; exact hst2⟩, by dsimp only; omega⟩
  · --
   refine WP_exit ?_
   refine inBlk_hit ?_
   refine WP_seq ?_
   refine WP_region ?_
   refine O_move rfl rfl rfl ?_
   refine O_move rfl rfl rfl ?_
   refine O_call enters99 rfl rfl rfl (size_c ho.nl) (fun v6 w6 e6 h6 => ?_)
   have z6 := e6.size
   obtain rfl := h6
   refine N_sliceTo T22 rfl rfl rfl rfl (ho.ext e6).nl (sz lo) rfl (sz_le ho.d) ?_
   have hu2 := (ho.ext e6).take (sz lo) (sz_le ho.d)
   generalize slTake _ _ = u2 at hu2 ⊢
   refine O_assign rfl rfl rfl ?_
   refine WL_end [(4, _)] ⟨rfl, trivial⟩ ?_
   refine WP_ret ?_
   refine ret1 Tryd.results80 rfl ?_
   rw [show i = (dig (val la)).length from by omega, List.take_length, val_dig] at hv
   rw [val_take_sz ho.d, hv, ← Nat.mul_assoc, pow_split, Nat.mul_comm] at hu2
   exact ⟨_, rfl, (hE.trans e6), hu2⟩

theorem rshl_c {w : World} {va : Value} {la : List Nat} {k : Nat} (ha : Nl w va la) (hla : la.length ≤ 100000000) (hk : k ≤ 1048576) :
    Calls Tryd.prog 57 #[va, .int .i64 (k : Nat)] w (Ret w fun r w' => No w.heap.size 89 w' r (dig (val la * 2 ^ k))) := by
 have hkk : k / 32 ≤ 32768 := by omega
 have hpb := pow_bd k
 refine enter (args := [va, _]) Tryd.func57 rfl Tryd.ntmps57 rfl ?_
 refine WP_seq ?_
 refine WP_region ?_
 refine O_assign rfl rfl rfl ?_
 refine WL_end [(0, _), (1, _)] ⟨rfl, rfl, trivial⟩ ?_
 refine WP_seq ?_
 refine WP_region ?_
 refine O_move rfl rfl rfl ?_
 refine O_quo (r := ((k / 32 : Nat) : Int)) rfl rfl rfl rfl (by decide) (quo32 (by omega)) ?_
 refine N_make T22 (by decide) rfl rfl rfl rfl (k / 32) rfl rfl (by omega) (fun v1 w1 o1 e1 => ?_)
 have z1 := e1.size
 refine O_assign rfl rfl rfl ?_
 refine WL_end [(0, _), (1, _), (5, _)] ⟨rfl, rfl, rfl, trivial⟩ ?_
 refine WP_seq ?_
 refine WP_region ?_
 refine O_assign rfl rfl rfl ?_
 refine WL_end [(0, _), (1, _), (5, _), (6, _)] ⟨rfl, rfl, rfl, rfl, trivial⟩ ?_
 refine WP_seq ?_
 refine WP_seq ?_
 refine WP_region ?_
 refine O_assign rfl rfl rfl ?_
 refine WL_end [(0, _), (1, _), (5, _), (6, _), (7, _)] ⟨rfl, rfl, rfl, rfl, rfl, trivial⟩ ?_
 refine WP_block ?_
 refine WP_loop (S := Nat × Nat × List Nat × Value) (fun (i, c, lo, out) => [(0, va), (1, .int .i64 (k : Nat)), (5, out), (6, .int .u64 (c : Nat)), (7, .int .i64 (i : Nat))]) (fun (i, c, lo, out) w' => Ext w w' ∧ No w.heap.size 89 w' out lo ∧ lo.length = k / 32 + i ∧ i ≤ la.length + 1 ∧ c < 2 ^ (k % 32) ∧ val lo + 4294967296 ^ (k / 32 + i) * c = 4294967296 ^ (k / 32) * (2 ^ (k % 32) * val (la.take i))) (fun (i, c, lo, out) => la.length + 2 - i) (0, 0, List.replicate (k / 32) 0, v1) ⟨rfl, rfl, rfl, rfl, rfl, trivial⟩ ⟨e1, o1.mono (by omega), by simp, by omega, by omega, by rw [val_replicate]; simp [val]⟩ ?_
 rintro ⟨i, c, lo, out⟩ w4 ⟨hE, ho, hlo, hi, hc, hv⟩
 show WP _ _ _ _ _ [(0, va), (1, .int .i64 (k : Nat)), (5, out), (6, .int .u64 (c : Nat)), (7, .int .i64 (i : Nat))] _
 have hz := hE.size
 have hY := y_lt (by omega : k % 32 ≤ 31) (ha.d.getD i) hc
 refine WP_seq ?_
 refine WP_seq ?_
 refine WP_region ?_
 refine O_move rfl rfl rfl ?_
 refine O_move rfl rfl rfl ?_
 refine N_len T22 rfl rfl rfl (ha.ext hE) ?_
 refine O_leq rfl rfl rfl rfl rfl ?_
 refine WL_end [(0, _), (1, _), (5, _), (6, _), (7, _), (15, _)] ⟨rfl, rfl, rfl, rfl, rfl, rfl, trivial⟩ ?_
 refine WP_condD rfl (fun c15 => ?_) (fun c15 => ?_)
 · --
  refine WP_skip ?_
  refine WP_seq ?_
  refine WP_block ?_
  refine WP_seq ?_
  refine WP_region ?_
  refine O_move rfl rfl rfl ?_
  refine O_move rfl rfl rfl ?_
  refine O_call enters86 rfl rfl rfl (at_c (ha.ext hE) i rfl) (fun v2 w2 e2 h2 => ?_)
  have z2 := e2.size
  obtain rfl := h2
  refine O_move rfl rfl rfl ?_
  refine O_rem (r := ((k % 32 : Nat) : Int)) rfl rfl rfl rfl (by decide) (remN (m := 32)) ?_
  refine O_conv Tryd.underlying3 Tryd.underlying91 rfl rfl rfl (wrap_u64_id (by omega) (by omega)) ?_
  refine O_shl rfl rfl rfl rfl (by omega) (shlU (ha.d.getD i) (by omega)) ?_
  refine O_move rfl rfl rfl ?_
  refine O_or rfl rfl rfl rfl (u64_or_nat _ _ (by omega) (by omega)) ?_
  rw [or_low2 hc]
  refine O_assign rfl rfl rfl ?_
  refine WL_end [(0, _), (1, _), (5, _), (7, _), (8, _)] ⟨rfl, rfl, rfl, rfl, rfl, trivial⟩ ?_
  refine WP_seq ?_
  refine WP_region ?_
  refine O_move rfl rfl rfl ?_
  refine O_move rfl rfl rfl ?_
  refine O_conv Tryd.underlying82 Tryd.underlying89 rfl rfl rfl (modU32 _) ?_
  refine N_lit T22 rfl rfl [((la.getD i 0) * 2 ^ (k % 32) + c) % 4294967296] (D.cons (Nat.mod_lt _ (by decide)) D.nil) rfl (by decide) rfl rfl (fun v3 w3 o3 e3 => ?_)
  have z3 := e3.size
  refine N_append T22 rfl (by decide) rfl rfl rfl rfl ((ho.ext e2).ext e3) o3.nl (by (try simp only [lens]); omega) (by omega) (fun v4 w4 o4 r4 => ?_)
  have e4 : Ext w w4 := ((ho.ext e2).ext e3).ext_grown r4 ((hE.trans e2).trans e3) (by omega)
  have z4 := r4.size
  refine O_assign rfl rfl rfl ?_
  refine WL_end [(0, _), (1, _), (5, _), (7, _), (8, _)] ⟨rfl, rfl, rfl, rfl, rfl, trivial⟩ ?_
  refine WP_region ?_
  refine O_move rfl rfl rfl ?_
  refine O_shr rfl rfl rfl rfl (by decide) (shr32 _) ?_
  refine O_assign rfl rfl rfl ?_
  refine WL_end [(0, _), (1, _), (5, _), (6, _), (7, _)] ⟨rfl, rfl, rfl, rfl, rfl, trivial⟩ ?_
  refine WP_region ?_
  refine O_move rfl rfl rfl ?_
  refine O_add rfl rfl rfl rfl (wrap_i64_id (by omega) (by omega)) ?_
  refine O_assign rfl rfl rfl ?_
  refine WL_end [(0, _), (1, _), (5, _), (6, _), (7, _)] ⟨rfl, rfl, rfl, rfl, rfl, trivial⟩ ?_
  refine ⟨(i + 1, ((la.getD i 0) * 2 ^ (k % 32) + c) / 4294967296, lo ++ [((la.getD i 0) * 2 ^ (k % 32) + c) % 4294967296], _), ⟨rfl, rfl, rfl, rfl, rfl, trivial⟩, ⟨by assumption, by assumption, by simp [hlo]; omega, by omega, carry_lt (by omega) (ha.d.getD i) hc, ?_⟩, by dsimp only; omega⟩
  rw [val_take_succ']
  exact rshl_step hv hlo
 · --
  refine WP_exit ?_
  refine inBlk_hit ?_
  refine WP_seq ?_
  refine WP_region ?_
  refine O_move rfl rfl rfl ?_
  refine O_call enters85 rfl rfl rfl (rtrim_c ho.nl (by (try simp only [lens]); omega)) (fun v5 w5 e5 h5 => ?_)
  have z5 := e5.size
  try simp only [val_dig] at h5
  refine O_assign rfl rfl rfl ?_
  refine WL_end [(4, _)] ⟨rfl, trivial⟩ ?_
  refine WP_ret ?_
  refine ret1 Tryd.results57 rfl ?_
  rw [show i = la.length + 1 from by omega, List.take_of_length_le (Nat.le_succ _)] at hv
  have hr := rshl_end (val_lt ha.d) hv
  have hq := h5
  rw [hr] at hq
  exact ⟨_, rfl, (hE.trans e5), hq.mono (by omega)⟩

theorem shr_c {w : World} {va : Value} {la : List Nat} {k : Nat} (ha : Nl w va la) (hla : la.length ≤ 100000000) (hk : k ≤ 1048576) :
    Calls Tryd.prog 61 #[va, .int .i64 (k : Nat)] w (Ret w fun r w' => No w.heap.size 89 w' r (dig (val la / 2 ^ k))) := by
 have hkk : k / 32 ≤ 32768 := by omega
 have hpb := pow_bd k
 refine enter (args := [va, _]) Tryd.func61 rfl Tryd.ntmps61 rfl ?_
 refine WP_seq ?_
 refine WP_region ?_
 refine O_assign rfl rfl rfl ?_
 refine WL_end [(0, _), (1, _)] ⟨rfl, rfl, trivial⟩ ?_
 refine WP_seq ?_
 refine WP_region ?_
 refine O_move rfl rfl rfl ?_
 refine O_call enters98 rfl rfl rfl (places_c (by (try simp only [lens]); omega)) (fun v1 w1 e1 h1 => ?_)
 have z1 := e1.size
 obtain rfl := h1
 refine O_assign rfl rfl rfl ?_
 refine WL_end [(0, _), (1, _)] ⟨rfl, rfl, trivial⟩ ?_
 refine WP_seq ?_
 refine WP_region ?_
 refine O_move rfl rfl rfl ?_
 refine O_quo (r := ((k / 32 : Nat) : Int)) rfl rfl rfl rfl (by decide) (quo32 (by omega)) ?_
 refine O_move rfl rfl rfl ?_
 refine O_rem (r := ((k % 32 : Nat) : Int)) rfl rfl rfl rfl (by decide) (remN (m := 32)) ?_
 refine O_conv Tryd.underlying3 Tryd.underlying91 rfl rfl rfl (wrap_u64_id (by omega) (by omega)) ?_
 refine O_assign rfl rfl rfl ?_
 refine O_assign rfl rfl rfl ?_
 refine WL_end [(0, _), (5, _), (6, _)] ⟨rfl, rfl, rfl, trivial⟩ ?_
 refine WP_seq ?_
 refine WP_seq ?_
 refine WP_region ?_
 refine O_move rfl rfl rfl ?_
 refine O_move rfl rfl rfl ?_
 refine N_len T22 rfl rfl rfl (ha.ext e1) ?_
 refine O_geq rfl rfl rfl rfl rfl ?_
 refine WL_end [(0, _), (5, _), (6, _), (20, _)] ⟨rfl, rfl, rfl, rfl, trivial⟩ ?_
 refine WP_condD rfl (fun c20 => ?_) (fun c20 => ?_)
 · --
  refine WP_seq ?_
  refine WP_region ?_
  refine O_assign rfl rfl rfl ?_
  refine WL_end [(4, _)] ⟨rfl, trivial⟩ ?_
  refine WP_ret ?_
  refine ret1 Tryd.results61 rfl ?_
  have h0 := shr_zero ha.d (show la.length ≤ k / 32 by omega)
  exact ⟨_, rfl, e1, by rw [h0, dig_zero]; exact No.nil _ _ _⟩
 · --
  refine WP_skip ?_
  refine WP_seq ?_
  refine WP_region ?_
  refine O_move rfl rfl rfl ?_
  refine N_len T22 rfl rfl rfl (ha.ext e1) ?_
  refine O_move rfl rfl rfl ?_
  refine O_sub (r := ((la.length - k / 32 : Nat) : Int)) rfl rfl rfl rfl (by rw [IntKind.wrap_i64]; omega) ?_
  refine N_make T22 (by decide) rfl rfl rfl rfl (la.length - k / 32) rfl rfl (by omega) (fun v2 w2 o2 e2 => ?_)
  have z2 := e2.size
  refine O_assign rfl rfl rfl ?_
  refine WL_end [(0, _), (5, _), (6, _), (7, _)] ⟨rfl, rfl, rfl, rfl, trivial⟩ ?_
  refine WP_seq ?_
  refine WP_seq ?_
  refine WP_region ?_
  refine O_move rfl rfl rfl ?_
  refine N_len T22 rfl rfl rfl o2.nl ?_
  rw [List.length_replicate]
  refine O_move rfl rfl rfl ?_
  refine WL_end [(0, _), (5, _), (6, _), (7, _), (27, _), (28, _)] ⟨rfl, rfl, rfl, rfl, rfl, rfl, trivial⟩ ?_
  refine WP_block ?_
  refine WP_loop (S := Nat × List Nat) (fun (i, lo) => [(0, va), (5, .int .i64 (k / 32 : Nat)), (6, .int .u64 (k % 32 : Nat)), (7, v2), (27, .int .i64 (la.length - k / 32 : Nat)), (28, .int .i64 (i : Nat))]) (fun (i, lo) w' => Ext w w' ∧ No w.heap.size 89 w' v2 lo ∧ lo.length = la.length - k / 32 ∧ i ≤ la.length - k / 32 ∧ ∀ j, j < i → lo.getD j 0 = sdig (val la) k j) (fun (i, lo) => la.length - k / 32 - i) (0, List.replicate (la.length - k / 32) 0) ⟨rfl, rfl, rfl, rfl, rfl, rfl, trivial⟩ ⟨(e1.trans e2), o2.mono (by omega), by simp, by omega, fun j hj => absurd hj (Nat.not_lt_zero _)⟩ ?_
  rintro ⟨i, lo⟩ w4 ⟨hE, ho, hlo, hi, hv⟩
  show WP _ _ _ _ _ [(0, va), (5, .int .i64 (k / 32 : Nat)), (6, .int .u64 (k % 32 : Nat)), (7, v2), (27, .int .i64 (la.length - k / 32 : Nat)), (28, .int .i64 (i : Nat))] _
  have hz := hE.size
  have ha0 := ha.d.getD (i + k / 32)
  have ha1 := ha.d.getD (i + k / 32 + 1)
  refine WP_seq ?_
  refine WP_region ?_
  refine O_lss rfl rfl rfl rfl rfl ?_
  refine WL_end [(0, _), (5, _), (6, _), (7, _), (27, _), (28, _), (29, _)] ⟨rfl, rfl, rfl, rfl, rfl, rfl, rfl, trivial⟩ ?_
  refine WP_seq ?_
  refine WP_condD rfl (fun c29 => ?_) (fun c29 => ?_)
  · --
   refine WP_skip ?_
   refine WP_seq ?_
   refine WP_block ?_
   refine WP_seq ?_
   refine WP_region ?_
   refine O_move rfl rfl rfl ?_
   refine O_assign rfl rfl rfl ?_
   refine WL_end [(0, _), (5, _), (6, _), (7, _), (8, _), (27, _), (28, _)] ⟨rfl, rfl, rfl, rfl, rfl, rfl, rfl, trivial⟩ ?_
   refine WP_seq ?_
   refine WP_region ?_
   refine O_move rfl rfl rfl ?_
   refine O_move rfl rfl rfl ?_
   refine O_move rfl rfl rfl ?_
   refine O_add (r := ((i + k / 32 : Nat) : Int)) rfl rfl rfl rfl (by rw [IntKind.wrap_i64]; omega) ?_
   refine N_index T22 rfl rfl rfl rfl (ha.ext hE) (i + k / 32) rfl (by omega) ?_
   refine N_load Tryd.underlying89 rfl rfl rfl (ha.ext hE) (by omega) (fun d36 => ?_)
   refine O_conv Tryd.underlying89 Tryd.underlying82 rfl rfl rfl (wrap_u64_id (by omega) (by omega)) ?_
   refine O_assign rfl rfl rfl ?_
   refine WL_end [(0, _), (5, _), (6, _), (7, _), (8, _), (9, _), (27, _), (28, _)] ⟨rfl, rfl, rfl, rfl, rfl, rfl, rfl, rfl, trivial⟩ ?_
   refine WP_seq ?_
   refine WP_seq ?_
   refine WP_region ?_
   refine O_move rfl rfl rfl ?_
   refine O_move rfl rfl rfl ?_
   refine O_add (r := ((i + k / 32 : Nat) : Int)) rfl rfl rfl rfl (by rw [IntKind.wrap_i64]; omega) ?_
   refine O_add (r := ((i + k / 32 + 1 : Nat) : Int)) rfl rfl rfl rfl (by rw [IntKind.wrap_i64]; omega) ?_
   refine O_move rfl rfl rfl ?_
   refine N_len T22 rfl rfl rfl (ha.ext hE) ?_
   refine O_lss rfl rfl rfl rfl rfl ?_
   refine WL_end [(0, _), (5, _), (6, _), (7, _), (8, _), (9, _), (27, _), (28, _), (44, _)] ⟨rfl, rfl, rfl, rfl, rfl, rfl, rfl, rfl, rfl, trivial⟩ ?_
   refine WP_condD rfl (fun c44 => ?_) (fun c44 => ?_)
   · --
    refine WP_region ?_
    refine O_move rfl rfl rfl ?_
    refine O_move rfl rfl rfl ?_
    refine O_move rfl rfl rfl ?_
    refine O_move rfl rfl rfl ?_
    refine O_add (r := ((i + k / 32 : Nat) : Int)) rfl rfl rfl rfl (by rw [IntKind.wrap_i64]; omega) ?_
    refine O_add (r := ((i + k / 32 + 1 : Nat) : Int)) rfl rfl rfl rfl (by rw [IntKind.wrap_i64]; omega) ?_
    refine N_index T22 rfl rfl rfl rfl (ha.ext hE) (i + k / 32 + 1) rfl (by omega) ?_
    refine N_load Tryd.underlying89 rfl rfl rfl (ha.ext hE) (by omega) (fun d52 => ?_)
    refine O_conv Tryd.underlying89 Tryd.underlying82 rfl rfl rfl (wrap_u64_id (by omega) (by omega)) ?_
    refine O_shl rfl rfl rfl rfl (by decide) (shl32 ha1) ?_
    refine O_or rfl rfl rfl rfl (u64_or_nat _ _ (by omega) (by omega)) ?_
    rw [or_add' ha0]
    refine O_assign rfl rfl rfl ?_
    refine WL_end [(0, _), (5, _), (6, _), (7, _), (8, _), (9, _), (27, _), (28, _)] ⟨rfl, rfl, rfl, rfl, rfl, rfl, rfl, rfl, trivial⟩ ?_
    refine WP_region ?_
    refine O_move rfl rfl rfl ?_
    refine O_move rfl rfl rfl ?_
    refine O_move rfl rfl rfl ?_
    refine O_move rfl rfl rfl ?_
    refine O_shr rfl rfl rfl rfl (by omega) (shrU64 (m := k % 32) (by omega)) ?_
    refine O_conv Tryd.underlying82 Tryd.underlying89 rfl rfl rfl (modU32 _) ?_
    refine N_index T22 rfl rfl rfl rfl ho.nl i rfl (by omega) ?_
    refine N_store T22 rfl rfl rfl ho (by omega) _ rfl (Nat.mod_lt _ (by decide)) (fun w3 o3 q3 a3 b3 => ?_)
    have z3 := q3.size
    have e3 : Ext w w3 := q3.ext hE (by omega)
    refine WL_end [(0, _), (5, _), (6, _), (7, _), (27, _), (28, _)] ⟨rfl, rfl, rfl, rfl, rfl, rfl, trivial⟩ ?_
    refine WP_region ?_
    refine O_add rfl rfl rfl rfl (wrap_i64_id (by omega) (by omega)) ?_
    refine O_move rfl rfl rfl ?_
    refine WL_end [(0, _), (5, _), (6, _), (7, _), (27, _), (28, _)] ⟨rfl, rfl, rfl, rfl, rfl, rfl, trivial⟩ ?_
    refine ⟨(i + 1, lo.set i (((la.getD (i + k / 32) 0) + (la.getD (i + k / 32 + 1) 0) * 4294967296) / 2 ^ (k % 32) % 4294967296)), ⟨rfl, rfl, rfl, rfl, rfl, rfl, trivial⟩, ⟨e3, o3, by simp [hlo], by omega, fun j hj => ?_⟩, by dsimp only; omega⟩
    by_cases hj2 : j = i
    · subst hj2
      rw [getD_set_self _ (by omega), sdig_at ha.d]
    · rw [getD_set_other _ _ (by omega)]; exact hv j (by omega)
   · --
    refine WP_skip ?_
    refine WP_region ?_
    refine O_move rfl rfl rfl ?_
    refine O_move rfl rfl rfl ?_
    refine O_move rfl rfl rfl ?_
    refine O_move rfl rfl rfl ?_
    refine O_shr rfl rfl rfl rfl (by omega) (shrU64 (m := k % 32) (by omega)) ?_
    refine O_conv Tryd.underlying82 Tryd.underlying89 rfl rfl rfl (modU32 _) ?_
    refine N_index T22 rfl rfl rfl rfl ho.nl i rfl (by omega) ?_
    refine N_store T22 rfl rfl rfl ho (by omega) _ rfl (Nat.mod_lt _ (by decide)) (fun w4 o4 q4 a4 b4 => ?_)
    have z4 := q4.size
    have e4 : Ext w w4 := q4.ext hE (by omega)
    refine WL_end [(0, _), (5, _), (6, _), (7, _), (27, _), (28, _)] ⟨rfl, rfl, rfl, rfl, rfl, rfl, trivial⟩ ?_
    refine WP_region ?_
    refine O_add rfl rfl rfl rfl (wrap_i64_id (by omega) (by omega)) ?_
    refine O_move rfl rfl rfl ?_
    refine WL_end [(0, _), (5, _), (6, _), (7, _), (27, _), (28, _)] ⟨rfl, rfl, rfl, rfl, rfl, rfl, trivial⟩ ?_
    refine ⟨(i + 1, lo.set i ((la.getD (i + k / 32) 0) / 2 ^ (k % 32) % 4294967296)), ⟨rfl, rfl, rfl, rfl, rfl, rfl, trivial⟩, ⟨e4, o4, by simp [hlo], by omega, fun j hj => ?_⟩, by dsimp only; omega⟩
    by_cases hj2 : j = i
    · subst hj2
      rw [getD_set_self _ (by omega), sdig_at ha.d]
      rw [getD_ge (by omega : la.length ≤ j + k / 32 + 1), Nat.zero_mul, Nat.add_zero]
    · rw [getD_set_other _ _ (by omega)]; exact hv j (by omega)
  · --
   refine WP_exit ?_
   refine inBlk_hit ?_
   refine WP_seq ?_
   refine WP_region ?_
   refine O_move rfl rfl rfl ?_
   refine O_move rfl rfl rfl ?_
   refine O_call enters99 rfl rfl rfl (size_c ho.nl) (fun v5 w5 e5 h5 => ?_)
   have z5 := e5.size
   obtain rfl := h5
   refine N_sliceTo T22 rfl rfl rfl rfl (ho.ext e5).nl (sz lo) rfl (sz_le ho.d) ?_
   have hu2 := (ho.ext e5).take (sz lo) (sz_le ho.d)
   generalize slTake _ _ = u2 at hu2 ⊢
   refine O_assign rfl rfl rfl ?_
   refine WL_end [(4, _)] ⟨rfl, trivial⟩ ?_
   refine WP_ret ?_
   refine ret1 Tryd.results61 rfl ?_
   have hr := val_digits (V := val la / 2 ^ k) lo (fun j hj => hv j (by omega)) (by rw [hlo]; exact shr_lt ha.d (by omega))
   rw [val_take_sz ho.d, hr] at hu2
   exact ⟨_, rfl, (hE.trans e5), hu2⟩

theorem rshr_c {w : World} {va : Value} {la : List Nat} {k : Nat} (ha : Nl w va la) (hla : la.length ≤ 100000000) (hk : k ≤ 1048576) :
    Calls Tryd.prog 48 #[va, .int .i64 (k : Nat)] w (Ret w fun r w' => No w.heap.size 89 w' r (dig (val la / 2 ^ k))) := by
 have hkk : k / 32 ≤ 32768 := by omega
 have hpb := pow_bd k
 refine enter (args := [va, _]) Tryd.func48 rfl Tryd.ntmps48 rfl ?_
 refine WP_seq ?_
 refine WP_region ?_
 refine O_assign rfl rfl rfl ?_
 refine WL_end [(0, _), (1, _)] ⟨rfl, rfl, trivial⟩ ?_
 refine WP_seq ?_
 refine WP_region ?_
 refine O_assign rfl rfl rfl ?_
 refine WL_end [(0, _), (1, _), (5, _)] ⟨rfl, rfl, rfl, trivial⟩ ?_
 refine WP_seq ?_
 refine WP_seq ?_
 refine WP_region ?_
 refine O_move rfl rfl rfl ?_
 refine O_quo (r := ((k / 32 : Nat) : Int)) rfl rfl rfl rfl (by decide) (quo32 (by omega)) ?_
 refine O_assign rfl rfl rfl ?_
 refine WL_end [(0, _), (1, _), (5, _), (6, _)] ⟨rfl, rfl, rfl, rfl, trivial⟩ ?_
 refine WP_block ?_
 refine WP_loop (S := Nat × List Nat × Value) (fun (i, lo, out) => [(0, va), (1, .int .i64 (k : Nat)), (5, out), (6, .int .i64 (k / 32 + i : Nat))]) (fun (i, lo, out) w' => Ext w w' ∧ No w.heap.size 89 w' out lo ∧ lo.length = i ∧ (i = 0 ∨ k / 32 + i ≤ la.length) ∧ ∀ j, j < i → lo.getD j 0 = sdig (val la) k j) (fun (i, lo, out) => la.length - (k / 32 + i)) (0, [], .slice none 0 0) ⟨rfl, rfl, rfl, rfl, trivial⟩ ⟨Ext.refl _, No.nil _ _ _, rfl, .inl rfl, fun j hj => absurd hj (Nat.not_lt_zero _)⟩ ?_
 rintro ⟨i, lo, out⟩ w1 ⟨hE, ho, hlo, hi, hv⟩
 show WP _ _ _ _ _ [(0, va), (1, .int .i64 (k : Nat)), (5, out), (6, .int .i64 (k / 32 + i : Nat))] _
 have hz := hE.size
 have ha0 := ha.d.getD (k / 32 + i)
 have ha1 := ha.d.getD (k / 32 + i + 1)
 refine WP_seq ?_
 refine WP_seq ?_
 refine WP_region ?_
 refine O_move rfl rfl rfl ?_
 refine O_move rfl rfl rfl ?_
 refine N_len T22 rfl rfl rfl (ha.ext hE) ?_
 refine O_lss rfl rfl rfl rfl rfl ?_
 refine WL_end [(0, _), (1, _), (5, _), (6, _), (12, _)] ⟨rfl, rfl, rfl, rfl, rfl, trivial⟩ ?_
 refine WP_condD rfl (fun c12 => ?_) (fun c12 => ?_)
 · --
  refine WP_skip ?_
  refine WP_seq ?_
  refine WP_block ?_
  refine WP_region ?_
  refine O_move rfl rfl rfl ?_
  refine O_move rfl rfl rfl ?_
  refine O_move rfl rfl rfl ?_
  refine O_call enters86 rfl rfl rfl (at_c (ha.ext hE) (k / 32 + i) rfl) (fun v1 w1 e1 h1 => ?_)
  have z1 := e1.size
  obtain rfl := h1
  refine O_move rfl rfl rfl ?_
  refine O_move rfl rfl rfl ?_
  refine O_add (r := ((k / 32 + i + 1 : Nat) : Int)) rfl rfl rfl rfl (by rw [IntKind.wrap_i64]; omega) ?_
  refine O_call enters86 rfl rfl rfl (at_c (ha.ext (hE.trans e1)) (k / 32 + i + 1) rfl) (fun v2 w2 e2 h2 => ?_)
  have z2 := e2.size
  obtain rfl := h2
  refine O_shl rfl rfl rfl rfl (by decide) (shl32 ha1) ?_
  refine O_or rfl rfl rfl rfl (u64_or_nat _ _ (by omega) (by omega)) ?_
  rw [or_add' ha0]
  refine O_move rfl rfl rfl ?_
  refine O_rem (r := ((k % 32 : Nat) : Int)) rfl rfl rfl rfl (by decide) (remN (m := 32)) ?_
  refine O_conv Tryd.underlying3 Tryd.underlying91 rfl rfl rfl (wrap_u64_id (by omega) (by omega)) ?_
  refine O_shr rfl rfl rfl rfl (by omega) (shrU64 (m := k % 32) (by omega)) ?_
  refine O_conv Tryd.underlying82 Tryd.underlying89 rfl rfl rfl (modU32 _) ?_
  refine N_lit T22 rfl rfl [(((la.getD (k / 32 + i) 0) + (la.getD (k / 32 + i + 1) 0) * 4294967296) / 2 ^ (k % 32) % 4294967296)] (D.cons (Nat.mod_lt _ (by decide)) D.nil) rfl (by decide) rfl rfl (fun v3 w3 o3 e3 => ?_)
  have z3 := e3.size
  refine N_append T22 rfl (by decide) rfl rfl rfl rfl (((ho.ext e1).ext e2).ext e3) o3.nl (by (try simp only [lens]); omega) (by omega) (fun v4 w4 o4 r4 => ?_)
  have e4 : Ext w w4 := (((ho.ext e1).ext e2).ext e3).ext_grown r4 (((hE.trans e1).trans e2).trans e3) (by omega)
  have z4 := r4.size
  refine O_assign rfl rfl rfl ?_
  refine WL_end [(0, _), (1, _), (5, _), (6, _)] ⟨rfl, rfl, rfl, rfl, trivial⟩ ?_
  refine WP_region ?_
  refine O_move rfl rfl rfl ?_
  refine O_add (r := ((k / 32 + (i + 1) : Nat) : Int)) rfl rfl rfl rfl (by rw [IntKind.wrap_i64]; omega) ?_
  refine O_assign rfl rfl rfl ?_
  refine WL_end [(0, _), (1, _), (5, _), (6, _)] ⟨rfl, rfl, rfl, rfl, trivial⟩ ?_
  refine ⟨(i + 1, lo ++ [(((la.getD (k / 32 + i) 0) + (la.getD (k / 32 + i + 1) 0) * 4294967296) / 2 ^ (k % 32) % 4294967296)], _), ⟨rfl, rfl, rfl, rfl, trivial⟩, ⟨by assumption, by assumption, by simp [hlo], .inr (by omega), fun j hj => ?_⟩, by dsimp only; omega⟩
  by_cases hj2 : j = i
  · subst hj2
    rw [getD_snoc hlo, sdig_at ha.d, Nat.add_comm j (k / 32)]
  · rw [getD_snoc_lt (by omega)]; exact hv j (by omega)
 · --
  refine WP_exit ?_
  refine inBlk_hit ?_
  refine WP_seq ?_
  refine WP_region ?_
  refine O_move rfl rfl rfl ?_
  refine O_call enters85 rfl rfl rfl (rtrim_c ho.nl (by (try simp only [lens]); omega)) (fun v5 w5 e5 h5 => ?_)
  have z5 := e5.size
  try simp only [val_dig] at h5
  refine O_assign rfl rfl rfl ?_
  refine WL_end [(4, _)] ⟨rfl, trivial⟩ ?_
  refine WP_ret ?_
  refine ret1 Tryd.results48 rfl ?_
  have hr := val_digits (V := val la / 2 ^ k) lo (fun j hj => hv j (by omega)) (by
    rcases Nat.lt_or_ge (k / 32) la.length with h | h
    · rw [show lo.length = la.length - k / 32 from by omega]; exact shr_lt ha.d (by omega)
    · rw [shr_zero ha.d h]; exact Nat.pow_pos (by decide))
  have hq := h5
  rw [hr] at hq
  exact ⟨_, rfl, (hE.trans e5), hq.mono (by omega)⟩

theorem dig_len_two (k : Nat) : (dig (2 ^ k)).length ≤ k / 32 + 1 := by
  apply dig_len_of_lt
  rw [B_two]
  exact Nat.pow_lt_pow_right (by decide) (by omega)
theorem bl_mod (A k : Nat) : bl (A % 2 ^ k) ≤ k := bl_le (Nat.mod_lt _ (Nat.pow_pos (by decide)))
theorem mul_div_two (A k : Nat) : A * 2 ^ k / 2 ^ k = A := Nat.mul_div_cancel _ (Nat.pow_pos (by decide))
theorem div_mul_mod (A k : Nat) : A / 2 ^ k * 2 ^ k + A % 2 ^ k = A := by rw [Nat.mul_comm]; exact Nat.div_add_mod A (2 ^ k)

end Go.Proofs.YtnfnadhbjdcbnaaDoor
