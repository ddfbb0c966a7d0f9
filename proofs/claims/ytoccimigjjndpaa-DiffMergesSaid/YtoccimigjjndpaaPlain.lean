/-
  Plain laws of lists of digits: no program in sight.
-/
import Derived.Test.YtoccimigjjndpaaNum
import Derived.Laws.Small
set_option linter.unusedVariables false
set_option linter.unusedSimpArgs false
namespace Go.Proofs.Ytoccimigjjndpaa
open Go

/-- What a comparison answers. -/
def cmpv (a b : Nat) : Int := if a < b then -1 else if b < a then 1 else 0
theorem cmpv_zero {a b : Nat} : cmpv a b = 0 ↔ a = b := by unfold cmpv; split <;> (try split) <;> omega
theorem cmpv_lt {a b : Nat} (h : a < b) : cmpv a b = -1 := by unfold cmpv; rw [if_pos h]
theorem cmpv_gt {a b : Nat} (h : b < a) : cmpv a b = 1 := by unfold cmpv; rw [if_neg (by omega), if_pos h]
theorem cmpv_self (a : Nat) : cmpv a a = 0 := cmpv_zero.2 rfl
theorem cmpv_neg (a b : Nat) : cmpv b a = -cmpv a b := by unfold cmpv; split <;> split <;> (try split) <;> omega
theorem cmpv_lt_zero {a b : Nat} : cmpv a b < 0 ↔ a < b := by unfold cmpv; split <;> (try split) <;> omega

theorem val_split (l : List Nat) (k : Nat) : val l = val (l.take k) + 4294967296 ^ k * val (l.drop k) := by
  by_cases h : k ≤ l.length
  · have := val_append (l.take k) (l.drop k)
    rw [List.take_append_drop] at this
    rw [this]; simp [Nat.min_eq_left h]
  · rw [List.take_of_length_le (by omega), List.drop_eq_nil_of_le (by omega)]; simp [val]
theorem val_drop (l : List Nat) (k : Nat) : val (l.drop k) = l.getD k 0 + 4294967296 * val (l.drop (k + 1)) := by
  by_cases h : k < l.length
  · rw [List.drop_eq_getElem_cons h, val]; simp [List.getD_eq_getElem?_getD, List.getElem?_eq_getElem h]
  · rw [List.drop_eq_nil_of_le (by omega), List.drop_eq_nil_of_le (by omega)]; simp [val, List.getD_eq_getElem?_getD, List.getElem?_eq_none (by omega : l.length ≤ k)]
theorem val_congr {l m : List Nat} (h : ∀ j, l.getD j 0 = m.getD j 0) : val l = val m := by
  induction l generalizing m with
  | nil =>
    induction m with
    | nil => rfl
    | cons y m ih =>
      have h0 := h 0
      simp at h0
      have : val [] = val m := ih (fun j => by have := h (j + 1); simpa using this)
      simp only [val] at this ⊢
      omega
  | cons x l ih =>
    cases m with
    | nil =>
      have h0 := h 0
      simp at h0
      have : val l = val [] := ih (fun j => by have := h (j + 1); simpa using this)
      simp only [val] at this ⊢
      omega
    | cons y m =>
      have h0 := h 0
      simp at h0
      have : val l = val m := ih (fun j => by have := h (j + 1); simpa using this)
      simp only [val]; omega
theorem getD_drop (l : List Nat) (k j : Nat) : (l.drop k).getD j 0 = l.getD (k + j) 0 := by
  simp [List.getD_eq_getElem?_getD]
theorem val_eq_of_agree {l m : List Nat} {k : Nat} (h : ∀ j, k ≤ j → l.getD j 0 = m.getD j 0) : val (l.drop k) = val (m.drop k) :=
  val_congr fun j => by rw [getD_drop, getD_drop]; exact h _ (by omega)
theorem val_take_lt {l : List Nat} (hd : D l) (k : Nat) : val (l.take k) < 4294967296 ^ k := by
  have h := val_lt (hd.take k)
  have : (l.take k).length ≤ k := List.length_take_le _ _
  exact Nat.lt_of_lt_of_le h (Nat.pow_le_pow_right (by omega) this)
theorem val_lt_of_top {l m : List Nat} {k : Nat} (hl : D l) (h : ∀ j, k + 1 ≤ j → l.getD j 0 = m.getD j 0) (hk : l.getD k 0 < m.getD k 0) : val l < val m := by
  rw [val_split l k, val_split m k, val_drop l k, val_drop m k, val_eq_of_agree h]
  have h1 := val_take_lt hl k
  generalize val (m.drop (k + 1)) = X
  have h2 : 4294967296 ^ k * (l.getD k 0 + 4294967296 * X) + 4294967296 ^ k ≤ 4294967296 ^ k * (m.getD k 0 + 4294967296 * X) := by
    have : 4294967296 ^ k * (l.getD k 0 + 4294967296 * X) + 4294967296 ^ k = 4294967296 ^ k * (l.getD k 0 + 4294967296 * X + 1) := by rw [Nat.mul_add (4294967296 ^ k) _ 1, Nat.mul_one]
    rw [this]
    exact Nat.mul_le_mul_left _ (by omega)
  omega
theorem getD_ge {l : List Nat} {j : Nat} (h : l.length ≤ j) : l.getD j 0 = 0 := by simp [List.getD_eq_getElem?_getD, List.getElem?_eq_none h]

theorem val_set {l : List Nat} {j : Nat} (h : j < l.length) (u : Nat) : val (l.set j u) + 4294967296 ^ j * l.getD j 0 = val l + 4294967296 ^ j * u := by
  induction l generalizing j with
  | nil => simp at h
  | cons x l ih =>
    cases j with
    | zero => simp [val]; omega
    | succ j =>
      have := ih (j := j) (by simpa using h)
      simp only [List.set_cons_succ, val, Nat.pow_succ, List.getD_cons_succ]
      have e1 : 4294967296 ^ j * 4294967296 * l.getD j 0 = 4294967296 * (4294967296 ^ j * l.getD j 0) := by rw [Nat.mul_comm (4294967296 ^ j) 4294967296, Nat.mul_assoc]
      have e2 : 4294967296 ^ j * 4294967296 * u = 4294967296 * (4294967296 ^ j * u) := by rw [Nat.mul_comm (4294967296 ^ j) 4294967296, Nat.mul_assoc]
      rw [e1, e2]; omega
theorem getD_set_other (l : List Nat) {i j : Nat} (u : Nat) (h : i ≠ j) : (l.set i u).getD j 0 = l.getD j 0 := by
  simp [List.getD_eq_getElem?_getD, List.getElem?_set_ne h]
theorem getD_set_self {l : List Nat} {i : Nat} (u : Nat) (h : i < l.length) : (l.set i u).getD i 0 = u := by
  simp [List.getD_eq_getElem?_getD, h]
theorem getD_replicate (n j : Nat) : (List.replicate n 0).getD j 0 = 0 := by
  by_cases h : j < n <;> simp [List.getD_eq_getElem?_getD, List.getElem?_replicate, h]
theorem val_take_succ {l : List Nat} {k : Nat} (h : k < l.length) : val (l.take (k + 1)) = val (l.take k) + 4294967296 ^ k * l.getD k 0 := by
  rw [take_succ_getD l k h, val_append]; simp [val, Nat.min_eq_left (Nat.le_of_lt h)]
theorem val_two (n : Nat) (h : n < 18446744073709551616) : val [n % 4294967296, n / 4294967296] = n := by simp [val]; omega

theorem shr32 (n : Nat) : ((n : Int)).fdiv (2 ^ (min (Int.toNat 32) IntKind.u64.bits)) = ((n / 4294967296 : Nat) : Int) := by
  have : (min (Int.toNat 32) IntKind.u64.bits) = 32 := by decide
  rw [this]
  rw [Int.fdiv_eq_ediv_of_nonneg _ (by decide)]
  rfl
theorem shr32' {a : Int} (n : Nat) (h : a = (n : Int)) : a.fdiv (2 ^ (min (Int.toNat 32) IntKind.u64.bits)) = ((n / 4294967296 : Nat) : Int) := by rw [h]; exact shr32 n
theorem val_take_succ' (l : List Nat) (k : Nat) : val (l.take (k + 1)) = val (l.take k) + 4294967296 ^ k * l.getD k 0 := by
  by_cases h : k < l.length
  · exact val_take_succ h
  · rw [List.take_of_length_le (by omega), List.take_of_length_le (by omega), getD_ge (by omega)]; simp
theorem take_set_succ {l : List Nat} {k : Nat} (h : k < l.length) (u : Nat) : (l.set k u).take (k + 1) = l.take k ++ [u] := by
  rw [take_succ_getD _ _ (by simpa using h), getD_set_self u h]
  congr 1
  rw [List.take_set, List.set_eq_of_length_le (by simp; omega)]
theorem val_take_set {l : List Nat} {k : Nat} (h : k < l.length) (u : Nat) : val ((l.set k u).take (k + 1)) = val (l.take k) + 4294967296 ^ k * u := by
  rw [take_set_succ h, val_append]; simp [val, Nat.min_eq_left (Nat.le_of_lt h)]
theorem val_snoc (l : List Nat) (u : Nat) : val (l ++ [u]) = val l + 4294967296 ^ l.length * u := by rw [val_append]; simp [val]
/-- One digit of a sum. -/
theorem carry_step {A X k c s : Nat} (h : A + 4294967296 ^ k * c = X) : A + 4294967296 ^ k * ((c + s) % 4294967296) + 4294967296 ^ (k + 1) * ((c + s) / 4294967296) = X + 4294967296 ^ k * s := by
  rw [Nat.pow_succ, Nat.mul_assoc, Nat.add_assoc, ← Nat.mul_add]
  have e : (c + s) % 4294967296 + 4294967296 * ((c + s) / 4294967296) = c + s := by omega
  rw [e, Nat.mul_add]; omega
theorem no_carry {A B X c n : Nat} (h : A + 4294967296 ^ (n + 1) * c = X + B) (h1 : X < 4294967296 ^ n) (h2 : B < 4294967296 ^ n) : c = 0 := by
  cases c with
  | zero => rfl
  | succ c =>
    rw [Nat.pow_succ, Nat.mul_assoc] at h
    have : 4294967296 ^ n * 2 ≤ 4294967296 ^ n * (4294967296 * (c + 1)) := Nat.mul_le_mul_left _ (by omega)
    omega
theorem mul_step {l2 : List Nat} {i k c x y s V W b2 : Nat} (h : i + k < l2.length) (hv : V + 4294967296 ^ (i + k) * c = W + 4294967296 ^ i * (x * b2)) (hV : val l2 = V)
    (hb : s = b2 + 4294967296 ^ k * y) : val (l2.set (i + k) ((c + (x * y + l2.getD (i + k) 0)) % 4294967296)) + 4294967296 ^ (i + (k + 1)) * ((c + (x * y + l2.getD (i + k) 0)) / 4294967296) = W + 4294967296 ^ i * (x * s) := by
  have h9 := val_set h ((c + (x * y + l2.getD (i + k) 0)) % 4294967296)
  generalize hT : c + (x * y + l2.getD (i + k) 0) = T at *
  generalize val (l2.set (i + k) (T % 4294967296)) = S at *
  have e1 : 4294967296 ^ (i + (k + 1)) = 4294967296 ^ (i + k) * 4294967296 := by rw [← Nat.add_assoc, Nat.pow_succ]
  have e2 : 4294967296 ^ (i + k) = 4294967296 ^ i * 4294967296 ^ k := Nat.pow_add _ _ _
  have e3 : T = T % 4294967296 + 4294967296 * (T / 4294967296) := by omega
  rw [hb, Nat.mul_add x, Nat.mul_add (4294967296 ^ i), ← Nat.add_assoc W, ← hv, e1, Nat.mul_assoc]
  have e4 : 4294967296 ^ i * (x * (4294967296 ^ k * y)) = 4294967296 ^ (i + k) * (x * y) := by
    rw [e2, Nat.mul_assoc, Nat.mul_left_comm x]
  rw [e4]
  generalize 4294967296 ^ (i + k) = Q at *
  have e5 : Q * T = Q * (T % 4294967296) + Q * (4294967296 * (T / 4294967296)) := by rw [← Nat.mul_add, ← e3]
  have e6 : Q * T = Q * c + (Q * (x * y) + Q * l2.getD (i + k) 0) := by rw [← hT, Nat.mul_add, Nat.mul_add]
  omega
theorem val_lt_pow {l : List Nat} (hd : D l) {n : Nat} (h : l.length ≤ n) : val l < 4294967296 ^ n := Nat.lt_of_lt_of_le (val_lt hd) (Nat.pow_le_pow_right (by omega) h)
theorem tmod_fix {v n : Int} (hn : 0 < n) : -n < v.tmod n ∧ v.tmod n < n ∧ (v.tmod n < 0 → v.tmod n + n = v % n) ∧ (¬ v.tmod n < 0 → v.tmod n = v % n) := by
  have h1 := Int.emod_nonneg v (show n ≠ 0 by omega)
  have h2 := Int.emod_lt_of_pos v hn
  rw [tmod_eq_if]
  split
  · exact ⟨by omega, by omega, fun h => by omega, fun _ => rfl⟩
  · have h3 := Int.emod_nonneg (-v) (show n ≠ 0 by omega)
    have h4 := Int.emod_lt_of_pos (-v) hn
    have h5 : (-v) % n = 0 ∧ v % n = 0 ∨ 0 < (-v) % n ∧ v % n = n - (-v) % n := by
      by_cases hz : (-v) % n = 0
      · left
        refine ⟨hz, ?_⟩
        have hdv : n ∣ -v := Int.dvd_of_emod_eq_zero hz
        exact Int.emod_eq_zero_of_dvd ((Int.dvd_neg).1 hdv)
      · right
        refine ⟨by omega, ?_⟩
        have e : v = (n - (-v) % n) + n * (-((-v) / n) - 1) := by
          have := Int.emod_add_mul_ediv (-v) n
          rw [Int.mul_sub, Int.mul_neg]; omega
        have e2 : v % n = (n - (-v) % n) % n := by
          conv => lhs; rw [e]
          rw [Int.add_mul_emod_self_left]
        rw [e2]
        exact Int.emod_eq_of_lt (by omega) (by omega)
    rcases h5 with ⟨h6, h7⟩ | ⟨h6, h7⟩
    · exact ⟨by omega, by omega, fun h => by omega, fun _ => by omega⟩
    · exact ⟨by omega, by omega, fun _ => by omega, fun h => by omega⟩

theorem dig_len_of_lt {n k : Nat} (h : n < 4294967296 ^ k) : (dig n).length ≤ k := by
  induction k generalizing n with
  | zero => simp at h; subst h; simp [dig_zero]
  | succ k ih =>
    by_cases h0 : n = 0
    · subst h0; simp [dig_zero]
    · rw [dig_pos h0, List.length_cons]
      have := ih (n := n / 4294967296) (by rw [Nat.pow_succ] at h; exact Nat.div_lt_of_lt_mul (by omega))
      omega
theorem lt_of_dig_len {n k : Nat} (h : (dig n).length ≤ k) : n < 4294967296 ^ k := by
  have h1 := val_lt (D_dig n)
  rw [val_dig] at h1
  exact Nat.lt_of_lt_of_le h1 (Nat.pow_le_pow_right (by omega) h)
theorem dig_len_mono {m n : Nat} (h : m ≤ n) : (dig m).length ≤ (dig n).length := dig_len_of_lt (Nat.lt_of_le_of_lt h (lt_of_dig_len (Nat.le_refl _)))
theorem dig_len_add (m n : Nat) : (dig (m + n)).length ≤ max (dig m).length (dig n).length + 1 := by
  apply dig_len_of_lt
  have h1 := lt_of_dig_len (n := m) (k := max (dig m).length (dig n).length) (by omega)
  have h2 := lt_of_dig_len (n := n) (k := max (dig m).length (dig n).length) (by omega)
  rw [Nat.pow_succ]; omega
theorem dig_len_mul (m n : Nat) : (dig (m * n)).length ≤ (dig m).length + (dig n).length := by
  apply dig_len_of_lt
  rw [Nat.pow_add]
  exact Nat.mul_lt_mul'' (lt_of_dig_len (Nat.le_refl _)) (lt_of_dig_len (Nat.le_refl _))
theorem dig_inj {m n : Nat} (h : dig m = dig n) : m = n := by rw [← val_dig m, ← val_dig n, h]
theorem dig_eq {n : Nat} {l : List Nat} (hd : D l) (hc : Can l) (h : val l = n) : dig n = l := by rw [← h, dig_val hd hc]
theorem dig_one : dig 1 = [1] := by rw [dig_pos (by decide)]; simp [dig_zero]

/-! ### Binary digits -/
/-- How many binary digits. -/
def bl (n : Nat) : Nat := if n = 0 then 0 else Nat.log2 n + 1
theorem bl_zero : bl 0 = 0 := rfl
theorem bl_eq {n b : Nat} (h1 : 2 ^ b ≤ n) (h2 : n < 2 ^ (b + 1)) : bl n = b + 1 := by
  have h0 : n ≠ 0 := by have := Nat.two_pow_pos b; omega
  unfold bl
  rw [if_neg h0]
  have h3 := (Nat.le_log2 h0).2 h1
  have h4 := (Nat.log2_lt h0).2 h2
  omega
theorem bl_spec {n : Nat} (h0 : n ≠ 0) : 2 ^ (bl n - 1) ≤ n ∧ n < 2 ^ (bl n) ∧ 0 < bl n := by
  unfold bl
  rw [if_neg h0]
  exact ⟨by simpa using Nat.log2_self_le h0, Nat.lt_log2_self, by omega⟩
theorem bl_le {n k : Nat} (h : n < 2 ^ k) : bl n ≤ k := by
  unfold bl
  split
  · omega
  · rename_i h0; have := (Nat.log2_lt h0).2 h; omega
theorem lt_of_bl {n k : Nat} (h : bl n ≤ k) : n < 2 ^ k := by
  by_cases h0 : n = 0
  · subst h0; exact Nat.two_pow_pos k
  · have h1 := (bl_spec h0).2.1
    exact Nat.lt_of_lt_of_le h1 (Nat.pow_le_pow_right (by omega) h)
theorem bl_pos {n : Nat} (h0 : n ≠ 0) : 0 < bl n := (bl_spec h0).2.2
theorem bl_shift {x s : Nat} (h : 2 ^ s ≤ x) : bl x = s + bl (x / 2 ^ s) := by
  have hp := Nat.two_pow_pos s
  have hq : x / 2 ^ s ≠ 0 := by
    have := (Nat.le_div_iff_mul_le hp (x := 1) (y := x)).2 (by omega)
    omega
  obtain ⟨h1, h2, h3⟩ := bl_spec hq
  have e : bl x = (s + bl (x / 2 ^ s) - 1) + 1 := by
    refine bl_eq ?_ ?_
    · have e1 : s + bl (x / 2 ^ s) - 1 = (bl (x / 2 ^ s) - 1) + s := by omega
      rw [e1, Nat.pow_add]
      exact (Nat.le_div_iff_mul_le hp).1 h1
    · have e1 : s + bl (x / 2 ^ s) - 1 + 1 = bl (x / 2 ^ s) + s := by omega
      rw [e1, Nat.pow_add]
      exact (Nat.div_lt_iff_lt_mul hp).1 h2
  omega
theorem B_two (m : Nat) : 4294967296 ^ m = 2 ^ (32 * m) := by rw [Nat.pow_mul]
theorem bl_top {A t m : Nat} (hA : A < 4294967296 ^ m) (ht : t ≠ 0) : bl (A + 4294967296 ^ m * t) = 32 * m + bl t := by
  obtain ⟨h1, h2, h3⟩ := bl_spec ht
  rw [B_two] at *
  have e : bl (A + 2 ^ (32 * m) * t) = (32 * m + bl t - 1) + 1 := by
    refine bl_eq ?_ ?_
    · have e1 : 32 * m + bl t - 1 = 32 * m + (bl t - 1) := by omega
      rw [e1, Nat.pow_add]
      have := Nat.mul_le_mul_left (2 ^ (32 * m)) h1
      omega
    · have e1 : 32 * m + bl t - 1 + 1 = 32 * m + bl t := by omega
      rw [e1, Nat.pow_add]
      have h4 : 2 ^ (32 * m) * (t + 1) ≤ 2 ^ (32 * m) * 2 ^ bl t := Nat.mul_le_mul_left _ (by omega)
      rw [Nat.mul_add, Nat.mul_one] at h4
      omega
  omega
theorem getD_take {l : List Nat} {k i : Nat} (h : i < k) : (l.take k).getD i 0 = l.getD i 0 := by
  simp [List.getD_eq_getElem?_getD, List.getElem?_take, h]
theorem top_ne_zero {l : List Nat} (hd : D l) (h : sz l ≠ 0) : l.getD (sz l - 1) 0 ≠ 0 := by
  have h1 := val_take_sz hd
  have hle := sz_le hd
  have h2 : (dig (val l)).getD (sz l - 1) 0 = l.getD (sz l - 1) 0 := by rw [← h1, getD_take (by omega)]
  rw [← h2]
  have hc := Can_dig (val l)
  have hl : (dig (val l)).length = sz l := rfl
  unfold Can at hc
  rw [List.getLast?_eq_getElem?] at hc
  rw [List.getD_eq_getElem?_getD]
  intro h0
  rw [hl] at hc
  have hlt : sz l - 1 < (dig (val l)).length := by omega
  rw [List.getElem?_eq_getElem hlt] at hc h0
  simp at h0 hc
  exact hc h0
theorem val_sz {l : List Nat} (hd : D l) : val l = val (l.take (sz l)) := by rw [val_take_sz hd, val_dig]
theorem bl_val {l : List Nat} (hd : D l) (h : sz l ≠ 0) : bl (val l) = 32 * (sz l - 1) + bl (l.getD (sz l - 1) 0) := by
  have h1 := val_sz hd
  have h2 := val_take_succ' l (sz l - 1)
  rw [show sz l - 1 + 1 = sz l from by omega] at h2
  rw [h1, h2]
  exact bl_top (val_take_lt hd _) (top_ne_zero hd h)
theorem sz_zero {l : List Nat} (hd : D l) (h : sz l = 0) : val l = 0 := by rw [val_sz hd, h]; simp [val]
theorem sz_dig (n : Nat) : sz (dig n) = (dig n).length := by unfold sz; rw [val_dig]
theorem dig_nil {n : Nat} (h : dig n = []) : n = 0 := by rw [← val_dig n, h]; rfl
theorem dig_len_zero {n : Nat} : (dig n).length = 0 ↔ n = 0 := ⟨fun h => dig_nil (List.eq_nil_of_length_eq_zero h), fun h => by subst h; simp [dig_zero]⟩

theorem dig_len_pow {l : List Nat} (hd : D l) (e : Nat) : (dig (val l ^ e)).length ≤ l.length * e + 1 := by
  induction e with
  | zero => simp [dig_one]
  | succ e ih =>
    by_cases h : l.length = 0
    · have : l = [] := List.eq_nil_of_length_eq_zero h
      subst this; simp [val, dig_zero]
    · have h1 : val l ^ (e + 1) < 4294967296 ^ (l.length * (e + 1)) := by
        rw [Nat.pow_mul]
        exact Nat.pow_lt_pow_left (val_lt hd) (by omega)
      exact Nat.le_succ_of_le (dig_len_of_lt h1)
theorem dig_len_pow64 {l : List Nat} (hd : D l) (hl : l.length ≤ 100000) {e : Nat} (he : e ≤ 64) : (dig (val l ^ e)).length ≤ 7000000 := by
  have h1 := dig_len_pow hd e
  have h2 : l.length * e ≤ 100000 * 64 := Nat.mul_le_mul hl he
  omega
theorem shrI {b : Int} {n m : Nat} (hb : b = (m : Int)) (hm : m ≤ 64) : ((n : Int)).fdiv (2 ^ (min b.toNat IntKind.i64.bits)) = ((n / 2 ^ m : Nat) : Int) := by
  subst hb
  have : (min (Int.toNat (m : Int)) IntKind.i64.bits) = m := by simp only [Int.toNat_natCast, IntKind.bits]; omega
  rw [this, Int.fdiv_eq_ediv_of_nonneg _ (Int.le_of_lt (Int.pow_pos (by decide)))]
  rw [Int.natCast_ediv, Int.natCast_pow]; rfl
theorem and1 {x : Nat} (hx : x < 9223372036854775808) : IntKind.i64.wrap ((BitVec.ofInt IntKind.i64.bits (x : Int) &&& BitVec.ofInt IntKind.i64.bits 1).toNat : Int) = ((x % 2 : Nat) : Int) := by
  have e : (BitVec.ofInt IntKind.i64.bits (x : Int) &&& BitVec.ofInt IntKind.i64.bits 1).toNat = x % 2 := by
    change (BitVec.ofInt 64 (x : Int) &&& BitVec.ofInt 64 1).toNat = x % 2
    rw [BitVec.toNat_and, BitVec.toNat_ofInt, BitVec.toNat_ofInt]
    have h1 : ((x : Int) % (2 ^ 64 : Nat)).toNat = x := by omega
    have h2 : ((1 : Int) % (2 ^ 64 : Nat)).toNat = 1 := by decide
    rw [h1, h2, Nat.and_one_is_mod]
  rw [e, wrap_i64_id (by omega) (by omega)]
theorem half_step (n k : Nat) (hk : 0 < k) : n / 2 ^ (k - 1) = 2 * (n / 2 ^ k) + n / 2 ^ (k - 1) % 2 := by
  have e : 2 ^ k = 2 ^ (k - 1) * 2 := by rw [← Nat.pow_succ]; congr 1; omega
  rw [e, ← Nat.div_div_eq_div_mul]; omega
theorem wrap_u8_id {x : Int} (h0 : 0 ≤ x) (h1 : x < 256) : IntKind.u8.wrap x = x := by rw [wrap_u8]; omega
theorem shrU32 {n m : Nat} (hm : m ≤ 32) : ((n : Int)).fdiv (2 ^ (min (Int.toNat (m : Int)) IntKind.u32.bits)) = ((n / 2 ^ m : Nat) : Int) := by
  have : (min (Int.toNat (m : Int)) IntKind.u32.bits) = m := by simp only [Int.toNat_natCast, IntKind.bits]; omega
  rw [this, Int.fdiv_eq_ediv_of_nonneg _ (Int.le_of_lt (Int.pow_pos (by decide)))]
  rw [Int.natCast_ediv, Int.natCast_pow]; rfl
theorem bl_mul_zero {a b : Nat} (h : a = 0 ∨ b = 0) : bl (a * b) = 0 := by rcases h with h | h <;> subst h <;> simp [bl]
theorem bl_mul (a b : Nat) (ha : a ≠ 0) (hb : b ≠ 0) : bl (a * b) = bl a + bl b ∨ bl (a * b) = bl a + bl b - 1 := by
  obtain ⟨a1, a2, a3⟩ := bl_spec ha
  obtain ⟨b1, b2, b3⟩ := bl_spec hb
  have h1 : 2 ^ (bl a - 1 + (bl b - 1)) ≤ a * b := by rw [Nat.pow_add]; exact Nat.mul_le_mul a1 b1
  have h2 : a * b < 2 ^ (bl a + bl b) := by rw [Nat.pow_add]; exact Nat.mul_lt_mul'' a2 b2
  have h3 := bl_le h2
  have h4 : bl a - 1 + (bl b - 1) < bl (a * b) := by
    rcases Nat.lt_or_ge (bl a - 1 + (bl b - 1)) (bl (a * b)) with h | h
    · exact h
    · have := lt_of_bl h; omega
  omega
theorem bl_dig (n : Nat) : bl n ≤ 32 * (dig n).length := by
  have h := lt_of_dig_len (n := n) (Nat.le_refl _)
  rw [B_two] at h
  exact bl_le h
def tabOK (s : ByteArray) : Bool := (List.range 256).all fun j => s.data[j]? == some (UInt8.ofNat (bl j))
theorem tab_at {s : ByteArray} (h : tabOK s = true) {j : Nat} (hj : j < 256) : s[j]? = some (UInt8.ofNat (bl j)) := by
  have h1 := List.all_eq_true.1 h j (by simpa using hj)
  have h2 : s.data[j]? = some (UInt8.ofNat (bl j)) := by simpa using h1
  rw [← h2]; rfl
theorem bl_byte {j : Nat} (hj : j < 256) : (UInt8.ofNat (bl j)).toNat = bl j := by
  have : bl j ≤ 8 := bl_le (by simpa using hj)
  rw [UInt8.toNat_ofNat']; omega
end Go.Proofs.Ytoccimigjjndpaa
