/-
  Plain laws of dyadic numbers: pairs of a mantissa and an exponent. No program.
-/
import Derived.Test.YtnfnadhbjdcbnaaDoorS2
import Derived.Test.YtnfnadhbjdcbnaaDoorDops
set_option linter.unusedVariables false
set_option linter.unusedSimpArgs false
namespace Go.Proofs.YtnfnadhbjdcbnaaDoor
open Go Go.RowKit

theorem tz_split (n : Nat) (h : n ≠ 0) : n / 2 ^ tz n % 2 = 1 ∧ n / 2 ^ tz n * 2 ^ tz n = n := by
  obtain ⟨q, hq⟩ := tz_spec n h
  have hp : 0 < 2 ^ tz n := Nat.two_pow_pos _
  have h1 : n / 2 ^ tz n = 2 * q + 1 := by
    conv => lhs; arg 1; rw [hq]
    exact Nat.mul_div_cancel_left _ hp
  rw [h1]
  exact ⟨by omega, by rw [Nat.mul_comm]; exact hq.symm⟩
theorem tz_mul (n k : Nat) (h : n ≠ 0) : tz (n * 2 ^ k) = tz n + k := by
  obtain ⟨q, hq⟩ := tz_spec n h
  refine tz_unique (q := q) ?_
  conv => lhs; rw [hq]
  rw [Nat.pow_add, Nat.mul_right_comm]
theorem tz_odd {n : Nat} (h : n % 2 = 1) : tz n = 0 := by
  rw [tz, dif_neg (by omega), if_pos h]
theorem tz_zero : tz 0 = 0 := by rw [tz]; simp
theorem mk_mul (b : Bool) (n k : Nat) : mk b n * (k : Int) = mk b (n * k) := by
  unfold mk; cases b <;> simp [Int.neg_mul]
theorem mk_zero (b : Bool) : mk b 0 = 0 := by unfold mk; cases b <;> rfl
theorem two_cast (k : Nat) : ((2 ^ k : Nat) : Int) = (2 : Int) ^ k := by simp
theorem ipow_pos (k : Nat) : (0 : Int) < 2 ^ k := Int.pow_pos (by decide)
theorem mul_two_abs (x : Int) (k : Nat) : (x * 2 ^ k).natAbs = x.natAbs * 2 ^ k := by rw [Int.natAbs_mul, Int.natAbs_pow]; rfl
theorem mul_two_neg (x : Int) (k : Nat) : decide (x * 2 ^ k < 0) = decide (x < 0) := by
  apply decide_eq_decide.2
  have hp := ipow_pos k
  constructor
  · intro h
    rcases Int.lt_or_le x 0 with h1 | h1
    · exact h1
    · have := Int.mul_nonneg h1 (Int.le_of_lt hp); omega
  · intro h
    exact Int.mul_neg_of_neg_of_pos h hp
theorem mul_two_zero {x : Int} {k : Nat} : x * 2 ^ k = 0 ↔ x = 0 := by
  have hp := ipow_pos k
  constructor
  · intro h
    rcases Int.mul_eq_zero.1 h with h1 | h1
    · exact h1
    · omega
  · intro h; rw [h, Int.zero_mul]
/-- The odd part, with its sign. -/
def odn (x : Int) : Int := mk (decide (x < 0)) (x.natAbs / 2 ^ tz x.natAbs)
theorem odn_zero : odn 0 = 0 := by unfold odn; simp [mk]
theorem odn_abs (x : Int) : (odn x).natAbs = x.natAbs / 2 ^ tz x.natAbs := mk_abs _ _
theorem odn_spec (x : Int) : odn x * 2 ^ tz x.natAbs = x := by
  by_cases h : x = 0
  · subst h; rw [odn_zero, Int.zero_mul]
  · have h1 := (tz_split x.natAbs (by omega)).2
    unfold odn
    rw [← two_cast, mk_mul, h1, mk_self]
theorem odn_odd' {x : Int} (h : x ≠ 0) : (odn x).natAbs % 2 = 1 := by
  rw [odn_abs]; exact (tz_split x.natAbs (by omega)).1
theorem odn_ne {x : Int} (h : x ≠ 0) : odn x ≠ 0 := by
  intro e
  have := odn_odd' h
  rw [e] at this; simp at this
theorem odn_eq_zero {x : Int} : odn x = 0 ↔ x = 0 := ⟨fun h => by
  by_cases h1 : x = 0
  · exact h1
  · exact absurd h (odn_ne h1), fun h => by rw [h, odn_zero]⟩
theorem odn_sign (x : Int) : decide (odn x < 0) = decide (x < 0) := by
  by_cases h : x = 0
  · subst h; rw [odn_zero]
  · unfold odn
    have h1 := tz_split x.natAbs (by omega)
    rw [mk_neg, decide_eq_true (show x.natAbs / 2 ^ tz x.natAbs ≠ 0 by intro e; rw [e] at h1; simp at h1), Bool.and_true]
theorem odn_of_odd {x : Int} (h : x.natAbs % 2 = 1) : odn x = x := by
  unfold odn; rw [tz_odd h, Nat.pow_zero, Nat.div_one, mk_self]
theorem tz_shl {x : Int} (h : x ≠ 0) (k : Nat) : tz (x * 2 ^ k).natAbs = tz x.natAbs + k := by rw [mul_two_abs, tz_mul _ _ (by omega)]
theorem odn_shl (x : Int) (k : Nat) : odn (x * 2 ^ k) = odn x := by
  by_cases h : x = 0
  · subst h; rw [Int.zero_mul]
  · unfold odn
    rw [mul_two_neg, tz_shl h, mul_two_abs, Nat.pow_add, Nat.mul_div_mul_right _ _ (Nat.two_pow_pos k)]
/-- Which pairs are dyadics. -/
def dval (z k : Int) : Bool := if z = 0 then decide (k = 0) else decide (bl z.natAbs ≤ 65536 ∧ -65536 ≤ k ∧ k ≤ 65536 ∧ z.natAbs % 2 = 1)
/-- What making one answers, and which one it is. -/
def dcode (x e : Int) : Int := if e < -131072 ∨ 131072 < e then 1 else if x = 0 then 0 else if dval (odn x) (e + (tz x.natAbs : Nat)) = true then 0 else 3
def dman (x e : Int) : Int := if dcode x e = 0 then odn x else 0
def dexp (x e : Int) : Int := if dcode x e = 0 then (if x = 0 then 0 else e + (tz x.natAbs : Nat)) else 0
theorem dcode_cases (x e : Int) : dcode x e = 0 ∨ dcode x e = 1 ∨ dcode x e = 3 := by
  unfold dcode; split
  · exact .inr (.inl rfl)
  · split
    · exact .inl rfl
    · split
      · exact .inl rfl
      · exact .inr (.inr rfl)
theorem dman_bad {x e : Int} (h : dcode x e ≠ 0) : dman x e = 0 ∧ dexp x e = 0 := by unfold dman dexp; rw [if_neg h, if_neg h]; exact ⟨rfl, rfl⟩
theorem dman_ok {x e : Int} (h : dcode x e = 0) : dman x e = odn x ∧ dexp x e = if x = 0 then 0 else e + (tz x.natAbs : Nat) := by unfold dman dexp; rw [if_pos h, if_pos h]; exact ⟨rfl, rfl⟩
theorem dval_zero : dval 0 0 = true := rfl
theorem dval_dman (x e : Int) : dval (dman x e) (dexp x e) = true := by
  by_cases h : dcode x e = 0
  · obtain ⟨h1, h2⟩ := dman_ok h
    rw [h1, h2]
    by_cases h0 : x = 0
    · rw [if_pos h0, h0, odn_zero]; rfl
    · rw [if_neg h0]
      unfold dcode at h
      split at h
      · cases h
      · try rw [if_neg h0] at h
        split at h
        · assumption
        · cases h
  · obtain ⟨h1, h2⟩ := dman_bad h
    rw [h1, h2]; rfl
theorem dval_range {z k : Int} (h : dval z k = true) : -65536 ≤ k ∧ k ≤ 65536 := by
  unfold dval at h
  split at h
  · have := of_decide_eq_true h; omega
  · have := of_decide_eq_true h; omega
theorem dval_exp0 {k : Int} (h : dval 0 k = true) : k = 0 := by unfold dval at h; rw [if_pos rfl] at h; exact of_decide_eq_true h
theorem dval_odd {z k : Int} (h : dval z k = true) (h0 : z ≠ 0) : z.natAbs % 2 = 1 := by
  unfold dval at h; rw [if_neg h0] at h; exact (of_decide_eq_true h).2.2.2
theorem dval_len {z k : Int} (h : dval z k = true) : (dig z.natAbs).length ≤ 2049 := by
  unfold dval at h
  split at h
  · rename_i h0; subst h0; rw [show dig (0 : Int).natAbs = [] from dig_zero]; simp
  · have h1 := (of_decide_eq_true h).1
    have key : ∀ b m : Nat, bl z.natAbs ≤ b → b = 32 * m → (dig z.natAbs).length ≤ m := fun b m h hb => dig_len_of_lt (by rw [B_two, ← hb]; exact lt_of_bl h)
    exact Nat.le_trans (key 65536 2048 h1 (by decide)) (by decide)
theorem dval_made {x e : Int} (h : dval x e = true) : dcode x e = 0 ∧ dman x e = x ∧ dexp x e = e := by
  have hr := dval_range h
  by_cases h0 : x = 0
  · subst h0
    have he := dval_exp0 h
    have hc : dcode 0 e = 0 := by unfold dcode; rw [if_neg (by omega), if_pos rfl]
    obtain ⟨h1, h2⟩ := dman_ok hc
    exact ⟨hc, by rw [h1, odn_zero], by rw [h2, if_pos rfl, he]⟩
  · have ho := dval_odd h h0
    have hc : dcode x e = 0 := by unfold dcode; rw [if_neg (by omega), if_neg h0, odn_of_odd ho, tz_odd ho, if_pos (by simpa using h)]
    obtain ⟨h1, h2⟩ := dman_ok hc
    exact ⟨hc, by rw [h1, odn_of_odd ho], by rw [h2, if_neg h0, tz_odd ho]; simp⟩
theorem dcode_shl {x e : Int} {k : Nat} (h1 : -131072 ≤ e) (h2 : e ≤ 131072) (h3 : -131072 ≤ e - k) : dcode (x * 2 ^ k) (e - k) = dcode x e ∧ dman (x * 2 ^ k) (e - k) = dman x e ∧ dexp (x * 2 ^ k) (e - k) = dexp x e := by
  by_cases h0 : x = 0
  · subst h0
    rw [Int.zero_mul]
    have hc : ∀ f : Int, -131072 ≤ f → f ≤ 131072 → dcode 0 f = 0 := fun f a b => by unfold dcode; rw [if_neg (by omega), if_pos rfl]
    have a1 := hc e h1 h2
    have a2 := hc (e - k) h3 (by omega)
    obtain ⟨b1, b2⟩ := dman_ok a1
    obtain ⟨c1, c2⟩ := dman_ok a2
    exact ⟨by rw [a1, a2], by rw [b1, c1], by rw [b2, c2]; simp⟩
  · have h0' : ¬ x * 2 ^ k = 0 := fun e => h0 (mul_two_zero.1 e)
    have hc : dcode (x * 2 ^ k) (e - k) = dcode x e := by
      unfold dcode
      rw [if_neg (show ¬ (e - (k : Int) < -131072 ∨ 131072 < e - (k : Int)) by omega), if_neg (show ¬ (e < -131072 ∨ 131072 < e) by omega), if_neg h0', if_neg h0, odn_shl, tz_shl h0]
      rw [show e - (k : Int) + ((tz x.natAbs + k : Nat) : Int) = e + (tz x.natAbs : Nat) from by omega]
    refine ⟨hc, ?_, ?_⟩
    · unfold dman; rw [hc, odn_shl]
    · unfold dexp; rw [hc, if_neg h0', if_neg h0, tz_shl h0]
      rw [show e - (k : Int) + ((tz x.natAbs + k : Nat) : Int) = e + (tz x.natAbs : Nat) from by omega]
/-! Values on a common scale. -/
def sv (K : Nat) (x e : Int) : Int := x * 2 ^ (e + K).toNat
theorem sv_zero (K : Nat) (e : Int) : sv K 0 e = 0 := Int.zero_mul _
theorem icmp_scale {a b c : Int} (h : 0 < c) : icmp (a * c) (b * c) = icmp a b := by
  have k : ∀ {x y : Int}, x * c < y * c ↔ x < y := fun {x y} => ⟨fun h1 => Int.lt_of_mul_lt_mul_right h1 (Int.le_of_lt h), fun h1 => Int.mul_lt_mul_of_pos_right h1 h⟩
  unfold icmp
  by_cases h1 : a < b
  · rw [if_pos h1, if_pos (k.2 h1)]
  · rw [if_neg h1, if_neg (fun e => h1 (k.1 e))]
    by_cases h2 : b < a
    · rw [if_pos h2, if_pos (k.2 h2)]
    · rw [if_neg h2, if_neg (fun e => h2 (k.1 e))]
theorem sv_le {K : Nat} {x e m : Int} (h1 : -(K : Int) ≤ m) (h2 : m ≤ e) : sv K x e = x * 2 ^ (e - m).toNat * 2 ^ (m + K).toNat := by
  unfold sv
  rw [Int.mul_assoc, ← Int.pow_add]
  congr 2
  omega
/-- The order of two dyadics. -/
def dcmp (x e y f : Int) : Int := icmp (x * 2 ^ (e - min e f).toNat) (y * 2 ^ (f - min e f).toNat)
theorem sv_dcmp {K : Nat} {x e y f : Int} (h1 : -(K : Int) ≤ e) (h2 : -(K : Int) ≤ f) : dcmp x e y f = icmp (sv K x e) (sv K y f) := by
  rw [sv_le (m := min e f) (by omega) (by omega), sv_le (e := f) (m := min e f) (by omega) (by omega), icmp_scale (ipow_pos _)]
  rfl
theorem sv_add {K : Nat} {x e y f : Int} (h1 : -(K : Int) ≤ e) (h2 : -(K : Int) ≤ f) : sv K (x * 2 ^ (e - min e f).toNat + y * 2 ^ (f - min e f).toNat) (min e f) = sv K x e + sv K y f := by
  rw [sv_le (e := e) (m := min e f) (by omega) (by omega), sv_le (e := f) (m := min e f) (by omega) (by omega), ← Int.add_mul]
  rfl
theorem sv_made {K : Nat} {x e : Int} (hc : dcode x e = 0) (h : -(K : Int) ≤ e) : sv K (dman x e) (dexp x e) = sv K x e := by
  obtain ⟨h1, h2⟩ := dman_ok hc
  rw [h1, h2]
  by_cases h0 : x = 0
  · rw [h0, odn_zero, sv_zero, sv_zero]
  · rw [if_neg h0]
    have h3 := odn_spec x
    unfold sv
    conv => rhs; rw [← h3]
    rw [Int.mul_assoc, ← Int.pow_add]
    congr 2
    omega
theorem sv_neg (K : Nat) (x e : Int) : sv K (-x) e = -sv K x e := Int.neg_mul _ _
theorem icmp_pos {a b : Int} : icmp a b ≤ 0 ↔ a ≤ b := by unfold icmp; split <;> (try split) <;> omega
theorem icmp_gt {a b : Int} : 0 < icmp a b ↔ b < a := by unfold icmp; split <;> (try split) <;> omega
theorem icmp_lt {a b : Int} : icmp a b < 0 ↔ a < b := by unfold icmp; split <;> (try split) <;> omega
theorem icmp_ge {a b : Int} : 0 ≤ icmp a b ↔ b ≤ a := by unfold icmp; split <;> (try split) <;> omega
theorem icmp_zero {a b : Int} : icmp a b = 0 ↔ a = b := by unfold icmp; split <;> (try split) <;> omega
/-- A dyadic as a fraction. -/
def rnum (x e : Int) : Int := if 0 ≤ e then x * 2 ^ e.toNat else x
def rden (e : Int) : Nat := if 0 ≤ e then 1 else 2 ^ (-e).toNat
theorem rden_pos (e : Int) : 0 < rden e := by unfold rden; split <;> first | decide | exact Nat.two_pow_pos _
theorem sv_rat {K : Nat} {x e : Int} (h : -(K : Int) ≤ e) : rnum x e * 2 ^ K = sv K x e * (rden e : Nat) := by
  unfold rnum rden sv
  by_cases h0 : 0 ≤ e
  · rw [if_pos h0, if_pos h0, Int.mul_assoc, ← Int.pow_add]
    rw [show (e + (K : Int)).toNat = e.toNat + K from by omega]; simp
  · rw [if_neg h0, if_neg h0, two_cast, Int.mul_assoc, ← Int.pow_add]
    rw [show (e + (K : Int)).toNat + (-e).toNat = K from by omega]
/-- Comparing a dyadic with a fraction. -/
theorem rat_le {K : Nat} {x e p : Int} {q : Nat} (h : -(K : Int) ≤ e) : icmp (rnum x e * (q : Int)) (p * (rden e : Nat)) = icmp (sv K x e * q) (p * 2 ^ K) := by
  have h1 := sv_rat (x := x) h
  have hd : (0 : Int) < (rden e : Nat) := by have := rden_pos e; omega
  rw [← icmp_scale (a := rnum x e * (q : Int)) (ipow_pos K), ← icmp_scale (a := sv K x e * (q : Int)) hd]
  congr 1
  · rw [Int.mul_right_comm, h1]; exact Int.mul_right_comm _ _ _
  · exact Int.mul_right_comm _ _ _
theorem rat_dcmp {K : Nat} {x e y f : Int} (h1 : -(K : Int) ≤ e) (h2 : -(K : Int) ≤ f) : icmp (rnum x e * (rden f : Nat)) (rnum y f * (rden e : Nat)) = icmp (sv K x e) (sv K y f) := by
  rw [rat_le h1, sv_rat h2]
  exact icmp_scale (by have := rden_pos f; omega)
theorem dval_same {K : Nat} {x e y f : Int} (hx : dval x e = true) (hy : dval y f = true) (h1 : -(K : Int) ≤ e) (h2 : -(K : Int) ≤ f) (h : sv K x e = sv K y f) : x = y ∧ e = f := by
  have hp := fun k => ipow_pos k
  by_cases h0 : x = 0
  · subst h0
    rw [sv_zero] at h
    have hy0 : y = 0 := mul_two_zero.1 h.symm
    subst hy0
    exact ⟨rfl, by rw [dval_exp0 hx, dval_exp0 hy]⟩
  · have hy0 : y ≠ 0 := by
      intro e'; subst e'; rw [sv_zero] at h; exact h0 (mul_two_zero.1 h)
    have o1 := odn_of_odd (dval_odd hx h0)
    have o2 := odn_of_odd (dval_odd hy hy0)
    have t1 : tz (sv K x e).natAbs = (e + K).toNat := by unfold sv; rw [tz_shl h0, tz_odd (dval_odd hx h0)]; omega
    have t2 : tz (sv K y f).natAbs = (f + K).toNat := by unfold sv; rw [tz_shl hy0, tz_odd (dval_odd hy hy0)]; omega
    have u1 : odn (sv K x e) = x := by unfold sv; rw [odn_shl, o1]
    have u2 : odn (sv K y f) = y := by unfold sv; rw [odn_shl, o2]
    refine ⟨by rw [← u1, ← u2, h], ?_⟩
    rw [h, t2] at t1
    omega
end Go.Proofs.YtnfnadhbjdcbnaaDoor
