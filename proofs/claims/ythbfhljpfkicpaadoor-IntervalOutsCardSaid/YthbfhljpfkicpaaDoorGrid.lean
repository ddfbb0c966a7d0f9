/-
  Rounding to multiples of a power of two: plain laws. No program.
-/
import Derived.Test.YthbfhljpfkicpaaDoorDy
import Derived.Test.YthbfhljpfkicpaaDoorL3
set_option linter.unusedVariables false
set_option linter.unusedSimpArgs false
namespace Go.Proofs.YthbfhljpfkicpaaDoor
open Go Go.RowKit

theorem ipow_add (a b : Nat) : (2 : Int) ^ (a + b) = 2 ^ a * 2 ^ b := Int.pow_add ..
/-- x * 2^n, rounded down. -/
def scl (x n : Int) : Int := if n < 0 then x / 2 ^ (-n).toNat else x * 2 ^ n.toNat
theorem scl_zero (n : Int) : scl 0 n = 0 := by unfold scl; split <;> simp
theorem scl_pos {x n : Int} (h : 0 ≤ n) : scl x n = x * 2 ^ n.toNat := by unfold scl; rw [if_neg (by omega)]
theorem scl_neg {x n : Int} (h : n ≤ 0) : scl x n = x / 2 ^ (-n).toNat := by
  by_cases h0 : n = 0
  · subst h0; rw [scl_pos (by omega)]; simp
  · unfold scl; rw [if_pos (by omega)]
theorem scl_shl (x : Int) {e p : Int} (he : 0 ≤ e) : scl (x * 2 ^ e.toNat) p = scl x (e + p) := by
  rcases Int.le_total 0 p with hp | hp
  · rw [scl_pos hp, scl_pos (by omega), Int.mul_assoc, ← ipow_add]; congr 2; omega
  · rw [scl_neg hp]
    rcases Int.le_total 0 (e + p) with hs | hs
    · rw [scl_pos hs, show e.toNat = (e + p).toNat + (-p).toNat from by omega, ipow_add, ← Int.mul_assoc]
      exact Int.mul_ediv_cancel _ (by have := ipow_pos (-p).toNat; omega)
    · rw [scl_neg hs, show (-p).toNat = (-(e + p)).toNat + e.toNat from by omega, ipow_add]
      exact Int.mul_ediv_mul_of_pos_left _ _ (ipow_pos _)
/-- Rounding down in two steps. -/
theorem scl_shr (x : Int) {a b : Int} (ha : a ≤ 0) (hb : b ≤ 0) : scl (scl x a) b = scl x (a + b) := by
  rw [scl_neg ha, scl_neg hb, scl_neg (by omega), show (-(a + b)).toNat = (-a).toNat + (-b).toNat from by omega, ipow_add]
  have hp := ipow_pos (-a).toNat
  rw [Int.ediv_ediv, if_neg (by omega), Int.sub_zero]
/-- The bounds that say which number it is. -/
theorem scl_spec {K : Nat} {x n : Int} (h : -(K : Int) ≤ n) : scl x n * 2 ^ K ≤ x * 2 ^ (n + K).toNat ∧ x * 2 ^ (n + K).toNat < (scl x n + 1) * 2 ^ K := by
  rcases Int.le_total 0 n with hn | hn
  · rw [scl_pos hn, show (n + (K : Int)).toNat = n.toNat + K from by omega, ipow_add, ← Int.mul_assoc]
    refine ⟨Int.le_refl _, ?_⟩
    rw [Int.add_mul, Int.one_mul]
    have := ipow_pos K
    omega
  · rw [scl_neg hn]
    have hp := ipow_pos (-n).toNat
    have h1 := Int.ediv_mul_le x (show (2 : Int) ^ (-n).toNat ≠ 0 by omega)
    have h2 := Int.lt_ediv_add_one_mul_self x hp
    rw [show K = (-n).toNat + (n + (K : Int)).toNat from by omega, ipow_add, ← Int.mul_assoc, ← Int.mul_assoc]
    have hq := ipow_pos (n + (((-n).toNat + (n + (K : Int)).toNat : Nat) : Int)).toNat
    rw [show (n + (((-n).toNat + (n + (K : Int)).toNat : Nat) : Int)).toNat = (n + (K : Int)).toNat from by omega] at *
    exact ⟨Int.mul_le_mul_of_nonneg_right h1 (Int.le_of_lt hq), Int.mul_lt_mul_of_pos_right h2 hq⟩
/-- Which precisions are permitted. -/
def perm (p : Int) : Prop := -2048 ≤ p ∧ p ≤ 8192
instance (p : Int) : Decidable (perm p) := inferInstanceAs (Decidable (_ ∧ _))
/-- On the grid. -/
def ongrid (x e p : Int) : Prop := perm p ∧ (x = 0 ∨ -p ≤ e)
instance (x e p : Int) : Decidable (ongrid x e p) := inferInstanceAs (Decidable (_ ∧ _))
theorem dcode0 {e : Int} (h1 : -131072 ≤ e) (h2 : e ≤ 131072) : dcode 0 e = 0 ∧ dman 0 e = 0 ∧ dexp 0 e = 0 := by
  have hc : dcode 0 e = 0 := by unfold dcode; rw [if_neg (by omega), if_pos rfl]
  obtain ⟨k1, k2⟩ := dman_ok hc
  exact ⟨hc, by rw [k1, odn_zero], by rw [k2, if_pos rfl]⟩
/-- A number on the grid, scaled, is the number. -/
theorem scl_on {x e p : Int} (hv : dval x e = true) (ho : ongrid x e p) : dcode (scl x (e + p)) (-p) = dcode x e ∧ dman (scl x (e + p)) (-p) = dman x e ∧ dexp (scl x (e + p)) (-p) = dexp x e := by
  obtain ⟨⟨hp1, hp2⟩, h⟩ := ho
  have hr := dval_range hv
  by_cases h0 : x = 0
  · subst h0
    have a := dcode0 (e := -p) (by omega) (by omega)
    have b := dcode0 (e := e) (by omega) (by omega)
    rw [scl_zero, a.1, a.2.1, a.2.2, b.1, b.2.1, b.2.2]; exact ⟨rfl, rfl, rfl⟩
  · have he : -p ≤ e := by rcases h with h | h; exact absurd h h0; exact h
    rw [scl_pos (by omega)]
    have := dcode_shl (x := x) (e := e) (k := (e + p).toNat) (by omega) (by omega) (by omega)
    rw [show e - ((e + p).toNat : Int) = -p from by omega] at this
    exact this
theorem half_two (z : Int) : (z * 2 + 1) / 2 = z := by omega
/-- The nearest multiple, halves up. -/
def ner (x n : Int) : Int := (scl x (n + 1) + 1) / 2
theorem ner_pos {x n : Int} (h : 0 ≤ n) : ner x n = scl x n := by
  unfold ner
  rw [scl_pos (by omega), scl_pos h, show (n + 1).toNat = n.toNat + 1 from by omega, ipow_add, ← Int.mul_assoc]
  exact half_two _
theorem ner_on {x e p : Int} (hv : dval x e = true) (ho : ongrid x e p) : dcode (ner x (e + p)) (-p) = dcode x e ∧ dman (ner x (e + p)) (-p) = dman x e ∧ dexp (ner x (e + p)) (-p) = dexp x e := by
  have h := scl_on hv ho
  have hn : ner x (e + p) = scl x (e + p) := by
    rcases ho.2 with h0 | h0
    · subst h0; unfold ner; rw [scl_zero, scl_zero]; rfl
    · exact ner_pos (by omega)
  rw [hn]; exact h
/-- The opposite of a dyadic. -/
theorem bl_odn_neg (x : Int) : (odn (-x)).natAbs = (odn x).natAbs := by rw [odn_abs, odn_abs, Int.natAbs_neg]
theorem odn_neg (x : Int) : odn (-x) = -odn x := by
  have h1 := odn_spec x
  have h2 := odn_spec (-x)
  rw [Int.natAbs_neg] at h2
  have hp := ipow_pos (tz x.natAbs)
  have h3 : odn (-x) * 2 ^ tz x.natAbs = (-odn x) * 2 ^ tz x.natAbs := by rw [h2, Int.neg_mul, h1]
  exact Int.eq_of_mul_eq_mul_right (by omega) h3
theorem dval_neg (x e : Int) : dval (-x) e = dval x e := by
  unfold dval
  by_cases h : x = 0
  · subst h; rfl
  · rw [if_neg (by omega), if_neg h, Int.natAbs_neg]
theorem dcode_neg (x e : Int) : dcode (-x) e = dcode x e := by
  unfold dcode
  by_cases h : x = 0
  · subst h; rfl
  · rw [if_neg (show ¬ -x = 0 by omega), if_neg h, odn_neg, dval_neg, Int.natAbs_neg]
theorem dman_neg (x e : Int) : dman (-x) e = -dman x e := by
  unfold dman; rw [dcode_neg]; split
  · exact odn_neg x
  · rfl
theorem dexp_neg (x e : Int) : dexp (-x) e = dexp x e := by
  unfold dexp; rw [dcode_neg, Int.natAbs_neg]
  by_cases h : x = 0
  · subst h; rfl
  · rw [if_neg (show ¬ -x = 0 by omega), if_neg h]
/-- Quotients by positive numbers. -/
theorem idq_pos {x y : Int} (hy : 0 < y) : idq x y = x / y := by
  have h0 : y ≠ 0 := by omega
  have h1 := idq_add (x := x) h0
  have h2 := idr_lt (x := x) h0
  have h3 := idr_sign (x := x) h0
  have h4 : 0 ≤ idr x y := by
    by_cases e : idr x y = 0
    · omega
    · have := h3 e
      rw [decide_eq_false (show ¬ y < 0 by omega)] at this
      have := of_decide_eq_false this
      omega
  symm
  rw [Int.ediv_eq_iff_of_pos hy]
  have e1 : (idq x y + 1) * y = idq x y * y + y := by rw [Int.add_mul, Int.one_mul]
  generalize idq x y * y = m at *
  first
    | (constructor <;> omega)
    | (rw [e1]; constructor <;> omega)
/-- The greatest integer that is not greater than a / b * 2^p. -/
def cutq (a : Int) (b : Nat) (p : Int) : Int := if p < 0 then a / ((b * 2 ^ (-p).toNat : Nat) : Int) else a * 2 ^ p.toNat / (b : Int)
theorem cutq_two (a : Int) (n : Nat) (p : Int) : cutq a (2 ^ n) p = scl a (p - n) := by
  unfold cutq
  split
  · rw [scl_neg (by omega), ← Nat.pow_add, two_cast]; congr 2; omega
  · rename_i h
    rw [two_cast]
    have h1 := scl_shl a (e := p) (p := -(n : Int)) (by omega)
    rw [scl_neg (by omega), Int.neg_neg, Int.toNat_natCast] at h1
    rw [h1]; congr 1
theorem cutq_rat (x e p : Int) : cutq (rnum x e) (rden e) p = scl x (e + p) := by
  unfold rnum rden
  by_cases he : 0 ≤ e
  · rw [if_pos he, if_pos he]
    have h := cutq_two (x * 2 ^ e.toNat) 0 p
    rw [Nat.pow_zero] at h
    rw [h, show p - ((0 : Nat) : Int) = p from by omega, scl_shl x he]
  · rw [if_neg he, if_neg he, cutq_two]; congr 1; omega
end Go.Proofs.YthbfhljpfkicpaaDoor
