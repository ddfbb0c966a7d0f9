/-
  Segments of digits by their places, plain.
-/
import Derived.Test.YtnfnadhbjdcbnaaDoorDigit
set_option linter.unusedVariables false
set_option maxRecDepth 100000
namespace Go.Proofs.YtnfnadhbjdcbnaaDoor
open Go Go.RowKit
/-- The number of the m digits from place k on. -/
def sg (u : List Nat) (k : Nat) : Nat → Nat
  | 0 => 0
  | m + 1 => sg u k m + 4294967296 ^ m * u.getD (k + m) 0
theorem sg_val (u : List Nat) (k m : Nat) : sg u k m = val ((u.drop k).take m) := by
  induction m with
  | zero => simp [sg, val]
  | succ m ih => rw [sg, ih, val_take_succ', getD_drop]
theorem sg_val' (u : List Nat) (k m : Nat) : sg u k m = val ((u.take (k + m)).drop k) := by
  rw [sg_val, List.drop_take, Nat.add_sub_cancel_left]
theorem sg_zero (u : List Nat) (m : Nat) : sg u 0 m = val (u.take m) := by rw [sg_val, List.drop_zero]
theorem sg_whole (u : List Nat) : sg u 0 u.length = val u := by rw [sg_zero, List.take_length]
theorem sg_lt {u : List Nat} (hd : D u) (k m : Nat) : sg u k m < 4294967296 ^ m := by
  rw [sg_val]; exact val_take_lt (hd.drop k) m
theorem sg_congr {u v : List Nat} {k m : Nat} (h : ∀ j, k ≤ j → j < k + m → u.getD j 0 = v.getD j 0) : sg u k m = sg v k m := by
  induction m with
  | zero => rfl
  | succ m ih => rw [sg, sg, ih (fun j h1 h2 => h j h1 (by omega)), h (k + m) (by omega) (by omega)]
theorem sg_set_above (u : List Nat) (k m i x : Nat) (h : m ≤ i) : sg (u.set (k + i) x) k m = sg u k m :=
  sg_congr fun j h1 h2 => getD_set_other _ _ (by omega)
theorem sg_set_last {u : List Nat} {k m x : Nat} (h : k + m < u.length) : sg (u.set (k + m) x) k (m + 1) = sg u k m + 4294967296 ^ m * x := by
  rw [sg, sg_set_above _ _ _ _ _ (Nat.le_refl _), getD_set_self _ h]
/-- The first digits of what is divided and of the divisor. -/
theorem sg_parts {u v : List Nat} {k n : Nat} (hu : D u) (hv : D v) (hn : 2 ≤ n) : ∃ P Ul Vl, Ul < P ∧ Vl < P ∧
    sg u k (n + 1) = ((u.getD (k + n) 0 * 4294967296 + u.getD (k + (n - 1)) 0) * 4294967296 + u.getD (k + (n - 2)) 0) * P + Ul ∧
    sg v 0 n = (v.getD (n - 1) 0 * 4294967296 + v.getD (n - 2) 0) * P + Vl := by
  obtain ⟨m, rfl⟩ : ∃ m, n = m + 2 := ⟨n - 2, by omega⟩
  refine ⟨4294967296 ^ m, sg u k m, sg v 0 m, sg_lt hu _ _, sg_lt hv _ _, ?_, ?_⟩
  · rw [show m + 2 - 1 = m + 1 from rfl, show m + 2 - 2 = m from rfl]
    simp only [sg, Nat.pow_succ]
    generalize 4294967296 ^ m = P
    generalize sg u k m = S
    generalize u.getD (k + m) 0 = a
    generalize u.getD (k + (m + 1)) 0 = b
    generalize u.getD (k + (m + 2)) 0 = c
    rw [Nat.add_mul, Nat.add_mul, Nat.add_mul, Nat.mul_comm a P, Nat.mul_comm (b * 4294967296) P, ← Nat.mul_assoc, Nat.mul_comm (c * 4294967296 * 4294967296) P]
    simp only [Nat.mul_assoc, Nat.mul_comm b, Nat.mul_comm c]
    omega
  · rw [show m + 2 - 1 = m + 1 from rfl, show m + 2 - 2 = m from rfl]
    simp only [sg, Nat.pow_succ, Nat.zero_add]
    generalize 4294967296 ^ m = P
    generalize sg v 0 m = S
    generalize v.getD m 0 = a
    generalize v.getD (m + 1) 0 = b
    rw [Nat.add_mul, Nat.mul_comm a P, Nat.mul_comm (b * 4294967296) P]
    simp only [Nat.mul_assoc, Nat.mul_comm b]
    omega
/-- One step of the subtraction of the multiple. -/
theorem sub_step {u u0 v : List Nat} {k i g c b lo hi d : Nat} (hk : k + i < u.length) (h : sg u k i + g * sg v 0 i = sg u0 k i + 4294967296 ^ i * (c + b)) (hu : u.getD (k + i) 0 = u0.getD (k + i) 0)
    (h1 : c + g * v.getD i 0 = lo + 4294967296 * hi) {b' : Nat} (h2 : u0.getD (k + i) 0 + 4294967296 * b' = d + lo + b) :
    sg (u.set (k + i) d) k (i + 1) + g * sg v 0 (i + 1) = sg u0 k (i + 1) + 4294967296 ^ (i + 1) * (hi + b') := by
  rw [sg_set_last hk]
  have h3 := ms_step (gx := g * v.getD i 0) h h1 h2
  simp only [sg, Nat.zero_add]
  rw [Nat.mul_add, Nat.mul_left_comm]
  exact h3
/-- .. and of its last digit. -/
theorem sub_last {u u0 v : List Nat} {k i g c b d : Nat} (hk : k + i < u.length) (h : sg u k i + g * sg v 0 i = sg u0 k i + 4294967296 ^ i * (c + b)) (hu : u.getD (k + i) 0 = u0.getD (k + i) 0)
    {b' : Nat} (h2 : u0.getD (k + i) 0 + 4294967296 * b' = d + c + b) :
    sg (u.set (k + i) d) k (i + 1) + g * sg v 0 i = sg u0 k (i + 1) + 4294967296 ^ (i + 1) * b' := by
  rw [sg_set_last hk]
  have h3 := ms_step (gx := 0) (hi := 0) h (show c + 0 = c + 4294967296 * 0 from rfl) h2
  simp only [sg]
  rw [Nat.mul_zero, Nat.add_zero, Nat.zero_add] at h3
  exact h3
/-- One step of the sum. -/
theorem add_step {u u0 v : List Nat} {k i c : Nat} (hk : k + i < u.length) (h : sg u k i + 4294967296 ^ i * c = sg u0 k i + sg v 0 i) (hu : u.getD (k + i) 0 = u0.getD (k + i) 0) :
    sg (u.set (k + i) ((u0.getD (k + i) 0 + v.getD i 0 + c) % 4294967296)) k (i + 1) + 4294967296 ^ (i + 1) * ((u0.getD (k + i) 0 + v.getD i 0 + c) / 4294967296) = sg u0 k (i + 1) + sg v 0 (i + 1) := by
  rw [sg_set_last hk]
  have h3 := ab_step (x := v.getD i 0) (u := u0.getD (k + i) 0) h
  simp only [sg, Nat.zero_add]
  exact h3
theorem add_last {u u0 v : List Nat} {k i c : Nat} (hk : k + i < u.length) (h : sg u k i + 4294967296 ^ i * c = sg u0 k i + sg v 0 i) (hu : u.getD (k + i) 0 = u0.getD (k + i) 0) :
    sg (u.set (k + i) ((u0.getD (k + i) 0 + c) % 4294967296)) k (i + 1) + 4294967296 ^ (i + 1) * ((u0.getD (k + i) 0 + c) / 4294967296) = sg u0 k (i + 1) + sg v 0 i := by
  rw [sg_set_last hk]
  have h3 := ab_step (x := 0) (u := u0.getD (k + i) 0) h
  simp only [Nat.add_zero, Nat.mul_zero] at h3
  simp only [sg]
  exact h3
/-- What the subtraction of a digit's multiple needs of Sub32. -/
theorem sub32_eq {x y c : Nat} (hx : x < 4294967296) (hy : y < 4294967296) (hc : c ≤ 1) :
    x + 4294967296 * (if x < y + c then 1 else 0) = (x + 8589934592 - y - c) % 4294967296 + y + c := by split <;> omega
end Go.Proofs.YtnfnadhbjdcbnaaDoor
