/-
  A long division, plain: the rounds, the shift ahead of it.
-/
import Derived.Test.YtnfnadhbjdcbnaaDoorSeg
set_option linter.unusedVariables false
set_option maxRecDepth 100000
namespace Go.Proofs.YtnfnadhbjdcbnaaDoor
open Go Go.RowKit
/-- The remainder; by zero: nothing. -/
def rem0 (a b : Nat) : Nat := if b = 0 then 0 else a % b
theorem rem0_zero (a : Nat) : rem0 a 0 = 0 := rfl
theorem rem0_pos {a b : Nat} (h : b ≠ 0) : rem0 a b = a % b := if_neg h
theorem dig_len_one {n : Nat} (h : (dig n).length = 1) : (dig n).getD 0 0 = n ∧ n ≠ 0 ∧ n < 4294967296 := by
  have h0 : n ≠ 0 := by rintro rfl; simp [dig_zero] at h
  have h1 := lt_of_dig_len (n := n) (k := 1) (by omega)
  refine ⟨?_, h0, by simpa using h1⟩
  rw [dig_pos h0]
  simp
  omega
theorem top_seg {u : List Nat} (hu : D u) {k n V : Nat} (hm : val (u.drop (k + 1)) < V) (hV : V < 4294967296 ^ n) : sg u k (n + 1) = val (u.drop k) ∧ val (u.drop (k + (n + 1))) = 0 := by
  have h1 : val (u.drop (k + 1)) < 4294967296 ^ n := Nat.lt_trans hm hV
  refine ⟨by rw [sg_val', seg_val hu h1]; rfl, ?_⟩
  have h2 := val_split (u.drop (k + 1)) n
  rw [List.drop_drop, show k + 1 + n = k + (n + 1) from by omega] at h2
  rcases Nat.eq_zero_or_pos (val (u.drop (k + (n + 1)))) with h | h
  · exact h
  · have := Nat.mul_le_mul_left (4294967296 ^ n) h
    rw [Nat.mul_one] at this
    exact absurd (Nat.lt_of_lt_of_le h1 (Nat.le_trans this (by rw [h2]; exact Nat.le_add_left _ _))) (Nat.lt_irrefl _)
theorem seg_lt {u : List Nat} (hu : D u) {k n V : Nat} (hm : val (u.drop (k + 1)) < V) (hV : V < 4294967296 ^ n) : sg u k (n + 1) < V * 4294967296 := by
  rw [(top_seg hu hm hV).1, val_drop]
  have := hu.getD k
  omega
theorem div_step {u u3 lq : List Nat} {V n k A : Nat} (hu : D u) (hu3 : D u3) (hk : k < lq.length) (hm : val (u.drop (k + 1)) < V) (hV : V < 4294967296 ^ n)
    (hval : val u + V * (4294967296 ^ (k + 1) * val (lq.drop (k + 1))) = A) (hout : ∀ j, j < k ∨ k + n + 1 ≤ j → u3.getD j 0 = u.getD j 0) (hs : sg u3 k (n + 1) = sg u k (n + 1) % V) :
    val u3 + V * (4294967296 ^ k * val ((lq.set k (sg u k (n + 1) / V)).drop k)) = A ∧ val (u3.drop k) < V := by
  obtain ⟨h1, h2⟩ := top_seg hu hm hV
  have h3 : val (u3.drop k) = sg u3 k (n + 1) := by
    have h4 := val_split (u3.drop k) (n + 1)
    rw [List.drop_drop, val_eq_of_agree (l := u3) (m := u) (k := k + (n + 1)) (fun j hj => hout j (.inr (by omega))), h2, Nat.mul_zero, Nat.add_zero] at h4
    rw [h4, sg_val]
  have h5 : val ((lq.set k (sg u k (n + 1) / V)).drop k) = sg u k (n + 1) / V + 4294967296 * val (lq.drop (k + 1)) := by
    rw [val_drop, getD_set_self _ hk, List.drop_set, if_pos (by omega)]
  have hV0 : 0 < V := by omega
  refine ⟨?_, by rw [h3, hs]; exact Nat.mod_lt _ hV0⟩
  rw [h5]
  refine div_keep (fun j hj => hout j (.inl hj)) hval ?_
  rw [h3, hs, ← h1, Nat.mul_comm]
  exact (Nat.div_add_mod _ _).symm
theorem div_start {U V n : Nat} (hn : n ≤ (dig U).length) (hn0 : n ≠ 0) (hV : n = (dig V).length) : val ((dig U ++ [0]).drop ((dig U).length + 1 - n)) < V := by
  have h1 : (dig U ++ [0]).drop ((dig U).length + 1 - n) = (dig U).drop ((dig U).length + 1 - n) ++ [0] := by
    rw [List.drop_append_of_le_length (by omega)]
  rw [h1, val_snoc_zero]
  have h2 := val_lt ((D_dig U).drop ((dig U).length + 1 - n))
  rw [List.length_drop, show (dig U).length - ((dig U).length + 1 - n) = n - 1 from by omega] at h2
  rcases Nat.lt_or_ge V (4294967296 ^ (n - 1)) with h | h
  · have := dig_len_of_lt h
    omega
  · exact Nat.lt_of_lt_of_le h2 h
theorem div_end {R V Q U : Nat} (h : R + V * (4294967296 ^ 0 * Q) = U) (hR : R < V) : U / V = Q ∧ U % V = R := by
  rw [Nat.pow_zero, Nat.one_mul] at h
  rw [← h, Nat.add_mul_div_left _ _ (by omega), Nat.div_eq_of_lt hR, Nat.zero_add, Nat.add_mul_mod_self_left, Nat.mod_eq_of_lt hR]
  exact ⟨rfl, rfl⟩
theorem unshift {A B s : Nat} : A * 2 ^ s / (B * 2 ^ s) = A / B ∧ A * 2 ^ s % (B * 2 ^ s) / 2 ^ s = A % B := by
  have hp : 0 < 2 ^ s := Nat.two_pow_pos s
  exact ⟨Nat.mul_div_mul_right _ _ hp, by rw [Nat.mul_mod_mul_right, Nat.mul_div_cancel _ hp]⟩
theorem val_take_of_lt {u : List Nat} (hd : D u) {n : Nat} (h : val u < 4294967296 ^ n) : val (u.take n) = val u := by
  have h2 := val_split u n
  rw [val_drop_sz hd (dig_len_of_lt h), Nat.mul_zero, Nat.add_zero] at h2
  exact h2.symm
theorem top_dig {n : Nat} (h : n ≠ 0) : (dig n).getD ((dig n).length - 1) 0 ≠ 0 := by
  have h1 := top_ne_zero (D_dig n) (by rw [sz_dig]; intro e; exact h (dig_len_zero.1 e))
  rwa [sz_dig] at h1
theorem sg_dig {V n : Nat} (h : (dig V).length = n) : sg (dig V) 0 n = V := by subst h; rw [sg_whole, val_dig]
end Go.Proofs.YtnfnadhbjdcbnaaDoor
