/-
  Walks.
-/
import Derived.Test.YtnfnadhbjdcbnaaGreatDoorD2
set_option linter.unusedVariables false
set_option linter.unusedSimpArgs false
set_option maxRecDepth 100000
namespace Go.Proofs.YtnfnadhbjdcbnaaGreatDoor
open Go Go.RowKit
theorem digs_sub {d : Nat} (h : d < 10) : ((([48, 49, 50, 51, 52, 53, 54, 55, 56, 57] : List UInt8).take (d + 1)).drop d) = [UInt8.ofNat (48 + d)] := by
  match d, h with
  | 0, _ => rfl
  | 1, _ => rfl
  | 2, _ => rfl
  | 3, _ => rfl
  | 4, _ => rfl
  | 5, _ => rfl
  | 6, _ => rfl
  | 7, _ => rfl
  | 8, _ => rfl
  | 9, _ => rfl
theorem dnum_dlen {l : List UInt8} (h : ∀ b ∈ l, isd b) : (dig (dnum l)).length ≤ l.length := by
  refine dig_len_of_lt (Nat.lt_of_lt_of_le (dnum_lt h) (Nat.pow_le_pow_left (by decide) _))
theorem isd_take {l : List UInt8} {i : Nat} {b : UInt8} (h : ∀ x ∈ l.take i, isd x) (hb : l[i]? = some b) (hd : isd b) : ∀ x ∈ l.take (i + 1), isd x := by
  intro x hx
  rw [List.take_add_one, hb] at hx
  rcases List.mem_append.1 hx with hx | hx
  · exact h x hx
  · simp at hx; rw [hx]; exact hd

end Go.Proofs.YtnfnadhbjdcbnaaGreatDoor
