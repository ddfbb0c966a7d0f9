/-
  Walks.
-/
import Derived.Test.YtoccimigjjndpaaW6
set_option linter.unusedVariables false
set_option linter.unusedSimpArgs false
set_option maxRecDepth 100000
namespace Go.Proofs.Ytoccimigjjndpaa
open Go Go.RowKit
theorem join_snoc (xs : List (List UInt8)) (x sep : List UInt8) : Lib.join (xs ++ [x]) sep = if xs = [] then x else Lib.join xs sep ++ sep ++ x := by
  cases xs with
  | nil => simp [Lib.join_one]
  | cons y r =>
    rw [if_neg (by simp), List.cons_append, Lib.join_cons, Lib.join_cons]
    simp [Lib.joinTail]
theorem ba_app (a b : ByteArray) : (a ++ b).data.toList = a.data.toList ++ b.data.toList := by simp
theorem word_mark (c : Ch) : wordB c = markB c ++ c.2.1 := by
  unfold wordB markB
  by_cases h : c.1 = 2
  · rw [if_pos h, if_pos h]
  · rw [if_neg h, if_neg h]
    by_cases h2 : c.2.2.1 = -1
    · rw [if_pos h2, if_pos h2]
    · rw [if_neg h2, if_neg h2]
theorem frm_join (l : List Ch) : ∀ i, i ≤ l.length → (frm l i).data.toList = Lib.join (((l.take i).map wordB).map (·.data.toList)) [32]
  | 0, _ => by simp [frm, Lib.join_nil]
  | i + 1, h => by
    have hi : i < l.length := by omega
    have ih := frm_join l i (by omega)
    rw [frm_succ hi, List.take_add_one, List.getElem?_eq_getElem hi]
    simp only [Option.toList_some, List.map_append, List.map_cons, List.map_nil]
    rw [join_snoc, word_mark]
    by_cases h0 : 0 < i
    · rw [if_pos h0, if_neg (by intro e; have := congrArg List.length e; simp at this; rcases this with h5 | h5 <;> simp_all), ← ih]
      simp [ba_app]
    · obtain rfl : i = 0 := by omega
      simp [frm, ba_app]
theorem frm_fmt (l : List Ch) : frm l l.length = fmtB l := by
  have h := frm_join l l.length (Nat.le_refl _)
  rw [List.take_length] at h
  unfold fmtB
  rw [← h]

end Go.Proofs.Ytoccimigjjndpaa
