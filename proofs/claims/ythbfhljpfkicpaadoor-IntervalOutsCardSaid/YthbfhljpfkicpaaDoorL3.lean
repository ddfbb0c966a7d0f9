/-
  Walks.
-/
import Derived.Test.YthbfhljpfkicpaaDoorS4
set_option linter.unusedVariables false
set_option linter.unusedSimpArgs false
set_option maxRecDepth 100000
namespace Go.Proofs.YthbfhljpfkicpaaDoor
open Go Go.RowKit
theorem dsg_eq {x y : Int} (h : dsg x y = true) : decide (x < 0) = !decide (y < 0) := by
  unfold dsg at h; revert h; cases decide (x < 0) <;> cases decide (y < 0) <;> decide
theorem dsg_ne {x y : Int} (h : ¬ dsg x y = true) : decide (x < 0) = decide (y < 0) := by
  unfold dsg at h; revert h; cases decide (x < 0) <;> cases decide (y < 0) <;> decide
theorem idq_add {x y : Int} (h0 : y ≠ 0) : idq x y * y + idr x y = x := by
  have hm := Nat.mod_lt x.natAbs (show 0 < y.natAbs by omega)
  have hd := Nat.div_add_mod x.natAbs y.natAbs
  have hx := mk_self x
  have hy := mk_self y
  have e1 : idq x y = if dsg x y = true ∧ x.natAbs % y.natAbs ≠ 0 then mk (dsg x y) (x.natAbs / y.natAbs + 1) else mk (dsg x y) (x.natAbs / y.natAbs) := if_neg h0
  have e2 : idr x y = if dsg x y = true ∧ x.natAbs % y.natAbs ≠ 0 then mk (decide (y < 0)) (y.natAbs - x.natAbs % y.natAbs) else mk (decide (y < 0)) (x.natAbs % y.natAbs) := if_neg h0
  rw [e1, e2]
  generalize hq : x.natAbs / y.natAbs = q at *
  generalize hr : x.natAbs % y.natAbs = r at *
  clear e1 e2 hq hr
  by_cases hs : dsg x y = true
  · have h1 := dsg_eq hs
    rw [hs]
    by_cases hr : r = 0
    · rw [if_neg (fun h => h.2 hr), if_neg (fun h => h.2 hr)]
      rw [h1] at hx
      generalize decide (y < 0) = b at *
      generalize x.natAbs = n at *
      generalize y.natAbs = m at *
      subst hd; subst hr; subst hx; subst hy
      cases b <;> simp [mk] <;> grind
    · rw [if_pos ⟨rfl, hr⟩, if_pos ⟨rfl, hr⟩]
      rw [h1] at hx
      generalize decide (y < 0) = b at *
      generalize x.natAbs = n at *
      generalize y.natAbs = m at *
      obtain ⟨k, rfl⟩ : ∃ k, m = r + k := ⟨m - r, by omega⟩
      rw [Nat.add_sub_cancel_left]
      subst hd; subst hx; subst hy
      cases b <;> simp [mk] <;> grind
  · have h1 := dsg_ne hs
    rw [if_neg (fun h => hs h.1), if_neg (fun h => hs h.1)]
    have hs' : dsg x y = false := by simpa using hs
    rw [hs']
    rw [h1] at hx
    generalize decide (y < 0) = b at *
    generalize x.natAbs = n at *
    generalize y.natAbs = m at *
    subst hd; subst hx; subst hy
    cases b <;> simp [mk] <;> grind
theorem idr_lt {x y : Int} (h0 : y ≠ 0) : (idr x y).natAbs < y.natAbs := by
  have hm := Nat.mod_lt x.natAbs (show 0 < y.natAbs by omega)
  unfold idr
  rw [if_neg h0]
  split
  · rename_i h; rw [mk_abs]; omega
  · rw [mk_abs]; exact hm
theorem idr_sign {x y : Int} (h0 : y ≠ 0) (h : idr x y ≠ 0) : decide (idr x y < 0) = decide (y < 0) := by
  have key : ∃ n, idr x y = mk (decide (y < 0)) n := by
    unfold idr
    rw [if_neg h0]
    split
    · exact ⟨_, rfl⟩
    · exact ⟨_, rfl⟩
  obtain ⟨n, e⟩ := key
  rw [e] at h ⊢
  rw [mk_neg]
  have : n ≠ 0 := by intro hn; apply h; subst hn; unfold mk; cases decide (y < 0) <;> rfl
  rw [decide_eq_true this, Bool.and_true]
theorem idq_len {x y : Int} {a : Nat} (hx : (dig x.natAbs).length ≤ a) (ha : 1 ≤ a) : (dig (idq x y).natAbs).length ≤ a + 1 := by
  have h1 := dig_len_add x.natAbs 1
  have h2 : (dig 1).length ≤ 1 := dig_len_of_lt (by decide)
  have h3 : (idq x y).natAbs ≤ x.natAbs + 1 := by
    have := Nat.div_le_self x.natAbs y.natAbs
    unfold idq
    split
    · simp
    · split <;> rw [mk_abs] <;> omega
  have := dig_len_mono h3
  omega
theorem idr_len {x y : Int} {a : Nat} (h0 : y ≠ 0) (hy : (dig y.natAbs).length ≤ a) : (dig (idr x y).natAbs).length ≤ a :=
  Nat.le_trans (dig_len_mono (Nat.le_of_lt (idr_lt h0))) hy
theorem idivmod_Z {w : World} {vx vy : Value} {x y : Int} {bx by_ : Bool} (hbx : bx = decide (x < 0)) (hx : Nl w vx (dig x.natAbs)) (hby : by_ = decide (y < 0)) (hy : Nl w vy (dig y.natAbs)) (hlx : (dig x.natAbs).length ≤ 1000000) (hly : (dig y.natAbs).length ≤ 1000000) (h0 : y = 0) : Calls Tryd.prog 90 #[.agg #[.bool bx, vx], .agg #[.bool by_, vy]] w (Ret w fun r w' => ∃ q s, r = .tuple #[.agg #[.bool false, q], .agg #[.bool false, s], .bool false] ∧ No w.heap.size 111 w' q [] ∧ No w.heap.size 111 w' s []) :=
  (idivmod_z hbx hx hby hy hlx hly h0).mono fun e w' ⟨r, he, hx, q, s, hr, hq, hs⟩ => by
    have e1 : idq x y = 0 := if_pos h0
    have e2 : idr x y = 0 := if_pos h0
    rw [e1, show dig (0 : Int).natAbs = [] from dig_zero] at hq
    rw [e2, show dig (0 : Int).natAbs = [] from dig_zero] at hs
    exact ⟨r, he, hx, q, s, by rw [hr, e1, e2, decide_eq_false (by omega : ¬ y ≠ 0)]; rfl, hq, hs⟩

end Go.Proofs.YthbfhljpfkicpaaDoor
