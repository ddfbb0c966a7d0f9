/-
  Walks.
-/
import Derived.Test.YthbfhljpfkicpaaS2
set_option linter.unusedVariables false
set_option linter.unusedSimpArgs false
set_option maxRecDepth 100000
namespace Go.Proofs.Ythbfhljpfkicpaa
open Go Go.RowKit
/-- Quotient, rounded down, and remainder. -/
def dsg (x y : Int) : Bool := !(decide (x < 0) == decide (y < 0))
def idq (x y : Int) : Int := if y = 0 then 0 else if dsg x y = true ∧ x.natAbs % y.natAbs ≠ 0 then mk (dsg x y) (x.natAbs / y.natAbs + 1) else mk (dsg x y) (x.natAbs / y.natAbs)
def idr (x y : Int) : Int := if y = 0 then 0 else if dsg x y = true ∧ x.natAbs % y.natAbs ≠ 0 then mk (decide (y < 0)) (y.natAbs - x.natAbs % y.natAbs) else mk (decide (y < 0)) (x.natAbs % y.natAbs)

theorem riof_c {w : World} {n : Int} (h1 : -9223372036854775808 ≤ n) (h2 : n ≤ 9223372036854775807) :
    Calls Try.prog 65 #[.int .i64 n] w (Ret w fun r w' => ∃ q, r = .agg #[.bool (decide ((n) < 0)), q] ∧ No w.heap.size 93 w' q (dig (n).natAbs)) := by
  refine enter (args := [_]) Try.func65 rfl Try.ntmps65 rfl ?_
  refine WP_seq ?_
  refine WP_region ?_
  refine O_alloc S24 rfl rfl (fun g1 w1 b1 e1 gl1 gh1 => ?_)
  have z1 := e1.size
  refine WL_end [(0, _), (2, _)] ⟨rfl, rfl, trivial⟩ ?_
  refine WP_seq ?_
  refine WP_region ?_
  refine O_move rfl rfl rfl ?_
  refine O_conv Try.underlying3 Try.underlying74 (r := (n % 18446744073709551616)) rfl rfl rfl (wrap_u64 n) ?_
  refine O_assign rfl rfl rfl ?_
  refine WL_end [(0, _), (2, _), (3, _)] ⟨rfl, rfl, rfl, trivial⟩ ?_
  refine WP_seq ?_
  refine WP_seq ?_
  refine WP_region ?_
  refine O_move rfl rfl rfl ?_
  refine O_lss rfl rfl rfl rfl rfl ?_
  refine WL_end [(0, _), (2, _), (3, _), (7, _)] ⟨rfl, rfl, rfl, rfl, trivial⟩ ?_
  refine WP_condD rfl (fun c7 => ?_) (fun c7 => ?_)
  · --
    refine WP_region ?_
    refine O_move rfl rfl rfl ?_
    refine O_neg (r := ((n.natAbs : Nat) : Int)) rfl rfl rfl (by rw [wrap_u64]; omega) ?_
    refine O_assign rfl rfl rfl ?_
    refine WL_end [(0, _), (2, _), (3, _)] ⟨rfl, rfl, rfl, trivial⟩ ?_
    refine WP_seq ?_
    refine WP_region ?_
    try rw [show n % 18446744073709551616 = ((n.natAbs : Nat) : Int) from by omega]
    refine O_move rfl rfl rfl ?_
    refine O_lss rfl rfl rfl rfl rfl ?_
    refine O_move rfl rfl rfl ?_
    refine O_call enters49 rfl rfl rfl (rof_c n.natAbs (by omega)) (fun v2 w2 e2 h2 => ?_)
    have z2 := e2.size
    try simp only [val_dig] at h2
    have hLn : (dig n.natAbs).length ≤ 2 := dig_len_of_lt (Nat.lt_of_le_of_lt (show n.natAbs ≤ 9223372036854775808 by omega) (by decide))
    refine O_call enters51 rfl rfl rfl (rinat_c h2.nl (by (try simp only [val_dig, List.length_take, List.length_nil, List.length_cons, List.length_append, List.length_replicate, List.length_set, List.length_map, List.length_drop]); omega)) (fun v3 w3 e3 h3 => ?_)
    have z3 := e3.size
    try simp only [val_dig] at h3
    obtain ⟨q3, rfl, hq3⟩ := h3
    rw [mk_self] at hq3 ⊢
    refine O_storeA (cs' := [_, _]) S24 rfl rfl rfl ((b1.ext e2).ext e3) rfl rfl (one_cons rfl (one_cons (hq3.nl).one one_nil)) rfl (fun w4 b4 q4 => ?_)
    have z4 := Nat.le_of_eq q4.size.symm
    have e4 : Ext w w4 := q4.ext ((e1.trans e2).trans e3) (by omega)
    refine WL_end [(2, _)] ⟨rfl, trivial⟩ ?_
    refine WP_ret ?_
    refine retL Try.results65 (.cell rfl S24 b4 rfl .nil) ?_
    exact ⟨_, rfl, e4, _, rfl, (hq3.chgBk ((b1.ext e2).ext e3) (by decide) q4).mono (by omega)⟩
  · --
    refine WP_skip ?_
    refine WP_seq ?_
    refine WP_region ?_
    try rw [show n % 18446744073709551616 = ((n.natAbs : Nat) : Int) from by omega]
    refine O_move rfl rfl rfl ?_
    refine O_lss rfl rfl rfl rfl rfl ?_
    refine O_move rfl rfl rfl ?_
    refine O_call enters49 rfl rfl rfl (rof_c n.natAbs (by omega)) (fun v5 w5 e5 h5 => ?_)
    have z5 := e5.size
    try simp only [val_dig] at h5
    have hLn : (dig n.natAbs).length ≤ 2 := dig_len_of_lt (Nat.lt_of_le_of_lt (show n.natAbs ≤ 9223372036854775808 by omega) (by decide))
    refine O_call enters51 rfl rfl rfl (rinat_c h5.nl (by (try simp only [val_dig, List.length_take, List.length_nil, List.length_cons, List.length_append, List.length_replicate, List.length_set, List.length_map, List.length_drop]); omega)) (fun v6 w6 e6 h6 => ?_)
    have z6 := e6.size
    try simp only [val_dig] at h6
    obtain ⟨q6, rfl, hq6⟩ := h6
    rw [mk_self] at hq6 ⊢
    refine O_storeA (cs' := [_, _]) S24 rfl rfl rfl ((b1.ext e5).ext e6) rfl rfl (one_cons rfl (one_cons (hq6.nl).one one_nil)) rfl (fun w7 b7 q7 => ?_)
    have z7 := Nat.le_of_eq q7.size.symm
    have e7 : Ext w w7 := q7.ext ((e1.trans e5).trans e6) (by omega)
    refine WL_end [(2, _)] ⟨rfl, trivial⟩ ?_
    refine WP_ret ?_
    refine retL Try.results65 (.cell rfl S24 b7 rfl .nil) ?_
    exact ⟨_, rfl, e7, _, rfl, (hq6.chgBk ((b1.ext e5).ext e6) (by decide) q7).mono (by omega)⟩

end Go.Proofs.Ythbfhljpfkicpaa
