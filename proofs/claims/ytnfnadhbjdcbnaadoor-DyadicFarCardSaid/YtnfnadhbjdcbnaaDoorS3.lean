/-
  Walks.
-/
import Derived.Test.YtnfnadhbjdcbnaaDoorS2
set_option linter.unusedVariables false
set_option linter.unusedSimpArgs false
set_option maxRecDepth 100000
namespace Go.Proofs.YtnfnadhbjdcbnaaDoor
open Go Go.RowKit
/-- Quotient, rounded down, and remainder. -/
def dsg (x y : Int) : Bool := !(decide (x < 0) == decide (y < 0))
def idq (x y : Int) : Int := if y = 0 then 0 else if dsg x y = true ∧ x.natAbs % y.natAbs ≠ 0 then mk (dsg x y) (x.natAbs / y.natAbs + 1) else mk (dsg x y) (x.natAbs / y.natAbs)
def idr (x y : Int) : Int := if y = 0 then 0 else if dsg x y = true ∧ x.natAbs % y.natAbs ≠ 0 then mk (decide (y < 0)) (y.natAbs - x.natAbs % y.natAbs) else mk (decide (y < 0)) (x.natAbs % y.natAbs)

theorem iof_c {w : World} {n : Int} (h1 : -9223372036854775808 ≤ n) (h2 : n ≤ 9223372036854775807) :
    Calls Tryd.prog 43 #[.int .i64 n] w (Ret w fun r w' => ∃ q, r = .agg #[.bool (decide ((n) < 0)), q] ∧ No w.heap.size 89 w' q (dig (n).natAbs)) := by
 refine enter (args := [_]) Tryd.func43 rfl Tryd.ntmps43 rfl ?_
 refine WP_seq ?_
 refine WP_region ?_
 refine O_alloc S24 rfl rfl (fun g1 w1 b1 e1 gl1 gh1 => ?_)
 have z1 := e1.size
 refine WL_end [(0, _), (2, _)] ⟨rfl, rfl, trivial⟩ ?_
 refine WP_seq ?_
 refine WP_seq ?_
 refine WP_region ?_
 refine O_move rfl rfl rfl ?_
 refine O_lss rfl rfl rfl rfl rfl ?_
 refine WL_end [(0, _), (2, _), (4, _)] ⟨rfl, rfl, rfl, trivial⟩ ?_
 refine WP_condD rfl (fun c4 => ?_) (fun c4 => ?_)
 · --
  refine WP_seq ?_
  refine WP_region ?_
  refine O_move rfl rfl rfl ?_
  refine O_add rfl rfl rfl rfl (wrap_i64_id (by omega) (by omega)) ?_
  refine O_neg rfl rfl rfl (wrap_i64_id (by omega) (by omega)) ?_
  refine O_conv Tryd.underlying3 Tryd.underlying82 rfl rfl rfl (wrap_u64_id (by omega) (by omega)) ?_
  refine O_add (r := ((n.natAbs : Nat) : Int)) rfl rfl rfl rfl (by rw [wrap_u64]; omega) ?_
  refine O_call enters79 rfl rfl rfl (of_c n.natAbs (by omega)) (fun v2 w2 e2 h2 => ?_)
  have z2 := e2.size
  try simp only [val_dig] at h2
  refine O_build (cs := [_, _]) B24 rfl rfl rfl (cells_cons rfl (cells_cons (h2.nl).cells1 cells_nil)) rfl ?_
  refine O_storeA (cs' := [_, _]) S24 rfl rfl rfl (b1.ext e2) rfl rfl (one_cons rfl (one_cons (h2.nl).one one_nil)) rfl (fun w3 b3 q3 => ?_)
  have z3 := Nat.le_of_eq q3.size.symm
  have e3 : Ext w w3 := q3.ext (e1.trans e2) (by omega)
  refine WL_end [(2, _)] ⟨rfl, trivial⟩ ?_
  refine WP_ret ?_
  refine retL Tryd.results43 (.cell rfl S24 b3 rfl .nil) ?_
  rw [decide_eq_true c4]
  exact ⟨_, rfl, e3, _, rfl, (h2.chgBk (b1.ext e2) (by decide) q3).mono (by omega)⟩
 · --
  refine WP_skip ?_
  refine WP_seq ?_
  refine WP_region ?_
  refine O_move rfl rfl rfl ?_
  refine O_conv Tryd.underlying3 Tryd.underlying82 (r := ((n.natAbs : Nat) : Int)) rfl rfl rfl (by rw [wrap_u64]; omega) ?_
  refine O_call enters79 rfl rfl rfl (of_c n.natAbs (by omega)) (fun v4 w4 e4 h4 => ?_)
  have z4 := e4.size
  try simp only [val_dig] at h4
  refine O_build (cs := [_, _]) B24 rfl rfl rfl (cells_cons (h4.nl).cells1 cells_nil) rfl ?_
  refine O_storeA (cs' := [_, _]) S24 rfl rfl rfl (b1.ext e4) rfl rfl (one_cons rfl (one_cons (h4.nl).one one_nil)) rfl (fun w5 b5 q5 => ?_)
  have z5 := Nat.le_of_eq q5.size.symm
  have e5 : Ext w w5 := q5.ext (e1.trans e4) (by omega)
  refine WL_end [(2, _)] ⟨rfl, trivial⟩ ?_
  refine WP_ret ?_
  refine retL Tryd.results43 (.cell rfl S24 b5 rfl .nil) ?_
  rw [decide_eq_false c4]
  exact ⟨_, rfl, e5, _, rfl, (h4.chgBk (b1.ext e4) (by decide) q5).mono (by omega)⟩

theorem riof_c {w : World} {n : Int} (h1 : -9223372036854775808 ≤ n) (h2 : n ≤ 9223372036854775807) :
    Calls Tryd.prog 45 #[.int .i64 n] w (Ret w fun r w' => ∃ q, r = .agg #[.bool (decide ((n) < 0)), q] ∧ No w.heap.size 89 w' q (dig (n).natAbs)) := by
 refine enter (args := [_]) Tryd.func45 rfl Tryd.ntmps45 rfl ?_
 refine WP_seq ?_
 refine WP_region ?_
 refine O_alloc S24 rfl rfl (fun g1 w1 b1 e1 gl1 gh1 => ?_)
 have z1 := e1.size
 refine WL_end [(0, _), (2, _)] ⟨rfl, rfl, trivial⟩ ?_
 refine WP_seq ?_
 refine WP_region ?_
 refine O_move rfl rfl rfl ?_
 refine O_conv Tryd.underlying3 Tryd.underlying82 (r := (n % 18446744073709551616)) rfl rfl rfl (wrap_u64 n) ?_
 refine O_assign rfl rfl rfl ?_
 refine WL_end [(0, _), (2, _), (3, _)] ⟨rfl, rfl, rfl, trivial⟩ ?_
 refine WP_seq ?_
 refine WP_seq ?_
 refine WP_region ?_
 refine O_move rfl rfl rfl ?_
 refine O_lss rfl rfl rfl rfl rfl ?_
 refine WL_end [(0, _), (2, _), (3, _), (7, _)] ⟨rfl, rfl, rfl, rfl, trivial⟩ ?_
 refine WP_condD rfl (fun c7 => ?_) (fun c7 => ?_)
 · --
  refine WP_region ?_
  refine O_move rfl rfl rfl ?_
  refine O_neg (r := ((n.natAbs : Nat) : Int)) rfl rfl rfl (by rw [wrap_u64]; omega) ?_
  refine O_assign rfl rfl rfl ?_
  refine WL_end [(0, _), (2, _), (3, _)] ⟨rfl, rfl, rfl, trivial⟩ ?_
  refine WP_seq ?_
  refine WP_region ?_
  try rw [show n % 18446744073709551616 = ((n.natAbs : Nat) : Int) from by omega]
  refine O_move rfl rfl rfl ?_
  refine O_lss rfl rfl rfl rfl rfl ?_
  refine O_move rfl rfl rfl ?_
  refine O_call enters76 rfl rfl rfl (rof_c n.natAbs (by omega)) (fun v2 w2 e2 h2 => ?_)
  have z2 := e2.size
  try simp only [val_dig] at h2
  have hLn : (dig n.natAbs).length ≤ 2 := dig_len_of_lt (Nat.lt_of_le_of_lt (show n.natAbs ≤ 9223372036854775808 by omega) (by decide))
  refine O_call enters47 rfl rfl rfl (rinat_c h2.nl (by (try simp only [lens]); omega)) (fun v3 w3 e3 h3 => ?_)
  have z3 := e3.size
  try simp only [val_dig] at h3
  obtain ⟨q3, rfl, hq3⟩ := h3
  rw [mk_self] at hq3 ⊢
  refine O_storeA (cs' := [_, _]) S24 rfl rfl rfl ((b1.ext e2).ext e3) rfl rfl (one_cons rfl (one_cons (hq3.nl).one one_nil)) rfl (fun w4 b4 q4 => ?_)
  have z4 := Nat.le_of_eq q4.size.symm
  have e4 : Ext w w4 := q4.ext ((e1.trans e2).trans e3) (by omega)
  refine WL_end [(2, _)] ⟨rfl, trivial⟩ ?_
  refine WP_ret ?_
  refine retL Tryd.results45 (.cell rfl S24 b4 rfl .nil) ?_
  exact ⟨_, rfl, e4, _, rfl, (hq3.chgBk ((b1.ext e2).ext e3) (by decide) q4).mono (by omega)⟩
 · --
  refine WP_skip ?_
  refine WP_seq ?_
  refine WP_region ?_
  try rw [show n % 18446744073709551616 = ((n.natAbs : Nat) : Int) from by omega]
  refine O_move rfl rfl rfl ?_
  refine O_lss rfl rfl rfl rfl rfl ?_
  refine O_move rfl rfl rfl ?_
  refine O_call enters76 rfl rfl rfl (rof_c n.natAbs (by omega)) (fun v5 w5 e5 h5 => ?_)
  have z5 := e5.size
  try simp only [val_dig] at h5
  have hLn : (dig n.natAbs).length ≤ 2 := dig_len_of_lt (Nat.lt_of_le_of_lt (show n.natAbs ≤ 9223372036854775808 by omega) (by decide))
  refine O_call enters47 rfl rfl rfl (rinat_c h5.nl (by (try simp only [lens]); omega)) (fun v6 w6 e6 h6 => ?_)
  have z6 := e6.size
  try simp only [val_dig] at h6
  obtain ⟨q6, rfl, hq6⟩ := h6
  rw [mk_self] at hq6 ⊢
  refine O_storeA (cs' := [_, _]) S24 rfl rfl rfl ((b1.ext e5).ext e6) rfl rfl (one_cons rfl (one_cons (hq6.nl).one one_nil)) rfl (fun w7 b7 q7 => ?_)
  have z7 := Nat.le_of_eq q7.size.symm
  have e7 : Ext w w7 := q7.ext ((e1.trans e5).trans e6) (by omega)
  refine WL_end [(2, _)] ⟨rfl, trivial⟩ ?_
  refine WP_ret ?_
  refine retL Tryd.results45 (.cell rfl S24 b7 rfl .nil) ?_
  exact ⟨_, rfl, e7, _, rfl, (hq6.chgBk ((b1.ext e5).ext e6) (by decide) q7).mono (by omega)⟩

end Go.Proofs.YtnfnadhbjdcbnaaDoor
