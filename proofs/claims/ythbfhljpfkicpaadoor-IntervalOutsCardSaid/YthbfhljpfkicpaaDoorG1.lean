/-
  Walks.
-/
import Derived.Test.YthbfhljpfkicpaaDoorV4
import Derived.Test.YthbfhljpfkicpaaDoorGrid
import Derived.Test.YthbfhljpfkicpaaDoorRowk
set_option linter.unusedVariables false
set_option linter.unusedSimpArgs false
set_option maxRecDepth 100000
namespace Go.Proofs.YthbfhljpfkicpaaDoor
open Go Go.RowKit
theorem ediv_abs (x : Int) (k : Nat) : (x / 2 ^ k).natAbs ≤ x.natAbs := by
  have hp := ipow_pos k
  generalize (2 : Int) ^ k = P at *
  rcases Int.lt_or_le x 0 with h | h
  · have h1 : x / P < 0 := Int.ediv_neg_of_neg_of_pos h hp
    have h2 : x ≤ x / P := by
      rw [Int.le_ediv_iff_mul_le hp]
      have : x * P ≤ x * 1 := Int.mul_le_mul_of_nonpos_left (by omega) (by omega)
      omega
    omega
  · have h1 : 0 ≤ x / P := Int.ediv_nonneg h (by omega)
    have h2 : x / P ≤ x := Int.ediv_le_self _ h
    omega
theorem scl_len {x n : Int} {a m : Nat} (h : (dig x.natAbs).length ≤ a) (hn : n ≤ (m : Int)) : (dig (scl x n).natAbs).length ≤ a + m / 32 + 1 := by
  unfold scl
  split
  · exact Nat.le_trans (dig_len_mono (ediv_abs _ _)) (by omega)
  · have := shl_len' (k := n.toNat) h
    have h2 : n.toNat / 32 ≤ m / 32 := Nat.div_le_div_right (by omega)
    omega
theorem cutq_len {p : Int} {q : Nat} {k : Int} {a m : Nat} (h : (dig p.natAbs).length ≤ a) (ha : 1 ≤ a) (hq : q ≠ 0) (hk : k ≤ (m : Int)) : (dig (cutq p q k).natAbs).length ≤ a + m / 32 + 2 := by
  unfold cutq
  split
  · have hp : (0 : Int) < ((q * 2 ^ (-k).toNat : Nat) : Int) := by have := Nat.mul_pos (Nat.pos_of_ne_zero hq) (Nat.two_pow_pos (-k).toNat); omega
    rw [← idq_pos hp]
    have := idq_len (y := ((q * 2 ^ (-k).toNat : Nat) : Int)) h ha
    omega
  · have hp : (0 : Int) < (q : Nat) := by omega
    rw [← idq_pos hp]
    have h1 := shl_len' (k := k.toNat) h
    have h2 : k.toNat / 32 ≤ m / 32 := Nat.div_le_div_right (by omega)
    have := idq_len (y := (q : Int)) h1 (by omega)
    omega
theorem ner_len {x n : Int} {a m : Nat} (h : (dig x.natAbs).length ≤ a) (hn : n + 1 ≤ (m : Int)) : (dig (ner x n).natAbs).length ≤ a + m / 32 + 2 := by
  unfold ner
  have h1 := scl_len h hn
  have h2 : (dig (1 : Int).natAbs).length ≤ 1 := dig_len_of_lt (by decide)
  have h3 := add_len h1 h2
  have h4 := ediv_abs (scl x (n + 1) + 1) 1
  rw [Int.pow_one] at h4
  have h5 := dig_len_mono h4
  omega
theorem tz_top {n : Nat} (h0 : n ≠ 0) (h : tz n = bl n - 1) : n = 2 ^ (bl n - 1) := by
  obtain ⟨h1, h2⟩ := tz_split n h0
  rw [h] at h1 h2
  have h3 := lt_of_bl (Nat.le_refl (bl n))
  have hb : 0 < bl n := by
    rcases Nat.eq_zero_or_pos (bl n) with e | e
    · rw [bl_zero_iff] at e; exact absurd e h0
    · exact e
  have hp := Nat.two_pow_pos (bl n - 1)
  have e : 2 ^ bl n = 2 ^ (bl n - 1) * 2 := by rw [← Nat.pow_succ]; congr 1; omega
  have h4 : n / 2 ^ (bl n - 1) < 2 := Nat.div_lt_of_lt_mul (by omega)
  have h5 : n / 2 ^ (bl n - 1) = 1 := by
    generalize n / 2 ^ (bl n - 1) = Q at *
    omega
  rw [h5, Nat.one_mul] at h2
  exact h2.symm

theorem perm_c {w : World} {k : Int} :
    Calls Tryd.prog 72 #[.int .i64 k] w (Ret w fun r _ => r = .bool (decide (perm k))) := by
 refine enter (args := [_]) Tryd.func72 rfl Tryd.ntmps72 rfl ?_
 refine WP_seq ?_
 refine WP_region ?_
 refine O_assign rfl rfl rfl ?_
 refine WL_end [(0, _)] ⟨rfl, trivial⟩ ?_
 refine WP_seq ?_
 refine WP_region ?_
 refine O_move rfl rfl rfl ?_
 refine O_geq rfl rfl rfl rfl rfl ?_
 refine O_move rfl rfl rfl ?_
 refine WL_dec 5 rfl (fun g5 => ?_) (fun g5 => ?_)
 · --
  refine O_move rfl rfl rfl ?_
  refine O_leq rfl rfl rfl rfl rfl ?_
  refine O_pickT rfl rfl rfl rfl ?_
  refine O_assign rfl rfl rfl ?_
  refine WL_end [(2, _)] ⟨rfl, trivial⟩ ?_
  refine WP_ret ?_
  refine ret1 Tryd.results72 rfl ?_
  first
    | exact ⟨_, rfl, (Ext.refl _), congrArg Value.bool (decide_eq_decide.2 (by unfold perm; omega))⟩
    | exact ⟨_, rfl, (Ext.refl _), by rw [decide_eq_false (by unfold perm; omega)]⟩
 · --
  refine O_skip rfl rfl ?_
  refine O_skip rfl rfl ?_
  refine O_pickF rfl rfl rfl rfl ?_
  refine O_assign rfl rfl rfl ?_
  refine WL_end [(2, _)] ⟨rfl, trivial⟩ ?_
  refine WP_ret ?_
  refine ret1 Tryd.results72 rfl ?_
  first
    | exact ⟨_, rfl, (Ext.refl _), congrArg Value.bool (decide_eq_decide.2 (by unfold perm; omega))⟩
    | exact ⟨_, rfl, (Ext.refl _), by rw [decide_eq_false (by unfold perm; omega)]⟩

theorem perm_T {w : World} {k : Int} (hpm : perm k) : Calls Tryd.prog 72 #[.int .i64 k] w (Ret w fun r _ => r = .bool true) :=
  perm_c.mono fun _ w' ⟨r, he, hx', hr⟩ => ⟨r, he, hx', by rw [hr, decide_eq_true hpm]⟩
theorem perm_F {w : World} {k : Int} (hpm : ¬ perm k) : Calls Tryd.prog 72 #[.int .i64 k] w (Ret w fun r _ => r = .bool false) :=
  perm_c.mono fun _ w' ⟨r, he, hx', hr⟩ => ⟨r, he, hx', by rw [hr, decide_eq_false hpm]⟩

theorem rperm_c {w : World} {k : Int} :
    Calls Tryd.prog 66 #[.int .i64 k] w (Ret w fun r _ => r = .bool (decide (perm k))) := by
 refine enter (args := [_]) Tryd.func66 rfl Tryd.ntmps66 rfl ?_
 refine WP_seq ?_
 refine WP_region ?_
 refine O_assign rfl rfl rfl ?_
 refine WL_end [(0, _)] ⟨rfl, trivial⟩ ?_
 refine WP_seq ?_
 refine WP_region ?_
 refine O_move rfl rfl rfl ?_
 refine O_geq rfl rfl rfl rfl rfl ?_
 refine O_move rfl rfl rfl ?_
 refine WL_dec 5 rfl (fun g5 => ?_) (fun g5 => ?_)
 · --
  refine O_move rfl rfl rfl ?_
  refine O_leq rfl rfl rfl rfl rfl ?_
  refine O_pickT rfl rfl rfl rfl ?_
  refine O_assign rfl rfl rfl ?_
  refine WL_end [(2, _)] ⟨rfl, trivial⟩ ?_
  refine WP_ret ?_
  refine ret1 Tryd.results66 rfl ?_
  first
    | exact ⟨_, rfl, (Ext.refl _), congrArg Value.bool (decide_eq_decide.2 (by unfold perm; omega))⟩
    | exact ⟨_, rfl, (Ext.refl _), by rw [decide_eq_false (by unfold perm; omega)]⟩
 · --
  refine O_skip rfl rfl ?_
  refine O_skip rfl rfl ?_
  refine O_pickF rfl rfl rfl rfl ?_
  refine O_assign rfl rfl rfl ?_
  refine WL_end [(2, _)] ⟨rfl, trivial⟩ ?_
  refine WP_ret ?_
  refine ret1 Tryd.results66 rfl ?_
  first
    | exact ⟨_, rfl, (Ext.refl _), congrArg Value.bool (decide_eq_decide.2 (by unfold perm; omega))⟩
    | exact ⟨_, rfl, (Ext.refl _), by rw [decide_eq_false (by unfold perm; omega)]⟩

theorem rperm_T {w : World} {k : Int} (hpm : perm k) : Calls Tryd.prog 66 #[.int .i64 k] w (Ret w fun r _ => r = .bool true) :=
  rperm_c.mono fun _ w' ⟨r, he, hx', hr⟩ => ⟨r, he, hx', by rw [hr, decide_eq_true hpm]⟩
theorem rperm_F {w : World} {k : Int} (hpm : ¬ perm k) : Calls Tryd.prog 66 #[.int .i64 k] w (Ret w fun r _ => r = .bool false) :=
  rperm_c.mono fun _ w' ⟨r, he, hx', hr⟩ => ⟨r, he, hx', by rw [hr, decide_eq_false hpm]⟩

theorem on_T {w : World} {vx : Value} {x e k : Int} {bx : Bool} (hbx : bx = decide (x < 0)) (hx : Nl w vx (dig x.natAbs)) (hvx : dval x e = true) (hpm : perm k) :
    Calls Tryd.prog 23 #[.agg #[.bool bx, vx, .int .i64 e], .int .i64 k] w (Ret w fun r _ => r = .bool (decide (ongrid x e k))) := by
 subst hbx
 have hRx := dval_range hvx
 have hlx : (dig x.natAbs).length ≤ 2049 := dval_len hvx
 have hx0 := @sign_zero_iff x
 have hpk := hpm
 unfold perm at hpk
 refine enter (args := [_, _]) Tryd.func23 rfl Tryd.ntmps23 rfl ?_
 refine WP_seq ?_
 refine WP_region ?_
 refine O_box _ rfl rfl rfl rfl (fun g1 w1 b1 e1 gl1 gh1 => ?_)
 have z1 := e1.size
 refine O_assign rfl rfl rfl ?_
 refine WL_end [(1, _), (2, _)] ⟨rfl, rfl, trivial⟩ ?_
 refine WP_seq ?_
 refine WP_region ?_
 refine O_move rfl rfl rfl ?_
 refine O_call enters72 rfl rfl rfl (perm_T hpm) (fun v2 w2 e2 h2 => ?_)
 have z2 := e2.size
 obtain rfl := h2
 refine O_move rfl rfl rfl ?_
 refine O_loadA (vs := [_, _, _]) S26 rfl rfl rfl (b1.ext e2) rfl rfl ?_
 refine O_call enters73 rfl rfl rfl (dsign_c rfl (hx.ext (e1.trans e2)) (by (try simp only [lens]); omega)) (fun v3 w3 e3 h3 => ?_)
 have z3 := e3.size
 obtain rfl := h3
 refine O_eql rfl rfl rfl rfl rfl ?_
 refine O_move rfl rfl rfl ?_
 refine WL_dec 11 rfl (fun g11 => ?_) (fun g11 => ?_)
 · --
  refine O_skip rfl rfl ?_
  refine O_skip rfl rfl ?_
  refine O_skip rfl rfl ?_
  refine O_skip rfl rfl ?_
  refine O_skip rfl rfl ?_
  refine O_pickT rfl rfl rfl rfl ?_
  refine O_pickT rfl rfl rfl rfl ?_
  refine O_assign rfl rfl rfl ?_
  refine WL_end [(4, _)] ⟨rfl, trivial⟩ ?_
  refine WP_ret ?_
  refine ret1 Tryd.results23 rfl ?_
  first
    | exact ⟨_, rfl, ((e1.trans e2).trans e3), by rw [decide_eq_true (show ongrid x e k from ⟨hpm, by omega⟩)]⟩
    | exact ⟨_, rfl, ((e1.trans e2).trans e3), congrArg Value.bool (decide_eq_decide.2 ⟨fun h => ⟨hpm, by omega⟩, fun h => by have := h.2; omega⟩)⟩
 · --
  refine O_field F26_1 rfl rfl rfl ?_
  refine O_loadC Tryd.underlying3 rfl rfl rfl rfl ((b1.ext e2).ext e3) rfl ?_
  refine O_move rfl rfl rfl ?_
  refine O_neg rfl rfl rfl (wrap_i64_id (by omega) (by omega)) ?_
  refine O_geq rfl rfl rfl rfl rfl ?_
  refine O_pickF rfl rfl rfl rfl ?_
  refine O_pickT rfl rfl rfl rfl ?_
  refine O_assign rfl rfl rfl ?_
  refine WL_end [(4, _)] ⟨rfl, trivial⟩ ?_
  refine WP_ret ?_
  refine ret1 Tryd.results23 rfl ?_
  first
    | exact ⟨_, rfl, ((e1.trans e2).trans e3), by rw [decide_eq_true (show ongrid x e k from ⟨hpm, by omega⟩)]⟩
    | exact ⟨_, rfl, ((e1.trans e2).trans e3), congrArg Value.bool (decide_eq_decide.2 ⟨fun h => ⟨hpm, by omega⟩, fun h => by have := h.2; omega⟩)⟩
theorem on_F {w : World} {vx : Value} {x e k : Int} {bx : Bool} (hbx : bx = decide (x < 0)) (hx : Nl w vx (dig x.natAbs)) (hvx : dval x e = true) (hpm : ¬ perm k) :
    Calls Tryd.prog 23 #[.agg #[.bool bx, vx, .int .i64 e], .int .i64 k] w (Ret w fun r _ => r = .bool false) := by
 subst hbx
 have hRx := dval_range hvx
 have hlx : (dig x.natAbs).length ≤ 2049 := dval_len hvx
 refine enter (args := [_, _]) Tryd.func23 rfl Tryd.ntmps23 rfl ?_
 refine WP_seq ?_
 refine WP_region ?_
 refine O_box _ rfl rfl rfl rfl (fun g1 w1 b1 e1 gl1 gh1 => ?_)
 have z1 := e1.size
 refine O_assign rfl rfl rfl ?_
 refine WL_end [(1, _), (2, _)] ⟨rfl, rfl, trivial⟩ ?_
 refine WP_seq ?_
 refine WP_region ?_
 refine O_move rfl rfl rfl ?_
 refine O_call enters72 rfl rfl rfl (perm_F hpm) (fun v2 w2 e2 h2 => ?_)
 have z2 := e2.size
 obtain rfl := h2
 refine O_move rfl rfl rfl ?_
 refine O_skip rfl rfl ?_
 refine O_skip rfl rfl ?_
 refine O_skip rfl rfl ?_
 refine O_skip rfl rfl ?_
 refine O_skipU rfl rfl rfl ?_
 refine O_skipU rfl rfl rfl ?_
 refine O_skipU rfl rfl rfl ?_
 refine O_skipU rfl rfl rfl ?_
 refine O_skipU rfl rfl rfl ?_
 refine O_skip rfl rfl ?_
 refine O_pickF rfl rfl rfl rfl ?_
 refine O_assign rfl rfl rfl ?_
 refine WL_end [(4, _)] ⟨rfl, trivial⟩ ?_
 refine WP_ret ?_
 refine ret1 Tryd.results23 rfl ?_
 exact ⟨_, rfl, (e1.trans e2), rfl⟩

theorem ron_T {w : World} {vx : Value} {x e k : Int} {bx : Bool} (hbx : bx = decide (x < 0)) (hx : Nl w vx (dig x.natAbs)) (hvx : dval x e = true) (hpm : perm k) :
    Calls Tryd.prog 31 #[.agg #[.bool bx, vx, .int .i64 e], .int .i64 k] w (Ret w fun r _ => r = .bool (decide (ongrid x e k))) := by
 subst hbx
 have hRx := dval_range hvx
 have hlx : (dig x.natAbs).length ≤ 2049 := dval_len hvx
 have hx0 : x = 0 ↔ x.natAbs = 0 := by omega
 rw [← dig_len_zero] at hx0
 have hpk := hpm
 unfold perm at hpk
 refine enter (args := [_, _]) Tryd.func31 rfl Tryd.ntmps31 rfl ?_
 refine WP_seq ?_
 refine WP_region ?_
 refine O_box _ rfl rfl rfl rfl (fun g1 w1 b1 e1 gl1 gh1 => ?_)
 have z1 := e1.size
 refine O_assign rfl rfl rfl ?_
 refine WL_end [(1, _), (2, _)] ⟨rfl, rfl, trivial⟩ ?_
 refine WP_seq ?_
 refine WP_region ?_
 refine O_move rfl rfl rfl ?_
 refine O_call enters66 rfl rfl rfl (rperm_T hpm) (fun v2 w2 e2 h2 => ?_)
 have z2 := e2.size
 obtain rfl := h2
 refine O_move rfl rfl rfl ?_
 refine O_field F26_0 rfl rfl rfl ?_
 refine O_field F24_1 rfl rfl rfl ?_
 refine O_loadC Tryd.underlying22 rfl rfl rfl rfl (b1.ext e2) rfl ?_
 refine N_len T22 rfl rfl rfl (hx.ext (e1.trans e2)) ?_
 refine O_eql rfl rfl rfl rfl rfl ?_
 refine O_move rfl rfl rfl ?_
 refine WL_dec 13 rfl (fun g13 => ?_) (fun g13 => ?_)
 · --
  refine O_skip rfl rfl ?_
  refine O_skip rfl rfl ?_
  refine O_skip rfl rfl ?_
  refine O_skip rfl rfl ?_
  refine O_skip rfl rfl ?_
  refine O_pickT rfl rfl rfl rfl ?_
  refine O_pickT rfl rfl rfl rfl ?_
  refine O_assign rfl rfl rfl ?_
  refine WL_end [(4, _)] ⟨rfl, trivial⟩ ?_
  refine WP_ret ?_
  refine ret1 Tryd.results31 rfl ?_
  first
    | exact ⟨_, rfl, (e1.trans e2), by rw [decide_eq_true (show ongrid x e k from ⟨hpm, by omega⟩)]⟩
    | exact ⟨_, rfl, (e1.trans e2), congrArg Value.bool (decide_eq_decide.2 ⟨fun h => ⟨hpm, by omega⟩, fun h => by have := h.2; omega⟩)⟩
 · --
  refine O_field F26_1 rfl rfl rfl ?_
  refine O_loadC Tryd.underlying3 rfl rfl rfl rfl (b1.ext e2) rfl ?_
  refine O_move rfl rfl rfl ?_
  refine O_neg rfl rfl rfl (wrap_i64_id (by omega) (by omega)) ?_
  refine O_geq rfl rfl rfl rfl rfl ?_
  refine O_pickF rfl rfl rfl rfl ?_
  refine O_pickT rfl rfl rfl rfl ?_
  refine O_assign rfl rfl rfl ?_
  refine WL_end [(4, _)] ⟨rfl, trivial⟩ ?_
  refine WP_ret ?_
  refine ret1 Tryd.results31 rfl ?_
  first
    | exact ⟨_, rfl, (e1.trans e2), by rw [decide_eq_true (show ongrid x e k from ⟨hpm, by omega⟩)]⟩
    | exact ⟨_, rfl, (e1.trans e2), congrArg Value.bool (decide_eq_decide.2 ⟨fun h => ⟨hpm, by omega⟩, fun h => by have := h.2; omega⟩)⟩
theorem ron_F {w : World} {vx : Value} {x e k : Int} {bx : Bool} (hbx : bx = decide (x < 0)) (hx : Nl w vx (dig x.natAbs)) (hvx : dval x e = true) (hpm : ¬ perm k) :
    Calls Tryd.prog 31 #[.agg #[.bool bx, vx, .int .i64 e], .int .i64 k] w (Ret w fun r _ => r = .bool false) := by
 subst hbx
 have hRx := dval_range hvx
 have hlx : (dig x.natAbs).length ≤ 2049 := dval_len hvx
 refine enter (args := [_, _]) Tryd.func31 rfl Tryd.ntmps31 rfl ?_
 refine WP_seq ?_
 refine WP_region ?_
 refine O_box _ rfl rfl rfl rfl (fun g1 w1 b1 e1 gl1 gh1 => ?_)
 have z1 := e1.size
 refine O_assign rfl rfl rfl ?_
 refine WL_end [(1, _), (2, _)] ⟨rfl, rfl, trivial⟩ ?_
 refine WP_seq ?_
 refine WP_region ?_
 refine O_move rfl rfl rfl ?_
 refine O_call enters66 rfl rfl rfl (rperm_F hpm) (fun v2 w2 e2 h2 => ?_)
 have z2 := e2.size
 obtain rfl := h2
 refine O_move rfl rfl rfl ?_
 refine O_skip rfl rfl ?_
 refine O_skip rfl rfl ?_
 refine O_skip rfl rfl ?_
 refine O_skip rfl rfl ?_
 refine O_skip rfl rfl ?_
 refine O_skip rfl rfl ?_
 refine O_skipU rfl rfl rfl ?_
 refine O_skipU rfl rfl rfl ?_
 refine O_skipU rfl rfl rfl ?_
 refine O_skipU rfl rfl rfl ?_
 refine O_skipU rfl rfl rfl ?_
 refine O_skip rfl rfl ?_
 refine O_pickF rfl rfl rfl rfl ?_
 refine O_assign rfl rfl rfl ?_
 refine WL_end [(4, _)] ⟨rfl, trivial⟩ ?_
 refine WP_ret ?_
 refine ret1 Tryd.results31 rfl ?_
 exact ⟨_, rfl, (e1.trans e2), rfl⟩

theorem scale_n {w : World} {vx : Value} {x n : Int} {bx : Bool} (hbx : bx = decide (x < 0)) (hx : Nl w vx (dig x.natAbs)) (hlx : (dig x.natAbs).length ≤ 1000000) (h0 : n < 0) (hn : -1000000 ≤ n) :
    Calls Tryd.prog 60 #[.agg #[.bool bx, vx], .int .i64 n] w (Ret w fun r w' => ∃ q, r = .agg #[.bool (decide ((scl x n) < 0)), q] ∧ No w.heap.size 111 w' q (dig (scl x n).natAbs)) := by
 subst hbx
 refine enter (args := [_, _]) Tryd.func60 rfl Tryd.ntmps60 rfl ?_
 refine WP_seq ?_
 refine WP_region ?_
 refine O_box _ rfl rfl rfl rfl (fun g1 w1 b1 e1 gl1 gh1 => ?_)
 have z1 := e1.size
 refine O_alloc S24 rfl rfl (fun g2 w2 b2 e2 gl2 gh2 => ?_)
 have z2 := e2.size
 refine WL_end [(1, _), (2, _), (4, _)] ⟨rfl, rfl, rfl, trivial⟩ ?_
 refine WP_seq ?_
 refine WP_seq ?_
 refine WP_region ?_
 refine O_move rfl rfl rfl ?_
 refine O_lss (t := true) rfl rfl rfl rfl (decide_eq_true h0) ?_
 refine WL_end [(1, _), (2, _), (4, _), (6, _)] ⟨rfl, rfl, rfl, rfl, trivial⟩ ?_
 refine WP_condT rfl ?_
 refine WP_seq ?_
 refine WP_region ?_
 refine O_loadA (vs := [_, _]) S24 rfl rfl rfl (b1.ext e2) rfl rfl ?_
 refine O_move rfl rfl rfl ?_
 refine O_neg (r := (((-n).toNat : Nat) : Int)) rfl rfl rfl (by rw [IntKind.wrap_i64]; omega) ?_
 refine O_call enters65 rfl rfl rfl (ishr_c rfl (hx.ext (e1.trans e2)) (by (try simp only [lens]); omega) (by (try simp only [lens]); omega)) (fun v3 w3 e3 h3 => ?_)
 have z3 := e3.size
 try simp only [val_dig] at h3
 obtain ⟨q3, rfl, hq3⟩ := h3
 refine O_storeA (cs' := [_, _]) S24 rfl rfl rfl (b2.ext e3) rfl rfl (one_cons rfl (one_cons (hq3.nl).one one_nil)) rfl (fun w4 b4 q4 => ?_)
 have z4 := Nat.le_of_eq q4.size.symm
 have e4 : Ext w w4 := q4.ext ((e1.trans e2).trans e3) (by omega)
 refine WL_end [(4, _)] ⟨rfl, trivial⟩ ?_
 refine WP_ret ?_
 refine retL Tryd.results60 (.cell rfl S24 b4 rfl .nil) ?_
 have hz : x / 2 ^ (-n).toNat = scl x n := (scl_neg (by omega)).symm
 rw [← hz]
 exact ⟨_, rfl, e4, _, rfl, (hq3.chgBk (b2.ext e3) (by decide) q4).mono (by omega)⟩
theorem scale_p {w : World} {vx : Value} {x : Int} {n : Nat} {bx : Bool} (hbx : bx = decide (x < 0)) (hx : Nl w vx (dig x.natAbs)) (hlx : (dig x.natAbs).length ≤ 1000000) (hn : n ≤ 1000000) :
    Calls Tryd.prog 60 #[.agg #[.bool bx, vx], .int .i64 (n : Nat)] w (Ret w fun r w' => ∃ q, r = .agg #[.bool (decide ((scl x (n : Int)) < 0)), q] ∧ No w.heap.size 111 w' q (dig (scl x (n : Int)).natAbs)) := by
 subst hbx
 refine enter (args := [_, _]) Tryd.func60 rfl Tryd.ntmps60 rfl ?_
 refine WP_seq ?_
 refine WP_region ?_
 refine O_box _ rfl rfl rfl rfl (fun g1 w1 b1 e1 gl1 gh1 => ?_)
 have z1 := e1.size
 refine O_alloc S24 rfl rfl (fun g2 w2 b2 e2 gl2 gh2 => ?_)
 have z2 := e2.size
 refine WL_end [(1, _), (2, _), (4, _)] ⟨rfl, rfl, rfl, trivial⟩ ?_
 refine WP_seq ?_
 refine WP_seq ?_
 refine WP_region ?_
 refine O_move rfl rfl rfl ?_
 refine O_lss (t := false) rfl rfl rfl rfl (decide_eq_false (by omega)) ?_
 refine WL_end [(1, _), (2, _), (4, _), (6, _)] ⟨rfl, rfl, rfl, rfl, trivial⟩ ?_
 refine WP_condF rfl ?_
 refine WP_skip ?_
 refine WP_seq ?_
 refine WP_region ?_
 refine O_loadA (vs := [_, _]) S24 rfl rfl rfl (b1.ext e2) rfl rfl ?_
 refine O_move rfl rfl rfl ?_
 refine O_call enters88 rfl rfl rfl (ishl_c rfl (hx.ext (e1.trans e2)) (by (try simp only [lens]); omega) (by (try simp only [lens]); omega)) (fun v3 w3 e3 h3 => ?_)
 have z3 := e3.size
 try simp only [val_dig] at h3
 obtain ⟨q3, rfl, hq3⟩ := h3
 refine O_storeA (cs' := [_, _]) S24 rfl rfl rfl (b2.ext e3) rfl rfl (one_cons rfl (one_cons (hq3.nl).one one_nil)) rfl (fun w4 b4 q4 => ?_)
 have z4 := Nat.le_of_eq q4.size.symm
 have e4 : Ext w w4 := q4.ext ((e1.trans e2).trans e3) (by omega)
 refine WL_end [(4, _)] ⟨rfl, trivial⟩ ?_
 refine WP_ret ?_
 refine retL Tryd.results60 (.cell rfl S24 b4 rfl .nil) ?_
 have hz : x * 2 ^ n = scl x (n : Int) := by rw [scl_pos (by omega), Int.toNat_natCast]
 rw [← hz]
 exact ⟨_, rfl, e4, _, rfl, (hq3.chgBk (b2.ext e3) (by decide) q4).mono (by omega)⟩

theorem scale_c {w : World} {vx : Value} {x n : Int} {bx : Bool} (hbx : bx = decide (x < 0)) (hx : Nl w vx (dig x.natAbs)) (hlx : (dig x.natAbs).length ≤ 1000000) (h1 : -1000000 ≤ n) (h2 : n ≤ 1000000) : Calls Tryd.prog 60 #[.agg #[.bool bx, vx], .int .i64 n] w (Ret w fun r w' => ∃ q, r = .agg #[.bool (decide ((scl x n) < 0)), q] ∧ No w.heap.size 111 w' q (dig (scl x n).natAbs)) := by
  by_cases h0 : n < 0
  · exact scale_n hbx hx hlx h0 h1
  · obtain ⟨m, rfl⟩ : ∃ m : Nat, n = (m : Int) := ⟨n.toNat, by omega⟩
    exact scale_p hbx hx hlx (by omega)

theorem round_T {w : World} {k z : Int} {F : FuncId} {us : List Value} (hE : Enters Tryd.prog F) (hm : ∀ w', Ext w w' → Calls Tryd.prog F us.toArray w' (Ret w' fun r w'' => ∃ q, r = .agg #[.bool (decide (z < 0)), q] ∧ No w'.heap.size 111 w'' q (dig z.natAbs))) (hpm : perm k) (hlz : (dig z.natAbs).length ≤ 30000) (hT : Tab w) :
    Calls Tryd.prog 58 #[.int .i64 k, .func (.func F) #[] us.toArray] w (Ret w fun r w' => ∃ q, r = .tuple #[.agg #[.bool (decide ((dman (z) (-k)) < 0)), q, .int .i64 (dexp (z) (-k))], .int .i64 (dcode (z) (-k))] ∧ No w.heap.size 111 w' q (dig (dman (z) (-k)).natAbs)) := by
 have hpk := hpm
 unfold perm at hpk
 refine enter (args := [_, _]) Tryd.func58 rfl Tryd.ntmps58 rfl ?_
 refine WP_seq ?_
 refine WP_region ?_
 refine O_alloc S26 rfl rfl (fun g1 w1 b1 e1 gl1 gh1 => ?_)
 have z1 := e1.size
 refine O_assign rfl rfl rfl ?_
 refine WL_end [(0, _), (1, _), (4, _)] ⟨rfl, rfl, rfl, trivial⟩ ?_
 refine WP_seq ?_
 refine WP_seq ?_
 refine WP_region ?_
 refine O_move rfl rfl rfl ?_
 refine O_call enters72 rfl rfl rfl (perm_T hpm) (fun v2 w2 e2 h2 => ?_)
 have z2 := e2.size
 obtain rfl := h2
 refine O_not rfl rfl rfl rfl ?_
 refine WL_end [(0, _), (1, _), (4, _), (8, _)] ⟨rfl, rfl, rfl, rfl, trivial⟩ ?_
 refine WP_condF rfl ?_
 refine WP_skip ?_
 refine WP_seq ?_
 refine WP_region ?_
 refine O_move rfl rfl rfl ?_
 refine O_callC hE rfl rfl rfl rfl (hm _ (e1.trans e2)) (fun v11 w11 e11 h11 => ?_)
 obtain ⟨q11, rfl, hq11⟩ := h11
 have z11 := e11.size
 refine O_move rfl rfl rfl ?_
 refine O_neg (r := (-k)) rfl rfl rfl (by rw [IntKind.wrap_i64]; omega) ?_
 refine O_call enters57 rfl rfl rfl (dmake_c rfl hq11.nl (by (try simp only [lens]); omega) (hT.ext ((e1.trans e2).trans e11))) (fun v3 w3 e3 h3 => ?_)
 have z3 := e3.size
 try simp only [val_dig] at h3
 obtain ⟨q3, rfl, hq3⟩ := h3
 refine O_extract rfl rfl rfl rfl ?_
 refine O_extract rfl rfl rfl rfl ?_
 refine O_storeA (cs' := [_, _, _]) S26 rfl rfl rfl (((b1.ext e2).ext e11).ext e3) rfl rfl (one_cons rfl (one_cons (hq3.nl).one (one_cons rfl one_nil))) rfl (fun w4 b4 q4 => ?_)
 have z4 := Nat.le_of_eq q4.size.symm
 have e4 : Ext w w4 := q4.ext (((e1.trans e2).trans e11).trans e3) (by omega)
 refine O_assign rfl rfl rfl ?_
 refine WL_end [(4, _), (5, _)] ⟨rfl, rfl, trivial⟩ ?_
 refine WP_ret ?_
 refine retL Tryd.results58 (.cell rfl S26 b4 rfl (.tmp rfl .nil)) ?_
 exact ⟨_, rfl, e4, _, rfl, (hq3.chgBk (((b1.ext e2).ext e11).ext e3) (by decide) q4).mono (by omega)⟩
theorem round_F {w : World} {k : Int} {F : Value} (hpm : ¬ perm k) :
    Calls Tryd.prog 58 #[.int .i64 k, F] w (Ret w fun r _ => r = .tuple #[.agg #[.bool (decide ((0 : Int) < 0)), .slice none 0 0, .int .i64 (0)], .int .i64 1]) := by
 refine enter (args := [_, F]) Tryd.func58 rfl Tryd.ntmps58 rfl ?_
 refine WP_seq ?_
 refine WP_region ?_
 refine O_alloc S26 rfl rfl (fun g1 w1 b1 e1 gl1 gh1 => ?_)
 have z1 := e1.size
 refine O_assign rfl rfl rfl ?_
 refine WL_end [(0, _), (1, _), (4, _)] ⟨rfl, rfl, rfl, trivial⟩ ?_
 refine WP_seq ?_
 refine WP_seq ?_
 refine WP_region ?_
 refine O_move rfl rfl rfl ?_
 refine O_call enters72 rfl rfl rfl (perm_F hpm) (fun v2 w2 e2 h2 => ?_)
 have z2 := e2.size
 obtain rfl := h2
 refine O_not rfl rfl rfl rfl ?_
 refine WL_end [(0, _), (1, _), (4, _), (8, _)] ⟨rfl, rfl, rfl, rfl, trivial⟩ ?_
 refine WP_condT rfl ?_
 refine WP_seq ?_
 refine WP_region ?_
 refine O_build (cs := [_, _, _]) B26 rfl rfl rfl cells_nil rfl ?_
 refine O_storeA (cs' := [_, _, _]) S26 rfl rfl rfl (b1.ext e2) rfl rfl (one_cons rfl (one_cons rfl (one_cons rfl one_nil))) rfl (fun w3 b3 q3 => ?_)
 have z3 := Nat.le_of_eq q3.size.symm
 have e3 : Ext w w3 := q3.ext (e1.trans e2) (by omega)
 refine O_assign rfl rfl rfl ?_
 refine WL_end [(4, _), (5, _)] ⟨rfl, rfl, trivial⟩ ?_
 refine WP_ret ?_
 refine retL Tryd.results58 (.cell rfl S26 b3 rfl (.tmp rfl .nil)) ?_
 exact ⟨_, rfl, e3, rfl⟩

theorem floor1_c {w : World} {vx : Value} {x e k : Int} {bx : Bool} {gA gB : Nat} (hA : Bk w gA 26 [.bool bx, vx, .int .i64 e]) (hB : Bk w gB 3 [.int .i64 k]) (hbx : bx = decide (x < 0)) (hx : Nl w vx (dig x.natAbs)) (hvx : dval x e = true) (hpm : perm k) :
    Calls Tryd.prog 59 #[.pointer (some ⟨gA, 0, none⟩), .pointer (some ⟨gB, 0, none⟩)] w (Ret w fun r w' => ∃ q, r = .agg #[.bool (decide ((scl x (e + k)) < 0)), q] ∧ No w.heap.size 111 w' q (dig (scl x (e + k)).natAbs)) := by
 subst hbx
 have hRx := dval_range hvx
 have hlx : (dig x.natAbs).length ≤ 2049 := dval_len hvx
 have hpk := hpm
 unfold perm at hpk
 refine enter (args := [_, _]) Tryd.func59 rfl Tryd.ntmps59 rfl ?_
 refine WP_seq ?_
 refine WP_region ?_
 refine O_alloc S24 rfl rfl (fun g1 w1 b1 e1 gl1 gh1 => ?_)
 have z1 := e1.size
 refine WL_end [(0, _), (1, _), (2, _)] ⟨rfl, rfl, rfl, trivial⟩ ?_
 refine WP_seq ?_
 refine WP_region ?_
 refine O_field F26_0 rfl rfl rfl ?_
 refine O_loadA (vs := [_, _]) S24 rfl rfl rfl (hA.ext e1) rfl rfl ?_
 refine O_field F26_1 rfl rfl rfl ?_
 refine O_loadC Tryd.underlying3 rfl rfl rfl rfl (hA.ext e1) rfl ?_
 refine O_loadC Tryd.underlying3 rfl rfl rfl rfl (hB.ext e1) rfl ?_
 refine O_add rfl rfl rfl rfl (wrap_i64_id (by omega) (by omega)) ?_
 refine O_call enters60 rfl rfl rfl (scale_c rfl (hx.ext e1) (by (try simp only [lens]); omega) (by (try simp only [lens]); omega) (by (try simp only [lens]); omega)) (fun v2 w2 e2 h2 => ?_)
 have z2 := e2.size
 try simp only [val_dig] at h2
 obtain ⟨q2, rfl, hq2⟩ := h2
 refine O_storeA (cs' := [_, _]) S24 rfl rfl rfl (b1.ext e2) rfl rfl (one_cons rfl (one_cons (hq2.nl).one one_nil)) rfl (fun w3 b3 q3 => ?_)
 have z3 := Nat.le_of_eq q3.size.symm
 have e3 : Ext w w3 := q3.ext (e1.trans e2) (by omega)
 refine WL_end [(2, _)] ⟨rfl, trivial⟩ ?_
 refine WP_ret ?_
 refine retL Tryd.results59 (.cell rfl S24 b3 rfl .nil) ?_
 exact ⟨_, rfl, e3, _, rfl, (hq2.chgBk (b1.ext e2) (by decide) q3).mono (by omega)⟩

theorem near1_c {w : World} {vx : Value} {x e k : Int} {bx : Bool} {gA gB : Nat} (hA : Bk w gA 26 [.bool bx, vx, .int .i64 e]) (hB : Bk w gB 3 [.int .i64 k]) (hbx : bx = decide (x < 0)) (hx : Nl w vx (dig x.natAbs)) (hvx : dval x e = true) (hpm : perm k) :
    Calls Tryd.prog 62 #[.pointer (some ⟨gA, 0, none⟩), .pointer (some ⟨gB, 0, none⟩)] w (Ret w fun r w' => ∃ q, r = .agg #[.bool (decide ((ner x (e + k)) < 0)), q] ∧ No w.heap.size 111 w' q (dig (ner x (e + k)).natAbs)) := by
 subst hbx
 have hRx := dval_range hvx
 have hlx : (dig x.natAbs).length ≤ 2049 := dval_len hvx
 have hpk := hpm
 unfold perm at hpk
 have hs1 := scl_len (n := e + k + 1) (m := 80000) hlx (by omega)
 have hs2 : (dig (1 : Int).natAbs).length ≤ 1 := dig_len_of_lt (by decide)
 have hs3 := add_len hs1 hs2
 refine enter (args := [_, _]) Tryd.func62 rfl Tryd.ntmps62 rfl ?_
 refine WP_seq ?_
 refine WP_region ?_
 refine O_alloc S24 rfl rfl (fun g1 w1 b1 e1 gl1 gh1 => ?_)
 have z1 := e1.size
 refine WL_end [(0, _), (1, _), (2, _)] ⟨rfl, rfl, rfl, trivial⟩ ?_
 refine WP_seq ?_
 refine WP_region ?_
 refine O_field F26_0 rfl rfl rfl ?_
 refine O_loadA (vs := [_, _]) S24 rfl rfl rfl (hA.ext e1) rfl rfl ?_
 refine O_field F26_1 rfl rfl rfl ?_
 refine O_loadC Tryd.underlying3 rfl rfl rfl rfl (hA.ext e1) rfl ?_
 refine O_loadC Tryd.underlying3 rfl rfl rfl rfl (hB.ext e1) rfl ?_
 refine O_add rfl rfl rfl rfl (wrap_i64_id (by omega) (by omega)) ?_
 refine O_add rfl rfl rfl rfl (wrap_i64_id (by omega) (by omega)) ?_
 refine O_call enters60 rfl rfl rfl (scale_c rfl (hx.ext e1) (by (try simp only [lens]); omega) (by (try simp only [lens]); omega) (by (try simp only [lens]); omega)) (fun v2 w2 e2 h2 => ?_)
 have z2 := e2.size
 try simp only [val_dig] at h2
 obtain ⟨q2, rfl, hq2⟩ := h2
 refine O_call enters64 rfl rfl rfl (iof_c (by (try simp only [lens]); omega) (by (try simp only [lens]); omega)) (fun v3 w3 e3 h3 => ?_)
 have z3 := e3.size
 try simp only [val_dig] at h3
 obtain ⟨q3, rfl, hq3⟩ := h3
 refine O_call enters63 rfl rfl rfl (iadd_c rfl (hq2.ext e3).nl rfl hq3.nl (by (try simp only [lens]); omega) (by (try simp only [lens]); omega)) (fun v4 w4 e4 h4 => ?_)
 have z4 := e4.size
 try simp only [val_dig] at h4
 obtain ⟨q4, rfl, hq4⟩ := h4
 refine O_alloc S24 rfl rfl (fun g5 w5 b5 e5 gl5 gh5 => ?_)
 have z5 := e5.size
 refine O_storeA (cs' := [_, _]) S24 rfl rfl rfl b5 rfl rfl (one_cons rfl (one_cons ((hq4.ext e5).nl).one one_nil)) rfl (fun w6 b6 q6 => ?_)
 have z6 := Nat.le_of_eq q6.size.symm
 have e6 : Ext w w6 := q6.ext ((((e1.trans e2).trans e3).trans e4).trans e5) (by omega)
 refine WL_end [(2, _), (3, _)] ⟨rfl, rfl, trivial⟩ ?_
 refine WP_seq ?_
 refine WP_region ?_
 refine O_loadA (vs := [_, _]) S24 rfl rfl rfl b6 rfl rfl ?_
 refine O_call enters65 rfl rfl rfl (ishr_c (k := 1) rfl ((hq4.ext e5).chgBk b5 (by decide) q6).nl (by (try simp only [lens]); omega) (by (try simp only [lens]); omega)) (fun v7 w7 e7 h7 => ?_)
 have z7 := e7.size
 try simp only [val_dig] at h7
 obtain ⟨q7, rfl, hq7⟩ := h7
 refine O_storeA (cs' := [_, _]) S24 rfl rfl rfl ((((((b1.ext e2).ext e3).ext e4).ext e5).chg q6 (by first | assumption | omega)).ext e7) rfl rfl (one_cons rfl (one_cons (hq7.nl).one one_nil)) rfl (fun w8 b8 q8 => ?_)
 have z8 := Nat.le_of_eq q8.size.symm
 have e8 : Ext w w8 := q8.ext (e6.trans e7) (by omega)
 refine WL_end [(2, _)] ⟨rfl, trivial⟩ ?_
 refine WP_ret ?_
 refine retL Tryd.results62 (.cell rfl S24 b8 rfl .nil) ?_
 have hz : (scl x (e + k + 1) + 1) / 2 ^ 1 = ner x (e + k) := by unfold ner; rw [Int.pow_one]
 rw [← hz]
 exact ⟨_, rfl, e8, _, rfl, (hq7.chgBk ((((((b1.ext e2).ext e3).ext e4).ext e5).chg q6 (by first | assumption | omega)).ext e7) (by decide) q8).mono (by omega)⟩

theorem gfloor_T {w : World} {vx : Value} {x e k : Int} {bx : Bool} (hbx : bx = decide (x < 0)) (hx : Nl w vx (dig x.natAbs)) (hvx : dval x e = true) (hpm : perm k) (hT : Tab w) :
    Calls Tryd.prog 14 #[.agg #[.bool bx, vx, .int .i64 e], .int .i64 k] w (Ret w fun r w' => ∃ q, r = .tuple #[.agg #[.bool (decide ((dman (scl x (e + k)) (-k)) < 0)), q, .int .i64 (dexp (scl x (e + k)) (-k))], .int .i64 (dcode (scl x (e + k)) (-k))] ∧ No w.heap.size 111 w' q (dig (dman (scl x (e + k)) (-k)).natAbs)) := by
 subst hbx
 have hRx := dval_range hvx
 have hlx : (dig x.natAbs).length ≤ 2049 := dval_len hvx
 have hpk := hpm
 unfold perm at hpk
 have hlS := scl_len (n := e + k) (m := 80000) hlx (by omega)
 refine enter (args := [_, _]) Tryd.func14 rfl Tryd.ntmps14 rfl ?_
 refine WP_seq ?_
 refine WP_region ?_
 refine O_box _ rfl rfl rfl rfl (fun g1 w1 b1 e1 gl1 gh1 => ?_)
 have z1 := e1.size
 refine O_box _ rfl rfl rfl rfl (fun g2 w2 b2 e2 gl2 gh2 => ?_)
 have z2 := e2.size
 refine O_alloc S26 rfl rfl (fun g3 w3 b3 e3 gl3 gh3 => ?_)
 have z3 := e3.size
 refine O_assign rfl rfl rfl ?_
 refine WL_end [(2, _), (3, _), (4, _)] ⟨rfl, rfl, rfl, trivial⟩ ?_
 refine WP_seq ?_
 refine WP_seq ?_
 refine WP_region ?_
 refine O_loadA (vs := [_, _, _]) S26 rfl rfl rfl ((b1.ext e2).ext e3) rfl rfl ?_
 refine O_loadC Tryd.underlying3 rfl rfl rfl rfl (b2.ext e3) rfl ?_
 refine O_call enters23 rfl rfl rfl (on_T rfl (hx.ext ((e1.trans e2).trans e3)) (by first | with_reducible assumption | exact dval_dman _ _ | exact dval_zero | exact (dval_neg _ _).trans (by assumption) | exact dval_dg (by assumption) (by assumption) | exact dval_dl (by assumption) (by assumption)) hpm) (fun v4 w4 e4 h4 => ?_)
 have z4 := e4.size
 obtain rfl := h4
 refine WL_end [(2, _), (3, _), (4, _), (8, _)] ⟨rfl, rfl, rfl, rfl, trivial⟩ ?_
 refine WP_condD rfl (fun c8 => ?_) (fun c8 => ?_)
 · --
  refine WP_seq ?_
  refine WP_region ?_
  refine O_field F26_0 rfl rfl rfl ?_
  refine O_loadA (vs := [_, _]) S24 rfl rfl rfl (((b1.ext e2).ext e3).ext e4) rfl rfl ?_
  refine O_field F26_1 rfl rfl rfl ?_
  refine O_loadC Tryd.underlying3 rfl rfl rfl rfl (((b1.ext e2).ext e3).ext e4) rfl ?_
  refine O_call enters57 rfl rfl rfl (dmake_c rfl (hx.ext (((e1.trans e2).trans e3).trans e4)) (by (try simp only [lens]); omega) (hT.ext (((e1.trans e2).trans e3).trans e4))) (fun v5 w5 e5 h5 => ?_)
  have z5 := e5.size
  try simp only [val_dig] at h5
  obtain ⟨q5, rfl, hq5⟩ := h5
  refine O_extract rfl rfl rfl rfl ?_
  refine O_extract rfl rfl rfl rfl ?_
  refine O_storeA (cs' := [_, _, _]) S26 rfl rfl rfl ((b3.ext e4).ext e5) rfl rfl (one_cons rfl (one_cons (hq5.nl).one (one_cons rfl one_nil))) rfl (fun w6 b6 q6 => ?_)
  have z6 := Nat.le_of_eq q6.size.symm
  have e6 : Ext w w6 := q6.ext ((((e1.trans e2).trans e3).trans e4).trans e5) (by omega)
  refine O_assign rfl rfl rfl ?_
  refine WL_end [(4, _), (5, _)] ⟨rfl, rfl, trivial⟩ ?_
  refine WP_ret ?_
  refine retL Tryd.results14 (.cell rfl S26 b6 rfl (.tmp rfl .nil)) ?_
  obtain ⟨k1, k2, k3⟩ := scl_on hvx c8
  rw [k1, k2, k3]
  exact ⟨_, rfl, e6, _, rfl, (hq5.chgBk ((b3.ext e4).ext e5) (by decide) q6).mono (by omega)⟩
 · --
  refine WP_skip ?_
  refine WP_seq ?_
  refine WP_region ?_
  refine O_loadC Tryd.underlying3 rfl rfl rfl rfl ((b2.ext e3).ext e4) rfl ?_
  refine O_makeFunc rfl rfl rfl ?_
  refine O_call enters58 rfl rfl rfl (round_T (z := scl x (e + k)) enters59 (fun w9 he9 => floor1_c ((((b1.ext e2).ext e3).ext e4).ext he9) (((b2.ext e3).ext e4).ext he9) rfl ((hx.ext (((e1.trans e2).trans e3).trans e4)).ext he9) hvx hpm) hpm (by (try simp only [lens]); omega) (hT.ext (((e1.trans e2).trans e3).trans e4))) (fun v7 w7 e7 h7 => ?_)
  have z7 := e7.size
  try simp only [val_dig] at h7
  obtain ⟨q7, rfl, hq7⟩ := h7
  refine O_extract rfl rfl rfl rfl ?_
  refine O_extract rfl rfl rfl rfl ?_
  refine O_storeA (cs' := [_, _, _]) S26 rfl rfl rfl ((b3.ext e4).ext e7) rfl rfl (one_cons rfl (one_cons (hq7.nl).one (one_cons rfl one_nil))) rfl (fun w8 b8 q8 => ?_)
  have z8 := Nat.le_of_eq q8.size.symm
  have e8 : Ext w w8 := q8.ext ((((e1.trans e2).trans e3).trans e4).trans e7) (by omega)
  refine O_assign rfl rfl rfl ?_
  refine WL_end [(4, _), (5, _)] ⟨rfl, rfl, trivial⟩ ?_
  refine WP_ret ?_
  refine retL Tryd.results14 (.cell rfl S26 b8 rfl (.tmp rfl .nil)) ?_
  exact ⟨_, rfl, e8, _, rfl, (hq7.chgBk ((b3.ext e4).ext e7) (by decide) q8).mono (by omega)⟩
theorem gfloor_F {w : World} {vx : Value} {x e k : Int} {bx : Bool} (hbx : bx = decide (x < 0)) (hx : Nl w vx (dig x.natAbs)) (hvx : dval x e = true) (hpm : ¬ perm k) :
    Calls Tryd.prog 14 #[.agg #[.bool bx, vx, .int .i64 e], .int .i64 k] w (Ret w fun r _ => r = .tuple #[.agg #[.bool (decide ((0 : Int) < 0)), .slice none 0 0, .int .i64 (0)], .int .i64 1]) := by
 subst hbx
 refine enter (args := [_, _]) Tryd.func14 rfl Tryd.ntmps14 rfl ?_
 refine WP_seq ?_
 refine WP_region ?_
 refine O_box _ rfl rfl rfl rfl (fun g1 w1 b1 e1 gl1 gh1 => ?_)
 have z1 := e1.size
 refine O_box _ rfl rfl rfl rfl (fun g2 w2 b2 e2 gl2 gh2 => ?_)
 have z2 := e2.size
 refine O_alloc S26 rfl rfl (fun g3 w3 b3 e3 gl3 gh3 => ?_)
 have z3 := e3.size
 refine O_assign rfl rfl rfl ?_
 refine WL_end [(2, _), (3, _), (4, _)] ⟨rfl, rfl, rfl, trivial⟩ ?_
 refine WP_seq ?_
 refine WP_seq ?_
 refine WP_region ?_
 refine O_loadA (vs := [_, _, _]) S26 rfl rfl rfl ((b1.ext e2).ext e3) rfl rfl ?_
 refine O_loadC Tryd.underlying3 rfl rfl rfl rfl (b2.ext e3) rfl ?_
 refine O_call enters23 rfl rfl rfl (on_F rfl (hx.ext ((e1.trans e2).trans e3)) (by first | with_reducible assumption | exact dval_dman _ _ | exact dval_zero | exact (dval_neg _ _).trans (by assumption) | exact dval_dg (by assumption) (by assumption) | exact dval_dl (by assumption) (by assumption)) hpm) (fun v4 w4 e4 h4 => ?_)
 have z4 := e4.size
 obtain rfl := h4
 refine WL_end [(2, _), (3, _), (4, _), (8, _)] ⟨rfl, rfl, rfl, rfl, trivial⟩ ?_
 refine WP_condF rfl ?_
 refine WP_skip ?_
 refine WP_seq ?_
 refine WP_region ?_
 refine O_loadC Tryd.underlying3 rfl rfl rfl rfl ((b2.ext e3).ext e4) rfl ?_
 refine O_makeFunc rfl rfl rfl ?_
 refine O_call enters58 rfl rfl rfl (round_F hpm) (fun v5 w5 e5 h5 => ?_)
 have z5 := e5.size
 try simp only [val_dig] at h5
 obtain rfl := h5
 refine O_extract rfl rfl rfl rfl ?_
 refine O_extract rfl rfl rfl rfl ?_
 refine O_storeA (cs' := [_, _, _]) S26 rfl rfl rfl ((b3.ext e4).ext e5) rfl rfl (one_cons rfl (one_cons rfl (one_cons rfl one_nil))) rfl (fun w6 b6 q6 => ?_)
 have z6 := Nat.le_of_eq q6.size.symm
 have e6 : Ext w w6 := q6.ext ((((e1.trans e2).trans e3).trans e4).trans e5) (by omega)
 refine O_assign rfl rfl rfl ?_
 refine WL_end [(4, _), (5, _)] ⟨rfl, rfl, trivial⟩ ?_
 refine WP_ret ?_
 refine retL Tryd.results14 (.cell rfl S26 b6 rfl (.tmp rfl .nil)) ?_
 exact ⟨_, rfl, e6, rfl⟩

theorem gnear_T {w : World} {vx : Value} {x e k : Int} {bx : Bool} (hbx : bx = decide (x < 0)) (hx : Nl w vx (dig x.natAbs)) (hvx : dval x e = true) (hpm : perm k) (hT : Tab w) :
    Calls Tryd.prog 16 #[.agg #[.bool bx, vx, .int .i64 e], .int .i64 k] w (Ret w fun r w' => ∃ q, r = .tuple #[.agg #[.bool (decide ((dman (ner x (e + k)) (-k)) < 0)), q, .int .i64 (dexp (ner x (e + k)) (-k))], .int .i64 (dcode (ner x (e + k)) (-k))] ∧ No w.heap.size 111 w' q (dig (dman (ner x (e + k)) (-k)).natAbs)) := by
 subst hbx
 have hRx := dval_range hvx
 have hlx : (dig x.natAbs).length ≤ 2049 := dval_len hvx
 have hpk := hpm
 unfold perm at hpk
 have hlS := ner_len (n := e + k) (m := 80000) hlx (by omega)
 refine enter (args := [_, _]) Tryd.func16 rfl Tryd.ntmps16 rfl ?_
 refine WP_seq ?_
 refine WP_region ?_
 refine O_box _ rfl rfl rfl rfl (fun g1 w1 b1 e1 gl1 gh1 => ?_)
 have z1 := e1.size
 refine O_box _ rfl rfl rfl rfl (fun g2 w2 b2 e2 gl2 gh2 => ?_)
 have z2 := e2.size
 refine O_alloc S26 rfl rfl (fun g3 w3 b3 e3 gl3 gh3 => ?_)
 have z3 := e3.size
 refine O_assign rfl rfl rfl ?_
 refine WL_end [(2, _), (3, _), (4, _)] ⟨rfl, rfl, rfl, trivial⟩ ?_
 refine WP_seq ?_
 refine WP_seq ?_
 refine WP_region ?_
 refine O_loadA (vs := [_, _, _]) S26 rfl rfl rfl ((b1.ext e2).ext e3) rfl rfl ?_
 refine O_loadC Tryd.underlying3 rfl rfl rfl rfl (b2.ext e3) rfl ?_
 refine O_call enters23 rfl rfl rfl (on_T rfl (hx.ext ((e1.trans e2).trans e3)) (by first | with_reducible assumption | exact dval_dman _ _ | exact dval_zero | exact (dval_neg _ _).trans (by assumption) | exact dval_dg (by assumption) (by assumption) | exact dval_dl (by assumption) (by assumption)) hpm) (fun v4 w4 e4 h4 => ?_)
 have z4 := e4.size
 obtain rfl := h4
 refine WL_end [(2, _), (3, _), (4, _), (8, _)] ⟨rfl, rfl, rfl, rfl, trivial⟩ ?_
 refine WP_condD rfl (fun c8 => ?_) (fun c8 => ?_)
 · --
  refine WP_seq ?_
  refine WP_region ?_
  refine O_field F26_0 rfl rfl rfl ?_
  refine O_loadA (vs := [_, _]) S24 rfl rfl rfl (((b1.ext e2).ext e3).ext e4) rfl rfl ?_
  refine O_field F26_1 rfl rfl rfl ?_
  refine O_loadC Tryd.underlying3 rfl rfl rfl rfl (((b1.ext e2).ext e3).ext e4) rfl ?_
  refine O_call enters57 rfl rfl rfl (dmake_c rfl (hx.ext (((e1.trans e2).trans e3).trans e4)) (by (try simp only [lens]); omega) (hT.ext (((e1.trans e2).trans e3).trans e4))) (fun v5 w5 e5 h5 => ?_)
  have z5 := e5.size
  try simp only [val_dig] at h5
  obtain ⟨q5, rfl, hq5⟩ := h5
  refine O_extract rfl rfl rfl rfl ?_
  refine O_extract rfl rfl rfl rfl ?_
  refine O_storeA (cs' := [_, _, _]) S26 rfl rfl rfl ((b3.ext e4).ext e5) rfl rfl (one_cons rfl (one_cons (hq5.nl).one (one_cons rfl one_nil))) rfl (fun w6 b6 q6 => ?_)
  have z6 := Nat.le_of_eq q6.size.symm
  have e6 : Ext w w6 := q6.ext ((((e1.trans e2).trans e3).trans e4).trans e5) (by omega)
  refine O_assign rfl rfl rfl ?_
  refine WL_end [(4, _), (5, _)] ⟨rfl, rfl, trivial⟩ ?_
  refine WP_ret ?_
  refine retL Tryd.results16 (.cell rfl S26 b6 rfl (.tmp rfl .nil)) ?_
  obtain ⟨k1, k2, k3⟩ := ner_on hvx c8
  rw [k1, k2, k3]
  exact ⟨_, rfl, e6, _, rfl, (hq5.chgBk ((b3.ext e4).ext e5) (by decide) q6).mono (by omega)⟩
 · --
  refine WP_skip ?_
  refine WP_seq ?_
  refine WP_region ?_
  refine O_loadC Tryd.underlying3 rfl rfl rfl rfl ((b2.ext e3).ext e4) rfl ?_
  refine O_makeFunc rfl rfl rfl ?_
  refine O_call enters58 rfl rfl rfl (round_T (z := ner x (e + k)) enters62 (fun w9 he9 => near1_c ((((b1.ext e2).ext e3).ext e4).ext he9) (((b2.ext e3).ext e4).ext he9) rfl ((hx.ext (((e1.trans e2).trans e3).trans e4)).ext he9) hvx hpm) hpm (by (try simp only [lens]); omega) (hT.ext (((e1.trans e2).trans e3).trans e4))) (fun v7 w7 e7 h7 => ?_)
  have z7 := e7.size
  try simp only [val_dig] at h7
  obtain ⟨q7, rfl, hq7⟩ := h7
  refine O_extract rfl rfl rfl rfl ?_
  refine O_extract rfl rfl rfl rfl ?_
  refine O_storeA (cs' := [_, _, _]) S26 rfl rfl rfl ((b3.ext e4).ext e7) rfl rfl (one_cons rfl (one_cons (hq7.nl).one (one_cons rfl one_nil))) rfl (fun w8 b8 q8 => ?_)
  have z8 := Nat.le_of_eq q8.size.symm
  have e8 : Ext w w8 := q8.ext ((((e1.trans e2).trans e3).trans e4).trans e7) (by omega)
  refine O_assign rfl rfl rfl ?_
  refine WL_end [(4, _), (5, _)] ⟨rfl, rfl, trivial⟩ ?_
  refine WP_ret ?_
  refine retL Tryd.results16 (.cell rfl S26 b8 rfl (.tmp rfl .nil)) ?_
  exact ⟨_, rfl, e8, _, rfl, (hq7.chgBk ((b3.ext e4).ext e7) (by decide) q8).mono (by omega)⟩
theorem gnear_F {w : World} {vx : Value} {x e k : Int} {bx : Bool} (hbx : bx = decide (x < 0)) (hx : Nl w vx (dig x.natAbs)) (hvx : dval x e = true) (hpm : ¬ perm k) :
    Calls Tryd.prog 16 #[.agg #[.bool bx, vx, .int .i64 e], .int .i64 k] w (Ret w fun r _ => r = .tuple #[.agg #[.bool (decide ((0 : Int) < 0)), .slice none 0 0, .int .i64 (0)], .int .i64 1]) := by
 subst hbx
 refine enter (args := [_, _]) Tryd.func16 rfl Tryd.ntmps16 rfl ?_
 refine WP_seq ?_
 refine WP_region ?_
 refine O_box _ rfl rfl rfl rfl (fun g1 w1 b1 e1 gl1 gh1 => ?_)
 have z1 := e1.size
 refine O_box _ rfl rfl rfl rfl (fun g2 w2 b2 e2 gl2 gh2 => ?_)
 have z2 := e2.size
 refine O_alloc S26 rfl rfl (fun g3 w3 b3 e3 gl3 gh3 => ?_)
 have z3 := e3.size
 refine O_assign rfl rfl rfl ?_
 refine WL_end [(2, _), (3, _), (4, _)] ⟨rfl, rfl, rfl, trivial⟩ ?_
 refine WP_seq ?_
 refine WP_seq ?_
 refine WP_region ?_
 refine O_loadA (vs := [_, _, _]) S26 rfl rfl rfl ((b1.ext e2).ext e3) rfl rfl ?_
 refine O_loadC Tryd.underlying3 rfl rfl rfl rfl (b2.ext e3) rfl ?_
 refine O_call enters23 rfl rfl rfl (on_F rfl (hx.ext ((e1.trans e2).trans e3)) (by first | with_reducible assumption | exact dval_dman _ _ | exact dval_zero | exact (dval_neg _ _).trans (by assumption) | exact dval_dg (by assumption) (by assumption) | exact dval_dl (by assumption) (by assumption)) hpm) (fun v4 w4 e4 h4 => ?_)
 have z4 := e4.size
 obtain rfl := h4
 refine WL_end [(2, _), (3, _), (4, _), (8, _)] ⟨rfl, rfl, rfl, rfl, trivial⟩ ?_
 refine WP_condF rfl ?_
 refine WP_skip ?_
 refine WP_seq ?_
 refine WP_region ?_
 refine O_loadC Tryd.underlying3 rfl rfl rfl rfl ((b2.ext e3).ext e4) rfl ?_
 refine O_makeFunc rfl rfl rfl ?_
 refine O_call enters58 rfl rfl rfl (round_F hpm) (fun v5 w5 e5 h5 => ?_)
 have z5 := e5.size
 try simp only [val_dig] at h5
 obtain rfl := h5
 refine O_extract rfl rfl rfl rfl ?_
 refine O_extract rfl rfl rfl rfl ?_
 refine O_storeA (cs' := [_, _, _]) S26 rfl rfl rfl ((b3.ext e4).ext e5) rfl rfl (one_cons rfl (one_cons rfl (one_cons rfl one_nil))) rfl (fun w6 b6 q6 => ?_)
 have z6 := Nat.le_of_eq q6.size.symm
 have e6 : Ext w w6 := q6.ext ((((e1.trans e2).trans e3).trans e4).trans e5) (by omega)
 refine O_assign rfl rfl rfl ?_
 refine WL_end [(4, _), (5, _)] ⟨rfl, rfl, trivial⟩ ?_
 refine WP_ret ?_
 refine retL Tryd.results16 (.cell rfl S26 b6 rfl (.tmp rfl .nil)) ?_
 exact ⟨_, rfl, e6, rfl⟩

theorem gceil_T {w : World} {vx : Value} {x e k : Int} {bx : Bool} (hbx : bx = decide (x < 0)) (hx : Nl w vx (dig x.natAbs)) (hvx : dval x e = true) (hpm : perm k) (hT : Tab w) :
    Calls Tryd.prog 15 #[.agg #[.bool bx, vx, .int .i64 e], .int .i64 k] w (Ret w fun r w' => ∃ q, r = .tuple #[.agg #[.bool (decide ((dman (-(scl (-x) (e + k))) (-k)) < 0)), q, .int .i64 (dexp (-(scl (-x) (e + k))) (-k))], .int .i64 (dcode (-(scl (-x) (e + k))) (-k))] ∧ No w.heap.size 111 w' q (dig (dman (-(scl (-x) (e + k))) (-k)).natAbs)) := by
 subst hbx
 have hRx := dval_range hvx
 have hlx : (dig x.natAbs).length ≤ 2049 := dval_len hvx
 have hpk := hpm
 unfold perm at hpk
 have hln := neg_len hlx
 have hlS := scl_len (n := e + k) (m := 80000) hln (by omega)
 have hlM := dman_len (e := -k) hlS
 refine enter (args := [_, _]) Tryd.func15 rfl Tryd.ntmps15 rfl ?_
 refine WP_seq ?_
 refine WP_region ?_
 refine O_box _ rfl rfl rfl rfl (fun g1 w1 b1 e1 gl1 gh1 => ?_)
 have z1 := e1.size
 refine O_alloc S26 rfl rfl (fun g2 w2 b2 e2 gl2 gh2 => ?_)
 have z2 := e2.size
 refine O_assign rfl rfl rfl ?_
 refine WL_end [(1, _), (2, _), (4, _)] ⟨rfl, rfl, rfl, trivial⟩ ?_
 refine WP_seq ?_
 refine WP_region ?_
 refine O_loadA (vs := [_, _, _]) S26 rfl rfl rfl (b1.ext e2) rfl rfl ?_
 refine O_call enters61 rfl rfl rfl (dneg_c rfl (hx.ext (e1.trans e2)) (by (try simp only [lens]); omega)) (fun v3 w3 e3 h3 => ?_)
 have z3 := e3.size
 try simp only [val_dig] at h3
 obtain ⟨q3, rfl, hq3⟩ := h3
 refine O_move rfl rfl rfl ?_
 refine O_call enters14 rfl rfl rfl (gfloor_T rfl hq3.nl (by first | with_reducible assumption | exact dval_dman _ _ | exact dval_zero | exact (dval_neg _ _).trans (by assumption) | exact dval_dg (by assumption) (by assumption) | exact dval_dl (by assumption) (by assumption)) hpm (hT.ext ((e1.trans e2).trans e3))) (fun v4 w4 e4 h4 => ?_)
 have z4 := e4.size
 try simp only [val_dig] at h4
 obtain ⟨q4, rfl, hq4⟩ := h4
 refine O_move rfl rfl rfl ?_
 refine O_extract rfl rfl rfl rfl ?_
 refine O_extract rfl rfl rfl rfl ?_
 refine O_alloc S26 rfl rfl (fun g5 w5 b5 e5 gl5 gh5 => ?_)
 have z5 := e5.size
 refine O_storeA (cs' := [_, _, _]) S26 rfl rfl rfl b5 rfl rfl (one_cons rfl (one_cons ((hq4.ext e5).nl).one (one_cons rfl one_nil))) rfl (fun w6 b6 q6 => ?_)
 have z6 := Nat.le_of_eq q6.size.symm
 have e6 : Ext w w6 := q6.ext ((((e1.trans e2).trans e3).trans e4).trans e5) (by omega)
 refine O_assign rfl rfl rfl ?_
 refine WL_end [(4, _), (6, _), (7, _)] ⟨rfl, rfl, rfl, trivial⟩ ?_
 refine WP_seq ?_
 refine WP_seq ?_
 refine WP_region ?_
 refine O_move rfl rfl rfl ?_
 refine O_neq rfl rfl rfl rfl rfl ?_
 refine WL_end [(4, _), (6, _), (7, _), (16, _)] ⟨rfl, rfl, rfl, rfl, trivial⟩ ?_
 refine WP_condN rfl (fun c16 => ?_) (fun c16 => ?_)
 · --
  refine WP_seq ?_
  refine WP_region ?_
  refine O_build (cs := [_, _, _]) B26 rfl rfl rfl cells_nil rfl ?_
  refine O_move rfl rfl rfl ?_
  refine O_storeA (cs' := [_, _, _]) S26 rfl rfl rfl ((((b2.ext e3).ext e4).ext e5).chg q6 (by first | assumption | omega)) rfl rfl (one_cons rfl (one_cons rfl (one_cons rfl one_nil))) rfl (fun w7 b7 q7 => ?_)
  have z7 := Nat.le_of_eq q7.size.symm
  have e7 : Ext w w7 := q7.ext e6 (by omega)
  refine O_assign rfl rfl rfl ?_
  refine WL_end [(4, _), (5, _)] ⟨rfl, rfl, trivial⟩ ?_
  refine WP_ret ?_
  refine retL Tryd.results15 (.cell rfl S26 b7 rfl (.tmp rfl .nil)) ?_
  obtain ⟨k1, k2⟩ := dman_bad c16
  rw [dcode_neg, dman_neg, dexp_neg, k1, k2]
  exact ⟨_, rfl, e7, _, rfl, by rw [show (-0 : Int) = 0 from rfl, dig0]; exact No.nil _ _ _⟩
 · --
  refine WP_skip ?_
  refine WP_seq ?_
  refine WP_region ?_
  refine O_loadA (vs := [_, _, _]) S26 rfl rfl rfl b6 rfl rfl ?_
  refine O_call enters61 rfl rfl rfl (dneg_c rfl ((hq4.ext e5).chgBk b5 (by decide) q6).nl (by (try simp only [lens]); omega)) (fun v8 w8 e8 h8 => ?_)
  have z8 := e8.size
  try simp only [val_dig] at h8
  obtain ⟨q8, rfl, hq8⟩ := h8
  refine O_storeA (cs' := [_, _, _]) S26 rfl rfl rfl (((((b2.ext e3).ext e4).ext e5).chg q6 (by first | assumption | omega)).ext e8) rfl rfl (one_cons rfl (one_cons (hq8.nl).one (one_cons rfl one_nil))) rfl (fun w9 b9 q9 => ?_)
  have z9 := Nat.le_of_eq q9.size.symm
  have e9 : Ext w w9 := q9.ext (e6.trans e8) (by omega)
  refine O_assign rfl rfl rfl ?_
  refine WL_end [(4, _), (5, _)] ⟨rfl, rfl, trivial⟩ ?_
  refine WP_ret ?_
  refine retL Tryd.results15 (.cell rfl S26 b9 rfl (.tmp rfl .nil)) ?_
  have hc : dcode (scl (-x) (e + k)) (-k) = 0 := c16
  rw [dcode_neg, dman_neg, dexp_neg, hc]
  exact ⟨_, rfl, e9, _, rfl, (hq8.chgBk (((((b2.ext e3).ext e4).ext e5).chg q6 (by first | assumption | omega)).ext e8) (by decide) q9).mono (by omega)⟩
theorem gceil_F {w : World} {vx : Value} {x e k : Int} {bx : Bool} (hbx : bx = decide (x < 0)) (hx : Nl w vx (dig x.natAbs)) (hvx : dval x e = true) (hpm : ¬ perm k) :
    Calls Tryd.prog 15 #[.agg #[.bool bx, vx, .int .i64 e], .int .i64 k] w (Ret w fun r _ => r = .tuple #[.agg #[.bool (decide ((0 : Int) < 0)), .slice none 0 0, .int .i64 (0)], .int .i64 1]) := by
 subst hbx
 have hRx := dval_range hvx
 have hlx : (dig x.natAbs).length ≤ 2049 := dval_len hvx
 refine enter (args := [_, _]) Tryd.func15 rfl Tryd.ntmps15 rfl ?_
 refine WP_seq ?_
 refine WP_region ?_
 refine O_box _ rfl rfl rfl rfl (fun g1 w1 b1 e1 gl1 gh1 => ?_)
 have z1 := e1.size
 refine O_alloc S26 rfl rfl (fun g2 w2 b2 e2 gl2 gh2 => ?_)
 have z2 := e2.size
 refine O_assign rfl rfl rfl ?_
 refine WL_end [(1, _), (2, _), (4, _)] ⟨rfl, rfl, rfl, trivial⟩ ?_
 refine WP_seq ?_
 refine WP_region ?_
 refine O_loadA (vs := [_, _, _]) S26 rfl rfl rfl (b1.ext e2) rfl rfl ?_
 refine O_call enters61 rfl rfl rfl (dneg_c rfl (hx.ext (e1.trans e2)) (by (try simp only [lens]); omega)) (fun v3 w3 e3 h3 => ?_)
 have z3 := e3.size
 try simp only [val_dig] at h3
 obtain ⟨q3, rfl, hq3⟩ := h3
 refine O_move rfl rfl rfl ?_
 refine O_call enters14 rfl rfl rfl (gfloor_F rfl hq3.nl (by first | with_reducible assumption | exact dval_dman _ _ | exact dval_zero | exact (dval_neg _ _).trans (by assumption) | exact dval_dg (by assumption) (by assumption) | exact dval_dl (by assumption) (by assumption)) hpm) (fun v4 w4 e4 h4 => ?_)
 have z4 := e4.size
 try simp only [val_dig] at h4
 obtain rfl := h4
 refine O_move rfl rfl rfl ?_
 refine O_extract rfl rfl rfl rfl ?_
 refine O_extract rfl rfl rfl rfl ?_
 refine O_alloc S26 rfl rfl (fun g5 w5 b5 e5 gl5 gh5 => ?_)
 have z5 := e5.size
 refine O_storeA (cs' := [_, _, _]) S26 rfl rfl rfl b5 rfl rfl (one_cons rfl (one_cons rfl (one_cons rfl one_nil))) rfl (fun w6 b6 q6 => ?_)
 have z6 := Nat.le_of_eq q6.size.symm
 have e6 : Ext w w6 := q6.ext ((((e1.trans e2).trans e3).trans e4).trans e5) (by omega)
 refine O_assign rfl rfl rfl ?_
 refine WL_end [(4, _), (6, _), (7, _)] ⟨rfl, rfl, rfl, trivial⟩ ?_
 refine WP_seq ?_
 refine WP_seq ?_
 refine WP_region ?_
 refine O_move rfl rfl rfl ?_
 refine O_neq (t := true) rfl rfl rfl rfl (decide_eq_true (by decide)) ?_
 refine WL_end [(4, _), (6, _), (7, _), (16, _)] ⟨rfl, rfl, rfl, rfl, trivial⟩ ?_
 refine WP_condT rfl ?_
 refine WP_seq ?_
 refine WP_region ?_
 refine O_build (cs := [_, _, _]) B26 rfl rfl rfl cells_nil rfl ?_
 refine O_move rfl rfl rfl ?_
 refine O_storeA (cs' := [_, _, _]) S26 rfl rfl rfl ((((b2.ext e3).ext e4).ext e5).chg q6 (by first | assumption | omega)) rfl rfl (one_cons rfl (one_cons rfl (one_cons rfl one_nil))) rfl (fun w7 b7 q7 => ?_)
 have z7 := Nat.le_of_eq q7.size.symm
 have e7 : Ext w w7 := q7.ext e6 (by omega)
 refine O_assign rfl rfl rfl ?_
 refine WL_end [(4, _), (5, _)] ⟨rfl, rfl, trivial⟩ ?_
 refine WP_ret ?_
 refine retL Tryd.results15 (.cell rfl S26 b7 rfl (.tmp rfl .nil)) ?_
 exact ⟨_, rfl, e7, rfl⟩

theorem unit_T {w : World} {k : Int} (hpm : perm k) (hT : Tab w) :
    Calls Tryd.prog 22 #[.int .i64 k] w (Ret w fun r w' => ∃ q, r = .tuple #[.agg #[.bool (decide ((dman (1) (-k)) < 0)), q, .int .i64 (dexp (1) (-k))], .int .i64 (dcode (1) (-k))] ∧ No w.heap.size 111 w' q (dig (dman (1) (-k)).natAbs)) := by
 have hpk := hpm
 unfold perm at hpk
 have hs2 : (dig (1 : Int).natAbs).length ≤ 1 := dig_len_of_lt (by decide)
 refine enter (args := [_]) Tryd.func22 rfl Tryd.ntmps22 rfl ?_
 refine WP_seq ?_
 refine WP_region ?_
 refine O_alloc S26 rfl rfl (fun g1 w1 b1 e1 gl1 gh1 => ?_)
 have z1 := e1.size
 refine O_assign rfl rfl rfl ?_
 refine WL_end [(0, _), (2, _)] ⟨rfl, rfl, trivial⟩ ?_
 refine WP_seq ?_
 refine WP_seq ?_
 refine WP_region ?_
 refine O_move rfl rfl rfl ?_
 refine O_call enters72 rfl rfl rfl (perm_T hpm) (fun v2 w2 e2 h2 => ?_)
 have z2 := e2.size
 obtain rfl := h2
 refine O_not rfl rfl rfl rfl ?_
 refine WL_end [(0, _), (2, _), (6, _)] ⟨rfl, rfl, rfl, trivial⟩ ?_
 refine WP_condF rfl ?_
 refine WP_skip ?_
 refine WP_seq ?_
 refine WP_region ?_
 refine O_call enters64 rfl rfl rfl (iof_c (by (try simp only [lens]); omega) (by (try simp only [lens]); omega)) (fun v3 w3 e3 h3 => ?_)
 have z3 := e3.size
 try simp only [val_dig] at h3
 obtain ⟨q3, rfl, hq3⟩ := h3
 refine O_move rfl rfl rfl ?_
 refine O_neg (r := (-k)) rfl rfl rfl (by rw [IntKind.wrap_i64]; omega) ?_
 refine O_call enters57 rfl rfl rfl (dmake_c rfl hq3.nl (by (try simp only [lens]); omega) (hT.ext ((e1.trans e2).trans e3))) (fun v4 w4 e4 h4 => ?_)
 have z4 := e4.size
 try simp only [val_dig] at h4
 obtain ⟨q4, rfl, hq4⟩ := h4
 refine O_extract rfl rfl rfl rfl ?_
 refine O_extract rfl rfl rfl rfl ?_
 refine O_storeA (cs' := [_, _, _]) S26 rfl rfl rfl (((b1.ext e2).ext e3).ext e4) rfl rfl (one_cons rfl (one_cons (hq4.nl).one (one_cons rfl one_nil))) rfl (fun w5 b5 q5 => ?_)
 have z5 := Nat.le_of_eq q5.size.symm
 have e5 : Ext w w5 := q5.ext (((e1.trans e2).trans e3).trans e4) (by omega)
 refine O_assign rfl rfl rfl ?_
 refine WL_end [(2, _), (3, _)] ⟨rfl, rfl, trivial⟩ ?_
 refine WP_ret ?_
 refine retL Tryd.results22 (.cell rfl S26 b5 rfl (.tmp rfl .nil)) ?_
 exact ⟨_, rfl, e5, _, rfl, (hq4.chgBk (((b1.ext e2).ext e3).ext e4) (by decide) q5).mono (by omega)⟩
theorem unit_F {w : World} {k : Int} (hpm : ¬ perm k) :
    Calls Tryd.prog 22 #[.int .i64 k] w (Ret w fun r _ => r = .tuple #[.agg #[.bool (decide ((0 : Int) < 0)), .slice none 0 0, .int .i64 (0)], .int .i64 1]) := by
 refine enter (args := [_]) Tryd.func22 rfl Tryd.ntmps22 rfl ?_
 refine WP_seq ?_
 refine WP_region ?_
 refine O_alloc S26 rfl rfl (fun g1 w1 b1 e1 gl1 gh1 => ?_)
 have z1 := e1.size
 refine O_assign rfl rfl rfl ?_
 refine WL_end [(0, _), (2, _)] ⟨rfl, rfl, trivial⟩ ?_
 refine WP_seq ?_
 refine WP_seq ?_
 refine WP_region ?_
 refine O_move rfl rfl rfl ?_
 refine O_call enters72 rfl rfl rfl (perm_F hpm) (fun v2 w2 e2 h2 => ?_)
 have z2 := e2.size
 obtain rfl := h2
 refine O_not rfl rfl rfl rfl ?_
 refine WL_end [(0, _), (2, _), (6, _)] ⟨rfl, rfl, rfl, trivial⟩ ?_
 refine WP_condT rfl ?_
 refine WP_seq ?_
 refine WP_region ?_
 refine O_build (cs := [_, _, _]) B26 rfl rfl rfl cells_nil rfl ?_
 refine O_storeA (cs' := [_, _, _]) S26 rfl rfl rfl (b1.ext e2) rfl rfl (one_cons rfl (one_cons rfl (one_cons rfl one_nil))) rfl (fun w3 b3 q3 => ?_)
 have z3 := Nat.le_of_eq q3.size.symm
 have e3 : Ext w w3 := q3.ext (e1.trans e2) (by omega)
 refine O_assign rfl rfl rfl ?_
 refine WL_end [(2, _), (3, _)] ⟨rfl, rfl, trivial⟩ ?_
 refine WP_ret ?_
 refine retL Tryd.results22 (.cell rfl S26 b3 rfl (.tmp rfl .nil)) ?_
 exact ⟨_, rfl, e3, rfl⟩

theorem runit_T {w : World} {k : Int} (hpm : perm k) :
    Calls Tryd.prog 30 #[.int .i64 k] w (Ret w fun r w' => ∃ q, r = .tuple #[.agg #[.bool (decide ((dman (1) (-k)) < 0)), q, .int .i64 (dexp (1) (-k))], .int .i64 (dcode (1) (-k))] ∧ No w.heap.size 111 w' q (dig (dman (1) (-k)).natAbs)) := by
 have hpk := hpm
 unfold perm at hpk
 have hs2 : (dig (1 : Int).natAbs).length ≤ 1 := dig_len_of_lt (by decide)
 refine enter (args := [_]) Tryd.func30 rfl Tryd.ntmps30 rfl ?_
 refine WP_seq ?_
 refine WP_region ?_
 refine O_alloc S26 rfl rfl (fun g1 w1 b1 e1 gl1 gh1 => ?_)
 have z1 := e1.size
 refine O_assign rfl rfl rfl ?_
 refine WL_end [(0, _), (2, _)] ⟨rfl, rfl, trivial⟩ ?_
 refine WP_seq ?_
 refine WP_seq ?_
 refine WP_region ?_
 refine O_move rfl rfl rfl ?_
 refine O_call enters66 rfl rfl rfl (rperm_T hpm) (fun v2 w2 e2 h2 => ?_)
 have z2 := e2.size
 obtain rfl := h2
 refine O_not rfl rfl rfl rfl ?_
 refine WL_end [(0, _), (2, _), (6, _)] ⟨rfl, rfl, rfl, trivial⟩ ?_
 refine WP_condF rfl ?_
 refine WP_skip ?_
 refine WP_seq ?_
 refine WP_region ?_
 refine O_call enters70 rfl rfl rfl (riof_c (by (try simp only [lens]); omega) (by (try simp only [lens]); omega)) (fun v3 w3 e3 h3 => ?_)
 have z3 := e3.size
 try simp only [val_dig] at h3
 obtain ⟨q3, rfl, hq3⟩ := h3
 refine O_move rfl rfl rfl ?_
 refine O_neg (r := (-k)) rfl rfl rfl (by rw [IntKind.wrap_i64]; omega) ?_
 refine O_call enters56 rfl rfl rfl (rdmake_c rfl hq3.nl (by (try simp only [lens]); omega)) (fun v4 w4 e4 h4 => ?_)
 have z4 := e4.size
 try simp only [val_dig] at h4
 obtain ⟨q4, rfl, hq4⟩ := h4
 refine O_extract rfl rfl rfl rfl ?_
 refine O_extract rfl rfl rfl rfl ?_
 refine O_storeA (cs' := [_, _, _]) S26 rfl rfl rfl (((b1.ext e2).ext e3).ext e4) rfl rfl (one_cons rfl (one_cons (hq4.nl).one (one_cons rfl one_nil))) rfl (fun w5 b5 q5 => ?_)
 have z5 := Nat.le_of_eq q5.size.symm
 have e5 : Ext w w5 := q5.ext (((e1.trans e2).trans e3).trans e4) (by omega)
 refine O_assign rfl rfl rfl ?_
 refine WL_end [(2, _), (3, _)] ⟨rfl, rfl, trivial⟩ ?_
 refine WP_ret ?_
 refine retL Tryd.results30 (.cell rfl S26 b5 rfl (.tmp rfl .nil)) ?_
 exact ⟨_, rfl, e5, _, rfl, (hq4.chgBk (((b1.ext e2).ext e3).ext e4) (by decide) q5).mono (by omega)⟩
theorem runit_F {w : World} {k : Int} (hpm : ¬ perm k) :
    Calls Tryd.prog 30 #[.int .i64 k] w (Ret w fun r _ => r = .tuple #[.agg #[.bool (decide ((0 : Int) < 0)), .slice none 0 0, .int .i64 (0)], .int .i64 1]) := by
 refine enter (args := [_]) Tryd.func30 rfl Tryd.ntmps30 rfl ?_
 refine WP_seq ?_
 refine WP_region ?_
 refine O_alloc S26 rfl rfl (fun g1 w1 b1 e1 gl1 gh1 => ?_)
 have z1 := e1.size
 refine O_assign rfl rfl rfl ?_
 refine WL_end [(0, _), (2, _)] ⟨rfl, rfl, trivial⟩ ?_
 refine WP_seq ?_
 refine WP_seq ?_
 refine WP_region ?_
 refine O_move rfl rfl rfl ?_
 refine O_call enters66 rfl rfl rfl (rperm_F hpm) (fun v2 w2 e2 h2 => ?_)
 have z2 := e2.size
 obtain rfl := h2
 refine O_not rfl rfl rfl rfl ?_
 refine WL_end [(0, _), (2, _), (6, _)] ⟨rfl, rfl, rfl, trivial⟩ ?_
 refine WP_condT rfl ?_
 refine WP_seq ?_
 refine WP_region ?_
 refine O_build (cs := [_, _, _]) B26 rfl rfl rfl cells_nil rfl ?_
 refine O_storeA (cs' := [_, _, _]) S26 rfl rfl rfl (b1.ext e2) rfl rfl (one_cons rfl (one_cons rfl (one_cons rfl one_nil))) rfl (fun w3 b3 q3 => ?_)
 have z3 := Nat.le_of_eq q3.size.symm
 have e3 : Ext w w3 := q3.ext (e1.trans e2) (by omega)
 refine O_assign rfl rfl rfl ?_
 refine WL_end [(2, _), (3, _)] ⟨rfl, rfl, trivial⟩ ?_
 refine WP_ret ?_
 refine retL Tryd.results30 (.cell rfl S26 b3 rfl (.tmp rfl .nil)) ?_
 exact ⟨_, rfl, e3, rfl⟩

end Go.Proofs.YthbfhljpfkicpaaDoor
