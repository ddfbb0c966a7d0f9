/-
  Walks.
-/
import Derived.Test.YthbbcnlpfjbleaaS4
set_option linter.unusedVariables false
set_option linter.unusedSimpArgs false
set_option maxRecDepth 100000
namespace Go.Proofs.Ythbbcnlpfjbleaa
open Go Go.RowKit
theorem dsg_eq {x y : Int} (h : dsg x y = true) : decide (x < 0) = !decide (y < 0) := by
  unfold dsg at h; revert h; cases decide (x < 0) <;> cases decide (y < 0) <;> decide
theorem dsg_ne {x y : Int} (h : ¬ dsg x y = true) : decide (x < 0) = decide (y < 0) := by
  unfold dsg at h; revert h; cases decide (x < 0) <;> cases decide (y < 0) <;> decide
theorem idq_add {x y : Int} (h0 : y ≠ 0) : idq x y * y + idr x y = x := by
  have hm := Nat.mod_lt x.natAbs (show 0 < y.natAbs by omega)
  have hd := Nat.div_add_mod x.natAbs y.natAbs
  have hx := mk_self x
  have hy := mk_self y
  have e1 : idq x y = if dsg x y = true ∧ x.natAbs % y.natAbs ≠ 0 then mk (dsg x y) (x.natAbs / y.natAbs + 1) else mk (dsg x y) (x.natAbs / y.natAbs) := if_neg h0
  have e2 : idr x y = if dsg x y = true ∧ x.natAbs % y.natAbs ≠ 0 then mk (decide (y < 0)) (y.natAbs - x.natAbs % y.natAbs) else mk (decide (y < 0)) (x.natAbs % y.natAbs) := if_neg h0
  rw [e1, e2]
  generalize hq : x.natAbs / y.natAbs = q at *
  generalize hr : x.natAbs % y.natAbs = r at *
  clear e1 e2 hq hr
  by_cases hs : dsg x y = true
  · have h1 := dsg_eq hs
    rw [hs]
    by_cases hr : r = 0
    · rw [if_neg (fun h => h.2 hr), if_neg (fun h => h.2 hr)]
      rw [h1] at hx
      generalize decide (y < 0) = b at *
      generalize x.natAbs = n at *
      generalize y.natAbs = m at *
      subst hd; subst hr; subst hx; subst hy
      cases b <;> simp [mk] <;> grind
    · rw [if_pos ⟨rfl, hr⟩, if_pos ⟨rfl, hr⟩]
      rw [h1] at hx
      generalize decide (y < 0) = b at *
      generalize x.natAbs = n at *
      generalize y.natAbs = m at *
      obtain ⟨k, rfl⟩ : ∃ k, m = r + k := ⟨m - r, by omega⟩
      rw [Nat.add_sub_cancel_left]
      subst hd; subst hx; subst hy
      cases b <;> simp [mk] <;> grind
  · have h1 := dsg_ne hs
    rw [if_neg (fun h => hs h.1), if_neg (fun h => hs h.1)]
    have hs' : dsg x y = false := by simpa using hs
    rw [hs']
    rw [h1] at hx
    generalize decide (y < 0) = b at *
    generalize x.natAbs = n at *
    generalize y.natAbs = m at *
    subst hd; subst hx; subst hy
    cases b <;> simp [mk] <;> grind
theorem idr_lt {x y : Int} (h0 : y ≠ 0) : (idr x y).natAbs < y.natAbs := by
  have hm := Nat.mod_lt x.natAbs (show 0 < y.natAbs by omega)
  unfold idr
  rw [if_neg h0]
  split
  · rename_i h; rw [mk_abs]; omega
  · rw [mk_abs]; exact hm
theorem idr_sign {x y : Int} (h0 : y ≠ 0) (h : idr x y ≠ 0) : decide (idr x y < 0) = decide (y < 0) := by
  have key : ∃ n, idr x y = mk (decide (y < 0)) n := by
    unfold idr
    rw [if_neg h0]
    split
    · exact ⟨_, rfl⟩
    · exact ⟨_, rfl⟩
  obtain ⟨n, e⟩ := key
  rw [e] at h ⊢
  rw [mk_neg]
  have : n ≠ 0 := by intro hn; apply h; subst hn; unfold mk; cases decide (y < 0) <;> rfl
  rw [decide_eq_true this, Bool.and_true]
theorem idq_len {x y : Int} {a : Nat} (hx : (dig x.natAbs).length ≤ a) (ha : 1 ≤ a) : (dig (idq x y).natAbs).length ≤ a + 1 := by
  have h1 := dig_len_add x.natAbs 1
  have h2 : (dig 1).length ≤ 1 := dig_len_of_lt (by decide)
  have h3 : (idq x y).natAbs ≤ x.natAbs + 1 := by
    have := Nat.div_le_self x.natAbs y.natAbs
    unfold idq
    split
    · simp
    · split <;> rw [mk_abs] <;> omega
  have := dig_len_mono h3
  omega
theorem idr_len {x y : Int} {a : Nat} (h0 : y ≠ 0) (hy : (dig y.natAbs).length ≤ a) : (dig (idr x y).natAbs).length ≤ a :=
  Nat.le_trans (dig_len_mono (Nat.le_of_lt (idr_lt h0))) hy
theorem idivmod_Z {w : World} {vx vy : Value} {x y : Int} {bx by_ : Bool} (hbx : bx = decide (x < 0)) (hx : Nl w vx (dig x.natAbs)) (hby : by_ = decide (y < 0)) (hy : Nl w vy (dig y.natAbs)) (hlx : (dig x.natAbs).length ≤ 1000000) (hly : (dig y.natAbs).length ≤ 1000000) (h0 : y = 0) : Calls Try.prog 14 #[.agg #[.bool bx, vx], .agg #[.bool by_, vy]] w (Ret w fun r w' => ∃ q s, r = .tuple #[.agg #[.bool false, q], .agg #[.bool false, s], .bool false] ∧ No w.heap.size 41 w' q [] ∧ No w.heap.size 41 w' s []) :=
  (idivmod_z hbx hx hby hy hlx hly h0).mono fun e w' ⟨r, he, hx, q, s, hr, hq, hs⟩ => by
    have e1 : idq x y = 0 := if_pos h0
    have e2 : idr x y = 0 := if_pos h0
    rw [e1, show dig (0 : Int).natAbs = [] from dig_zero] at hq
    rw [e2, show dig (0 : Int).natAbs = [] from dig_zero] at hs
    exact ⟨r, he, hx, q, s, by rw [hr, e1, e2, decide_eq_false (by omega : ¬ y ≠ 0)]; rfl, hq, hs⟩

theorem law_IntegerDivides_Z {w : World} {vx vy : Value} {lx ly : List Nat} {bx by_ : Bool} (hx : Nl w vx lx) (hy : Nl w vy ly) (h1 : lx.length ≤ 40) (h2 : ly.length ≤ 40) (h0 : mk by_ (val ly) = 0) :
    Calls Try.prog 4 #[.agg #[.bool bx, vx], .agg #[.bool by_, vy]] w (Ret w fun r _ => r = .bool true) := by
  refine enter (args := [_, _]) Try.func4 rfl Try.ntmps4 rfl ?_
  refine WP_seq ?_
  refine WP_region ?_
  refine O_box _ rfl rfl rfl rfl (fun g1 w1 b1 e1 gl1 gh1 => ?_)
  have z1 := e1.size
  refine O_box _ rfl rfl rfl rfl (fun g2 w2 b2 e2 gl2 gh2 => ?_)
  have z2 := e2.size
  refine O_assign rfl rfl rfl ?_
  refine WL_end [(2, _), (3, _)] ⟨rfl, rfl, trivial⟩ ?_
  refine WP_seq ?_
  refine WP_seq ?_
  refine WP_region ?_
  refine O_call enters9 rfl rfl rfl (awake5_c) (fun v3 w3 e3 h3 => ?_)
  have z3 := e3.size
  obtain rfl := h3
  refine O_not rfl rfl rfl rfl ?_
  refine WL_end [(2, _), (3, _), (12, _)] ⟨rfl, rfl, rfl, trivial⟩ ?_
  refine WP_condF rfl ?_
  refine WP_skip ?_
  refine WP_seq ?_
  refine WP_region ?_
  refine O_loadA (vs := [_, _]) S24 rfl rfl rfl ((b1.ext e2).ext e3) rfl rfl ?_
  refine O_loadA (vs := [_, _]) S24 rfl rfl rfl (b2.ext e3) rfl rfl ?_
  refine O_call enters19 rfl rfl rfl (two_T (hx.ext ((e1.trans e2).trans e3)) (hy.ext ((e1.trans e2).trans e3)) (by (try simp only [val_dig, List.length_take, List.length_nil, List.length_cons, List.length_append, List.length_replicate, List.length_set, List.length_map, List.length_drop]); omega) (by (try simp only [val_dig, List.length_take, List.length_nil, List.length_cons, List.length_append, List.length_replicate, List.length_set, List.length_map, List.length_drop]); omega) (by (try simp only [val_dig, List.length_take, List.length_nil, List.length_cons, List.length_append, List.length_replicate, List.length_set, List.length_map, List.length_drop]); omega)) (fun v4 w4 e4 h4 => ?_)
  have z4 := e4.size
  try simp only [val_dig] at h4
  obtain ⟨q4, s4, rfl, hq4, hs4⟩ := h4
  have hlX := mk_len (a := 40) bx hx (by omega)
  have hlY := mk_len (a := 40) by_ hy (by omega)
  generalize mk bx (val lx) = X at hq4 hlX ⊢
  generalize mk by_ (val ly) = Y at hs4 hlY h0 ⊢
  replace hlX := ml hlX (by decide)
  replace hlY := ml hlY (by decide)
  refine O_move rfl rfl rfl ?_
  refine O_extract rfl rfl rfl rfl ?_
  refine O_extract rfl rfl rfl rfl ?_
  refine O_extract rfl rfl rfl rfl ?_
  refine O_alloc S24 rfl rfl (fun g5 w5 b5 e5 gl5 gh5 => ?_)
  have z5 := e5.size
  refine O_alloc S24 rfl rfl (fun g6 w6 b6 e6 gl6 gh6 => ?_)
  have z6 := e6.size
  refine O_storeA (cs' := [_, _]) S24 rfl rfl rfl (b5.ext e6) rfl rfl (one_cons rfl (one_cons (((hq4.ext e5).ext e6).nl).one one_nil)) rfl (fun w7 b7 q7 => ?_)
  have z7 := Nat.le_of_eq q7.size.symm
  have e7 : Ext w w7 := q7.ext (((((e1.trans e2).trans e3).trans e4).trans e5).trans e6) (by omega)
  refine O_storeA (cs' := [_, _]) S24 rfl rfl rfl (b6.chg q7 (by first | assumption | omega)) rfl rfl (one_cons rfl (one_cons ((((hs4.ext e5).ext e6).chgBk (b5.ext e6) (by decide) q7).nl).one one_nil)) rfl (fun w8 b8 q8 => ?_)
  have z8 := Nat.le_of_eq q8.size.symm
  have e8 : Ext w w8 := q8.ext e7 (by omega)
  refine O_assign rfl rfl rfl ?_
  refine WL_end [(5, _), (6, _), (7, _)] ⟨rfl, rfl, rfl, trivial⟩ ?_
  refine WP_seq ?_
  refine WP_seq ?_
  refine WP_region ?_
  refine O_move rfl rfl rfl ?_
  refine O_not rfl rfl rfl rfl ?_
  refine WL_end [(5, _), (6, _), (21, _)] ⟨rfl, rfl, rfl, trivial⟩ ?_
  refine WP_condF rfl ?_
  refine WP_skip ?_
  refine WP_seq ?_
  refine WP_region ?_
  refine O_loadA (vs := [_, _]) S24 rfl rfl rfl (b7.chg q8 (by first | assumption | omega)) rfl rfl ?_
  refine O_loadA (vs := [_, _]) S24 rfl rfl rfl b8 rfl rfl ?_
  refine O_call enters14 rfl rfl rfl (idivmod_Z rfl ((((hq4.ext e5).ext e6).chgBk (b5.ext e6) (by decide) q7).chgBk (b6.chg q7 (by first | assumption | omega)) (by decide) q8).nl rfl ((((hs4.ext e5).ext e6).chgBk (b5.ext e6) (by decide) q7).chgBk (b6.chg q7 (by first | assumption | omega)) (by decide) q8).nl (by first | with_reducible assumption | omega) (by first | with_reducible assumption | omega) (by assumption)) (fun v9 w9 e9 h9 => ?_)
  have z9 := e9.size
  try simp only [val_dig] at h9
  obtain ⟨q9, s9, rfl, hq9, hs9⟩ := h9
  refine O_move rfl rfl rfl ?_
  refine O_extract rfl rfl rfl rfl ?_
  refine O_extract rfl rfl rfl rfl ?_
  refine O_extract rfl rfl rfl rfl ?_
  refine O_alloc S24 rfl rfl (fun g10 w10 b10 e10 gl10 gh10 => ?_)
  have z10 := e10.size
  refine O_alloc S24 rfl rfl (fun g11 w11 b11 e11 gl11 gh11 => ?_)
  have z11 := e11.size
  refine O_storeA (cs' := [_, _]) S24 rfl rfl rfl (b10.ext e11) rfl rfl (one_cons rfl (one_cons (((hq9.ext e10).ext e11).nl).one one_nil)) rfl (fun w12 b12 q12 => ?_)
  have z12 := Nat.le_of_eq q12.size.symm
  have e12 : Ext w w12 := q12.ext (((e8.trans e9).trans e10).trans e11) (by omega)
  refine O_storeA (cs' := [_, _]) S24 rfl rfl rfl (b11.chg q12 (by first | assumption | omega)) rfl rfl (one_cons rfl (one_cons ((((hs9.ext e10).ext e11).chgBk (b10.ext e11) (by decide) q12).nl).one one_nil)) rfl (fun w13 b13 q13 => ?_)
  have z13 := Nat.le_of_eq q13.size.symm
  have e13 : Ext w w13 := q13.ext e12 (by omega)
  refine O_assign rfl rfl rfl ?_
  refine WL_end [(5, _), (6, _), (8, _), (9, _), (10, _)] ⟨rfl, rfl, rfl, rfl, rfl, trivial⟩ ?_
  refine WP_seq ?_
  refine WP_seq ?_
  refine WP_region ?_
  refine O_field F24_1 rfl rfl rfl ?_
  refine O_loadC Try.underlying22 rfl rfl rfl rfl (((((b8.ext e9).ext e10).ext e11).chg q12 (by first | assumption | omega)).chg q13 (by first | assumption | omega)) rfl ?_
  refine N_len T22 rfl rfl rfl (((((((((hs4.ext e5).ext e6).chgBk (b5.ext e6) (by decide) q7).chgBk (b6.chg q7 (by first | assumption | omega)) (by decide) q8).ext e9).ext e10).ext e11).chgBk (b10.ext e11) (by decide) q12).chgBk (b11.chg q12 (by first | assumption | omega)) (by decide) q13).nl ?_
  refine O_eql (t := true) rfl rfl rfl rfl (decide_eq_true (by rw [h0]; simp [dig_zero])) ?_
  refine WL_end [(5, _), (6, _), (8, _), (9, _), (10, _), (32, _)] ⟨rfl, rfl, rfl, rfl, rfl, rfl, trivial⟩ ?_
  refine WP_condT rfl ?_
  refine WP_seq ?_
  refine WP_region ?_
  refine O_move rfl rfl rfl ?_
  refine O_not rfl rfl rfl rfl ?_
  refine O_move rfl rfl rfl ?_
  refine O_loadA (vs := [_, _]) S24 rfl rfl rfl (b12.chg q13 (by first | assumption | omega)) rfl rfl ?_
  refine O_build (cs := [_, _]) B24 rfl rfl rfl cells_nil rfl ?_
  refine O_call enters16 rfl rfl rfl (isame_c rfl ((((hq9.ext e10).ext e11).chgBk (b10.ext e11) (by decide) q12).chgBk (b11.chg q12 (by first | assumption | omega)) (by decide) q13).nl (Nl.nil _) (by simp) (by simp) rfl) (fun v14 w14 e14 h14 => ?_)
  have z14 := e14.size
  obtain rfl := h14
  refine O_pickT rfl rfl rfl rfl ?_
  refine O_move rfl rfl rfl ?_
  refine O_loadA (vs := [_, _]) S24 rfl rfl rfl (b13.ext e14) rfl rfl ?_
  refine O_build (cs := [_, _]) B24 rfl rfl rfl cells_nil rfl ?_
  refine O_call enters16 rfl rfl rfl (isame_c rfl (((((hs9.ext e10).ext e11).chgBk (b10.ext e11) (by decide) q12).chgBk (b11.chg q12 (by first | assumption | omega)) (by decide) q13).ext e14).nl (Nl.nil _) (by simp) (by simp) rfl) (fun v15 w15 e15 h15 => ?_)
  have z15 := e15.size
  obtain rfl := h15
  refine O_pickT rfl rfl rfl rfl ?_
  refine O_assign rfl rfl rfl ?_
  refine WL_end [(4, _)] ⟨rfl, trivial⟩ ?_
  refine WP_ret ?_
  refine ret1 Try.results4 rfl ?_
  exact ⟨_, rfl, ((e13.trans e14).trans e15), rfl⟩

set_option maxHeartbeats 4000000 in
theorem law_IntegerDivides_T {w : World} {vx vy : Value} {lx ly : List Nat} {bx by_ : Bool} (hx : Nl w vx lx) (hy : Nl w vy ly) (h1 : lx.length ≤ 40) (h2 : ly.length ≤ 40) (h0 : mk by_ (val ly) ≠ 0) :
    Calls Try.prog 4 #[.agg #[.bool bx, vx], .agg #[.bool by_, vy]] w (Ret w fun r _ => r = .bool true) := by
  refine enter (args := [_, _]) Try.func4 rfl Try.ntmps4 rfl ?_
  refine WP_seq ?_
  refine WP_region ?_
  refine O_box _ rfl rfl rfl rfl (fun g1 w1 b1 e1 gl1 gh1 => ?_)
  have z1 := e1.size
  refine O_box _ rfl rfl rfl rfl (fun g2 w2 b2 e2 gl2 gh2 => ?_)
  have z2 := e2.size
  refine O_assign rfl rfl rfl ?_
  refine WL_end [(2, _), (3, _)] ⟨rfl, rfl, trivial⟩ ?_
  refine WP_seq ?_
  refine WP_seq ?_
  refine WP_region ?_
  refine O_call enters9 rfl rfl rfl (awake5_c) (fun v3 w3 e3 h3 => ?_)
  have z3 := e3.size
  obtain rfl := h3
  refine O_not rfl rfl rfl rfl ?_
  refine WL_end [(2, _), (3, _), (12, _)] ⟨rfl, rfl, rfl, trivial⟩ ?_
  refine WP_condF rfl ?_
  refine WP_skip ?_
  refine WP_seq ?_
  refine WP_region ?_
  refine O_loadA (vs := [_, _]) S24 rfl rfl rfl ((b1.ext e2).ext e3) rfl rfl ?_
  refine O_loadA (vs := [_, _]) S24 rfl rfl rfl (b2.ext e3) rfl rfl ?_
  refine O_call enters19 rfl rfl rfl (two_T (hx.ext ((e1.trans e2).trans e3)) (hy.ext ((e1.trans e2).trans e3)) (by (try simp only [val_dig, List.length_take, List.length_nil, List.length_cons, List.length_append, List.length_replicate, List.length_set, List.length_map, List.length_drop]); omega) (by (try simp only [val_dig, List.length_take, List.length_nil, List.length_cons, List.length_append, List.length_replicate, List.length_set, List.length_map, List.length_drop]); omega) (by (try simp only [val_dig, List.length_take, List.length_nil, List.length_cons, List.length_append, List.length_replicate, List.length_set, List.length_map, List.length_drop]); omega)) (fun v4 w4 e4 h4 => ?_)
  have z4 := e4.size
  try simp only [val_dig] at h4
  obtain ⟨q4, s4, rfl, hq4, hs4⟩ := h4
  have hlX := mk_len (a := 40) bx hx (by omega)
  have hlY := mk_len (a := 40) by_ hy (by omega)
  generalize mk bx (val lx) = X at hq4 hlX ⊢
  generalize mk by_ (val ly) = Y at hs4 hlY h0 ⊢
  have l1 := idq_len (y := Y) hlX (by decide)
  have l2 := idr_len (x := X) h0 hlY
  have l3 := mul_len l1 hlY
  have l4 := add_len l3 l2
  have hlt := idr_lt (x := X) h0
  have hsg := idr_sign (x := X) h0
  have hdl := dig_len_zero (n := Y.natAbs)
  have hrl := dig_len_zero (n := (idr X Y).natAbs)
  have hsum := idq_add (x := X) h0
  replace hlX := ml hlX (by decide)
  replace hlY := ml hlY (by decide)
  replace l1 := ml l1 (by decide)
  replace l2 := ml l2 (by decide)
  replace l3 := ml l3 (by decide)
  replace l4 := ml l4 (by decide)
  refine O_move rfl rfl rfl ?_
  refine O_extract rfl rfl rfl rfl ?_
  refine O_extract rfl rfl rfl rfl ?_
  refine O_extract rfl rfl rfl rfl ?_
  refine O_alloc S24 rfl rfl (fun g5 w5 b5 e5 gl5 gh5 => ?_)
  have z5 := e5.size
  refine O_alloc S24 rfl rfl (fun g6 w6 b6 e6 gl6 gh6 => ?_)
  have z6 := e6.size
  refine O_storeA (cs' := [_, _]) S24 rfl rfl rfl (b5.ext e6) rfl rfl (one_cons rfl (one_cons (((hq4.ext e5).ext e6).nl).one one_nil)) rfl (fun w7 b7 q7 => ?_)
  have z7 := Nat.le_of_eq q7.size.symm
  have e7 : Ext w w7 := q7.ext (((((e1.trans e2).trans e3).trans e4).trans e5).trans e6) (by omega)
  refine O_storeA (cs' := [_, _]) S24 rfl rfl rfl (b6.chg q7 (by first | assumption | omega)) rfl rfl (one_cons rfl (one_cons ((((hs4.ext e5).ext e6).chgBk (b5.ext e6) (by decide) q7).nl).one one_nil)) rfl (fun w8 b8 q8 => ?_)
  have z8 := Nat.le_of_eq q8.size.symm
  have e8 : Ext w w8 := q8.ext e7 (by omega)
  refine O_assign rfl rfl rfl ?_
  refine WL_end [(5, _), (6, _), (7, _)] ⟨rfl, rfl, rfl, trivial⟩ ?_
  refine WP_seq ?_
  refine WP_seq ?_
  refine WP_region ?_
  refine O_move rfl rfl rfl ?_
  refine O_not rfl rfl rfl rfl ?_
  refine WL_end [(5, _), (6, _), (21, _)] ⟨rfl, rfl, rfl, trivial⟩ ?_
  refine WP_condF rfl ?_
  refine WP_skip ?_
  refine WP_seq ?_
  refine WP_region ?_
  refine O_loadA (vs := [_, _]) S24 rfl rfl rfl (b7.chg q8 (by first | assumption | omega)) rfl rfl ?_
  refine O_loadA (vs := [_, _]) S24 rfl rfl rfl b8 rfl rfl ?_
  refine O_call enters14 rfl rfl rfl (idivmod_T rfl ((((hq4.ext e5).ext e6).chgBk (b5.ext e6) (by decide) q7).chgBk (b6.chg q7 (by first | assumption | omega)) (by decide) q8).nl rfl ((((hs4.ext e5).ext e6).chgBk (b5.ext e6) (by decide) q7).chgBk (b6.chg q7 (by first | assumption | omega)) (by decide) q8).nl (by first | with_reducible assumption | omega) (by first | with_reducible assumption | omega) (by first | assumption | decide | omega)) (fun v9 w9 e9 h9 => ?_)
  have z9 := e9.size
  try simp only [val_dig] at h9
  obtain ⟨q9, s9, rfl, hq9, hs9⟩ := h9
  refine O_move rfl rfl rfl ?_
  refine O_extract rfl rfl rfl rfl ?_
  refine O_extract rfl rfl rfl rfl ?_
  refine O_extract rfl rfl rfl rfl ?_
  refine O_alloc S24 rfl rfl (fun g10 w10 b10 e10 gl10 gh10 => ?_)
  have z10 := e10.size
  refine O_alloc S24 rfl rfl (fun g11 w11 b11 e11 gl11 gh11 => ?_)
  have z11 := e11.size
  refine O_storeA (cs' := [_, _]) S24 rfl rfl rfl (b10.ext e11) rfl rfl (one_cons rfl (one_cons (((hq9.ext e10).ext e11).nl).one one_nil)) rfl (fun w12 b12 q12 => ?_)
  have z12 := Nat.le_of_eq q12.size.symm
  have e12 : Ext w w12 := q12.ext (((e8.trans e9).trans e10).trans e11) (by omega)
  refine O_storeA (cs' := [_, _]) S24 rfl rfl rfl (b11.chg q12 (by first | assumption | omega)) rfl rfl (one_cons rfl (one_cons ((((hs9.ext e10).ext e11).chgBk (b10.ext e11) (by decide) q12).nl).one one_nil)) rfl (fun w13 b13 q13 => ?_)
  have z13 := Nat.le_of_eq q13.size.symm
  have e13 : Ext w w13 := q13.ext e12 (by omega)
  refine O_assign rfl rfl rfl ?_
  refine WL_end [(5, _), (6, _), (8, _), (9, _), (10, _)] ⟨rfl, rfl, rfl, rfl, rfl, trivial⟩ ?_
  refine WP_seq ?_
  refine WP_seq ?_
  refine WP_region ?_
  refine O_field F24_1 rfl rfl rfl ?_
  refine O_loadC Try.underlying22 rfl rfl rfl rfl (((((b8.ext e9).ext e10).ext e11).chg q12 (by first | assumption | omega)).chg q13 (by first | assumption | omega)) rfl ?_
  refine N_len T22 rfl rfl rfl (((((((((hs4.ext e5).ext e6).chgBk (b5.ext e6) (by decide) q7).chgBk (b6.chg q7 (by first | assumption | omega)) (by decide) q8).ext e9).ext e10).ext e11).chgBk (b10.ext e11) (by decide) q12).chgBk (b11.chg q12 (by first | assumption | omega)) (by decide) q13).nl ?_
  refine O_eql (t := false) rfl rfl rfl rfl (decide_eq_false (by omega)) ?_
  refine WL_end [(5, _), (6, _), (8, _), (9, _), (10, _), (32, _)] ⟨rfl, rfl, rfl, rfl, rfl, rfl, trivial⟩ ?_
  refine WP_condF rfl ?_
  refine WP_skip ?_
  refine WP_seq ?_
  refine WP_seq ?_
  refine WP_region ?_
  refine O_move rfl rfl rfl ?_
  refine O_not rfl rfl rfl rfl ?_
  refine O_move rfl rfl rfl ?_
  refine O_loadA (vs := [_, _]) S24 rfl rfl rfl (b12.chg q13 (by first | assumption | omega)) rfl rfl ?_
  refine O_call enters20 rfl rfl rfl (ivalidT_c rfl ((((hq9.ext e10).ext e11).chgBk (b10.ext e11) (by decide) q12).chgBk (b11.chg q12 (by first | assumption | omega)) (by decide) q13).nl (by first | with_reducible assumption | omega)) (fun v14 w14 e14 h14 => ?_)
  have z14 := e14.size
  obtain rfl := h14
  refine O_not rfl rfl rfl rfl ?_
  refine O_pickF rfl rfl rfl rfl ?_
  refine O_move rfl rfl rfl ?_
  refine O_loadA (vs := [_, _]) S24 rfl rfl rfl (b13.ext e14) rfl rfl ?_
  refine O_call enters20 rfl rfl rfl (ivalidT_c rfl (((((hs9.ext e10).ext e11).chgBk (b10.ext e11) (by decide) q12).chgBk (b11.chg q12 (by first | assumption | omega)) (by decide) q13).ext e14).nl (by first | with_reducible assumption | omega)) (fun v15 w15 e15 h15 => ?_)
  have z15 := e15.size
  obtain rfl := h15
  refine O_not rfl rfl rfl rfl ?_
  refine O_pickF rfl rfl rfl rfl ?_
  refine O_move rfl rfl rfl ?_
  refine O_field F24_1 rfl rfl rfl ?_
  refine O_loadC Try.underlying22 rfl rfl rfl rfl ((b13.ext e14).ext e15) rfl ?_
  refine O_field F24_1 rfl rfl rfl ?_
  refine O_loadC Try.underlying22 rfl rfl rfl rfl (((((((b8.ext e9).ext e10).ext e11).chg q12 (by first | assumption | omega)).chg q13 (by first | assumption | omega)).ext e14).ext e15) rfl ?_
  refine O_call enters21 rfl rfl rfl (rcmp_c ((((((hs9.ext e10).ext e11).chgBk (b10.ext e11) (by decide) q12).chgBk (b11.chg q12 (by first | assumption | omega)) (by decide) q13).ext e14).ext e15).nl (((((((((((hs4.ext e5).ext e6).chgBk (b5.ext e6) (by decide) q7).chgBk (b6.chg q7 (by first | assumption | omega)) (by decide) q8).ext e9).ext e10).ext e11).chgBk (b10.ext e11) (by decide) q12).chgBk (b11.chg q12 (by first | assumption | omega)) (by decide) q13).ext e14).ext e15).nl (by (try simp only [val_dig, List.length_take, List.length_nil, List.length_cons, List.length_append, List.length_replicate, List.length_set, List.length_map, List.length_drop]); omega) (by (try simp only [val_dig, List.length_take, List.length_nil, List.length_cons, List.length_append, List.length_replicate, List.length_set, List.length_map, List.length_drop]); omega)) (fun v16 w16 e16 h16 => ?_)
  have z16 := e16.size
  obtain rfl := h16
  simp only [val_dig]
  refine O_geq (t := false) rfl rfl rfl rfl (decide_eq_false (by have := cmpv_lt_zero.2 hlt; omega)) ?_
  refine O_pickF rfl rfl rfl rfl ?_
  refine O_move rfl rfl rfl ?_
  refine O_field F24_1 rfl rfl rfl ?_
  refine O_loadC Try.underlying22 rfl rfl rfl rfl (((b13.ext e14).ext e15).ext e16) rfl ?_
  refine N_len T22 rfl rfl rfl (((((((hs9.ext e10).ext e11).chgBk (b10.ext e11) (by decide) q12).chgBk (b11.chg q12 (by first | assumption | omega)) (by decide) q13).ext e14).ext e15).ext e16).nl ?_
  refine O_gtr rfl rfl rfl rfl rfl ?_
  refine O_move rfl rfl rfl ?_
  refine WL_dec 70 rfl (fun g70 => ?_) (fun g70 => ?_)
  · --
    refine O_field F24_0 rfl rfl rfl ?_
    refine O_loadC Try.underlying4 rfl rfl rfl rfl (((b13.ext e14).ext e15).ext e16) rfl ?_
    refine O_field F24_0 rfl rfl rfl ?_
    refine O_loadC Try.underlying4 rfl rfl rfl rfl ((((((((b8.ext e9).ext e10).ext e11).chg q12 (by first | assumption | omega)).chg q13 (by first | assumption | omega)).ext e14).ext e15).ext e16) rfl ?_
    refine O_bneq Try.underlying4 (t := false) rfl rfl rfl rfl (by rw [hsg (by intro e; rw [e] at g70; simp [dig_zero] at g70)]; simp) ?_
    refine O_pickT rfl rfl rfl rfl ?_
    refine O_pickF rfl rfl rfl rfl ?_
    refine WL_end [(5, _), (6, _), (8, _), (9, _), (77, _)] ⟨rfl, rfl, rfl, rfl, rfl, trivial⟩ ?_
    refine WP_condF rfl ?_
    refine WP_skip ?_
    refine WP_seq ?_
    refine WP_sub [(5, _), (6, _), (8, _), (9, _)] ⟨rfl, rfl, rfl, rfl, trivial⟩ ?_
    refine WP_anyR 6 [5, 6, 8, 9] mixed rfl (by kernel_rfl) ?_
    apply AnyR_val [8] rfl (by kernel_rfl)
    · --
      intro y17 hy17
      have zy17 := hy17.size
      refine AllV_nil ?_
      refine O_loadA (vs := [_, _]) S24 rfl rfl rfl (((((b12.chg q13 (by first | assumption | omega)).ext e14).ext e15).ext e16).ext hy17) rfl rfl ?_
      exact WL_nil ⟨(Ext.refl _), rfl⟩
    apply AnyR_val [6] rfl (by kernel_rfl)
    · --
      intro y18 hy18
      have zy18 := hy18.size
      refine AllV_nil ?_
      refine O_loadA (vs := [_, _]) S24 rfl rfl rfl (((((((((b8.ext e9).ext e10).ext e11).chg q12 (by first | assumption | omega)).chg q13 (by first | assumption | omega)).ext e14).ext e15).ext e16).ext hy18) rfl rfl ?_
      exact WL_nil ⟨(Ext.refl _), rfl⟩
    apply AnyR_rel (RelP (pAgg [pEq _, pNo w16.heap.size 41 _])) [78, 79] rfl (RelP.mono (pAgg_mono (PsM.cons pEq_mono (PsM.cons pNo_mono PsM.nil)))) (by kernel_rfl)
    · --
      intro y19 hy19
      have zy19 := hy19.size
      refine AllV_v ?_
      refine AllV_v ?_
      refine AllV_nil ?_
      refine O_call enters23 rfl rfl rfl (rimul_c rfl ((((((((hq9.ext e10).ext e11).chgBk (b10.ext e11) (by decide) q12).chgBk (b11.chg q12 (by first | assumption | omega)) (by decide) q13).ext e14).ext e15).ext e16).ext hy19).nl rfl (((((((((((((hs4.ext e5).ext e6).chgBk (b5.ext e6) (by decide) q7).chgBk (b6.chg q7 (by first | assumption | omega)) (by decide) q8).ext e9).ext e10).ext e11).chgBk (b10.ext e11) (by decide) q12).chgBk (b11.chg q12 (by first | assumption | omega)) (by decide) q13).ext e14).ext e15).ext e16).ext hy19).nl (by first | with_reducible assumption | omega) (by first | with_reducible assumption | omega)) (fun v20 w20 e20 h20 => ?_)
      have z20 := e20.size
      try simp only [val_dig] at h20
      obtain ⟨q20, rfl, hq20⟩ := h20
      exact WL_nil ⟨e20, _, rfl, ⟨_, rfl, (AllP.cons rfl (AllP.cons (hq20.mono (by omega)) AllP.nil))⟩⟩
    apply AnyR_val [9] rfl (by kernel_rfl)
    · --
      intro y21 hy21
      have zy21 := hy21.size
      refine AllV_nil ?_
      refine O_loadA (vs := [_, _]) S24 rfl rfl rfl ((((b13.ext e14).ext e15).ext e16).ext hy21) rfl rfl ?_
      exact WL_nil ⟨(Ext.refl _), rfl⟩
    apply AnyR_rel (RelP (pAgg [pEq _, pNo w16.heap.size 41 _])) [80, 81] rfl (RelP.mono (pAgg_mono (PsM.cons pEq_mono (PsM.cons pNo_mono PsM.nil)))) (by kernel_rfl)
    · --
      intro y22 hy22
      have zy22 := hy22.size
      refine AllV_r fun a23 b23 v23 la23 lb23 lc23 h23 ap23 => ?_
      clear ap23
      obtain ⟨_, rfl, v23_0, _, rfl, rfl, v23_1, _, rfl, h23_1, rfl⟩ := h23
      refine AllV_v ?_
      refine AllV_nil ?_
      refine O_call enters22 rfl rfl rfl (riadd_c rfl h23_1.nl rfl ((((((((hs9.ext e10).ext e11).chgBk (b10.ext e11) (by decide) q12).chgBk (b11.chg q12 (by first | assumption | omega)) (by decide) q13).ext e14).ext e15).ext e16).ext hy22).nl (by first | with_reducible assumption | omega) (by first | with_reducible assumption | omega)) (fun v24 w24 e24 h24 => ?_)
      have z24 := e24.size
      try simp only [val_dig] at h24
      obtain ⟨q24, rfl, hq24⟩ := h24
      exact WL_nil ⟨e24, _, rfl, ⟨_, rfl, (AllP.cons rfl (AllP.cons (hq24.mono (by omega)) AllP.nil))⟩⟩
    apply AnyR_val [5] rfl (by kernel_rfl)
    · --
      intro y25 hy25
      have zy25 := hy25.size
      refine AllV_nil ?_
      refine O_loadA (vs := [_, _]) S24 rfl rfl rfl ((((((((((b7.chg q8 (by first | assumption | omega)).ext e9).ext e10).ext e11).chg q12 (by first | assumption | omega)).chg q13 (by first | assumption | omega)).ext e14).ext e15).ext e16).ext hy25) rfl rfl ?_
      exact WL_nil ⟨(Ext.refl _), rfl⟩
    refine AnyR_nil fun y26 hy26 => ?_
    have zy26 := hy26.size
    refine AllV_v ?_
    refine AllV_v ?_
    refine AllV_r fun a27 b27 v27 la27 lb27 lc27 h27 ap27 => ?_
    clear ap27
    obtain ⟨_, rfl, v27_0, _, rfl, rfl, v27_1, _, rfl, h27_1, rfl⟩ := h27
    refine AllV_v ?_
    refine AllV_r fun a28 b28 v28 la28 lb28 lc28 h28 ap28 => ?_
    clear ap28
    obtain ⟨_, rfl, v28_0, _, rfl, rfl, v28_1, _, rfl, h28_1, rfl⟩ := h28
    refine AllV_v ?_
    refine AllV_nil ?_
    refine O_call enters16 rfl rfl rfl (isame_c (by rw [hsum]) h28_1.nl (((((((((((((hq4.ext e5).ext e6).chgBk (b5.ext e6) (by decide) q7).chgBk (b6.chg q7 (by first | assumption | omega)) (by decide) q8).ext e9).ext e10).ext e11).chgBk (b10.ext e11) (by decide) q12).chgBk (b11.chg q12 (by first | assumption | omega)) (by decide) q13).ext e14).ext e15).ext e16).ext hy26).nl (by first | with_reducible assumption | omega) (by first | with_reducible assumption | omega) (by rw [hsum])) (fun v29 w29 e29 h29 => ?_)
    have z29 := e29.size
    obtain rfl := h29
    refine O_assign rfl rfl rfl ?_
    refine WL_end [(4, _)] ⟨rfl, trivial⟩ ?_
    refine WP_ret ?_
    refine ret1 Try.results4 rfl ?_
    exact ⟨_, rfl, (((((e13.trans e14).trans e15).trans e16).trans hy26).trans e29), rfl⟩
  · --
    refine O_skip rfl rfl ?_
    refine O_skip rfl rfl ?_
    refine O_skip rfl rfl ?_
    refine O_skip rfl rfl ?_
    refine O_skip rfl rfl ?_
    refine O_pickF rfl rfl rfl rfl ?_
    refine O_pickF rfl rfl rfl rfl ?_
    refine WL_end [(5, _), (6, _), (8, _), (9, _), (77, _)] ⟨rfl, rfl, rfl, rfl, rfl, trivial⟩ ?_
    refine WP_condF rfl ?_
    refine WP_skip ?_
    refine WP_seq ?_
    refine WP_sub [(5, _), (6, _), (8, _), (9, _)] ⟨rfl, rfl, rfl, rfl, trivial⟩ ?_
    refine WP_anyR 6 [5, 6, 8, 9] mixed rfl (by kernel_rfl) ?_
    apply AnyR_val [8] rfl (by kernel_rfl)
    · --
      intro y30 hy30
      have zy30 := hy30.size
      refine AllV_nil ?_
      refine O_loadA (vs := [_, _]) S24 rfl rfl rfl (((((b12.chg q13 (by first | assumption | omega)).ext e14).ext e15).ext e16).ext hy30) rfl rfl ?_
      exact WL_nil ⟨(Ext.refl _), rfl⟩
    apply AnyR_val [6] rfl (by kernel_rfl)
    · --
      intro y31 hy31
      have zy31 := hy31.size
      refine AllV_nil ?_
      refine O_loadA (vs := [_, _]) S24 rfl rfl rfl (((((((((b8.ext e9).ext e10).ext e11).chg q12 (by first | assumption | omega)).chg q13 (by first | assumption | omega)).ext e14).ext e15).ext e16).ext hy31) rfl rfl ?_
      exact WL_nil ⟨(Ext.refl _), rfl⟩
    apply AnyR_rel (RelP (pAgg [pEq _, pNo w16.heap.size 41 _])) [78, 79] rfl (RelP.mono (pAgg_mono (PsM.cons pEq_mono (PsM.cons pNo_mono PsM.nil)))) (by kernel_rfl)
    · --
      intro y32 hy32
      have zy32 := hy32.size
      refine AllV_v ?_
      refine AllV_v ?_
      refine AllV_nil ?_
      refine O_call enters23 rfl rfl rfl (rimul_c rfl ((((((((hq9.ext e10).ext e11).chgBk (b10.ext e11) (by decide) q12).chgBk (b11.chg q12 (by first | assumption | omega)) (by decide) q13).ext e14).ext e15).ext e16).ext hy32).nl rfl (((((((((((((hs4.ext e5).ext e6).chgBk (b5.ext e6) (by decide) q7).chgBk (b6.chg q7 (by first | assumption | omega)) (by decide) q8).ext e9).ext e10).ext e11).chgBk (b10.ext e11) (by decide) q12).chgBk (b11.chg q12 (by first | assumption | omega)) (by decide) q13).ext e14).ext e15).ext e16).ext hy32).nl (by first | with_reducible assumption | omega) (by first | with_reducible assumption | omega)) (fun v33 w33 e33 h33 => ?_)
      have z33 := e33.size
      try simp only [val_dig] at h33
      obtain ⟨q33, rfl, hq33⟩ := h33
      exact WL_nil ⟨e33, _, rfl, ⟨_, rfl, (AllP.cons rfl (AllP.cons (hq33.mono (by omega)) AllP.nil))⟩⟩
    apply AnyR_val [9] rfl (by kernel_rfl)
    · --
      intro y34 hy34
      have zy34 := hy34.size
      refine AllV_nil ?_
      refine O_loadA (vs := [_, _]) S24 rfl rfl rfl ((((b13.ext e14).ext e15).ext e16).ext hy34) rfl rfl ?_
      exact WL_nil ⟨(Ext.refl _), rfl⟩
    apply AnyR_rel (RelP (pAgg [pEq _, pNo w16.heap.size 41 _])) [80, 81] rfl (RelP.mono (pAgg_mono (PsM.cons pEq_mono (PsM.cons pNo_mono PsM.nil)))) (by kernel_rfl)
    · --
      intro y35 hy35
      have zy35 := hy35.size
      refine AllV_r fun a36 b36 v36 la36 lb36 lc36 h36 ap36 => ?_
      clear ap36
      obtain ⟨_, rfl, v36_0, _, rfl, rfl, v36_1, _, rfl, h36_1, rfl⟩ := h36
      refine AllV_v ?_
      refine AllV_nil ?_
      refine O_call enters22 rfl rfl rfl (riadd_c rfl h36_1.nl rfl ((((((((hs9.ext e10).ext e11).chgBk (b10.ext e11) (by decide) q12).chgBk (b11.chg q12 (by first | assumption | omega)) (by decide) q13).ext e14).ext e15).ext e16).ext hy35).nl (by first | with_reducible assumption | omega) (by first | with_reducible assumption | omega)) (fun v37 w37 e37 h37 => ?_)
      have z37 := e37.size
      try simp only [val_dig] at h37
      obtain ⟨q37, rfl, hq37⟩ := h37
      exact WL_nil ⟨e37, _, rfl, ⟨_, rfl, (AllP.cons rfl (AllP.cons (hq37.mono (by omega)) AllP.nil))⟩⟩
    apply AnyR_val [5] rfl (by kernel_rfl)
    · --
      intro y38 hy38
      have zy38 := hy38.size
      refine AllV_nil ?_
      refine O_loadA (vs := [_, _]) S24 rfl rfl rfl ((((((((((b7.chg q8 (by first | assumption | omega)).ext e9).ext e10).ext e11).chg q12 (by first | assumption | omega)).chg q13 (by first | assumption | omega)).ext e14).ext e15).ext e16).ext hy38) rfl rfl ?_
      exact WL_nil ⟨(Ext.refl _), rfl⟩
    refine AnyR_nil fun y39 hy39 => ?_
    have zy39 := hy39.size
    refine AllV_v ?_
    refine AllV_v ?_
    refine AllV_r fun a40 b40 v40 la40 lb40 lc40 h40 ap40 => ?_
    clear ap40
    obtain ⟨_, rfl, v40_0, _, rfl, rfl, v40_1, _, rfl, h40_1, rfl⟩ := h40
    refine AllV_v ?_
    refine AllV_r fun a41 b41 v41 la41 lb41 lc41 h41 ap41 => ?_
    clear ap41
    obtain ⟨_, rfl, v41_0, _, rfl, rfl, v41_1, _, rfl, h41_1, rfl⟩ := h41
    refine AllV_v ?_
    refine AllV_nil ?_
    refine O_call enters16 rfl rfl rfl (isame_c (by rw [hsum]) h41_1.nl (((((((((((((hq4.ext e5).ext e6).chgBk (b5.ext e6) (by decide) q7).chgBk (b6.chg q7 (by first | assumption | omega)) (by decide) q8).ext e9).ext e10).ext e11).chgBk (b10.ext e11) (by decide) q12).chgBk (b11.chg q12 (by first | assumption | omega)) (by decide) q13).ext e14).ext e15).ext e16).ext hy39).nl (by first | with_reducible assumption | omega) (by first | with_reducible assumption | omega) (by rw [hsum])) (fun v42 w42 e42 h42 => ?_)
    have z42 := e42.size
    obtain rfl := h42
    refine O_assign rfl rfl rfl ?_
    refine WL_end [(4, _)] ⟨rfl, trivial⟩ ?_
    refine WP_ret ?_
    refine ret1 Try.results4 rfl ?_
    exact ⟨_, rfl, (((((e13.trans e14).trans e15).trans e16).trans hy39).trans e42), rfl⟩

theorem law_IntegerDivides_F {w : World} {vx vy : Value} {lx ly : List Nat} {bx by_ : Bool} (hx : Nl w vx lx) (hy : Nl w vy ly) (h : (40 : Int) < (lx.length : Int) ∨ (40 : Int) < (ly.length : Int)) :
    Calls Try.prog 4 #[.agg #[.bool bx, vx], .agg #[.bool by_, vy]] w (Ret w fun r _ => r = .bool true) := by
  refine enter (args := [_, _]) Try.func4 rfl Try.ntmps4 rfl ?_
  refine WP_seq ?_
  refine WP_region ?_
  refine O_box _ rfl rfl rfl rfl (fun g1 w1 b1 e1 gl1 gh1 => ?_)
  have z1 := e1.size
  refine O_box _ rfl rfl rfl rfl (fun g2 w2 b2 e2 gl2 gh2 => ?_)
  have z2 := e2.size
  refine O_assign rfl rfl rfl ?_
  refine WL_end [(2, _), (3, _)] ⟨rfl, rfl, trivial⟩ ?_
  refine WP_seq ?_
  refine WP_seq ?_
  refine WP_region ?_
  refine O_call enters9 rfl rfl rfl (awake5_c) (fun v3 w3 e3 h3 => ?_)
  have z3 := e3.size
  obtain rfl := h3
  refine O_not rfl rfl rfl rfl ?_
  refine WL_end [(2, _), (3, _), (12, _)] ⟨rfl, rfl, rfl, trivial⟩ ?_
  refine WP_condF rfl ?_
  refine WP_skip ?_
  refine WP_seq ?_
  refine WP_region ?_
  refine O_loadA (vs := [_, _]) S24 rfl rfl rfl ((b1.ext e2).ext e3) rfl rfl ?_
  refine O_loadA (vs := [_, _]) S24 rfl rfl rfl (b2.ext e3) rfl rfl ?_
  refine O_call enters19 rfl rfl rfl (two_F (hx.ext ((e1.trans e2).trans e3)) (hy.ext ((e1.trans e2).trans e3)) (by (try simp only [val_dig, List.length_take, List.length_nil, List.length_cons, List.length_append, List.length_replicate, List.length_set, List.length_map, List.length_drop]); omega) (by (try simp only [val_dig, List.length_take, List.length_nil, List.length_cons, List.length_append, List.length_replicate, List.length_set, List.length_map, List.length_drop]); omega)) (fun v4 w4 e4 h4 => ?_)
  have z4 := e4.size
  try simp only [val_dig] at h4
  obtain ⟨_, b4, _, d4, rfl, ho4, hp4, hc4, hd4⟩ := h4
  refine O_move rfl rfl rfl ?_
  refine O_extract rfl rfl rfl rfl ?_
  refine O_extract rfl rfl rfl rfl ?_
  refine O_extract rfl rfl rfl rfl ?_
  refine O_alloc S24 rfl rfl (fun g5 w5 b5 e5 gl5 gh5 => ?_)
  have z5 := e5.size
  refine O_alloc S24 rfl rfl (fun g6 w6 b6 e6 gl6 gh6 => ?_)
  have z6 := e6.size
  refine O_storeA (cs' := [_, _]) S24 rfl rfl rfl (b5.ext e6) rfl rfl (one_cons rfl (one_cons (And.intro ho4 hc4).1 one_nil)) rfl (fun w7 b7 q7 => ?_)
  have z7 := Nat.le_of_eq q7.size.symm
  have e7 : Ext w w7 := q7.ext (((((e1.trans e2).trans e3).trans e4).trans e5).trans e6) (by omega)
  refine O_storeA (cs' := [_, _]) S24 rfl rfl rfl (b6.chg q7 (by first | assumption | omega)) rfl rfl (one_cons rfl (one_cons (And.intro hp4 hd4).1 one_nil)) rfl (fun w8 b8 q8 => ?_)
  have z8 := Nat.le_of_eq q8.size.symm
  have e8 : Ext w w8 := q8.ext e7 (by omega)
  refine O_assign rfl rfl rfl ?_
  refine WL_end [(5, _), (6, _), (7, _)] ⟨rfl, rfl, rfl, trivial⟩ ?_
  refine WP_seq ?_
  refine WP_seq ?_
  refine WP_region ?_
  refine O_move rfl rfl rfl ?_
  refine O_not rfl rfl rfl rfl ?_
  refine WL_end [(5, _), (6, _), (21, _)] ⟨rfl, rfl, rfl, trivial⟩ ?_
  refine WP_condT rfl ?_
  refine WP_seq ?_
  refine WP_region ?_
  refine O_assign rfl rfl rfl ?_
  refine WL_end [(4, _)] ⟨rfl, trivial⟩ ?_
  refine WP_ret ?_
  refine ret1 Try.results4 rfl ?_
  exact ⟨_, rfl, e8, rfl⟩

theorem law_IntegerDivides {w : World} {vx vy : Value} {lx ly : List Nat} {bx by_ : Bool} (hx : Nl w vx lx) (hy : Nl w vy ly) : Calls Try.prog 4 #[.agg #[.bool bx, vx], .agg #[.bool by_, vy]] w (Ret w fun r _ => r = .bool true) := by
  by_cases h1 : lx.length ≤ 40
  · by_cases h2 : ly.length ≤ 40
    · by_cases h0 : mk by_ (val ly) = 0
      · exact law_IntegerDivides_Z hx hy h1 h2 h0
      · exact law_IntegerDivides_T hx hy h1 h2 h0
    · exact law_IntegerDivides_F hx hy (by omega)
  · exact law_IntegerDivides_F hx hy (by omega)

end Go.Proofs.Ythbbcnlpfjbleaa
