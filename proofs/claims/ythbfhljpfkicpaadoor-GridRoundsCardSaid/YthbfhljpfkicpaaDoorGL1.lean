/-
  Walks.
-/
import Derived.Test.YthbfhljpfkicpaaDoorG5
set_option linter.unusedVariables false
set_option linter.unusedSimpArgs false
set_option maxRecDepth 100000
namespace Go.Proofs.YthbfhljpfkicpaaDoor
open Go Go.RowKit
set_option maxHeartbeats 4000000 in
theorem law_GridRounds {w : World} {vx : Value} {lx : List Nat} {bx : Bool} {e p : Int} (hx : Nl w vx lx) (hT : Tab w) :
    Calls Tryd.prog 3 #[.agg #[.bool bx, vx, .int .i64 e], .int .i64 p] w (Ret w fun r _ => r = .bool true) := by
 refine enter (args := [_, _]) Tryd.func3 rfl Tryd.ntmps3 rfl ?_
 refine WP_seq ?_
 refine WP_region ?_
 refine O_box _ rfl rfl rfl rfl (fun g1 w1 b1 e1 gl1 gh1 => ?_)
 have z1 := e1.size
 refine O_assign rfl rfl rfl ?_
 refine WL_end [(1, _), (2, _)] ⟨rfl, rfl, trivial⟩ ?_
 refine WP_seq ?_
 refine WP_seq ?_
 refine WP_region ?_
 refine O_call enters11 rfl rfl rfl (awake9_c (hT.ext e1)) (fun v2 w2 e2 h2 => ?_)
 have z2 := e2.size
 obtain rfl := h2
 refine O_not rfl rfl rfl rfl ?_
 refine WL_end [(1, _), (2, _), (22, _)] ⟨rfl, rfl, rfl, trivial⟩ ?_
 refine WP_condF rfl ?_
 refine WP_skip ?_
 refine WP_seq ?_
 refine WP_region ?_
 refine O_loadA (vs := [_, _, _]) S26 rfl rfl rfl (b1.ext e2) rfl rfl ?_
 refine O_call enters12 rfl rfl rfl (mdy_c (n := 8) (m := 300) (hx.ext (e1.trans e2)) (by decide)) (fun v3 w3 e3 h3 => ?_)
 have z3 := e3.size
 try simp only [val_dig] at h3
 obtain ⟨X, E, qA, bA, rfl, hqA, hvX, hkX, hjX, hlX⟩ := h3
 refine O_move rfl rfl rfl ?_
 refine O_extract rfl rfl rfl rfl ?_
 refine O_extract rfl rfl rfl rfl ?_
 refine O_alloc S26 rfl rfl (fun g4 w4 b4 e4 gl4 gh4 => ?_)
 have z4 := e4.size
 refine O_storeA (cs' := [_, _, _]) S26 rfl rfl rfl b4 rfl rfl (one_cons rfl (one_cons ((hqA.ext e4).nl).one (one_cons rfl one_nil))) rfl (fun w5 b5 q5 => ?_)
 have z5 := Nat.le_of_eq q5.size.symm
 have e5 : Ext w w5 := q5.ext (((e1.trans e2).trans e3).trans e4) (by omega)
 refine O_assign rfl rfl rfl ?_
 refine WL_end [(1, _), (5, _), (6, _)] ⟨rfl, rfl, rfl, trivial⟩ ?_
 refine WP_seq ?_
 refine WP_seq ?_
 refine WP_region ?_
 refine O_move rfl rfl rfl ?_
 refine O_not rfl rfl rfl rfl ?_
 refine WL_end [(1, _), (5, _), (29, _)] ⟨rfl, rfl, rfl, trivial⟩ ?_
 refine WP_cond rfl (fun c29 => ?_) (fun c29 => ?_)
 · --
  refine WP_seq ?_
  refine WP_region ?_
  refine O_assign rfl rfl rfl ?_
  refine WL_end [(4, _)] ⟨rfl, trivial⟩ ?_
  refine WP_ret ?_
  refine ret1 Tryd.results3 rfl ?_
  exact ⟨_, rfl, e5, rfl⟩
 · --
  refine WP_skip ?_
  refine WP_seq ?_
  refine WP_seq ?_
  refine WP_region ?_
  refine O_move rfl rfl rfl ?_
  refine O_call enters13 rfl rfl rfl (precs_c) (fun v6 w6 e6 h6 => ?_)
  have z6 := e6.size
  obtain ⟨ot, hcap⟩ := h6
  refine V_len TDint rfl rfl rfl ot ?_
  refine O_move rfl rfl rfl ?_
  refine WL_end [(5, _), (31, _), (32, _), (33, _)] ⟨rfl, rfl, rfl, rfl, trivial⟩ ?_
  refine WP_block ?_
  have hX0 := (((hqA.ext e4).chgBk b4 (by decide) q5).ext e6)
  have hG := (b5.ext e6)
  replace hT := hT.ext (e5.trans e6)
  have hall : ∀ (k : Nat) (u : Value), [Value.int .i64 p, Value.int .i64 (p % 60 - 20), Value.int .i64 (p % 1000), Value.int .i64 (-2049 + p % 3), Value.int .i64 (8191 + p % 3)][k]? = some u → ∃ z : Int, u = .int .i64 z := by
    intro k u hu
    match k with
    | 0 => simp at hu; subst hu; exact ⟨_, rfl⟩
    | 1 => simp at hu; subst hu; exact ⟨_, rfl⟩
    | 2 => simp at hu; subst hu; exact ⟨_, rfl⟩
    | 3 => simp at hu; subst hu; exact ⟨_, rfl⟩
    | 4 => simp at hu; subst hu; exact ⟨_, rfl⟩
    | k + 5 => simp at hu
  refine WP_loop (S := Nat) (fun j => [(5, .pointer (some ⟨g4, 0, none⟩)), (31, v6), (32, .int .i64 (5 : Nat)), (33, .int .i64 (j : Nat))]) (fun j w' => Ext w6 w' ∧ j ≤ 5) (fun j => 5 - j) 0 ⟨rfl, rfl, rfl, rfl, trivial⟩ ⟨Ext.refl _, by omega⟩ ?_
  rintro j w9 ⟨hE, hj⟩
  have zE := hE.size
  refine WP_seq ?_
  refine WP_region ?_
  refine O_lss rfl rfl rfl rfl rfl ?_
  refine WL_end [(5, _), (31, _), (32, _), (33, _), (34, _)] ⟨rfl, rfl, rfl, rfl, rfl, trivial⟩ ?_
  refine WP_seq ?_
  refine WP_condD rfl (fun c34 => ?_) (fun c34 => ?_)
  · --
   refine WP_skip ?_
   refine WP_seq ?_
   refine WP_block ?_
   refine WP_seq ?_
   refine WP_region ?_
   refine V_index TDint rfl rfl rfl rfl (ot.ext hE) _ rfl (by simp only [List.length_cons, List.length_nil]; omega) ?_
   obtain ⟨u, hu⟩ : ∃ u, [Value.int .i64 p, Value.int .i64 (p % 60 - 20), Value.int .i64 (p % 1000), Value.int .i64 (-2049 + p % 3), Value.int .i64 (8191 + p % 3)][j]? = some u := ⟨_, List.getElem?_eq_getElem (by simp only [List.length_cons, List.length_nil]; omega)⟩
   obtain ⟨z, rfl⟩ := hall j u hu
   refine O_load Tryd.underlying3 rfl rfl rfl rfl ((ot.ext hE).cell hu) ?_
   refine O_assign rfl rfl rfl ?_
   refine WL_end [(5, _), (8, _), (31, _), (32, _), (33, _)] ⟨rfl, rfl, rfl, rfl, rfl, trivial⟩ ?_
   refine WP_seq ?_
   by_cases hpm : perm z
   · --
    have hpk := hpm
    unfold perm at hpk
    have hL1 := dman_len (e := -z) (scl_len (n := E + z) (m := 80000) hlX (by omega))
    have hL2 := dman_len (e := -z) (neg_len (scl_len (n := E + z) (m := 80000) (neg_len hlX) (by omega)))
    have hL3 := dman_len (e := -z) (ner_len (n := E + z) (m := 80000) hlX (by omega))
    refine WP_region ?_
    refine O_loadA (vs := [_, _, _]) S26 rfl rfl rfl (hG.ext hE) rfl rfl ?_
    refine O_move rfl rfl rfl ?_
    refine O_call enters14 rfl rfl rfl (gfloor_T rfl (hX0.ext hE).nl (by first | with_reducible assumption | exact dval_dman _ _ | exact dval_zero | exact (dval_neg _ _).trans (by assumption) | exact dval_dg (by assumption) (by assumption) | exact dval_dl (by assumption) (by assumption)) hpm (hT.ext hE)) (fun v7 w7 e7 h7 => ?_)
    have z7 := e7.size
    try simp only [val_dig] at h7
    obtain ⟨q7, rfl, hq7⟩ := h7
    refine O_move rfl rfl rfl ?_
    refine O_extract rfl rfl rfl rfl ?_
    refine O_extract rfl rfl rfl rfl ?_
    refine O_alloc S26 rfl rfl (fun g8 w8 b8 e8 gl8 gh8 => ?_)
    have z8 := e8.size
    refine O_storeA (cs' := [_, _, _]) S26 rfl rfl rfl b8 rfl rfl (one_cons rfl (one_cons ((hq7.ext e8).nl).one (one_cons rfl one_nil))) rfl (fun w9 b9 q9 => ?_)
    have z9 := Nat.le_of_eq q9.size.symm
    have e9 : Ext w6 w9 := q9.ext ((hE.trans e7).trans e8) (by omega)
    refine O_assign rfl rfl rfl ?_
    refine WL_end [(5, _), (8, _), (9, _), (10, _), (31, _), (32, _), (33, _)] ⟨rfl, rfl, rfl, rfl, rfl, rfl, rfl, trivial⟩ ?_
    refine WP_seq ?_
    refine WP_region ?_
    refine O_loadA (vs := [_, _, _]) S26 rfl rfl rfl (hG.ext e9) rfl rfl ?_
    refine O_move rfl rfl rfl ?_
    refine O_call enters15 rfl rfl rfl (gceil_T rfl (hX0.ext e9).nl (by first | with_reducible assumption | exact dval_dman _ _ | exact dval_zero | exact (dval_neg _ _).trans (by assumption) | exact dval_dg (by assumption) (by assumption) | exact dval_dl (by assumption) (by assumption)) hpm (hT.ext e9)) (fun v10 w10 e10 h10 => ?_)
    have z10 := e10.size
    try simp only [val_dig] at h10
    obtain ⟨q10, rfl, hq10⟩ := h10
    refine O_move rfl rfl rfl ?_
    refine O_extract rfl rfl rfl rfl ?_
    refine O_extract rfl rfl rfl rfl ?_
    refine O_alloc S26 rfl rfl (fun g11 w11 b11 e11 gl11 gh11 => ?_)
    have z11 := e11.size
    refine O_storeA (cs' := [_, _, _]) S26 rfl rfl rfl b11 rfl rfl (one_cons rfl (one_cons ((hq10.ext e11).nl).one (one_cons rfl one_nil))) rfl (fun w12 b12 q12 => ?_)
    have z12 := Nat.le_of_eq q12.size.symm
    have e12 : Ext w6 w12 := q12.ext ((e9.trans e10).trans e11) (by omega)
    refine O_assign rfl rfl rfl ?_
    refine WL_end [(5, _), (8, _), (9, _), (10, _), (11, _), (12, _), (31, _), (32, _), (33, _)] ⟨rfl, rfl, rfl, rfl, rfl, rfl, rfl, rfl, rfl, trivial⟩ ?_
    refine WP_seq ?_
    refine WP_region ?_
    refine O_loadA (vs := [_, _, _]) S26 rfl rfl rfl (hG.ext e12) rfl rfl ?_
    refine O_move rfl rfl rfl ?_
    refine O_call enters16 rfl rfl rfl (gnear_T rfl (hX0.ext e12).nl (by first | with_reducible assumption | exact dval_dman _ _ | exact dval_zero | exact (dval_neg _ _).trans (by assumption) | exact dval_dg (by assumption) (by assumption) | exact dval_dl (by assumption) (by assumption)) hpm (hT.ext e12)) (fun v13 w13 e13 h13 => ?_)
    have z13 := e13.size
    try simp only [val_dig] at h13
    obtain ⟨q13, rfl, hq13⟩ := h13
    refine O_move rfl rfl rfl ?_
    refine O_extract rfl rfl rfl rfl ?_
    refine O_extract rfl rfl rfl rfl ?_
    refine O_alloc S26 rfl rfl (fun g14 w14 b14 e14 gl14 gh14 => ?_)
    have z14 := e14.size
    refine O_storeA (cs' := [_, _, _]) S26 rfl rfl rfl b14 rfl rfl (one_cons rfl (one_cons ((hq13.ext e14).nl).one (one_cons rfl one_nil))) rfl (fun w15 b15 q15 => ?_)
    have z15 := Nat.le_of_eq q15.size.symm
    have e15 : Ext w6 w15 := q15.ext ((e12.trans e13).trans e14) (by omega)
    refine O_assign rfl rfl rfl ?_
    refine WL_end [(5, _), (8, _), (9, _), (10, _), (11, _), (12, _), (13, _), (14, _), (31, _), (32, _), (33, _)] ⟨rfl, rfl, rfl, rfl, rfl, rfl, rfl, rfl, rfl, rfl, rfl, trivial⟩ ?_
    refine WP_seq ?_
    refine WP_region ?_
    refine O_loadA (vs := [_, _, _]) S26 rfl rfl rfl (hG.ext e15) rfl rfl ?_
    refine O_move rfl rfl rfl ?_
    refine O_call enters17 rfl rfl rfl (rfloor_T rfl (hX0.ext e15).nl (by first | with_reducible assumption | exact dval_dman _ _ | exact dval_zero | exact (dval_neg _ _).trans (by assumption) | exact dval_dg (by assumption) (by assumption) | exact dval_dl (by assumption) (by assumption)) hpm) (fun v16 w16 e16 h16 => ?_)
    have z16 := e16.size
    try simp only [val_dig] at h16
    obtain ⟨q16, rfl, hq16⟩ := h16
    refine O_move rfl rfl rfl ?_
    refine O_extract rfl rfl rfl rfl ?_
    refine O_extract rfl rfl rfl rfl ?_
    refine O_alloc S26 rfl rfl (fun g17 w17 b17 e17 gl17 gh17 => ?_)
    have z17 := e17.size
    refine O_storeA (cs' := [_, _, _]) S26 rfl rfl rfl b17 rfl rfl (one_cons rfl (one_cons ((hq16.ext e17).nl).one (one_cons rfl one_nil))) rfl (fun w18 b18 q18 => ?_)
    have z18 := Nat.le_of_eq q18.size.symm
    have e18 : Ext w6 w18 := q18.ext ((e15.trans e16).trans e17) (by omega)
    refine O_assign rfl rfl rfl ?_
    refine WL_end [(5, _), (8, _), (9, _), (10, _), (11, _), (12, _), (13, _), (14, _), (15, _), (16, _), (31, _), (32, _), (33, _)] ⟨rfl, rfl, rfl, rfl, rfl, rfl, rfl, rfl, rfl, rfl, rfl, rfl, rfl, trivial⟩ ?_
    refine WP_seq ?_
    refine WP_region ?_
    refine O_loadA (vs := [_, _, _]) S26 rfl rfl rfl (hG.ext e18) rfl rfl ?_
    refine O_move rfl rfl rfl ?_
    refine O_call enters18 rfl rfl rfl (rceil_T rfl (hX0.ext e18).nl (by first | with_reducible assumption | exact dval_dman _ _ | exact dval_zero | exact (dval_neg _ _).trans (by assumption) | exact dval_dg (by assumption) (by assumption) | exact dval_dl (by assumption) (by assumption)) hpm) (fun v19 w19 e19 h19 => ?_)
    have z19 := e19.size
    try simp only [val_dig] at h19
    obtain ⟨q19, rfl, hq19⟩ := h19
    refine O_move rfl rfl rfl ?_
    refine O_extract rfl rfl rfl rfl ?_
    refine O_extract rfl rfl rfl rfl ?_
    refine O_alloc S26 rfl rfl (fun g20 w20 b20 e20 gl20 gh20 => ?_)
    have z20 := e20.size
    refine O_storeA (cs' := [_, _, _]) S26 rfl rfl rfl b20 rfl rfl (one_cons rfl (one_cons ((hq19.ext e20).nl).one (one_cons rfl one_nil))) rfl (fun w21 b21 q21 => ?_)
    have z21 := Nat.le_of_eq q21.size.symm
    have e21 : Ext w6 w21 := q21.ext ((e18.trans e19).trans e20) (by omega)
    refine O_assign rfl rfl rfl ?_
    refine WL_end [(5, _), (8, _), (9, _), (10, _), (11, _), (12, _), (13, _), (14, _), (15, _), (16, _), (17, _), (18, _), (31, _), (32, _), (33, _)] ⟨rfl, rfl, rfl, rfl, rfl, rfl, rfl, rfl, rfl, rfl, rfl, rfl, rfl, rfl, rfl, trivial⟩ ?_
    refine WP_seq ?_
    refine WP_region ?_
    refine O_loadA (vs := [_, _, _]) S26 rfl rfl rfl (hG.ext e21) rfl rfl ?_
    refine O_move rfl rfl rfl ?_
    refine O_call enters19 rfl rfl rfl (rnear_T rfl (hX0.ext e21).nl (by first | with_reducible assumption | exact dval_dman _ _ | exact dval_zero | exact (dval_neg _ _).trans (by assumption) | exact dval_dg (by assumption) (by assumption) | exact dval_dl (by assumption) (by assumption)) hpm) (fun v22 w22 e22 h22 => ?_)
    have z22 := e22.size
    try simp only [val_dig] at h22
    obtain ⟨q22, rfl, hq22⟩ := h22
    refine O_move rfl rfl rfl ?_
    refine O_extract rfl rfl rfl rfl ?_
    refine O_extract rfl rfl rfl rfl ?_
    refine O_alloc S26 rfl rfl (fun g23 w23 b23 e23 gl23 gh23 => ?_)
    have z23 := e23.size
    refine O_storeA (cs' := [_, _, _]) S26 rfl rfl rfl b23 rfl rfl (one_cons rfl (one_cons ((hq22.ext e23).nl).one (one_cons rfl one_nil))) rfl (fun w24 b24 q24 => ?_)
    have z24 := Nat.le_of_eq q24.size.symm
    have e24 : Ext w6 w24 := q24.ext ((e21.trans e22).trans e23) (by omega)
    refine O_assign rfl rfl rfl ?_
    refine WL_end [(5, _), (9, _), (10, _), (11, _), (12, _), (13, _), (14, _), (15, _), (16, _), (17, _), (18, _), (19, _), (20, _), (31, _), (32, _), (33, _)] ⟨rfl, rfl, rfl, rfl, rfl, rfl, rfl, rfl, rfl, rfl, rfl, rfl, rfl, rfl, rfl, rfl, trivial⟩ ?_
    refine WP_seq ?_
    refine WP_region ?_
    refine O_move rfl rfl rfl ?_
    refine O_move rfl rfl rfl ?_
    refine O_neq (t := false) rfl rfl rfl rfl (decide_eq_false (by simp)) ?_
    refine O_move rfl rfl rfl ?_
    refine O_move rfl rfl rfl ?_
    refine O_move rfl rfl rfl ?_
    refine O_neq (t := false) rfl rfl rfl rfl (decide_eq_false (by simp)) ?_
    refine O_pickF rfl rfl rfl rfl ?_
    refine O_move rfl rfl rfl ?_
    refine O_move rfl rfl rfl ?_
    refine O_move rfl rfl rfl ?_
    refine O_neq (t := false) rfl rfl rfl rfl (decide_eq_false (by simp)) ?_
    refine O_pickF rfl rfl rfl rfl ?_
    refine O_move rfl rfl rfl ?_
    refine O_loadA (vs := [_, _, _]) S26 rfl rfl rfl (((((((((((((((b9.ext e10).ext e11).chg q12 (by first | assumption | omega)).ext e13).ext e14).chg q15 (by first | assumption | omega)).ext e16).ext e17).chg q18 (by first | assumption | omega)).ext e19).ext e20).chg q21 (by first | assumption | omega)).ext e22).ext e23).chg q24 (by first | assumption | omega)) rfl rfl ?_
    refine O_loadA (vs := [_, _, _]) S26 rfl rfl rfl ((((((b18.ext e19).ext e20).chg q21 (by first | assumption | omega)).ext e22).ext e23).chg q24 (by first | assumption | omega)) rfl rfl ?_
    refine O_call enters20 rfl rfl rfl (rdsame_c rfl (((((((((((((((((hq7.ext e8).chgBk b8 (by decide) q9).ext e10).ext e11).chgBk b11 (by decide) q12).ext e13).ext e14).chgBk b14 (by decide) q15).ext e16).ext e17).chgBk b17 (by decide) q18).ext e19).ext e20).chgBk b20 (by decide) q21).ext e22).ext e23).chgBk b23 (by decide) q24).nl ((((((((hq16.ext e17).chgBk b17 (by decide) q18).ext e19).ext e20).chgBk b20 (by decide) q21).ext e22).ext e23).chgBk b23 (by decide) q24).nl (by (try simp only [lens]); omega) (by (try simp only [lens]); omega) rfl rfl) (fun v25 w25 e25 h25 => ?_)
    have z25 := e25.size
    obtain rfl := h25
    refine O_not rfl rfl rfl rfl ?_
    refine O_pickF rfl rfl rfl rfl ?_
    refine O_move rfl rfl rfl ?_
    refine O_loadA (vs := [_, _, _]) S26 rfl rfl rfl (((((((((((((b12.ext e13).ext e14).chg q15 (by first | assumption | omega)).ext e16).ext e17).chg q18 (by first | assumption | omega)).ext e19).ext e20).chg q21 (by first | assumption | omega)).ext e22).ext e23).chg q24 (by first | assumption | omega)).ext e25) rfl rfl ?_
    refine O_loadA (vs := [_, _, _]) S26 rfl rfl rfl ((((b21.ext e22).ext e23).chg q24 (by first | assumption | omega)).ext e25) rfl rfl ?_
    refine O_call enters20 rfl rfl rfl (rdsame_c rfl (((((((((((((((hq10.ext e11).chgBk b11 (by decide) q12).ext e13).ext e14).chgBk b14 (by decide) q15).ext e16).ext e17).chgBk b17 (by decide) q18).ext e19).ext e20).chgBk b20 (by decide) q21).ext e22).ext e23).chgBk b23 (by decide) q24).ext e25).nl ((((((hq19.ext e20).chgBk b20 (by decide) q21).ext e22).ext e23).chgBk b23 (by decide) q24).ext e25).nl (by (try simp only [lens]); omega) (by (try simp only [lens]); omega) rfl rfl) (fun v26 w26 e26 h26 => ?_)
    have z26 := e26.size
    obtain rfl := h26
    refine O_not rfl rfl rfl rfl ?_
    refine O_pickF rfl rfl rfl rfl ?_
    refine O_move rfl rfl rfl ?_
    refine O_loadA (vs := [_, _, _]) S26 rfl rfl rfl (((((((((((b15.ext e16).ext e17).chg q18 (by first | assumption | omega)).ext e19).ext e20).chg q21 (by first | assumption | omega)).ext e22).ext e23).chg q24 (by first | assumption | omega)).ext e25).ext e26) rfl rfl ?_
    refine O_loadA (vs := [_, _, _]) S26 rfl rfl rfl ((b24.ext e25).ext e26) rfl rfl ?_
    refine O_call enters20 rfl rfl rfl (rdsame_c rfl (((((((((((((hq13.ext e14).chgBk b14 (by decide) q15).ext e16).ext e17).chgBk b17 (by decide) q18).ext e19).ext e20).chgBk b20 (by decide) q21).ext e22).ext e23).chgBk b23 (by decide) q24).ext e25).ext e26).nl ((((hq22.ext e23).chgBk b23 (by decide) q24).ext e25).ext e26).nl (by (try simp only [lens]); omega) (by (try simp only [lens]); omega) rfl rfl) (fun v27 w27 e27 h27 => ?_)
    have z27 := e27.size
    obtain rfl := h27
    refine O_not rfl rfl rfl rfl ?_
    refine O_pickF rfl rfl rfl rfl ?_
    refine WL_end [(5, _), (31, _), (32, _), (33, _), (103, _)] ⟨rfl, rfl, rfl, rfl, rfl, trivial⟩ ?_
    refine WP_condF rfl ?_
    refine WP_skip ?_
    refine WP_region ?_
    refine O_add rfl rfl rfl rfl (wrap_i64_id (by omega) (by omega)) ?_
    refine O_move rfl rfl rfl ?_
    refine WL_end [(5, _), (31, _), (32, _), (33, _)] ⟨rfl, rfl, rfl, rfl, trivial⟩ ?_
    exact ⟨j + 1, ⟨rfl, rfl, rfl, rfl, trivial⟩, ⟨(((e24.trans e25).trans e26).trans e27), by omega⟩, by omega⟩
   · --
    skip
    refine WP_region ?_
    refine O_loadA (vs := [_, _, _]) S26 rfl rfl rfl (hG.ext hE) rfl rfl ?_
    refine O_move rfl rfl rfl ?_
    refine O_call enters14 rfl rfl rfl (gfloor_F rfl (hX0.ext hE).nl (by first | with_reducible assumption | exact dval_dman _ _ | exact dval_zero | exact (dval_neg _ _).trans (by assumption) | exact dval_dg (by assumption) (by assumption) | exact dval_dl (by assumption) (by assumption)) hpm) (fun v28 w28 e28 h28 => ?_)
    have z28 := e28.size
    try simp only [val_dig] at h28
    obtain rfl := h28
    refine O_move rfl rfl rfl ?_
    refine O_extract rfl rfl rfl rfl ?_
    refine O_extract rfl rfl rfl rfl ?_
    refine O_alloc S26 rfl rfl (fun g29 w29 b29 e29 gl29 gh29 => ?_)
    have z29 := e29.size
    refine O_storeA (cs' := [_, _, _]) S26 rfl rfl rfl b29 rfl rfl (one_cons rfl (one_cons rfl (one_cons rfl one_nil))) rfl (fun w30 b30 q30 => ?_)
    have z30 := Nat.le_of_eq q30.size.symm
    have e30 : Ext w6 w30 := q30.ext ((hE.trans e28).trans e29) (by omega)
    refine O_assign rfl rfl rfl ?_
    refine WL_end [(5, _), (8, _), (9, _), (10, _), (31, _), (32, _), (33, _)] ⟨rfl, rfl, rfl, rfl, rfl, rfl, rfl, trivial⟩ ?_
    refine WP_seq ?_
    refine WP_region ?_
    refine O_loadA (vs := [_, _, _]) S26 rfl rfl rfl (hG.ext e30) rfl rfl ?_
    refine O_move rfl rfl rfl ?_
    refine O_call enters15 rfl rfl rfl (gceil_F rfl (hX0.ext e30).nl (by first | with_reducible assumption | exact dval_dman _ _ | exact dval_zero | exact (dval_neg _ _).trans (by assumption) | exact dval_dg (by assumption) (by assumption) | exact dval_dl (by assumption) (by assumption)) hpm) (fun v31 w31 e31 h31 => ?_)
    have z31 := e31.size
    try simp only [val_dig] at h31
    obtain rfl := h31
    refine O_move rfl rfl rfl ?_
    refine O_extract rfl rfl rfl rfl ?_
    refine O_extract rfl rfl rfl rfl ?_
    refine O_alloc S26 rfl rfl (fun g32 w32 b32 e32 gl32 gh32 => ?_)
    have z32 := e32.size
    refine O_storeA (cs' := [_, _, _]) S26 rfl rfl rfl b32 rfl rfl (one_cons rfl (one_cons rfl (one_cons rfl one_nil))) rfl (fun w33 b33 q33 => ?_)
    have z33 := Nat.le_of_eq q33.size.symm
    have e33 : Ext w6 w33 := q33.ext ((e30.trans e31).trans e32) (by omega)
    refine O_assign rfl rfl rfl ?_
    refine WL_end [(5, _), (8, _), (9, _), (10, _), (11, _), (12, _), (31, _), (32, _), (33, _)] ⟨rfl, rfl, rfl, rfl, rfl, rfl, rfl, rfl, rfl, trivial⟩ ?_
    refine WP_seq ?_
    refine WP_region ?_
    refine O_loadA (vs := [_, _, _]) S26 rfl rfl rfl (hG.ext e33) rfl rfl ?_
    refine O_move rfl rfl rfl ?_
    refine O_call enters16 rfl rfl rfl (gnear_F rfl (hX0.ext e33).nl (by first | with_reducible assumption | exact dval_dman _ _ | exact dval_zero | exact (dval_neg _ _).trans (by assumption) | exact dval_dg (by assumption) (by assumption) | exact dval_dl (by assumption) (by assumption)) hpm) (fun v34 w34 e34 h34 => ?_)
    have z34 := e34.size
    try simp only [val_dig] at h34
    obtain rfl := h34
    refine O_move rfl rfl rfl ?_
    refine O_extract rfl rfl rfl rfl ?_
    refine O_extract rfl rfl rfl rfl ?_
    refine O_alloc S26 rfl rfl (fun g35 w35 b35 e35 gl35 gh35 => ?_)
    have z35 := e35.size
    refine O_storeA (cs' := [_, _, _]) S26 rfl rfl rfl b35 rfl rfl (one_cons rfl (one_cons rfl (one_cons rfl one_nil))) rfl (fun w36 b36 q36 => ?_)
    have z36 := Nat.le_of_eq q36.size.symm
    have e36 : Ext w6 w36 := q36.ext ((e33.trans e34).trans e35) (by omega)
    refine O_assign rfl rfl rfl ?_
    refine WL_end [(5, _), (8, _), (9, _), (10, _), (11, _), (12, _), (13, _), (14, _), (31, _), (32, _), (33, _)] ⟨rfl, rfl, rfl, rfl, rfl, rfl, rfl, rfl, rfl, rfl, rfl, trivial⟩ ?_
    refine WP_seq ?_
    refine WP_region ?_
    refine O_loadA (vs := [_, _, _]) S26 rfl rfl rfl (hG.ext e36) rfl rfl ?_
    refine O_move rfl rfl rfl ?_
    refine O_call enters17 rfl rfl rfl (rfloor_F rfl (hX0.ext e36).nl (by first | with_reducible assumption | exact dval_dman _ _ | exact dval_zero | exact (dval_neg _ _).trans (by assumption) | exact dval_dg (by assumption) (by assumption) | exact dval_dl (by assumption) (by assumption)) hpm) (fun v37 w37 e37 h37 => ?_)
    have z37 := e37.size
    try simp only [val_dig] at h37
    obtain rfl := h37
    refine O_move rfl rfl rfl ?_
    refine O_extract rfl rfl rfl rfl ?_
    refine O_extract rfl rfl rfl rfl ?_
    refine O_alloc S26 rfl rfl (fun g38 w38 b38 e38 gl38 gh38 => ?_)
    have z38 := e38.size
    refine O_storeA (cs' := [_, _, _]) S26 rfl rfl rfl b38 rfl rfl (one_cons rfl (one_cons rfl (one_cons rfl one_nil))) rfl (fun w39 b39 q39 => ?_)
    have z39 := Nat.le_of_eq q39.size.symm
    have e39 : Ext w6 w39 := q39.ext ((e36.trans e37).trans e38) (by omega)
    refine O_assign rfl rfl rfl ?_
    refine WL_end [(5, _), (8, _), (9, _), (10, _), (11, _), (12, _), (13, _), (14, _), (15, _), (16, _), (31, _), (32, _), (33, _)] ⟨rfl, rfl, rfl, rfl, rfl, rfl, rfl, rfl, rfl, rfl, rfl, rfl, rfl, trivial⟩ ?_
    refine WP_seq ?_
    refine WP_region ?_
    refine O_loadA (vs := [_, _, _]) S26 rfl rfl rfl (hG.ext e39) rfl rfl ?_
    refine O_move rfl rfl rfl ?_
    refine O_call enters18 rfl rfl rfl (rceil_F rfl (hX0.ext e39).nl (by first | with_reducible assumption | exact dval_dman _ _ | exact dval_zero | exact (dval_neg _ _).trans (by assumption) | exact dval_dg (by assumption) (by assumption) | exact dval_dl (by assumption) (by assumption)) hpm) (fun v40 w40 e40 h40 => ?_)
    have z40 := e40.size
    try simp only [val_dig] at h40
    obtain rfl := h40
    refine O_move rfl rfl rfl ?_
    refine O_extract rfl rfl rfl rfl ?_
    refine O_extract rfl rfl rfl rfl ?_
    refine O_alloc S26 rfl rfl (fun g41 w41 b41 e41 gl41 gh41 => ?_)
    have z41 := e41.size
    refine O_storeA (cs' := [_, _, _]) S26 rfl rfl rfl b41 rfl rfl (one_cons rfl (one_cons rfl (one_cons rfl one_nil))) rfl (fun w42 b42 q42 => ?_)
    have z42 := Nat.le_of_eq q42.size.symm
    have e42 : Ext w6 w42 := q42.ext ((e39.trans e40).trans e41) (by omega)
    refine O_assign rfl rfl rfl ?_
    refine WL_end [(5, _), (8, _), (9, _), (10, _), (11, _), (12, _), (13, _), (14, _), (15, _), (16, _), (17, _), (18, _), (31, _), (32, _), (33, _)] ⟨rfl, rfl, rfl, rfl, rfl, rfl, rfl, rfl, rfl, rfl, rfl, rfl, rfl, rfl, rfl, trivial⟩ ?_
    refine WP_seq ?_
    refine WP_region ?_
    refine O_loadA (vs := [_, _, _]) S26 rfl rfl rfl (hG.ext e42) rfl rfl ?_
    refine O_move rfl rfl rfl ?_
    refine O_call enters19 rfl rfl rfl (rnear_F rfl (hX0.ext e42).nl (by first | with_reducible assumption | exact dval_dman _ _ | exact dval_zero | exact (dval_neg _ _).trans (by assumption) | exact dval_dg (by assumption) (by assumption) | exact dval_dl (by assumption) (by assumption)) hpm) (fun v43 w43 e43 h43 => ?_)
    have z43 := e43.size
    try simp only [val_dig] at h43
    obtain rfl := h43
    refine O_move rfl rfl rfl ?_
    refine O_extract rfl rfl rfl rfl ?_
    refine O_extract rfl rfl rfl rfl ?_
    refine O_alloc S26 rfl rfl (fun g44 w44 b44 e44 gl44 gh44 => ?_)
    have z44 := e44.size
    refine O_storeA (cs' := [_, _, _]) S26 rfl rfl rfl b44 rfl rfl (one_cons rfl (one_cons rfl (one_cons rfl one_nil))) rfl (fun w45 b45 q45 => ?_)
    have z45 := Nat.le_of_eq q45.size.symm
    have e45 : Ext w6 w45 := q45.ext ((e42.trans e43).trans e44) (by omega)
    refine O_assign rfl rfl rfl ?_
    refine WL_end [(5, _), (9, _), (10, _), (11, _), (12, _), (13, _), (14, _), (15, _), (16, _), (17, _), (18, _), (19, _), (20, _), (31, _), (32, _), (33, _)] ⟨rfl, rfl, rfl, rfl, rfl, rfl, rfl, rfl, rfl, rfl, rfl, rfl, rfl, rfl, rfl, rfl, trivial⟩ ?_
    refine WP_seq ?_
    refine WP_region ?_
    refine O_move rfl rfl rfl ?_
    refine O_move rfl rfl rfl ?_
    refine O_neq (t := false) rfl rfl rfl rfl (decide_eq_false (by simp)) ?_
    refine O_move rfl rfl rfl ?_
    refine O_move rfl rfl rfl ?_
    refine O_move rfl rfl rfl ?_
    refine O_neq (t := false) rfl rfl rfl rfl (decide_eq_false (by simp)) ?_
    refine O_pickF rfl rfl rfl rfl ?_
    refine O_move rfl rfl rfl ?_
    refine O_move rfl rfl rfl ?_
    refine O_move rfl rfl rfl ?_
    refine O_neq (t := false) rfl rfl rfl rfl (decide_eq_false (by simp)) ?_
    refine O_pickF rfl rfl rfl rfl ?_
    refine O_move rfl rfl rfl ?_
    refine O_loadA (vs := [_, _, _]) S26 rfl rfl rfl (((((((((((((((b30.ext e31).ext e32).chg q33 (by first | assumption | omega)).ext e34).ext e35).chg q36 (by first | assumption | omega)).ext e37).ext e38).chg q39 (by first | assumption | omega)).ext e40).ext e41).chg q42 (by first | assumption | omega)).ext e43).ext e44).chg q45 (by first | assumption | omega)) rfl rfl ?_
    refine O_loadA (vs := [_, _, _]) S26 rfl rfl rfl ((((((b39.ext e40).ext e41).chg q42 (by first | assumption | omega)).ext e43).ext e44).chg q45 (by first | assumption | omega)) rfl rfl ?_
    refine O_call enters20 rfl rfl rfl (rdsame_c rfl (Nl.nil _) (Nl.nil _) (by (try simp only [lens]); omega) (by (try simp only [lens]); omega) rfl rfl) (fun v46 w46 e46 h46 => ?_)
    have z46 := e46.size
    obtain rfl := h46
    refine O_not rfl rfl rfl rfl ?_
    refine O_pickF rfl rfl rfl rfl ?_
    refine O_move rfl rfl rfl ?_
    refine O_loadA (vs := [_, _, _]) S26 rfl rfl rfl (((((((((((((b33.ext e34).ext e35).chg q36 (by first | assumption | omega)).ext e37).ext e38).chg q39 (by first | assumption | omega)).ext e40).ext e41).chg q42 (by first | assumption | omega)).ext e43).ext e44).chg q45 (by first | assumption | omega)).ext e46) rfl rfl ?_
    refine O_loadA (vs := [_, _, _]) S26 rfl rfl rfl ((((b42.ext e43).ext e44).chg q45 (by first | assumption | omega)).ext e46) rfl rfl ?_
    refine O_call enters20 rfl rfl rfl (rdsame_c rfl (Nl.nil _) (Nl.nil _) (by (try simp only [lens]); omega) (by (try simp only [lens]); omega) rfl rfl) (fun v47 w47 e47 h47 => ?_)
    have z47 := e47.size
    obtain rfl := h47
    refine O_not rfl rfl rfl rfl ?_
    refine O_pickF rfl rfl rfl rfl ?_
    refine O_move rfl rfl rfl ?_
    refine O_loadA (vs := [_, _, _]) S26 rfl rfl rfl (((((((((((b36.ext e37).ext e38).chg q39 (by first | assumption | omega)).ext e40).ext e41).chg q42 (by first | assumption | omega)).ext e43).ext e44).chg q45 (by first | assumption | omega)).ext e46).ext e47) rfl rfl ?_
    refine O_loadA (vs := [_, _, _]) S26 rfl rfl rfl ((b45.ext e46).ext e47) rfl rfl ?_
    refine O_call enters20 rfl rfl rfl (rdsame_c rfl (Nl.nil _) (Nl.nil _) (by (try simp only [lens]); omega) (by (try simp only [lens]); omega) rfl rfl) (fun v48 w48 e48 h48 => ?_)
    have z48 := e48.size
    obtain rfl := h48
    refine O_not rfl rfl rfl rfl ?_
    refine O_pickF rfl rfl rfl rfl ?_
    refine WL_end [(5, _), (31, _), (32, _), (33, _), (103, _)] ⟨rfl, rfl, rfl, rfl, rfl, trivial⟩ ?_
    refine WP_condF rfl ?_
    refine WP_skip ?_
    refine WP_region ?_
    refine O_add rfl rfl rfl rfl (wrap_i64_id (by omega) (by omega)) ?_
    refine O_move rfl rfl rfl ?_
    refine WL_end [(5, _), (31, _), (32, _), (33, _)] ⟨rfl, rfl, rfl, rfl, trivial⟩ ?_
    exact ⟨j + 1, ⟨rfl, rfl, rfl, rfl, trivial⟩, ⟨(((e45.trans e46).trans e47).trans e48), by omega⟩, by omega⟩
  · --
   refine WP_exit ?_
   refine inBlk_hit ?_
   refine WP_seq ?_
   refine WP_region ?_
   refine O_assign rfl rfl rfl ?_
   refine WL_end [(4, _)] ⟨rfl, trivial⟩ ?_
   refine WP_ret ?_
   refine ret1 Tryd.results3 rfl ?_
   exact ⟨_, rfl, ((e5.trans e6)).trans hE, rfl⟩

end Go.Proofs.YthbfhljpfkicpaaDoor
