/-
  Walks.
-/
import Derived.Test.YthbfhljpfkicpaaDoorG5
set_option linter.unusedVariables false
set_option linter.unusedSimpArgs false
set_option maxRecDepth 100000
namespace Go.Proofs.YthbfhljpfkicpaaDoor
open Go Go.RowKit
set_option maxHeartbeats 4000000 in
theorem law_GridFractions {w : World} {vp vq : Value} {lp lq : List Nat} {bp : Bool} {p : Int} (hp : Nl w vp lp) (hq : Nl w vq lq) (hT : Tab w) :
    Calls Tryd.prog 7 #[.agg #[.bool bp, vp, vq], .int .i64 p] w (Ret w fun r _ => r = .bool true) := by
 refine enter (args := [_, _]) Tryd.func7 rfl Tryd.ntmps7 rfl ?_
 refine WP_seq ?_
 refine WP_region ?_
 refine O_box _ rfl rfl rfl rfl (fun g1 w1 b1 e1 gl1 gh1 => ?_)
 have z1 := e1.size
 refine O_assign rfl rfl rfl ?_
 refine WL_end [(1, _), (2, _)] ⟨rfl, rfl, trivial⟩ ?_
 refine WP_seq ?_
 refine WP_seq ?_
 refine WP_region ?_
 refine O_call enters11 rfl rfl rfl (awake9_c (hT.ext e1)) (fun v2 w2 e2 h2 => ?_)
 have z2 := e2.size
 obtain rfl := h2
 refine O_not rfl rfl rfl rfl ?_
 refine WL_end [(1, _), (2, _), (18, _)] ⟨rfl, rfl, rfl, trivial⟩ ?_
 refine WP_condF rfl ?_
 refine WP_skip ?_
 refine WP_seq ?_
 refine WP_region ?_
 refine O_loadA (vs := [_, _, _]) S40 rfl rfl rfl (b1.ext e2) rfl rfl ?_
 refine O_call enters32 rfl rfl rfl (mrat_c (n := 8) (hp.ext (e1.trans e2)) (hq.ext (e1.trans e2)) (by decide) (by decide)) (fun v3 w3 e3 h3 => ?_)
 have z3 := e3.size
 try simp only [val_dig] at h3
 obtain ⟨P, Q, nR, dR, bR, rfl, hnR, hdR, hbR, hlP, hlQ⟩ := h3
 refine O_move rfl rfl rfl ?_
 refine O_extract rfl rfl rfl rfl ?_
 refine O_extract rfl rfl rfl rfl ?_
 refine O_alloc S40 rfl rfl (fun g4 w4 b4 e4 gl4 gh4 => ?_)
 have z4 := e4.size
 refine O_storeA (cs' := [_, _, _]) S40 rfl rfl rfl b4 rfl rfl (one_cons rfl (one_cons ((hnR.ext e4).nl).one (one_cons ((hdR.ext e4).nl).one one_nil))) rfl (fun w5 b5 q5 => ?_)
 have z5 := Nat.le_of_eq q5.size.symm
 have e5 : Ext w w5 := q5.ext (((e1.trans e2).trans e3).trans e4) (by omega)
 refine O_assign rfl rfl rfl ?_
 refine WL_end [(1, _), (5, _), (6, _)] ⟨rfl, rfl, rfl, trivial⟩ ?_
 refine WP_seq ?_
 refine WP_seq ?_
 refine WP_region ?_
 refine O_move rfl rfl rfl ?_
 refine O_not rfl rfl rfl rfl ?_
 refine WL_end [(1, _), (5, _), (25, _)] ⟨rfl, rfl, rfl, trivial⟩ ?_
 refine WP_cond rfl (fun c25 => ?_) (fun c25 => ?_)
 · --
  refine WP_seq ?_
  refine WP_region ?_
  refine O_assign rfl rfl rfl ?_
  refine WL_end [(4, _)] ⟨rfl, trivial⟩ ?_
  refine WP_ret ?_
  refine ret1 Tryd.results7 rfl ?_
  exact ⟨_, rfl, e5, rfl⟩
 · --
  refine WP_skip ?_
  refine WP_seq ?_
  refine WP_seq ?_
  have hq0 : Q ≠ 0 := Nat.ne_of_gt (hbR (by simpa using c25)).1
  · --
   skip
   refine WP_region ?_
   refine O_move rfl rfl rfl ?_
   refine O_call enters13 rfl rfl rfl (precs_c) (fun v6 w6 e6 h6 => ?_)
   have z6 := e6.size
   obtain ⟨ot, hcap⟩ := h6
   refine V_len TDint rfl rfl rfl ot ?_
   refine O_move rfl rfl rfl ?_
   refine WL_end [(5, _), (27, _), (28, _), (29, _)] ⟨rfl, rfl, rfl, rfl, trivial⟩ ?_
   refine WP_block ?_
   have hX0 := (((hnR.ext e4).chgBk b4 (by decide) q5).ext e6)
   have hX1 := (((hdR.ext e4).chgBk b4 (by decide) q5).ext e6)
   have hG := (b5.ext e6)
   replace hT := hT.ext (e5.trans e6)
   have hall : ∀ (k : Nat) (u : Value), [Value.int .i64 p, Value.int .i64 (p % 60 - 20), Value.int .i64 (p % 1000), Value.int .i64 (-2049 + p % 3), Value.int .i64 (8191 + p % 3)][k]? = some u → ∃ z : Int, u = .int .i64 z := by
     intro k u hu
     match k with
     | 0 => simp at hu; subst hu; exact ⟨_, rfl⟩
     | 1 => simp at hu; subst hu; exact ⟨_, rfl⟩
     | 2 => simp at hu; subst hu; exact ⟨_, rfl⟩
     | 3 => simp at hu; subst hu; exact ⟨_, rfl⟩
     | 4 => simp at hu; subst hu; exact ⟨_, rfl⟩
     | k + 5 => simp at hu
   refine WP_loop (S := Nat) (fun j => [(5, .pointer (some ⟨g4, 0, none⟩)), (27, v6), (28, .int .i64 (5 : Nat)), (29, .int .i64 (j : Nat))]) (fun j w' => Ext w6 w' ∧ j ≤ 5) (fun j => 5 - j) 0 ⟨rfl, rfl, rfl, rfl, trivial⟩ ⟨Ext.refl _, by omega⟩ ?_
   rintro j w9 ⟨hE, hj⟩
   have zE := hE.size
   refine WP_seq ?_
   refine WP_region ?_
   refine O_lss rfl rfl rfl rfl rfl ?_
   refine WL_end [(5, _), (27, _), (28, _), (29, _), (30, _)] ⟨rfl, rfl, rfl, rfl, rfl, trivial⟩ ?_
   refine WP_seq ?_
   refine WP_condD rfl (fun c30 => ?_) (fun c30 => ?_)
   · --
    refine WP_skip ?_
    refine WP_seq ?_
    refine WP_block ?_
    refine WP_seq ?_
    refine WP_region ?_
    refine V_index TDint rfl rfl rfl rfl (ot.ext hE) _ rfl (by simp only [List.length_cons, List.length_nil]; omega) ?_
    obtain ⟨u, hu⟩ : ∃ u, [Value.int .i64 p, Value.int .i64 (p % 60 - 20), Value.int .i64 (p % 1000), Value.int .i64 (-2049 + p % 3), Value.int .i64 (8191 + p % 3)][j]? = some u := ⟨_, List.getElem?_eq_getElem (by simp only [List.length_cons, List.length_nil]; omega)⟩
    obtain ⟨z, rfl⟩ := hall j u hu
    refine O_load Tryd.underlying3 rfl rfl rfl rfl ((ot.ext hE).cell hu) ?_
    refine O_assign rfl rfl rfl ?_
    refine WL_end [(5, _), (8, _), (27, _), (28, _), (29, _)] ⟨rfl, rfl, rfl, rfl, rfl, trivial⟩ ?_
    refine WP_seq ?_
    by_cases hpm : perm z
    · --
     have hpk := hpm
     unfold perm at hpk
     have hL1 := dman_len (e := -z) (cutq_len (k := z) (m := 9000) (Nat.le_trans hlP (show 8 ≤ 8 by decide)) (by decide) hq0 (by omega))
     have hL2 := dman_len (e := -z) (neg_len (cutq_len (k := z) (m := 9000) (neg_len hlP) (by decide) hq0 (by omega)))
     refine WP_region ?_
     refine O_loadA (vs := [_, _, _]) S40 rfl rfl rfl (hG.ext hE) rfl rfl ?_
     refine O_move rfl rfl rfl ?_
     refine O_call enters33 rfl rfl rfl (gfloorrat_T rfl (hX0.ext hE).nl (hX1.ext hE).nl (by first | with_reducible assumption | omega) (by first | with_reducible assumption | omega) (by first | with_reducible assumption | omega) hpm (hT.ext hE)) (fun v7 w7 e7 h7 => ?_)
     have z7 := e7.size
     try simp only [val_dig] at h7
     obtain ⟨q7, rfl, hq7⟩ := h7
     refine O_move rfl rfl rfl ?_
     refine O_extract rfl rfl rfl rfl ?_
     refine O_extract rfl rfl rfl rfl ?_
     refine O_alloc S26 rfl rfl (fun g8 w8 b8 e8 gl8 gh8 => ?_)
     have z8 := e8.size
     refine O_storeA (cs' := [_, _, _]) S26 rfl rfl rfl b8 rfl rfl (one_cons rfl (one_cons ((hq7.ext e8).nl).one (one_cons rfl one_nil))) rfl (fun w9 b9 q9 => ?_)
     have z9 := Nat.le_of_eq q9.size.symm
     have e9 : Ext w6 w9 := q9.ext ((hE.trans e7).trans e8) (by omega)
     refine O_assign rfl rfl rfl ?_
     refine WL_end [(5, _), (8, _), (9, _), (10, _), (27, _), (28, _), (29, _)] ⟨rfl, rfl, rfl, rfl, rfl, rfl, rfl, trivial⟩ ?_
     refine WP_seq ?_
     refine WP_region ?_
     refine O_loadA (vs := [_, _, _]) S40 rfl rfl rfl (hG.ext e9) rfl rfl ?_
     refine O_move rfl rfl rfl ?_
     refine O_call enters34 rfl rfl rfl (gceilrat_T rfl (hX0.ext e9).nl (hX1.ext e9).nl (by first | with_reducible assumption | omega) (by first | with_reducible assumption | omega) (by first | with_reducible assumption | omega) hpm (hT.ext e9)) (fun v10 w10 e10 h10 => ?_)
     have z10 := e10.size
     try simp only [val_dig] at h10
     obtain ⟨q10, rfl, hq10⟩ := h10
     refine O_move rfl rfl rfl ?_
     refine O_extract rfl rfl rfl rfl ?_
     refine O_extract rfl rfl rfl rfl ?_
     refine O_alloc S26 rfl rfl (fun g11 w11 b11 e11 gl11 gh11 => ?_)
     have z11 := e11.size
     refine O_storeA (cs' := [_, _, _]) S26 rfl rfl rfl b11 rfl rfl (one_cons rfl (one_cons ((hq10.ext e11).nl).one (one_cons rfl one_nil))) rfl (fun w12 b12 q12 => ?_)
     have z12 := Nat.le_of_eq q12.size.symm
     have e12 : Ext w6 w12 := q12.ext ((e9.trans e10).trans e11) (by omega)
     refine O_assign rfl rfl rfl ?_
     refine WL_end [(5, _), (8, _), (9, _), (10, _), (11, _), (12, _), (27, _), (28, _), (29, _)] ⟨rfl, rfl, rfl, rfl, rfl, rfl, rfl, rfl, rfl, trivial⟩ ?_
     refine WP_seq ?_
     refine WP_region ?_
     refine O_loadA (vs := [_, _, _]) S40 rfl rfl rfl (hG.ext e12) rfl rfl ?_
     refine O_move rfl rfl rfl ?_
     refine O_call enters35 rfl rfl rfl (rfloorrat_T rfl (hX0.ext e12).nl (hX1.ext e12).nl (by first | with_reducible assumption | omega) (by first | with_reducible assumption | omega) (by first | with_reducible assumption | omega) hpm) (fun v13 w13 e13 h13 => ?_)
     have z13 := e13.size
     try simp only [val_dig] at h13
     obtain ⟨q13, rfl, hq13⟩ := h13
     refine O_move rfl rfl rfl ?_
     refine O_extract rfl rfl rfl rfl ?_
     refine O_extract rfl rfl rfl rfl ?_
     refine O_alloc S26 rfl rfl (fun g14 w14 b14 e14 gl14 gh14 => ?_)
     have z14 := e14.size
     refine O_storeA (cs' := [_, _, _]) S26 rfl rfl rfl b14 rfl rfl (one_cons rfl (one_cons ((hq13.ext e14).nl).one (one_cons rfl one_nil))) rfl (fun w15 b15 q15 => ?_)
     have z15 := Nat.le_of_eq q15.size.symm
     have e15 : Ext w6 w15 := q15.ext ((e12.trans e13).trans e14) (by omega)
     refine O_assign rfl rfl rfl ?_
     refine WL_end [(5, _), (8, _), (9, _), (10, _), (11, _), (12, _), (13, _), (14, _), (27, _), (28, _), (29, _)] ⟨rfl, rfl, rfl, rfl, rfl, rfl, rfl, rfl, rfl, rfl, rfl, trivial⟩ ?_
     refine WP_seq ?_
     refine WP_region ?_
     refine O_loadA (vs := [_, _, _]) S40 rfl rfl rfl (hG.ext e15) rfl rfl ?_
     refine O_move rfl rfl rfl ?_
     refine O_call enters36 rfl rfl rfl (rceilrat_T rfl (hX0.ext e15).nl (hX1.ext e15).nl (by first | with_reducible assumption | omega) (by first | with_reducible assumption | omega) (by first | with_reducible assumption | omega) hpm) (fun v16 w16 e16 h16 => ?_)
     have z16 := e16.size
     try simp only [val_dig] at h16
     obtain ⟨q16, rfl, hq16⟩ := h16
     refine O_move rfl rfl rfl ?_
     refine O_extract rfl rfl rfl rfl ?_
     refine O_extract rfl rfl rfl rfl ?_
     refine O_alloc S26 rfl rfl (fun g17 w17 b17 e17 gl17 gh17 => ?_)
     have z17 := e17.size
     refine O_storeA (cs' := [_, _, _]) S26 rfl rfl rfl b17 rfl rfl (one_cons rfl (one_cons ((hq16.ext e17).nl).one (one_cons rfl one_nil))) rfl (fun w18 b18 q18 => ?_)
     have z18 := Nat.le_of_eq q18.size.symm
     have e18 : Ext w6 w18 := q18.ext ((e15.trans e16).trans e17) (by omega)
     refine O_assign rfl rfl rfl ?_
     refine WL_end [(5, _), (9, _), (10, _), (11, _), (12, _), (13, _), (14, _), (15, _), (16, _), (27, _), (28, _), (29, _)] ⟨rfl, rfl, rfl, rfl, rfl, rfl, rfl, rfl, rfl, rfl, rfl, rfl, trivial⟩ ?_
     refine WP_seq ?_
     refine WP_region ?_
     refine O_move rfl rfl rfl ?_
     refine O_move rfl rfl rfl ?_
     refine O_neq (t := false) rfl rfl rfl rfl (decide_eq_false (by simp)) ?_
     refine O_move rfl rfl rfl ?_
     refine O_move rfl rfl rfl ?_
     refine O_move rfl rfl rfl ?_
     refine O_neq (t := false) rfl rfl rfl rfl (decide_eq_false (by simp)) ?_
     refine O_pickF rfl rfl rfl rfl ?_
     refine O_move rfl rfl rfl ?_
     refine O_loadA (vs := [_, _, _]) S26 rfl rfl rfl (((((((((b9.ext e10).ext e11).chg q12 (by first | assumption | omega)).ext e13).ext e14).chg q15 (by first | assumption | omega)).ext e16).ext e17).chg q18 (by first | assumption | omega)) rfl rfl ?_
     refine O_loadA (vs := [_, _, _]) S26 rfl rfl rfl (((b15.ext e16).ext e17).chg q18 (by first | assumption | omega)) rfl rfl ?_
     refine O_call enters20 rfl rfl rfl (rdsame_c rfl (((((((((((hq7.ext e8).chgBk b8 (by decide) q9).ext e10).ext e11).chgBk b11 (by decide) q12).ext e13).ext e14).chgBk b14 (by decide) q15).ext e16).ext e17).chgBk b17 (by decide) q18).nl (((((hq13.ext e14).chgBk b14 (by decide) q15).ext e16).ext e17).chgBk b17 (by decide) q18).nl (by (try simp only [lens]); omega) (by (try simp only [lens]); omega) rfl rfl) (fun v19 w19 e19 h19 => ?_)
     have z19 := e19.size
     obtain rfl := h19
     refine O_not rfl rfl rfl rfl ?_
     refine O_pickF rfl rfl rfl rfl ?_
     refine O_move rfl rfl rfl ?_
     refine O_loadA (vs := [_, _, _]) S26 rfl rfl rfl (((((((b12.ext e13).ext e14).chg q15 (by first | assumption | omega)).ext e16).ext e17).chg q18 (by first | assumption | omega)).ext e19) rfl rfl ?_
     refine O_loadA (vs := [_, _, _]) S26 rfl rfl rfl (b18.ext e19) rfl rfl ?_
     refine O_call enters20 rfl rfl rfl (rdsame_c rfl (((((((((hq10.ext e11).chgBk b11 (by decide) q12).ext e13).ext e14).chgBk b14 (by decide) q15).ext e16).ext e17).chgBk b17 (by decide) q18).ext e19).nl (((hq16.ext e17).chgBk b17 (by decide) q18).ext e19).nl (by (try simp only [lens]); omega) (by (try simp only [lens]); omega) rfl rfl) (fun v20 w20 e20 h20 => ?_)
     have z20 := e20.size
     obtain rfl := h20
     refine O_not rfl rfl rfl rfl ?_
     refine O_pickF rfl rfl rfl rfl ?_
     refine WL_end [(5, _), (27, _), (28, _), (29, _), (76, _)] ⟨rfl, rfl, rfl, rfl, rfl, trivial⟩ ?_
     refine WP_condF rfl ?_
     refine WP_skip ?_
     refine WP_region ?_
     refine O_add rfl rfl rfl rfl (wrap_i64_id (by omega) (by omega)) ?_
     refine O_move rfl rfl rfl ?_
     refine WL_end [(5, _), (27, _), (28, _), (29, _)] ⟨rfl, rfl, rfl, rfl, trivial⟩ ?_
     exact ⟨j + 1, ⟨rfl, rfl, rfl, rfl, trivial⟩, ⟨((e18.trans e19).trans e20), by omega⟩, by omega⟩
    · --
     skip
     refine WP_region ?_
     refine O_loadA (vs := [_, _, _]) S40 rfl rfl rfl (hG.ext hE) rfl rfl ?_
     refine O_move rfl rfl rfl ?_
     refine O_call enters33 rfl rfl rfl (gfloorrat_F rfl (hX0.ext hE).nl (hX1.ext hE).nl (by first | with_reducible assumption | omega) (by first | with_reducible assumption | omega) (by first | with_reducible assumption | omega) hpm) (fun v21 w21 e21 h21 => ?_)
     have z21 := e21.size
     try simp only [val_dig] at h21
     obtain rfl := h21
     refine O_move rfl rfl rfl ?_
     refine O_extract rfl rfl rfl rfl ?_
     refine O_extract rfl rfl rfl rfl ?_
     refine O_alloc S26 rfl rfl (fun g22 w22 b22 e22 gl22 gh22 => ?_)
     have z22 := e22.size
     refine O_storeA (cs' := [_, _, _]) S26 rfl rfl rfl b22 rfl rfl (one_cons rfl (one_cons rfl (one_cons rfl one_nil))) rfl (fun w23 b23 q23 => ?_)
     have z23 := Nat.le_of_eq q23.size.symm
     have e23 : Ext w6 w23 := q23.ext ((hE.trans e21).trans e22) (by omega)
     refine O_assign rfl rfl rfl ?_
     refine WL_end [(5, _), (8, _), (9, _), (10, _), (27, _), (28, _), (29, _)] ⟨rfl, rfl, rfl, rfl, rfl, rfl, rfl, trivial⟩ ?_
     refine WP_seq ?_
     refine WP_region ?_
     refine O_loadA (vs := [_, _, _]) S40 rfl rfl rfl (hG.ext e23) rfl rfl ?_
     refine O_move rfl rfl rfl ?_
     refine O_call enters34 rfl rfl rfl (gceilrat_F rfl (hX0.ext e23).nl (hX1.ext e23).nl (by first | with_reducible assumption | omega) (by first | with_reducible assumption | omega) (by first | with_reducible assumption | omega) hpm) (fun v24 w24 e24 h24 => ?_)
     have z24 := e24.size
     try simp only [val_dig] at h24
     obtain rfl := h24
     refine O_move rfl rfl rfl ?_
     refine O_extract rfl rfl rfl rfl ?_
     refine O_extract rfl rfl rfl rfl ?_
     refine O_alloc S26 rfl rfl (fun g25 w25 b25 e25 gl25 gh25 => ?_)
     have z25 := e25.size
     refine O_storeA (cs' := [_, _, _]) S26 rfl rfl rfl b25 rfl rfl (one_cons rfl (one_cons rfl (one_cons rfl one_nil))) rfl (fun w26 b26 q26 => ?_)
     have z26 := Nat.le_of_eq q26.size.symm
     have e26 : Ext w6 w26 := q26.ext ((e23.trans e24).trans e25) (by omega)
     refine O_assign rfl rfl rfl ?_
     refine WL_end [(5, _), (8, _), (9, _), (10, _), (11, _), (12, _), (27, _), (28, _), (29, _)] ⟨rfl, rfl, rfl, rfl, rfl, rfl, rfl, rfl, rfl, trivial⟩ ?_
     refine WP_seq ?_
     refine WP_region ?_
     refine O_loadA (vs := [_, _, _]) S40 rfl rfl rfl (hG.ext e26) rfl rfl ?_
     refine O_move rfl rfl rfl ?_
     refine O_call enters35 rfl rfl rfl (rfloorrat_F rfl (hX0.ext e26).nl (hX1.ext e26).nl (by first | with_reducible assumption | omega) (by first | with_reducible assumption | omega) (by first | with_reducible assumption | omega) hpm) (fun v27 w27 e27 h27 => ?_)
     have z27 := e27.size
     try simp only [val_dig] at h27
     obtain rfl := h27
     refine O_move rfl rfl rfl ?_
     refine O_extract rfl rfl rfl rfl ?_
     refine O_extract rfl rfl rfl rfl ?_
     refine O_alloc S26 rfl rfl (fun g28 w28 b28 e28 gl28 gh28 => ?_)
     have z28 := e28.size
     refine O_storeA (cs' := [_, _, _]) S26 rfl rfl rfl b28 rfl rfl (one_cons rfl (one_cons rfl (one_cons rfl one_nil))) rfl (fun w29 b29 q29 => ?_)
     have z29 := Nat.le_of_eq q29.size.symm
     have e29 : Ext w6 w29 := q29.ext ((e26.trans e27).trans e28) (by omega)
     refine O_assign rfl rfl rfl ?_
     refine WL_end [(5, _), (8, _), (9, _), (10, _), (11, _), (12, _), (13, _), (14, _), (27, _), (28, _), (29, _)] ⟨rfl, rfl, rfl, rfl, rfl, rfl, rfl, rfl, rfl, rfl, rfl, trivial⟩ ?_
     refine WP_seq ?_
     refine WP_region ?_
     refine O_loadA (vs := [_, _, _]) S40 rfl rfl rfl (hG.ext e29) rfl rfl ?_
     refine O_move rfl rfl rfl ?_
     refine O_call enters36 rfl rfl rfl (rceilrat_F rfl (hX0.ext e29).nl (hX1.ext e29).nl (by first | with_reducible assumption | omega) (by first | with_reducible assumption | omega) (by first | with_reducible assumption | omega) hpm) (fun v30 w30 e30 h30 => ?_)
     have z30 := e30.size
     try simp only [val_dig] at h30
     obtain rfl := h30
     refine O_move rfl rfl rfl ?_
     refine O_extract rfl rfl rfl rfl ?_
     refine O_extract rfl rfl rfl rfl ?_
     refine O_alloc S26 rfl rfl (fun g31 w31 b31 e31 gl31 gh31 => ?_)
     have z31 := e31.size
     refine O_storeA (cs' := [_, _, _]) S26 rfl rfl rfl b31 rfl rfl (one_cons rfl (one_cons rfl (one_cons rfl one_nil))) rfl (fun w32 b32 q32 => ?_)
     have z32 := Nat.le_of_eq q32.size.symm
     have e32 : Ext w6 w32 := q32.ext ((e29.trans e30).trans e31) (by omega)
     refine O_assign rfl rfl rfl ?_
     refine WL_end [(5, _), (9, _), (10, _), (11, _), (12, _), (13, _), (14, _), (15, _), (16, _), (27, _), (28, _), (29, _)] ⟨rfl, rfl, rfl, rfl, rfl, rfl, rfl, rfl, rfl, rfl, rfl, rfl, trivial⟩ ?_
     refine WP_seq ?_
     refine WP_region ?_
     refine O_move rfl rfl rfl ?_
     refine O_move rfl rfl rfl ?_
     refine O_neq (t := false) rfl rfl rfl rfl (decide_eq_false (by simp)) ?_
     refine O_move rfl rfl rfl ?_
     refine O_move rfl rfl rfl ?_
     refine O_move rfl rfl rfl ?_
     refine O_neq (t := false) rfl rfl rfl rfl (decide_eq_false (by simp)) ?_
     refine O_pickF rfl rfl rfl rfl ?_
     refine O_move rfl rfl rfl ?_
     refine O_loadA (vs := [_, _, _]) S26 rfl rfl rfl (((((((((b23.ext e24).ext e25).chg q26 (by first | assumption | omega)).ext e27).ext e28).chg q29 (by first | assumption | omega)).ext e30).ext e31).chg q32 (by first | assumption | omega)) rfl rfl ?_
     refine O_loadA (vs := [_, _, _]) S26 rfl rfl rfl (((b29.ext e30).ext e31).chg q32 (by first | assumption | omega)) rfl rfl ?_
     refine O_call enters20 rfl rfl rfl (rdsame_c rfl (Nl.nil _) (Nl.nil _) (by (try simp only [lens]); omega) (by (try simp only [lens]); omega) rfl rfl) (fun v33 w33 e33 h33 => ?_)
     have z33 := e33.size
     obtain rfl := h33
     refine O_not rfl rfl rfl rfl ?_
     refine O_pickF rfl rfl rfl rfl ?_
     refine O_move rfl rfl rfl ?_
     refine O_loadA (vs := [_, _, _]) S26 rfl rfl rfl (((((((b26.ext e27).ext e28).chg q29 (by first | assumption | omega)).ext e30).ext e31).chg q32 (by first | assumption | omega)).ext e33) rfl rfl ?_
     refine O_loadA (vs := [_, _, _]) S26 rfl rfl rfl (b32.ext e33) rfl rfl ?_
     refine O_call enters20 rfl rfl rfl (rdsame_c rfl (Nl.nil _) (Nl.nil _) (by (try simp only [lens]); omega) (by (try simp only [lens]); omega) rfl rfl) (fun v34 w34 e34 h34 => ?_)
     have z34 := e34.size
     obtain rfl := h34
     refine O_not rfl rfl rfl rfl ?_
     refine O_pickF rfl rfl rfl rfl ?_
     refine WL_end [(5, _), (27, _), (28, _), (29, _), (76, _)] ⟨rfl, rfl, rfl, rfl, rfl, trivial⟩ ?_
     refine WP_condF rfl ?_
     refine WP_skip ?_
     refine WP_region ?_
     refine O_add rfl rfl rfl rfl (wrap_i64_id (by omega) (by omega)) ?_
     refine O_move rfl rfl rfl ?_
     refine WL_end [(5, _), (27, _), (28, _), (29, _)] ⟨rfl, rfl, rfl, rfl, trivial⟩ ?_
     exact ⟨j + 1, ⟨rfl, rfl, rfl, rfl, trivial⟩, ⟨((e32.trans e33).trans e34), by omega⟩, by omega⟩
   · --
    refine WP_exit ?_
    refine inBlk_hit ?_
    refine WP_seq ?_
    refine WP_region ?_
    refine O_assign rfl rfl rfl ?_
    refine WL_end [(4, _)] ⟨rfl, trivial⟩ ?_
    refine WP_ret ?_
    refine ret1 Tryd.results7 rfl ?_
    exact ⟨_, rfl, ((e5.trans e6)).trans hE, rfl⟩

end Go.Proofs.YthbfhljpfkicpaaDoor
