/-
  Walks.
-/
import Derived.Test.YtnfnadhbjdcbnaaDoorD11
set_option linter.unusedVariables false
set_option linter.unusedSimpArgs false
set_option maxRecDepth 100000
namespace Go.Proofs.YtnfnadhbjdcbnaaDoor
open Go Go.RowKit
set_option maxHeartbeats 4000000 in
theorem law_DyadicFrom {w : World} {vx vp vq : Value} {lx lp lq : List Nat} {bx bp : Bool} {e : Int} (hx : Nl w vx lx) (hp : Nl w vp lp) (hq : Nl w vq lq) (hT : Tab w) :
    Calls Tryd.prog 7 #[.agg #[.bool bx, vx, .int .i64 e], .agg #[.bool bp, vp, vq]] w (Ret w fun r _ => r = .bool true) := by
 refine enter (args := [_, _]) Tryd.func7 rfl Tryd.ntmps7 rfl ?_
 refine WP_seq ?_
 refine WP_region ?_
 refine O_box _ rfl rfl rfl rfl (fun g1 w1 b1 e1 gl1 gh1 => ?_)
 have z1 := e1.size
 refine O_box _ rfl rfl rfl rfl (fun g2 w2 b2 e2 gl2 gh2 => ?_)
 have z2 := e2.size
 refine O_assign rfl rfl rfl ?_
 refine WL_end [(2, _), (3, _)] ⟨rfl, rfl, trivial⟩ ?_
 refine WP_seq ?_
 refine WP_seq ?_
 refine WP_region ?_
 refine O_call enters9 rfl rfl rfl (awake8_c (hT.ext (e1.trans e2))) (fun v3 w3 e3 h3 => ?_)
 have z3 := e3.size
 obtain rfl := h3
 refine O_not rfl rfl rfl rfl ?_
 refine WL_end [(2, _), (3, _), (16, _)] ⟨rfl, rfl, rfl, trivial⟩ ?_
 refine WP_condF rfl ?_
 refine WP_skip ?_
 refine WP_seq ?_
 refine WP_region ?_
 refine O_loadA (vs := [_, _, _]) S26 rfl rfl rfl ((b1.ext e2).ext e3) rfl rfl ?_
 refine O_call enters27 rfl rfl rfl (mdy_c (n := 12) (m := 300) (hx.ext ((e1.trans e2).trans e3)) (by decide)) (fun v4 w4 e4 h4 => ?_)
 have z4 := e4.size
 try simp only [val_dig] at h4
 obtain ⟨xX, kX, qX, bX, rfl, hqX, hvX, hkX, hjX, hlX⟩ := h4
 refine O_move rfl rfl rfl ?_
 refine O_extract rfl rfl rfl rfl ?_
 refine O_extract rfl rfl rfl rfl ?_
 refine O_alloc S26 rfl rfl (fun g5 w5 b5 e5 gl5 gh5 => ?_)
 have z5 := e5.size
 refine O_storeA (cs' := [_, _, _]) S26 rfl rfl rfl b5 rfl rfl (one_cons rfl (one_cons ((hqX.ext e5).nl).one (one_cons rfl one_nil))) rfl (fun w6 b6 q6 => ?_)
 have z6 := Nat.le_of_eq q6.size.symm
 have e6 : Ext w w6 := q6.ext ((((e1.trans e2).trans e3).trans e4).trans e5) (by omega)
 refine O_assign rfl rfl rfl ?_
 refine WL_end [(3, _), (5, _), (6, _)] ⟨rfl, rfl, rfl, trivial⟩ ?_
 refine WP_seq ?_
 refine WP_region ?_
 refine O_loadA (vs := [_, _, _]) S51 rfl rfl rfl ((((b2.ext e3).ext e4).ext e5).chg q6 (by first | assumption | omega)) rfl rfl ?_
 refine O_call enters32 rfl rfl rfl (mrat_c (n := 8) (hp.ext e6) (hq.ext e6) (by decide) (by decide)) (fun v7 w7 e7 h7 => ?_)
 have z7 := e7.size
 try simp only [val_dig] at h7
 obtain ⟨P, Q, nR, dR, bR, rfl, hnR, hdR, hbR, hlP, hlQ⟩ := h7
 refine O_move rfl rfl rfl ?_
 refine O_extract rfl rfl rfl rfl ?_
 refine O_extract rfl rfl rfl rfl ?_
 refine O_alloc S51 rfl rfl (fun g8 w8 b8 e8 gl8 gh8 => ?_)
 have z8 := e8.size
 refine O_storeA (cs' := [_, _, _]) S51 rfl rfl rfl b8 rfl rfl (one_cons rfl (one_cons ((hnR.ext e8).nl).one (one_cons ((hdR.ext e8).nl).one one_nil))) rfl (fun w9 b9 q9 => ?_)
 have z9 := Nat.le_of_eq q9.size.symm
 have e9 : Ext w w9 := q9.ext ((e6.trans e7).trans e8) (by omega)
 refine O_assign rfl rfl rfl ?_
 refine WL_end [(5, _), (6, _), (7, _), (8, _)] ⟨rfl, rfl, rfl, rfl, trivial⟩ ?_
 refine WP_seq ?_
 refine WP_seq ?_
 cases bX
 rotate_left
 cases bR
 · --
  have hr1 := rnum_len (e := kX) hlX (by omega)
  have hr2 : (dig (rden kX)).length ≤ 4000 := by
    unfold rden; split
    · exact Nat.le_trans (dig_len_of_lt (show 1 < 4294967296 ^ 1 by decide)) (by decide)
    · have := dig_len_two (-kX).toNat; omega
  have hr3 := fman_len (q := Q) hlP
  refine WP_region ?_
  refine O_move rfl rfl rfl ?_
  refine O_not rfl rfl rfl rfl ?_
  refine O_move rfl rfl rfl ?_
  refine O_move rfl rfl rfl ?_
  refine O_not rfl rfl rfl rfl ?_
  refine O_pickF rfl rfl rfl rfl ?_
  refine WL_end [(5, _), (7, _), (32, _)] ⟨rfl, rfl, rfl, trivial⟩ ?_
  refine WP_condT rfl ?_
  refine WP_seq ?_
  refine WP_region ?_
  refine O_assign rfl rfl rfl ?_
  refine WL_end [(4, _)] ⟨rfl, trivial⟩ ?_
  refine WP_ret ?_
  refine ret1 Tryd.results7 rfl ?_
  exact ⟨_, rfl, e9, rfl⟩
 · --
  have hr1 := rnum_len (e := kX) hlX (by omega)
  have hr2 : (dig (rden kX)).length ≤ 4000 := by
    unfold rden; split
    · exact Nat.le_trans (dig_len_of_lt (show 1 < 4294967296 ^ 1 by decide)) (by decide)
    · have := dig_len_two (-kX).toNat; omega
  have hr3 := fman_len (q := Q) hlP
  refine WP_region ?_
  refine O_move rfl rfl rfl ?_
  refine O_not rfl rfl rfl rfl ?_
  refine O_move rfl rfl rfl ?_
  refine O_move rfl rfl rfl ?_
  refine O_not rfl rfl rfl rfl ?_
  refine O_pickF rfl rfl rfl rfl ?_
  refine WL_end [(5, _), (7, _), (32, _)] ⟨rfl, rfl, rfl, trivial⟩ ?_
  refine WP_condF rfl ?_
  refine WP_skip ?_
  refine WP_seq ?_
  refine WP_region ?_
  refine O_loadA (vs := [_, _, _]) S26 rfl rfl rfl (((b6.ext e7).ext e8).chg q9 (by first | assumption | omega)) rfl rfl ?_
  refine O_call enters34 rfl rfl rfl (drat_c rfl (((((hqX.ext e5).chgBk b5 (by decide) q6).ext e7).ext e8).chgBk b8 (by decide) q9).nl (by (try simp only [lens]); omega) (by (try simp only [lens]); omega) (by (try simp only [lens]); omega)) (fun v10 w10 e10 h10 => ?_)
  have z10 := e10.size
  try simp only [val_dig] at h10
  obtain ⟨rq10, rs10, rfl, hrq10, hrs10⟩ := h10
  refine O_call enters33 rfl rfl rfl (fromT_c (x := xX) (e := kX) rfl hrq10 hrs10 (by (try simp only [lens]); omega) (by (try simp only [lens]); omega) hvX (hT.ext (e9.trans e10))) (fun v11 w11 e11 h11 => ?_)
  have z11 := e11.size
  try simp only [val_dig] at h11
  obtain ⟨q11, rfl, hq11⟩ := h11
  refine O_move rfl rfl rfl ?_
  refine O_extract rfl rfl rfl rfl ?_
  refine O_extract rfl rfl rfl rfl ?_
  refine O_alloc S26 rfl rfl (fun g12 w12 b12 e12 gl12 gh12 => ?_)
  have z12 := e12.size
  refine O_storeA (cs' := [_, _, _]) S26 rfl rfl rfl b12 rfl rfl (one_cons rfl (one_cons ((hq11.ext e12).nl).one (one_cons rfl one_nil))) rfl (fun w13 b13 q13 => ?_)
  have z13 := Nat.le_of_eq q13.size.symm
  have e13 : Ext w w13 := q13.ext (((e9.trans e10).trans e11).trans e12) (by omega)
  refine O_assign rfl rfl rfl ?_
  refine WL_end [(5, _), (7, _), (9, _), (10, _)] ⟨rfl, rfl, rfl, rfl, trivial⟩ ?_
  refine WP_seq ?_
  refine WP_region ?_
  refine O_loadA (vs := [_, _, _]) S51 rfl rfl rfl ((((b9.ext e10).ext e11).ext e12).chg q13 (by first | assumption | omega)) rfl rfl ?_
  refine O_call enters33 rfl rfl rfl (from_c rfl ((((((hnR.ext e8).chgBk b8 (by decide) q9).ext e10).ext e11).ext e12).chgBk b12 (by decide) q13).nl ((((((hdR.ext e8).chgBk b8 (by decide) q9).ext e10).ext e11).ext e12).chgBk b12 (by decide) q13).nl (by (try simp only [lens]); omega) (by (try simp only [lens]); omega) (hT.ext e13)) (fun v14 w14 e14 h14 => ?_)
  have z14 := e14.size
  try simp only [val_dig] at h14
  obtain ⟨q14, rfl, hq14⟩ := h14
  refine O_move rfl rfl rfl ?_
  refine O_extract rfl rfl rfl rfl ?_
  refine O_extract rfl rfl rfl rfl ?_
  refine O_alloc S26 rfl rfl (fun g15 w15 b15 e15 gl15 gh15 => ?_)
  have z15 := e15.size
  refine O_storeA (cs' := [_, _, _]) S26 rfl rfl rfl b15 rfl rfl (one_cons rfl (one_cons ((hq14.ext e15).nl).one (one_cons rfl one_nil))) rfl (fun w16 b16 q16 => ?_)
  have z16 := Nat.le_of_eq q16.size.symm
  have e16 : Ext w w16 := q16.ext ((e13.trans e14).trans e15) (by omega)
  refine O_assign rfl rfl rfl ?_
  refine WL_end [(5, _), (7, _), (9, _), (10, _), (11, _), (12, _)] ⟨rfl, rfl, rfl, rfl, rfl, rfl, trivial⟩ ?_
  refine WP_seq ?_
  refine WP_region ?_
  refine O_loadA (vs := [_, _, _]) S51 rfl rfl rfl (((((((b9.ext e10).ext e11).ext e12).chg q13 (by first | assumption | omega)).ext e14).ext e15).chg q16 (by first | assumption | omega)) rfl rfl ?_
  refine O_call enters35 rfl rfl rfl (rfrom_c rfl (((((((((hnR.ext e8).chgBk b8 (by decide) q9).ext e10).ext e11).ext e12).chgBk b12 (by decide) q13).ext e14).ext e15).chgBk b15 (by decide) q16).nl (((((((((hdR.ext e8).chgBk b8 (by decide) q9).ext e10).ext e11).ext e12).chgBk b12 (by decide) q13).ext e14).ext e15).chgBk b15 (by decide) q16).nl (by (try simp only [lens]); omega) (by (try simp only [lens]); omega)) (fun v17 w17 e17 h17 => ?_)
  have z17 := e17.size
  try simp only [val_dig] at h17
  obtain ⟨q17, rfl, hq17⟩ := h17
  refine O_move rfl rfl rfl ?_
  refine O_extract rfl rfl rfl rfl ?_
  refine O_extract rfl rfl rfl rfl ?_
  refine O_alloc S26 rfl rfl (fun g18 w18 b18 e18 gl18 gh18 => ?_)
  have z18 := e18.size
  refine O_storeA (cs' := [_, _, _]) S26 rfl rfl rfl b18 rfl rfl (one_cons rfl (one_cons ((hq17.ext e18).nl).one (one_cons rfl one_nil))) rfl (fun w19 b19 q19 => ?_)
  have z19 := Nat.le_of_eq q19.size.symm
  have e19 : Ext w w19 := q19.ext ((e16.trans e17).trans e18) (by omega)
  refine O_assign rfl rfl rfl ?_
  refine WL_end [(5, _), (9, _), (10, _), (11, _), (12, _), (13, _), (14, _)] ⟨rfl, rfl, rfl, rfl, rfl, rfl, rfl, trivial⟩ ?_
  refine WP_seq ?_
  refine WP_sub [(5, _), (9, _), (10, _), (11, _), (12, _), (13, _), (14, _)] ⟨rfl, rfl, rfl, rfl, rfl, rfl, rfl, trivial⟩ ?_
  refine WP_anyR 23 [5, 9, 10, 11, 12, 13, 14] mixed rfl (by kernel_rfl) ?_
  apply AnyR_val [10] rfl (by kernel_rfl)
  · --
   intro y20 hy20
   have zy20 := hy20.size
   refine AllV_nil ?_
   refine O_move rfl rfl rfl ?_
   exact WL_nil ⟨(Ext.refl _), rfl⟩
  apply AnyR_val [49] rfl (by kernel_rfl)
  · --
   intro y21 hy21
   have zy21 := hy21.size
   refine AllV_v ?_
   refine AllV_nil ?_
   refine O_move rfl rfl rfl ?_
   exact WL_nil ⟨(Ext.refl _), rfl⟩
  apply AnyR_val [50, 5] rfl (by kernel_rfl)
  · --
   intro y22 hy22
   have zy22 := hy22.size
   refine AllV_v ?_
   refine AllV_nil ?_
   refine O_loadA (vs := [_, _, _]) S26 rfl rfl rfl ((((((((((((((b6.ext e7).ext e8).chg q9 (by first | assumption | omega)).ext e10).ext e11).ext e12).chg q13 (by first | assumption | omega)).ext e14).ext e15).chg q16 (by first | assumption | omega)).ext e17).ext e18).chg q19 (by first | assumption | omega)).ext hy22) rfl rfl ?_
   exact WL_nil ⟨(Ext.refl _), rfl⟩
  apply AnyR_val [50, 9] rfl (by kernel_rfl)
  · --
   intro y23 hy23
   have zy23 := hy23.size
   refine AllV_v ?_
   refine AllV_nil ?_
   refine O_loadA (vs := [_, _, _]) S26 rfl rfl rfl (((((((b13.ext e14).ext e15).chg q16 (by first | assumption | omega)).ext e17).ext e18).chg q19 (by first | assumption | omega)).ext hy23) rfl rfl ?_
   exact WL_nil ⟨(Ext.refl _), rfl⟩
  apply AnyR_val [50, 51, 52] rfl (by kernel_rfl)
  · --
   intro y24 hy24
   have zy24 := hy24.size
   refine AllV_v ?_
   refine AllV_v ?_
   refine AllV_v ?_
   refine AllV_nil ?_
   refine O_call enters17 rfl rfl rfl (rdsame_c rfl ((((((((((((((((hqX.ext e5).chgBk b5 (by decide) q6).ext e7).ext e8).chgBk b8 (by decide) q9).ext e10).ext e11).ext e12).chgBk b12 (by decide) q13).ext e14).ext e15).chgBk b15 (by decide) q16).ext e17).ext e18).chgBk b18 (by decide) q19).ext hy24).nl (((((((((hq11.ext e12).chgBk b12 (by decide) q13).ext e14).ext e15).chgBk b15 (by decide) q16).ext e17).ext e18).chgBk b18 (by decide) q19).ext hy24).nl (by (try simp only [lens]); omega) (by (try simp only [lens]); omega) rfl rfl) (fun v25 w25 e25 h25 => ?_)
   have z25 := e25.size
   obtain rfl := h25
   exact WL_nil ⟨e25, rfl⟩
  apply AnyR_val [50, 53] rfl (by kernel_rfl)
  · --
   intro y26 hy26
   have zy26 := hy26.size
   refine AllV_v ?_
   refine AllV_v ?_
   refine AllV_nil ?_
   refine O_pickT rfl rfl rfl rfl ?_
   exact WL_nil ⟨(Ext.refl _), rfl⟩
  apply AnyR_val [54] rfl (by kernel_rfl)
  · --
   intro y27 hy27
   have zy27 := hy27.size
   refine AllV_v ?_
   refine AllV_nil ?_
   refine O_move rfl rfl rfl ?_
   exact WL_nil ⟨(Ext.refl _), rfl⟩
  apply AnyR_val [55, 5] rfl (by kernel_rfl)
  · --
   intro y28 hy28
   have zy28 := hy28.size
   refine AllV_v ?_
   refine AllV_nil ?_
   refine O_loadA (vs := [_, _, _]) S26 rfl rfl rfl ((((((((((((((b6.ext e7).ext e8).chg q9 (by first | assumption | omega)).ext e10).ext e11).ext e12).chg q13 (by first | assumption | omega)).ext e14).ext e15).chg q16 (by first | assumption | omega)).ext e17).ext e18).chg q19 (by first | assumption | omega)).ext hy28) rfl rfl ?_
   exact WL_nil ⟨(Ext.refl _), rfl⟩
  apply AnyR_rel (RelP (pAgg [pEq _, pNl _, pNl _])) [55, 56] rfl (RelP.mono (pAgg_mono (PsM.cons pEq_mono (PsM.cons pNl_mono (PsM.cons pNl_mono PsM.nil))))) (by kernel_rfl)
  · --
   intro y29 hy29
   have zy29 := hy29.size
   refine AllV_v ?_
   refine AllV_v ?_
   refine AllV_nil ?_
   refine O_call enters34 rfl rfl rfl (drat_c rfl ((((((((((((((((hqX.ext e5).chgBk b5 (by decide) q6).ext e7).ext e8).chgBk b8 (by decide) q9).ext e10).ext e11).ext e12).chgBk b12 (by decide) q13).ext e14).ext e15).chgBk b15 (by decide) q16).ext e17).ext e18).chgBk b18 (by decide) q19).ext hy29).nl (by (try simp only [lens]); omega) (by (try simp only [lens]); omega) (by (try simp only [lens]); omega)) (fun v30 w30 e30 h30 => ?_)
   have z30 := e30.size
   try simp only [val_dig] at h30
   obtain ⟨rq30, rs30, rfl, hrq30, hrs30⟩ := h30
   exact WL_nil ⟨e30, _, rfl, ⟨_, rfl, (AllP.cons rfl (AllP.cons hrq30 (AllP.cons hrs30 AllP.nil)))⟩⟩
  apply AnyR_val [55, 5] rfl (by kernel_rfl)
  · --
   intro y31 hy31
   have zy31 := hy31.size
   refine AllV_v ?_
   refine AllV_nil ?_
   refine O_loadA (vs := [_, _, _]) S26 rfl rfl rfl ((((((((((((((b6.ext e7).ext e8).chg q9 (by first | assumption | omega)).ext e10).ext e11).ext e12).chg q13 (by first | assumption | omega)).ext e14).ext e15).chg q16 (by first | assumption | omega)).ext e17).ext e18).chg q19 (by first | assumption | omega)).ext hy31) rfl rfl ?_
   exact WL_nil ⟨(Ext.refl _), rfl⟩
  apply AnyR_rel (RelP (pAgg [pEq _, pNl _, pNl _])) [55, 58] rfl (RelP.mono (pAgg_mono (PsM.cons pEq_mono (PsM.cons pNl_mono (PsM.cons pNl_mono PsM.nil))))) (by kernel_rfl)
  · --
   intro y32 hy32
   have zy32 := hy32.size
   refine AllV_v ?_
   refine AllV_v ?_
   refine AllV_nil ?_
   refine O_call enters37 rfl rfl rfl (rdrat_c rfl ((((((((((((((((hqX.ext e5).chgBk b5 (by decide) q6).ext e7).ext e8).chgBk b8 (by decide) q9).ext e10).ext e11).ext e12).chgBk b12 (by decide) q13).ext e14).ext e15).chgBk b15 (by decide) q16).ext e17).ext e18).chgBk b18 (by decide) q19).ext hy32).nl (by (try simp only [lens]); omega) (by (try simp only [lens]); omega) (by (try simp only [lens]); omega)) (fun v33 w33 e33 h33 => ?_)
   have z33 := e33.size
   try simp only [val_dig] at h33
   obtain ⟨rq33, rs33, rfl, hrq33, hrs33⟩ := h33
   exact WL_nil ⟨e33, _, rfl, ⟨_, rfl, (AllP.cons rfl (AllP.cons hrq33 (AllP.cons hrs33 AllP.nil)))⟩⟩
  apply AnyR_val [55, 57, 59] rfl (by kernel_rfl)
  · --
   intro y34 hy34
   have zy34 := hy34.size
   refine AllV_v ?_
   refine AllV_r fun a35 b35 v35 la35 lb35 lc35 h35 ap35 => ?_
   clear ap35
   obtain ⟨_, rfl, v35_0, _, rfl, rfl, v35_1, _, rfl, h35_1, v35_2, _, rfl, h35_2, rfl⟩ := h35
   refine AllV_r fun a36 b36 v36 la36 lb36 lc36 h36 ap36 => ?_
   clear ap36
   obtain ⟨_, rfl, v36_0, _, rfl, rfl, v36_1, _, rfl, h36_1, v36_2, _, rfl, h36_2, rfl⟩ := h36
   refine AllV_nil ?_
   refine O_call enters36 rfl rfl rfl (rsameR_c rfl h35_1 h35_2 h36_1 h36_2 (by first | with_reducible assumption | omega) (by first | with_reducible assumption | omega)) (fun v37 w37 e37 h37 => ?_)
   have z37 := e37.size
   obtain rfl := h37
   exact WL_nil ⟨e37, rfl⟩
  apply AnyR_val [55, 60] rfl (by kernel_rfl)
  · --
   intro y38 hy38
   have zy38 := hy38.size
   refine AllV_v ?_
   refine AllV_v ?_
   refine AllV_nil ?_
   refine O_pickT rfl rfl rfl rfl ?_
   exact WL_nil ⟨(Ext.refl _), rfl⟩
  apply AnyR_val [61] rfl (by kernel_rfl)
  · --
   intro y39 hy39
   have zy39 := hy39.size
   refine AllV_v ?_
   refine AllV_nil ?_
   refine O_move rfl rfl rfl ?_
   exact WL_nil ⟨(Ext.refl _), rfl⟩
  apply AnyR_val [62, 11] rfl (by kernel_rfl)
  · --
   intro y40 hy40
   have zy40 := hy40.size
   refine AllV_v ?_
   refine AllV_nil ?_
   refine O_loadA (vs := [_, _, _]) S26 rfl rfl rfl ((((b16.ext e17).ext e18).chg q19 (by first | assumption | omega)).ext hy40) rfl rfl ?_
   exact WL_nil ⟨(Ext.refl _), rfl⟩
  apply AnyR_val [62, 13] rfl (by kernel_rfl)
  · --
   intro y41 hy41
   have zy41 := hy41.size
   refine AllV_v ?_
   refine AllV_nil ?_
   refine O_loadA (vs := [_, _, _]) S26 rfl rfl rfl (b19.ext hy41) rfl rfl ?_
   exact WL_nil ⟨(Ext.refl _), rfl⟩
  apply AnyR_val [62, 63, 64] rfl (by kernel_rfl)
  · --
   intro y42 hy42
   have zy42 := hy42.size
   refine AllV_v ?_
   refine AllV_v ?_
   refine AllV_v ?_
   refine AllV_nil ?_
   refine O_call enters17 rfl rfl rfl (rdsame_c rfl ((((((hq14.ext e15).chgBk b15 (by decide) q16).ext e17).ext e18).chgBk b18 (by decide) q19).ext hy42).nl (((hq17.ext e18).chgBk b18 (by decide) q19).ext hy42).nl (by (try simp only [lens]); omega) (by (try simp only [lens]); omega) rfl rfl) (fun v43 w43 e43 h43 => ?_)
   have z43 := e43.size
   obtain rfl := h43
   exact WL_nil ⟨e43, rfl⟩
  apply AnyR_val [62, 65] rfl (by kernel_rfl)
  · --
   intro y44 hy44
   have zy44 := hy44.size
   refine AllV_v ?_
   refine AllV_v ?_
   refine AllV_nil ?_
   refine O_pickT rfl rfl rfl rfl ?_
   exact WL_nil ⟨(Ext.refl _), rfl⟩
  apply AnyR_val [66] rfl (by kernel_rfl)
  · --
   intro y45 hy45
   have zy45 := hy45.size
   refine AllV_v ?_
   refine AllV_nil ?_
   refine O_move rfl rfl rfl ?_
   exact WL_nil ⟨(Ext.refl _), rfl⟩
  apply AnyR_val [67, 12] rfl (by kernel_rfl)
  · --
   intro y46 hy46
   have zy46 := hy46.size
   refine AllV_v ?_
   refine AllV_nil ?_
   refine O_move rfl rfl rfl ?_
   exact WL_nil ⟨(Ext.refl _), rfl⟩
  apply AnyR_val [67, 14] rfl (by kernel_rfl)
  · --
   intro y47 hy47
   have zy47 := hy47.size
   refine AllV_v ?_
   refine AllV_nil ?_
   refine O_move rfl rfl rfl ?_
   exact WL_nil ⟨(Ext.refl _), rfl⟩
  apply AnyR_val [67, 68, 69] rfl (by kernel_rfl)
  · --
   intro y48 hy48
   have zy48 := hy48.size
   refine AllV_v ?_
   refine AllV_v ?_
   refine AllV_v ?_
   refine AllV_nil ?_
   refine O_beql Tryd.underlying4 (t := true) rfl rfl rfl rfl (beq_self_eq_true _) ?_
   exact WL_nil ⟨(Ext.refl _), rfl⟩
  apply AnyR_val [67, 70] rfl (by kernel_rfl)
  · --
   intro y49 hy49
   have zy49 := hy49.size
   refine AllV_v ?_
   refine AllV_v ?_
   refine AllV_nil ?_
   refine O_pickT rfl rfl rfl rfl ?_
   exact WL_nil ⟨(Ext.refl _), rfl⟩
  refine AnyR_nil fun y50 hy50 => ?_
  have zy50 := hy50.size
  refine AllV_v ?_
  refine AllV_v ?_
  refine AllV_v ?_
  refine AllV_v ?_
  refine AllV_v ?_
  refine AllV_v ?_
  refine AllV_v ?_
  refine AllV_v ?_
  refine AllV_r fun a51 b51 v51 la51 lb51 lc51 h51 ap51 => ?_
  clear ap51
  obtain ⟨_, rfl, v51_0, _, rfl, rfl, v51_1, _, rfl, h51_1, v51_2, _, rfl, h51_2, rfl⟩ := h51
  refine AllV_v ?_
  refine AllV_r fun a52 b52 v52 la52 lb52 lc52 h52 ap52 => ?_
  clear ap52
  obtain ⟨_, rfl, v52_0, _, rfl, rfl, v52_1, _, rfl, h52_1, v52_2, _, rfl, h52_2, rfl⟩ := h52
  refine AllV_v ?_
  refine AllV_v ?_
  refine AllV_v ?_
  refine AllV_v ?_
  refine AllV_v ?_
  refine AllV_v ?_
  refine AllV_v ?_
  refine AllV_v ?_
  refine AllV_v ?_
  refine AllV_v ?_
  refine AllV_v ?_
  refine AllV_v ?_
  refine AllV_nil ?_
  refine O_assign rfl rfl rfl ?_
  refine WL_end [(4, _)] ⟨rfl, trivial⟩ ?_
  refine WP_ret ?_
  refine ret1 Tryd.results7 rfl ?_
  exact ⟨_, rfl, (e19.trans hy50), rfl⟩
 · --
  skip
  refine WP_region ?_
  refine O_move rfl rfl rfl ?_
  refine O_not rfl rfl rfl rfl ?_
  refine O_move rfl rfl rfl ?_
  refine O_skip rfl rfl ?_
  refine O_skip rfl rfl ?_
  refine O_pickT rfl rfl rfl rfl ?_
  refine WL_end [(5, _), (7, _), (32, _)] ⟨rfl, rfl, rfl, trivial⟩ ?_
  refine WP_condT rfl ?_
  refine WP_seq ?_
  refine WP_region ?_
  refine O_assign rfl rfl rfl ?_
  refine WL_end [(4, _)] ⟨rfl, trivial⟩ ?_
  refine WP_ret ?_
  refine ret1 Tryd.results7 rfl ?_
  exact ⟨_, rfl, e9, rfl⟩

end Go.Proofs.YtnfnadhbjdcbnaaDoor
