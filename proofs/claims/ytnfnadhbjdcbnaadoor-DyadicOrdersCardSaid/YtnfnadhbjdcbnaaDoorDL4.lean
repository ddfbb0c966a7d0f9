/-
  Walks.
-/
import Derived.Test.YtnfnadhbjdcbnaaDoorD10
set_option linter.unusedVariables false
set_option linter.unusedSimpArgs false
set_option maxRecDepth 100000
namespace Go.Proofs.YtnfnadhbjdcbnaaDoor
open Go Go.RowKit
set_option maxHeartbeats 4000000 in
theorem law_DyadicOrders {w : World} {vx vy : Value} {lx ly : List Nat} {bx by_ : Bool} {e f : Int} (hx : Nl w vx lx) (hy : Nl w vy ly) (hT : Tab w) :
    Calls Tryd.prog 8 #[.agg #[.bool bx, vx, .int .i64 e], .agg #[.bool by_, vy, .int .i64 f]] w (Ret w fun r _ => r = .bool true) := by
 refine enter (args := [_, _]) Tryd.func8 rfl Tryd.ntmps8 rfl ?_
 refine WP_seq ?_
 refine WP_region ?_
 refine O_box _ rfl rfl rfl rfl (fun g1 w1 b1 e1 gl1 gh1 => ?_)
 have z1 := e1.size
 refine O_box _ rfl rfl rfl rfl (fun g2 w2 b2 e2 gl2 gh2 => ?_)
 have z2 := e2.size
 refine O_assign rfl rfl rfl ?_
 refine WL_end [(2, _), (3, _)] ⟨rfl, rfl, trivial⟩ ?_
 refine WP_seq ?_
 refine WP_seq ?_
 refine WP_region ?_
 refine O_call enters9 rfl rfl rfl (awake8_c (hT.ext (e1.trans e2))) (fun v3 w3 e3 h3 => ?_)
 have z3 := e3.size
 obtain rfl := h3
 refine O_not rfl rfl rfl rfl ?_
 refine WL_end [(2, _), (3, _), (9, _)] ⟨rfl, rfl, rfl, trivial⟩ ?_
 refine WP_condF rfl ?_
 refine WP_skip ?_
 refine WP_seq ?_
 refine WP_region ?_
 refine O_loadA (vs := [_, _, _]) S26 rfl rfl rfl ((b1.ext e2).ext e3) rfl rfl ?_
 refine O_loadA (vs := [_, _, _]) S26 rfl rfl rfl (b2.ext e3) rfl rfl ?_
 refine O_call enters10 rfl rfl rfl (two08_c (hx.ext ((e1.trans e2).trans e3)) (hy.ext ((e1.trans e2).trans e3))) (fun v4 w4 e4 h4 => ?_)
 have z4 := e4.size
 try simp only [val_dig] at h4
 obtain ⟨X, E, Y, F, qX, qY, bT, rfl, hqX, hqY, ⟨hvX, hE1, hE2, hlX⟩, ⟨hvY, hF1, hF2, hlY⟩⟩ := h4
 refine O_move rfl rfl rfl ?_
 refine O_extract rfl rfl rfl rfl ?_
 refine O_extract rfl rfl rfl rfl ?_
 refine O_extract rfl rfl rfl rfl ?_
 refine O_alloc S26 rfl rfl (fun g5 w5 b5 e5 gl5 gh5 => ?_)
 have z5 := e5.size
 refine O_alloc S26 rfl rfl (fun g6 w6 b6 e6 gl6 gh6 => ?_)
 have z6 := e6.size
 refine O_storeA (cs' := [_, _, _]) S26 rfl rfl rfl (b5.ext e6) rfl rfl (one_cons rfl (one_cons (((hqX.ext e5).ext e6).nl).one (one_cons rfl one_nil))) rfl (fun w7 b7 q7 => ?_)
 have z7 := Nat.le_of_eq q7.size.symm
 have e7 : Ext w w7 := q7.ext (((((e1.trans e2).trans e3).trans e4).trans e5).trans e6) (by omega)
 refine O_storeA (cs' := [_, _, _]) S26 rfl rfl rfl (b6.chg q7 (by first | assumption | omega)) rfl rfl (one_cons rfl (one_cons ((((hqY.ext e5).ext e6).chgBk (b5.ext e6) (by decide) q7).nl).one (one_cons rfl one_nil))) rfl (fun w8 b8 q8 => ?_)
 have z8 := Nat.le_of_eq q8.size.symm
 have e8 : Ext w w8 := q8.ext e7 (by omega)
 refine O_assign rfl rfl rfl ?_
 refine WL_end [(5, _), (6, _), (7, _)] ⟨rfl, rfl, rfl, trivial⟩ ?_
 refine WP_seq ?_
 refine WP_seq ?_
 refine WP_region ?_
 refine O_move rfl rfl rfl ?_
 refine O_not rfl rfl rfl rfl ?_
 refine WL_end [(5, _), (6, _), (18, _)] ⟨rfl, rfl, rfl, trivial⟩ ?_
 refine WP_cond rfl (fun c18 => ?_) (fun c18 => ?_)
 · --
  refine WP_seq ?_
  refine WP_region ?_
  refine O_assign rfl rfl rfl ?_
  refine WL_end [(4, _)] ⟨rfl, trivial⟩ ?_
  refine WP_ret ?_
  refine ret1 Tryd.results8 rfl ?_
  exact ⟨_, rfl, e8, rfl⟩
 · --
  refine WP_skip ?_
  refine WP_seq ?_
  have hr1 := rnum_len (e := E) hlX (by omega)
  have hr2 := rden_len (e := E) (by omega)
  have hr3 := rnum_len (e := F) hlY (by omega)
  have hr4 := rden_len (e := F) (by omega)
  have hbA : -1 ≤ dcmp X E Y F ∧ dcmp X E Y F ≤ 1 := icmp_bd _ _
  · --
   skip
   refine WP_sub [(5, _), (6, _)] ⟨rfl, rfl, trivial⟩ ?_
   refine WP_anyR 43 [5, 6] mixed rfl (by kernel_rfl) ?_
   apply AnyR_val [5] rfl (by kernel_rfl)
   · --
    intro y9 hy9
    have zy9 := hy9.size
    refine AllV_nil ?_
    refine O_loadA (vs := [_, _, _]) S26 rfl rfl rfl ((b7.chg q8 (by first | assumption | omega)).ext hy9) rfl rfl ?_
    exact WL_nil ⟨(Ext.refl _), rfl⟩
   apply AnyR_val [6] rfl (by kernel_rfl)
   · --
    intro y10 hy10
    have zy10 := hy10.size
    refine AllV_nil ?_
    refine O_loadA (vs := [_, _, _]) S26 rfl rfl rfl (b8.ext hy10) rfl rfl ?_
    exact WL_nil ⟨(Ext.refl _), rfl⟩
   apply AnyR_val [19, 20] rfl (by kernel_rfl)
   · --
    intro y11 hy11
    have zy11 := hy11.size
    refine AllV_v ?_
    refine AllV_v ?_
    refine AllV_nil ?_
    refine O_call enters18 rfl rfl rfl (dcmp_c rfl (((((hqX.ext e5).ext e6).chgBk (b5.ext e6) (by decide) q7).chgBk (b6.chg q7 (by first | assumption | omega)) (by decide) q8).ext hy11).nl rfl (((((hqY.ext e5).ext e6).chgBk (b5.ext e6) (by decide) q7).chgBk (b6.chg q7 (by first | assumption | omega)) (by decide) q8).ext hy11).nl (by (try simp only [lens]); omega) (by (try simp only [lens]); omega) (by (try simp only [lens]); omega) (by (try simp only [lens]); omega) (by (try simp only [lens]); omega) (by (try simp only [lens]); omega)) (fun v12 w12 e12 h12 => ?_)
    have z12 := e12.size
    obtain rfl := h12
    exact WL_nil ⟨e12, rfl⟩
   apply AnyR_val [5] rfl (by kernel_rfl)
   · --
    intro y13 hy13
    have zy13 := hy13.size
    refine AllV_nil ?_
    refine O_loadA (vs := [_, _, _]) S26 rfl rfl rfl ((b7.chg q8 (by first | assumption | omega)).ext hy13) rfl rfl ?_
    exact WL_nil ⟨(Ext.refl _), rfl⟩
   apply AnyR_rel (RelP (pAgg [pEq _, pNl _, pNl _])) [22] rfl (RelP.mono (pAgg_mono (PsM.cons pEq_mono (PsM.cons pNl_mono (PsM.cons pNl_mono PsM.nil))))) (by kernel_rfl)
   · --
    intro y14 hy14
    have zy14 := hy14.size
    refine AllV_v ?_
    refine AllV_nil ?_
    refine O_call enters37 rfl rfl rfl (rdrat_c rfl (((((hqX.ext e5).ext e6).chgBk (b5.ext e6) (by decide) q7).chgBk (b6.chg q7 (by first | assumption | omega)) (by decide) q8).ext hy14).nl (by (try simp only [lens]); omega) (by (try simp only [lens]); omega) (by (try simp only [lens]); omega)) (fun v15 w15 e15 h15 => ?_)
    have z15 := e15.size
    try simp only [val_dig] at h15
    obtain ⟨rq15, rs15, rfl, hrq15, hrs15⟩ := h15
    exact WL_nil ⟨e15, _, rfl, ⟨_, rfl, (AllP.cons rfl (AllP.cons hrq15 (AllP.cons hrs15 AllP.nil)))⟩⟩
   apply AnyR_val [6] rfl (by kernel_rfl)
   · --
    intro y16 hy16
    have zy16 := hy16.size
    refine AllV_nil ?_
    refine O_loadA (vs := [_, _, _]) S26 rfl rfl rfl (b8.ext hy16) rfl rfl ?_
    exact WL_nil ⟨(Ext.refl _), rfl⟩
   apply AnyR_rel (RelP (pAgg [pEq _, pNl _, pNl _])) [24] rfl (RelP.mono (pAgg_mono (PsM.cons pEq_mono (PsM.cons pNl_mono (PsM.cons pNl_mono PsM.nil))))) (by kernel_rfl)
   · --
    intro y17 hy17
    have zy17 := hy17.size
    refine AllV_v ?_
    refine AllV_nil ?_
    refine O_call enters37 rfl rfl rfl (rdrat_c rfl (((((hqY.ext e5).ext e6).chgBk (b5.ext e6) (by decide) q7).chgBk (b6.chg q7 (by first | assumption | omega)) (by decide) q8).ext hy17).nl (by (try simp only [lens]); omega) (by (try simp only [lens]); omega) (by (try simp only [lens]); omega)) (fun v18 w18 e18 h18 => ?_)
    have z18 := e18.size
    try simp only [val_dig] at h18
    obtain ⟨rq18, rs18, rfl, hrq18, hrs18⟩ := h18
    exact WL_nil ⟨e18, _, rfl, ⟨_, rfl, (AllP.cons rfl (AllP.cons hrq18 (AllP.cons hrs18 AllP.nil)))⟩⟩
   apply AnyR_val [23, 25] rfl (by kernel_rfl)
   · --
    intro y19 hy19
    have zy19 := hy19.size
    refine AllV_r fun a20 b20 v20 la20 lb20 lc20 h20 ap20 => ?_
    clear ap20
    obtain ⟨_, rfl, v20_0, _, rfl, rfl, v20_1, _, rfl, h20_1, v20_2, _, rfl, h20_2, rfl⟩ := h20
    refine AllV_r fun a21 b21 v21 la21 lb21 lc21 h21 ap21 => ?_
    clear ap21
    obtain ⟨_, rfl, v21_0, _, rfl, rfl, v21_1, _, rfl, h21_1, v21_2, _, rfl, h21_2, rfl⟩ := h21
    refine AllV_nil ?_
    refine O_call enters38 rfl rfl rfl (rratcmp_c rfl h20_1 h20_2 (by first | with_reducible assumption | omega) (by first | with_reducible assumption | omega) rfl h21_1 h21_2 (by first | with_reducible assumption | omega) (by first | with_reducible assumption | omega)) (fun v22 w22 e22 h22 => ?_)
    have z22 := e22.size
    obtain rfl := h22
    exact WL_nil ⟨e22, rfl⟩
   apply AnyR_val [21, 26] rfl (by kernel_rfl)
   · --
    intro y23 hy23
    have zy23 := hy23.size
    refine AllV_v ?_
    refine AllV_v ?_
    refine AllV_nil ?_
    refine O_eql (t := true) rfl rfl rfl rfl (decide_eq_true (dcmp_rat X E Y F)) ?_
    exact WL_nil ⟨(Ext.refl _), rfl⟩
   apply AnyR_val [27] rfl (by kernel_rfl)
   · --
    intro y24 hy24
    have zy24 := hy24.size
    refine AllV_v ?_
    refine AllV_nil ?_
    refine O_move rfl rfl rfl ?_
    exact WL_nil ⟨(Ext.refl _), rfl⟩
   apply AnyR_val [28, 6] rfl (by kernel_rfl)
   · --
    intro y25 hy25
    have zy25 := hy25.size
    refine AllV_v ?_
    refine AllV_nil ?_
    refine O_loadA (vs := [_, _, _]) S26 rfl rfl rfl (b8.ext hy25) rfl rfl ?_
    exact WL_nil ⟨(Ext.refl _), rfl⟩
   apply AnyR_val [28, 5] rfl (by kernel_rfl)
   · --
    intro y26 hy26
    have zy26 := hy26.size
    refine AllV_v ?_
    refine AllV_nil ?_
    refine O_loadA (vs := [_, _, _]) S26 rfl rfl rfl ((b7.chg q8 (by first | assumption | omega)).ext hy26) rfl rfl ?_
    exact WL_nil ⟨(Ext.refl _), rfl⟩
   apply AnyR_val [28, 29, 30] rfl (by kernel_rfl)
   · --
    intro y27 hy27
    have zy27 := hy27.size
    refine AllV_v ?_
    refine AllV_v ?_
    refine AllV_v ?_
    refine AllV_nil ?_
    refine O_call enters18 rfl rfl rfl (dcmp_c rfl (((((hqY.ext e5).ext e6).chgBk (b5.ext e6) (by decide) q7).chgBk (b6.chg q7 (by first | assumption | omega)) (by decide) q8).ext hy27).nl rfl (((((hqX.ext e5).ext e6).chgBk (b5.ext e6) (by decide) q7).chgBk (b6.chg q7 (by first | assumption | omega)) (by decide) q8).ext hy27).nl (by (try simp only [lens]); omega) (by (try simp only [lens]); omega) (by (try simp only [lens]); omega) (by (try simp only [lens]); omega) (by (try simp only [lens]); omega) (by (try simp only [lens]); omega)) (fun v28 w28 e28 h28 => ?_)
    have z28 := e28.size
    obtain rfl := h28
    exact WL_nil ⟨e28, rfl⟩
   apply AnyR_val [28, 5] rfl (by kernel_rfl)
   · --
    intro y29 hy29
    have zy29 := hy29.size
    refine AllV_v ?_
    refine AllV_nil ?_
    refine O_loadA (vs := [_, _, _]) S26 rfl rfl rfl ((b7.chg q8 (by first | assumption | omega)).ext hy29) rfl rfl ?_
    exact WL_nil ⟨(Ext.refl _), rfl⟩
   apply AnyR_val [28, 6] rfl (by kernel_rfl)
   · --
    intro y30 hy30
    have zy30 := hy30.size
    refine AllV_v ?_
    refine AllV_nil ?_
    refine O_loadA (vs := [_, _, _]) S26 rfl rfl rfl (b8.ext hy30) rfl rfl ?_
    exact WL_nil ⟨(Ext.refl _), rfl⟩
   apply AnyR_val [28, 32, 33] rfl (by kernel_rfl)
   · --
    intro y31 hy31
    have zy31 := hy31.size
    refine AllV_v ?_
    refine AllV_v ?_
    refine AllV_v ?_
    refine AllV_nil ?_
    refine O_call enters18 rfl rfl rfl (dcmp_c rfl (((((hqX.ext e5).ext e6).chgBk (b5.ext e6) (by decide) q7).chgBk (b6.chg q7 (by first | assumption | omega)) (by decide) q8).ext hy31).nl rfl (((((hqY.ext e5).ext e6).chgBk (b5.ext e6) (by decide) q7).chgBk (b6.chg q7 (by first | assumption | omega)) (by decide) q8).ext hy31).nl (by (try simp only [lens]); omega) (by (try simp only [lens]); omega) (by (try simp only [lens]); omega) (by (try simp only [lens]); omega) (by (try simp only [lens]); omega) (by (try simp only [lens]); omega)) (fun v32 w32 e32 h32 => ?_)
    have z32 := e32.size
    obtain rfl := h32
    exact WL_nil ⟨e32, rfl⟩
   apply AnyR_val [28, 34] rfl (by kernel_rfl)
   · --
    intro y33 hy33
    have zy33 := hy33.size
    refine AllV_v ?_
    refine AllV_v ?_
    refine AllV_nil ?_
    refine O_neg (r := (-(dcmp X E Y F))) rfl rfl rfl (by rw [IntKind.wrap_i64]; omega) ?_
    exact WL_nil ⟨(Ext.refl _), rfl⟩
   apply AnyR_val [28, 31, 35] rfl (by kernel_rfl)
   · --
    intro y34 hy34
    have zy34 := hy34.size
    refine AllV_v ?_
    refine AllV_v ?_
    refine AllV_v ?_
    refine AllV_nil ?_
    refine O_eql (t := true) rfl rfl rfl rfl (decide_eq_true (dcmp_swap X E Y F)) ?_
    exact WL_nil ⟨(Ext.refl _), rfl⟩
   apply AnyR_val [28, 36] rfl (by kernel_rfl)
   · --
    intro y35 hy35
    have zy35 := hy35.size
    refine AllV_v ?_
    refine AllV_v ?_
    refine AllV_nil ?_
    refine O_pickT rfl rfl rfl rfl ?_
    exact WL_nil ⟨(Ext.refl _), rfl⟩
   apply AnyR_val [37] rfl (by kernel_rfl)
   · --
    intro y36 hy36
    have zy36 := hy36.size
    refine AllV_v ?_
    refine AllV_nil ?_
    refine O_move rfl rfl rfl ?_
    exact WL_nil ⟨(Ext.refl _), rfl⟩
   apply AnyR_val [38, 5] rfl (by kernel_rfl)
   · --
    intro y37 hy37
    have zy37 := hy37.size
    refine AllV_v ?_
    refine AllV_nil ?_
    refine O_loadA (vs := [_, _, _]) S26 rfl rfl rfl ((b7.chg q8 (by first | assumption | omega)).ext hy37) rfl rfl ?_
    exact WL_nil ⟨(Ext.refl _), rfl⟩
   apply AnyR_val [38, 39] rfl (by kernel_rfl)
   · --
    intro y38 hy38
    have zy38 := hy38.size
    refine AllV_v ?_
    refine AllV_v ?_
    refine AllV_nil ?_
    refine O_call enters39 rfl rfl rfl (dsign_c rfl (((((hqX.ext e5).ext e6).chgBk (b5.ext e6) (by decide) q7).chgBk (b6.chg q7 (by first | assumption | omega)) (by decide) q8).ext hy38).nl (by (try simp only [lens]); omega)) (fun v39 w39 e39 h39 => ?_)
    have z39 := e39.size
    obtain rfl := h39
    exact WL_nil ⟨e39, rfl⟩
   apply AnyR_val [38, 5] rfl (by kernel_rfl)
   · --
    intro y40 hy40
    have zy40 := hy40.size
    refine AllV_v ?_
    refine AllV_nil ?_
    refine O_loadA (vs := [_, _, _]) S26 rfl rfl rfl ((b7.chg q8 (by first | assumption | omega)).ext hy40) rfl rfl ?_
    exact WL_nil ⟨(Ext.refl _), rfl⟩
   apply AnyR_val [38, 41] rfl (by kernel_rfl)
   · --
    intro y41 hy41
    have zy41 := hy41.size
    refine AllV_v ?_
    refine AllV_v ?_
    refine AllV_nil ?_
    refine O_call enters40 rfl rfl rfl (rdsign_c rfl (((((hqX.ext e5).ext e6).chgBk (b5.ext e6) (by decide) q7).chgBk (b6.chg q7 (by first | assumption | omega)) (by decide) q8).ext hy41).nl (by (try simp only [lens]); omega)) (fun v42 w42 e42 h42 => ?_)
    have z42 := e42.size
    obtain rfl := h42
    exact WL_nil ⟨e42, rfl⟩
   apply AnyR_val [38, 40, 42] rfl (by kernel_rfl)
   · --
    intro y43 hy43
    have zy43 := hy43.size
    refine AllV_v ?_
    refine AllV_v ?_
    refine AllV_v ?_
    refine AllV_nil ?_
    refine O_eql (t := true) rfl rfl rfl rfl (decide_eq_true rfl) ?_
    exact WL_nil ⟨(Ext.refl _), rfl⟩
   apply AnyR_val [38, 43] rfl (by kernel_rfl)
   · --
    intro y44 hy44
    have zy44 := hy44.size
    refine AllV_v ?_
    refine AllV_v ?_
    refine AllV_nil ?_
    refine O_pickT rfl rfl rfl rfl ?_
    exact WL_nil ⟨(Ext.refl _), rfl⟩
   apply AnyR_val [44] rfl (by kernel_rfl)
   · --
    intro y45 hy45
    have zy45 := hy45.size
    refine AllV_v ?_
    refine AllV_nil ?_
    refine O_move rfl rfl rfl ?_
    exact WL_nil ⟨(Ext.refl _), rfl⟩
   apply AnyR_val [45, 5] rfl (by kernel_rfl)
   · --
    intro y46 hy46
    have zy46 := hy46.size
    refine AllV_v ?_
    refine AllV_nil ?_
    refine O_loadA (vs := [_, _, _]) S26 rfl rfl rfl ((b7.chg q8 (by first | assumption | omega)).ext hy46) rfl rfl ?_
    exact WL_nil ⟨(Ext.refl _), rfl⟩
   apply AnyR_val [45, 46] rfl (by kernel_rfl)
   · --
    intro y47 hy47
    have zy47 := hy47.size
    refine AllV_v ?_
    refine AllV_v ?_
    refine AllV_nil ?_
    refine O_call enters41 rfl rfl rfl (dtop_c rfl (((((hqX.ext e5).ext e6).chgBk (b5.ext e6) (by decide) q7).chgBk (b6.chg q7 (by first | assumption | omega)) (by decide) q8).ext hy47).nl (by (try simp only [lens]); omega) (by (try simp only [lens]); omega) (by (try simp only [lens]); omega)) (fun v48 w48 e48 h48 => ?_)
    have z48 := e48.size
    obtain rfl := h48
    exact WL_nil ⟨e48, rfl⟩
   apply AnyR_val [45, 5] rfl (by kernel_rfl)
   · --
    intro y49 hy49
    have zy49 := hy49.size
    refine AllV_v ?_
    refine AllV_nil ?_
    refine O_loadA (vs := [_, _, _]) S26 rfl rfl rfl ((b7.chg q8 (by first | assumption | omega)).ext hy49) rfl rfl ?_
    exact WL_nil ⟨(Ext.refl _), rfl⟩
   apply AnyR_val [45, 48] rfl (by kernel_rfl)
   · --
    intro y50 hy50
    have zy50 := hy50.size
    refine AllV_v ?_
    refine AllV_v ?_
    refine AllV_nil ?_
    refine O_call enters42 rfl rfl rfl (rdtop_c rfl (((((hqX.ext e5).ext e6).chgBk (b5.ext e6) (by decide) q7).chgBk (b6.chg q7 (by first | assumption | omega)) (by decide) q8).ext hy50).nl (by (try simp only [lens]); omega) (by (try simp only [lens]); omega) (by (try simp only [lens]); omega)) (fun v51 w51 e51 h51 => ?_)
    have z51 := e51.size
    obtain rfl := h51
    exact WL_nil ⟨e51, rfl⟩
   apply AnyR_val [45, 47, 49] rfl (by kernel_rfl)
   · --
    intro y52 hy52
    have zy52 := hy52.size
    refine AllV_v ?_
    refine AllV_v ?_
    refine AllV_v ?_
    refine AllV_nil ?_
    refine O_eql (t := true) rfl rfl rfl rfl (decide_eq_true rfl) ?_
    exact WL_nil ⟨(Ext.refl _), rfl⟩
   apply AnyR_val [45, 50] rfl (by kernel_rfl)
   · --
    intro y53 hy53
    have zy53 := hy53.size
    refine AllV_v ?_
    refine AllV_v ?_
    refine AllV_nil ?_
    refine O_pickT rfl rfl rfl rfl ?_
    exact WL_nil ⟨(Ext.refl _), rfl⟩
   apply AnyR_val [51] rfl (by kernel_rfl)
   · --
    intro y54 hy54
    have zy54 := hy54.size
    refine AllV_v ?_
    refine AllV_nil ?_
    refine O_move rfl rfl rfl ?_
    exact WL_nil ⟨(Ext.refl _), rfl⟩
   apply AnyR_val [52, 5] rfl (by kernel_rfl)
   · --
    intro y55 hy55
    have zy55 := hy55.size
    refine AllV_v ?_
    refine AllV_nil ?_
    refine O_loadA (vs := [_, _, _]) S26 rfl rfl rfl ((b7.chg q8 (by first | assumption | omega)).ext hy55) rfl rfl ?_
    exact WL_nil ⟨(Ext.refl _), rfl⟩
   apply AnyR_val [52, 6] rfl (by kernel_rfl)
   · --
    intro y56 hy56
    have zy56 := hy56.size
    refine AllV_v ?_
    refine AllV_nil ?_
    refine O_loadA (vs := [_, _, _]) S26 rfl rfl rfl (b8.ext hy56) rfl rfl ?_
    exact WL_nil ⟨(Ext.refl _), rfl⟩
   apply AnyR_val [52, 53, 54] rfl (by kernel_rfl)
   · --
    intro y57 hy57
    have zy57 := hy57.size
    refine AllV_v ?_
    refine AllV_v ?_
    refine AllV_v ?_
    refine AllV_nil ?_
    refine O_call enters18 rfl rfl rfl (dcmp_c rfl (((((hqX.ext e5).ext e6).chgBk (b5.ext e6) (by decide) q7).chgBk (b6.chg q7 (by first | assumption | omega)) (by decide) q8).ext hy57).nl rfl (((((hqY.ext e5).ext e6).chgBk (b5.ext e6) (by decide) q7).chgBk (b6.chg q7 (by first | assumption | omega)) (by decide) q8).ext hy57).nl (by (try simp only [lens]); omega) (by (try simp only [lens]); omega) (by (try simp only [lens]); omega) (by (try simp only [lens]); omega) (by (try simp only [lens]); omega) (by (try simp only [lens]); omega)) (fun v58 w58 e58 h58 => ?_)
    have z58 := e58.size
    obtain rfl := h58
    exact WL_nil ⟨e58, rfl⟩
   apply AnyR_val [52, 55] rfl (by kernel_rfl)
   · --
    intro y59 hy59
    have zy59 := hy59.size
    refine AllV_v ?_
    refine AllV_v ?_
    refine AllV_nil ?_
    refine O_eql rfl rfl rfl rfl rfl ?_
    exact WL_nil ⟨(Ext.refl _), rfl⟩
   apply AnyR_val [52, 5] rfl (by kernel_rfl)
   · --
    intro y60 hy60
    have zy60 := hy60.size
    refine AllV_v ?_
    refine AllV_nil ?_
    refine O_loadA (vs := [_, _, _]) S26 rfl rfl rfl ((b7.chg q8 (by first | assumption | omega)).ext hy60) rfl rfl ?_
    exact WL_nil ⟨(Ext.refl _), rfl⟩
   apply AnyR_val [52, 6] rfl (by kernel_rfl)
   · --
    intro y61 hy61
    have zy61 := hy61.size
    refine AllV_v ?_
    refine AllV_nil ?_
    refine O_loadA (vs := [_, _, _]) S26 rfl rfl rfl (b8.ext hy61) rfl rfl ?_
    exact WL_nil ⟨(Ext.refl _), rfl⟩
   apply AnyR_val [52, 57, 58] rfl (by kernel_rfl)
   · --
    intro y62 hy62
    have zy62 := hy62.size
    refine AllV_v ?_
    refine AllV_v ?_
    refine AllV_v ?_
    refine AllV_nil ?_
    refine O_call enters17 rfl rfl rfl (dsameB_c rfl (((((hqX.ext e5).ext e6).chgBk (b5.ext e6) (by decide) q7).chgBk (b6.chg q7 (by first | assumption | omega)) (by decide) q8).ext hy62).nl rfl (((((hqY.ext e5).ext e6).chgBk (b5.ext e6) (by decide) q7).chgBk (b6.chg q7 (by first | assumption | omega)) (by decide) q8).ext hy62).nl (by (try simp only [lens]); omega) (by (try simp only [lens]); omega)) (fun v63 w63 e63 h63 => ?_)
    have z63 := e63.size
    obtain rfl := h63
    exact WL_nil ⟨e63, rfl⟩
   apply AnyR_val [52, 56, 59] rfl (by kernel_rfl)
   · --
    intro y64 hy64
    have zy64 := hy64.size
    refine AllV_v ?_
    refine AllV_v ?_
    refine AllV_v ?_
    refine AllV_nil ?_
    refine O_beql Tryd.underlying4 (t := true) rfl rfl rfl rfl (by rw [decide_eq_decide.2 (dcmp_same hvX hvY)]; exact beq_self_eq_true _) ?_
    exact WL_nil ⟨(Ext.refl _), rfl⟩
   apply AnyR_val [52, 60] rfl (by kernel_rfl)
   · --
    intro y65 hy65
    have zy65 := hy65.size
    refine AllV_v ?_
    refine AllV_v ?_
    refine AllV_nil ?_
    refine O_pickT rfl rfl rfl rfl ?_
    exact WL_nil ⟨(Ext.refl _), rfl⟩
   refine AnyR_nil fun y66 hy66 => ?_
   have zy66 := hy66.size
   refine AllV_v ?_
   refine AllV_v ?_
   refine AllV_v ?_
   refine AllV_v ?_
   refine AllV_r fun a67 b67 v67 la67 lb67 lc67 h67 ap67 => ?_
   clear ap67
   obtain ⟨_, rfl, v67_0, _, rfl, rfl, v67_1, _, rfl, h67_1, v67_2, _, rfl, h67_2, rfl⟩ := h67
   refine AllV_v ?_
   refine AllV_r fun a68 b68 v68 la68 lb68 lc68 h68 ap68 => ?_
   clear ap68
   obtain ⟨_, rfl, v68_0, _, rfl, rfl, v68_1, _, rfl, h68_1, v68_2, _, rfl, h68_2, rfl⟩ := h68
   refine AllV_v ?_
   refine AllV_v ?_
   refine AllV_v ?_
   refine AllV_v ?_
   refine AllV_v ?_
   refine AllV_v ?_
   refine AllV_v ?_
   refine AllV_v ?_
   refine AllV_v ?_
   refine AllV_v ?_
   refine AllV_v ?_
   refine AllV_v ?_
   refine AllV_v ?_
   refine AllV_v ?_
   refine AllV_v ?_
   refine AllV_v ?_
   refine AllV_v ?_
   refine AllV_v ?_
   refine AllV_v ?_
   refine AllV_v ?_
   refine AllV_v ?_
   refine AllV_v ?_
   refine AllV_v ?_
   refine AllV_v ?_
   refine AllV_v ?_
   refine AllV_v ?_
   refine AllV_v ?_
   refine AllV_v ?_
   refine AllV_v ?_
   refine AllV_v ?_
   refine AllV_v ?_
   refine AllV_v ?_
   refine AllV_v ?_
   refine AllV_v ?_
   refine AllV_v ?_
   refine AllV_v ?_
   refine AllV_nil ?_
   refine O_assign rfl rfl rfl ?_
   refine WL_end [(4, _)] ⟨rfl, trivial⟩ ?_
   refine WP_ret ?_
   refine ret1 Tryd.results8 rfl ?_
   exact ⟨_, rfl, (e8.trans hy66), rfl⟩

end Go.Proofs.YtnfnadhbjdcbnaaDoor
