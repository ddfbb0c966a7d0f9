/-
  Walks.
-/
import Derived.Test.YthbfhljpfkicpaaV2
set_option linter.unusedVariables false
set_option linter.unusedSimpArgs false
set_option maxRecDepth 100000
namespace Go.Proofs.Ythbfhljpfkicpaa
open Go Go.RowKit
set_option maxHeartbeats 2000000 in
theorem law_IntervalOrders {w : World} {vx vy vz vu : Value} {lx ly lz lu : List Nat} {bx by_ bz bu : Bool} {e f g h : Int} (hx : Nl w vx lx) (hy : Nl w vy ly) (hz : Nl w vz lz) (hu : Nl w vu lu) :
    Calls Try.prog 3 #[.agg #[.bool bx, vx, .int .i64 e, .bool by_, vy, .int .i64 f], .agg #[.bool bz, vz, .int .i64 g, .bool bu, vu, .int .i64 h]] w (Ret w fun r _ => r = .bool true) := by
  refine enter (args := [_, _]) Try.func3 rfl Try.ntmps3 rfl ?_
  refine WP_seq ?_
  refine WP_region ?_
  refine O_box _ rfl rfl rfl rfl (fun g1 w1 b1 e1 gl1 gh1 => ?_)
  have z1 := e1.size
  refine O_box _ rfl rfl rfl rfl (fun g2 w2 b2 e2 gl2 gh2 => ?_)
  have z2 := e2.size
  refine O_assign rfl rfl rfl ?_
  refine WL_end [(2, _), (3, _)] ⟨rfl, rfl, trivial⟩ ?_
  refine WP_seq ?_
  refine WP_seq ?_
  refine WP_region ?_
  refine O_call enters7 rfl rfl rfl (awake10_c) (fun v3 w3 e3 h3 => ?_)
  have z3 := e3.size
  obtain rfl := h3
  refine O_not rfl rfl rfl rfl ?_
  refine WL_end [(2, _), (3, _), (13, _)] ⟨rfl, rfl, rfl, trivial⟩ ?_
  refine WP_condF rfl ?_
  refine WP_skip ?_
  refine WP_seq ?_
  refine WP_region ?_
  refine O_loadA (vs := [_, _, _, _, _, _]) S28 rfl rfl rfl ((b1.ext e2).ext e3) rfl rfl ?_
  refine O_loadA (vs := [_, _, _, _, _, _]) S28 rfl rfl rfl (b2.ext e3) rfl rfl ?_
  refine O_call enters8 rfl rfl rfl (two10_c (hx.ext ((e1.trans e2).trans e3)) (hy.ext ((e1.trans e2).trans e3)) (hz.ext ((e1.trans e2).trans e3)) (hu.ext ((e1.trans e2).trans e3))) (fun v4 w4 e4 h4 => ?_)
  have z4 := e4.size
  try simp only [val_dig] at h4
  obtain ⟨X, E, Y, F, Z, G, U, H, qA, sA, tA, vA, bA, rfl, hqA, hsA, htA, hvA, ⟨hX, hY, hXY, hE1, hE2, hF1, hF2, hlX, hlY⟩, ⟨hZ, hU, hZU, hG1, hG2, hH1, hH2, hlZ, hlU⟩⟩ := h4
  refine O_move rfl rfl rfl ?_
  refine O_extract rfl rfl rfl rfl ?_
  refine O_extract rfl rfl rfl rfl ?_
  refine O_extract rfl rfl rfl rfl ?_
  refine O_alloc S28 rfl rfl (fun g5 w5 b5 e5 gl5 gh5 => ?_)
  have z5 := e5.size
  refine O_alloc S28 rfl rfl (fun g6 w6 b6 e6 gl6 gh6 => ?_)
  have z6 := e6.size
  refine O_storeA (cs' := [_, _, _, _, _, _]) S28 rfl rfl rfl (b5.ext e6) rfl rfl (one_cons rfl (one_cons (((hqA.ext e5).ext e6).nl).one (one_cons rfl (one_cons rfl (one_cons (((hsA.ext e5).ext e6).nl).one (one_cons rfl one_nil)))))) rfl (fun w7 b7 q7 => ?_)
  have z7 := Nat.le_of_eq q7.size.symm
  have e7 : Ext w w7 := q7.ext (((((e1.trans e2).trans e3).trans e4).trans e5).trans e6) (by omega)
  refine O_storeA (cs' := [_, _, _, _, _, _]) S28 rfl rfl rfl (b6.chg q7 (by first | assumption | omega)) rfl rfl (one_cons rfl (one_cons ((((htA.ext e5).ext e6).chgBk (b5.ext e6) (by decide) q7).nl).one (one_cons rfl (one_cons rfl (one_cons ((((hvA.ext e5).ext e6).chgBk (b5.ext e6) (by decide) q7).nl).one (one_cons rfl one_nil)))))) rfl (fun w8 b8 q8 => ?_)
  have z8 := Nat.le_of_eq q8.size.symm
  have e8 : Ext w w8 := q8.ext e7 (by omega)
  refine O_assign rfl rfl rfl ?_
  refine WL_end [(5, _), (6, _), (7, _)] ⟨rfl, rfl, rfl, trivial⟩ ?_
  refine WP_seq ?_
  refine WP_seq ?_
  refine WP_region ?_
  refine O_move rfl rfl rfl ?_
  refine O_not rfl rfl rfl rfl ?_
  refine WL_end [(5, _), (6, _), (22, _)] ⟨rfl, rfl, rfl, trivial⟩ ?_
  refine WP_cond rfl (fun c22 => ?_) (fun c22 => ?_)
  · --
    refine WP_seq ?_
    refine WP_region ?_
    refine O_assign rfl rfl rfl ?_
    refine WL_end [(4, _)] ⟨rfl, trivial⟩ ?_
    refine WP_ret ?_
    refine ret1 Try.results3 rfl ?_
    exact ⟨_, rfl, e8, rfl⟩
  · --
    refine WP_skip ?_
    refine WP_seq ?_
    refine WP_region ?_
    refine O_loadA (vs := [_, _, _, _, _, _]) S28 rfl rfl rfl (b7.chg q8 (by first | assumption | omega)) rfl rfl ?_
    refine O_call enters9 rfl rfl rfl (ivsign_c rfl ((((hqA.ext e5).ext e6).chgBk (b5.ext e6) (by decide) q7).chgBk (b6.chg q7 (by first | assumption | omega)) (by decide) q8).nl rfl ((((hsA.ext e5).ext e6).chgBk (b5.ext e6) (by decide) q7).chgBk (b6.chg q7 (by first | assumption | omega)) (by decide) q8).nl (by first | with_reducible assumption | exact dval_dman _ _ | exact dval_zero) (by first | with_reducible assumption | exact dval_dman _ _ | exact dval_zero)) (fun v9 w9 e9 h9 => ?_)
    have z9 := e9.size
    try simp only [val_dig] at h9
    obtain rfl := h9
    refine O_move rfl rfl rfl ?_
    refine O_extract rfl rfl rfl rfl ?_
    refine O_extract rfl rfl rfl rfl ?_
    refine O_assign rfl rfl rfl ?_
    refine O_assign rfl rfl rfl ?_
    refine WL_end [(5, _), (6, _), (8, _), (9, _)] ⟨rfl, rfl, rfl, rfl, trivial⟩ ?_
    refine WP_seq ?_
    refine WP_region ?_
    refine O_loadA (vs := [_, _, _, _, _, _]) S28 rfl rfl rfl ((b7.chg q8 (by first | assumption | omega)).ext e9) rfl rfl ?_
    refine O_call enters10 rfl rfl rfl (rivsign_c rfl (((((hqA.ext e5).ext e6).chgBk (b5.ext e6) (by decide) q7).chgBk (b6.chg q7 (by first | assumption | omega)) (by decide) q8).ext e9).nl rfl (((((hsA.ext e5).ext e6).chgBk (b5.ext e6) (by decide) q7).chgBk (b6.chg q7 (by first | assumption | omega)) (by decide) q8).ext e9).nl (by first | with_reducible assumption | exact dval_dman _ _ | exact dval_zero) (by first | with_reducible assumption | exact dval_dman _ _ | exact dval_zero)) (fun v10 w10 e10 h10 => ?_)
    have z10 := e10.size
    try simp only [val_dig] at h10
    obtain rfl := h10
    refine O_move rfl rfl rfl ?_
    refine O_extract rfl rfl rfl rfl ?_
    refine O_extract rfl rfl rfl rfl ?_
    refine O_assign rfl rfl rfl ?_
    refine O_assign rfl rfl rfl ?_
    refine WL_end [(5, _), (6, _), (8, _), (9, _), (10, _), (11, _)] ⟨rfl, rfl, rfl, rfl, rfl, rfl, trivial⟩ ?_
    refine WP_seq ?_
    have hbA := ivcmp_bd X E Y F Z G U H
    have hsg := sign_ivcmp hX hY hXY
    by_cases hss : X.sign = Y.sign
    · rw [decide_eq_true hss]
      rw [if_pos hss] at hsg
      refine WP_sub [(5, _), (6, _), (8, _), (9, _), (10, _), (11, _)] ⟨rfl, rfl, rfl, rfl, rfl, rfl, trivial⟩ ?_
      refine WP_anyR 40 [5, 6, 8, 9, 10, 11] mixed rfl (by kernel_rfl) ?_
      apply AnyR_val [5] rfl (by kernel_rfl)
      · --
        intro y11 hy11
        have zy11 := hy11.size
        refine AllV_nil ?_
        refine O_loadA (vs := [_, _, _, _, _, _]) S28 rfl rfl rfl ((((b7.chg q8 (by first | assumption | omega)).ext e9).ext e10).ext hy11) rfl rfl ?_
        exact WL_nil ⟨(Ext.refl _), rfl⟩
      apply AnyR_val [6] rfl (by kernel_rfl)
      · --
        intro y12 hy12
        have zy12 := hy12.size
        refine AllV_nil ?_
        refine O_loadA (vs := [_, _, _, _, _, _]) S28 rfl rfl rfl (((b8.ext e9).ext e10).ext hy12) rfl rfl ?_
        exact WL_nil ⟨(Ext.refl _), rfl⟩
      apply AnyR_val [33, 34] rfl (by kernel_rfl)
      · --
        intro y13 hy13
        have zy13 := hy13.size
        refine AllV_v ?_
        refine AllV_v ?_
        refine AllV_nil ?_
        refine O_call enters11 rfl rfl rfl (ivcmp_c rfl (((((((hqA.ext e5).ext e6).chgBk (b5.ext e6) (by decide) q7).chgBk (b6.chg q7 (by first | assumption | omega)) (by decide) q8).ext e9).ext e10).ext hy13).nl rfl (((((((hsA.ext e5).ext e6).chgBk (b5.ext e6) (by decide) q7).chgBk (b6.chg q7 (by first | assumption | omega)) (by decide) q8).ext e9).ext e10).ext hy13).nl (by first | with_reducible assumption | exact dval_dman _ _ | exact dval_zero) (by first | with_reducible assumption | exact dval_dman _ _ | exact dval_zero) rfl (((((((htA.ext e5).ext e6).chgBk (b5.ext e6) (by decide) q7).chgBk (b6.chg q7 (by first | assumption | omega)) (by decide) q8).ext e9).ext e10).ext hy13).nl rfl (((((((hvA.ext e5).ext e6).chgBk (b5.ext e6) (by decide) q7).chgBk (b6.chg q7 (by first | assumption | omega)) (by decide) q8).ext e9).ext e10).ext hy13).nl (by first | with_reducible assumption | exact dval_dman _ _ | exact dval_zero) (by first | with_reducible assumption | exact dval_dman _ _ | exact dval_zero)) (fun v14 w14 e14 h14 => ?_)
        have z14 := e14.size
        obtain rfl := h14
        exact WL_nil ⟨e14, rfl⟩
      apply AnyR_val [5] rfl (by kernel_rfl)
      · --
        intro y15 hy15
        have zy15 := hy15.size
        refine AllV_nil ?_
        refine O_loadA (vs := [_, _, _, _, _, _]) S28 rfl rfl rfl ((((b7.chg q8 (by first | assumption | omega)).ext e9).ext e10).ext hy15) rfl rfl ?_
        exact WL_nil ⟨(Ext.refl _), rfl⟩
      apply AnyR_val [6] rfl (by kernel_rfl)
      · --
        intro y16 hy16
        have zy16 := hy16.size
        refine AllV_nil ?_
        refine O_loadA (vs := [_, _, _, _, _, _]) S28 rfl rfl rfl (((b8.ext e9).ext e10).ext hy16) rfl rfl ?_
        exact WL_nil ⟨(Ext.refl _), rfl⟩
      apply AnyR_val [36, 37] rfl (by kernel_rfl)
      · --
        intro y17 hy17
        have zy17 := hy17.size
        refine AllV_v ?_
        refine AllV_v ?_
        refine AllV_nil ?_
        refine O_call enters12 rfl rfl rfl (rivcmp_c rfl (((((((hqA.ext e5).ext e6).chgBk (b5.ext e6) (by decide) q7).chgBk (b6.chg q7 (by first | assumption | omega)) (by decide) q8).ext e9).ext e10).ext hy17).nl rfl (((((((hsA.ext e5).ext e6).chgBk (b5.ext e6) (by decide) q7).chgBk (b6.chg q7 (by first | assumption | omega)) (by decide) q8).ext e9).ext e10).ext hy17).nl (by first | with_reducible assumption | exact dval_dman _ _ | exact dval_zero) (by first | with_reducible assumption | exact dval_dman _ _ | exact dval_zero) rfl (((((((htA.ext e5).ext e6).chgBk (b5.ext e6) (by decide) q7).chgBk (b6.chg q7 (by first | assumption | omega)) (by decide) q8).ext e9).ext e10).ext hy17).nl rfl (((((((hvA.ext e5).ext e6).chgBk (b5.ext e6) (by decide) q7).chgBk (b6.chg q7 (by first | assumption | omega)) (by decide) q8).ext e9).ext e10).ext hy17).nl (by first | with_reducible assumption | exact dval_dman _ _ | exact dval_zero) (by first | with_reducible assumption | exact dval_dman _ _ | exact dval_zero)) (fun v18 w18 e18 h18 => ?_)
        have z18 := e18.size
        obtain rfl := h18
        exact WL_nil ⟨e18, rfl⟩
      apply AnyR_val [35, 38] rfl (by kernel_rfl)
      · --
        intro y19 hy19
        have zy19 := hy19.size
        refine AllV_v ?_
        refine AllV_v ?_
        refine AllV_nil ?_
        refine O_eql (t := true) rfl rfl rfl rfl (decide_eq_true rfl) ?_
        exact WL_nil ⟨(Ext.refl _), rfl⟩
      apply AnyR_val [39] rfl (by kernel_rfl)
      · --
        intro y20 hy20
        have zy20 := hy20.size
        refine AllV_v ?_
        refine AllV_nil ?_
        refine O_move rfl rfl rfl ?_
        exact WL_nil ⟨(Ext.refl _), rfl⟩
      apply AnyR_val [40, 6] rfl (by kernel_rfl)
      · --
        intro y21 hy21
        have zy21 := hy21.size
        refine AllV_v ?_
        refine AllV_nil ?_
        refine O_loadA (vs := [_, _, _, _, _, _]) S28 rfl rfl rfl (((b8.ext e9).ext e10).ext hy21) rfl rfl ?_
        exact WL_nil ⟨(Ext.refl _), rfl⟩
      apply AnyR_val [40, 5] rfl (by kernel_rfl)
      · --
        intro y22 hy22
        have zy22 := hy22.size
        refine AllV_v ?_
        refine AllV_nil ?_
        refine O_loadA (vs := [_, _, _, _, _, _]) S28 rfl rfl rfl ((((b7.chg q8 (by first | assumption | omega)).ext e9).ext e10).ext hy22) rfl rfl ?_
        exact WL_nil ⟨(Ext.refl _), rfl⟩
      apply AnyR_val [40, 41, 42] rfl (by kernel_rfl)
      · --
        intro y23 hy23
        have zy23 := hy23.size
        refine AllV_v ?_
        refine AllV_v ?_
        refine AllV_v ?_
        refine AllV_nil ?_
        refine O_call enters11 rfl rfl rfl (ivcmp_c rfl (((((((htA.ext e5).ext e6).chgBk (b5.ext e6) (by decide) q7).chgBk (b6.chg q7 (by first | assumption | omega)) (by decide) q8).ext e9).ext e10).ext hy23).nl rfl (((((((hvA.ext e5).ext e6).chgBk (b5.ext e6) (by decide) q7).chgBk (b6.chg q7 (by first | assumption | omega)) (by decide) q8).ext e9).ext e10).ext hy23).nl (by first | with_reducible assumption | exact dval_dman _ _ | exact dval_zero) (by first | with_reducible assumption | exact dval_dman _ _ | exact dval_zero) rfl (((((((hqA.ext e5).ext e6).chgBk (b5.ext e6) (by decide) q7).chgBk (b6.chg q7 (by first | assumption | omega)) (by decide) q8).ext e9).ext e10).ext hy23).nl rfl (((((((hsA.ext e5).ext e6).chgBk (b5.ext e6) (by decide) q7).chgBk (b6.chg q7 (by first | assumption | omega)) (by decide) q8).ext e9).ext e10).ext hy23).nl (by first | with_reducible assumption | exact dval_dman _ _ | exact dval_zero) (by first | with_reducible assumption | exact dval_dman _ _ | exact dval_zero)) (fun v24 w24 e24 h24 => ?_)
        have z24 := e24.size
        obtain rfl := h24
        exact WL_nil ⟨e24, rfl⟩
      apply AnyR_val [40, 5] rfl (by kernel_rfl)
      · --
        intro y25 hy25
        have zy25 := hy25.size
        refine AllV_v ?_
        refine AllV_nil ?_
        refine O_loadA (vs := [_, _, _, _, _, _]) S28 rfl rfl rfl ((((b7.chg q8 (by first | assumption | omega)).ext e9).ext e10).ext hy25) rfl rfl ?_
        exact WL_nil ⟨(Ext.refl _), rfl⟩
      apply AnyR_val [40, 6] rfl (by kernel_rfl)
      · --
        intro y26 hy26
        have zy26 := hy26.size
        refine AllV_v ?_
        refine AllV_nil ?_
        refine O_loadA (vs := [_, _, _, _, _, _]) S28 rfl rfl rfl (((b8.ext e9).ext e10).ext hy26) rfl rfl ?_
        exact WL_nil ⟨(Ext.refl _), rfl⟩
      apply AnyR_val [40, 44, 45] rfl (by kernel_rfl)
      · --
        intro y27 hy27
        have zy27 := hy27.size
        refine AllV_v ?_
        refine AllV_v ?_
        refine AllV_v ?_
        refine AllV_nil ?_
        refine O_call enters11 rfl rfl rfl (ivcmp_c rfl (((((((hqA.ext e5).ext e6).chgBk (b5.ext e6) (by decide) q7).chgBk (b6.chg q7 (by first | assumption | omega)) (by decide) q8).ext e9).ext e10).ext hy27).nl rfl (((((((hsA.ext e5).ext e6).chgBk (b5.ext e6) (by decide) q7).chgBk (b6.chg q7 (by first | assumption | omega)) (by decide) q8).ext e9).ext e10).ext hy27).nl (by first | with_reducible assumption | exact dval_dman _ _ | exact dval_zero) (by first | with_reducible assumption | exact dval_dman _ _ | exact dval_zero) rfl (((((((htA.ext e5).ext e6).chgBk (b5.ext e6) (by decide) q7).chgBk (b6.chg q7 (by first | assumption | omega)) (by decide) q8).ext e9).ext e10).ext hy27).nl rfl (((((((hvA.ext e5).ext e6).chgBk (b5.ext e6) (by decide) q7).chgBk (b6.chg q7 (by first | assumption | omega)) (by decide) q8).ext e9).ext e10).ext hy27).nl (by first | with_reducible assumption | exact dval_dman _ _ | exact dval_zero) (by first | with_reducible assumption | exact dval_dman _ _ | exact dval_zero)) (fun v28 w28 e28 h28 => ?_)
        have z28 := e28.size
        obtain rfl := h28
        exact WL_nil ⟨e28, rfl⟩
      apply AnyR_val [40, 46] rfl (by kernel_rfl)
      · --
        intro y29 hy29
        have zy29 := hy29.size
        refine AllV_v ?_
        refine AllV_v ?_
        refine AllV_nil ?_
        refine O_neg (r := (-(ivcmp X E Y F Z G U H))) rfl rfl rfl (by rw [IntKind.wrap_i64]; omega) ?_
        exact WL_nil ⟨(Ext.refl _), rfl⟩
      apply AnyR_val [40, 43, 47] rfl (by kernel_rfl)
      · --
        intro y30 hy30
        have zy30 := hy30.size
        refine AllV_v ?_
        refine AllV_v ?_
        refine AllV_v ?_
        refine AllV_nil ?_
        refine O_eql (t := true) rfl rfl rfl rfl (decide_eq_true (ivcmp_swap hX hY hZ hU hXY hZU)) ?_
        exact WL_nil ⟨(Ext.refl _), rfl⟩
      apply AnyR_val [40, 48] rfl (by kernel_rfl)
      · --
        intro y31 hy31
        have zy31 := hy31.size
        refine AllV_v ?_
        refine AllV_v ?_
        refine AllV_nil ?_
        refine O_pickT rfl rfl rfl rfl ?_
        exact WL_nil ⟨(Ext.refl _), rfl⟩
      apply AnyR_val [49] rfl (by kernel_rfl)
      · --
        intro y32 hy32
        have zy32 := hy32.size
        refine AllV_v ?_
        refine AllV_nil ?_
        refine O_move rfl rfl rfl ?_
        exact WL_nil ⟨(Ext.refl _), rfl⟩
      apply AnyR_val [50, 8] rfl (by kernel_rfl)
      · --
        intro y33 hy33
        have zy33 := hy33.size
        refine AllV_v ?_
        refine AllV_nil ?_
        refine O_move rfl rfl rfl ?_
        exact WL_nil ⟨(Ext.refl _), rfl⟩
      apply AnyR_val [50, 10] rfl (by kernel_rfl)
      · --
        intro y34 hy34
        have zy34 := hy34.size
        refine AllV_v ?_
        refine AllV_nil ?_
        refine O_move rfl rfl rfl ?_
        exact WL_nil ⟨(Ext.refl _), rfl⟩
      apply AnyR_val [50, 51, 52] rfl (by kernel_rfl)
      · --
        intro y35 hy35
        have zy35 := hy35.size
        refine AllV_v ?_
        refine AllV_v ?_
        refine AllV_v ?_
        refine AllV_nil ?_
        refine O_eql (t := true) rfl rfl rfl rfl (decide_eq_true rfl) ?_
        exact WL_nil ⟨(Ext.refl _), rfl⟩
      apply AnyR_val [50, 53] rfl (by kernel_rfl)
      · --
        intro y36 hy36
        have zy36 := hy36.size
        refine AllV_v ?_
        refine AllV_v ?_
        refine AllV_nil ?_
        refine O_pickT rfl rfl rfl rfl ?_
        exact WL_nil ⟨(Ext.refl _), rfl⟩
      apply AnyR_val [54] rfl (by kernel_rfl)
      · --
        intro y37 hy37
        have zy37 := hy37.size
        refine AllV_v ?_
        refine AllV_nil ?_
        refine O_move rfl rfl rfl ?_
        exact WL_nil ⟨(Ext.refl _), rfl⟩
      apply AnyR_val [55, 9] rfl (by kernel_rfl)
      · --
        intro y38 hy38
        have zy38 := hy38.size
        refine AllV_v ?_
        refine AllV_nil ?_
        refine O_move rfl rfl rfl ?_
        exact WL_nil ⟨(Ext.refl _), rfl⟩
      apply AnyR_val [55, 11] rfl (by kernel_rfl)
      · --
        intro y39 hy39
        have zy39 := hy39.size
        refine AllV_v ?_
        refine AllV_nil ?_
        refine O_move rfl rfl rfl ?_
        exact WL_nil ⟨(Ext.refl _), rfl⟩
      apply AnyR_val [55, 56, 57] rfl (by kernel_rfl)
      · --
        intro y40 hy40
        have zy40 := hy40.size
        refine AllV_v ?_
        refine AllV_v ?_
        refine AllV_v ?_
        refine AllV_nil ?_
        refine O_beql Try.underlying4 (t := true) rfl rfl rfl rfl (beq_self_eq_true _) ?_
        exact WL_nil ⟨(Ext.refl _), rfl⟩
      apply AnyR_val [55, 58] rfl (by kernel_rfl)
      · --
        intro y41 hy41
        have zy41 := hy41.size
        refine AllV_v ?_
        refine AllV_v ?_
        refine AllV_nil ?_
        refine O_pickT rfl rfl rfl rfl ?_
        exact WL_nil ⟨(Ext.refl _), rfl⟩
      apply AnyR_val [59] rfl (by kernel_rfl)
      · --
        intro y42 hy42
        have zy42 := hy42.size
        refine AllV_v ?_
        refine AllV_nil ?_
        refine O_move rfl rfl rfl ?_
        exact WL_nil ⟨(Ext.refl _), rfl⟩
      apply AnyR_val [60, 5] rfl (by kernel_rfl)
      · --
        intro y43 hy43
        have zy43 := hy43.size
        refine AllV_v ?_
        refine AllV_nil ?_
        refine O_loadA (vs := [_, _, _, _, _, _]) S28 rfl rfl rfl ((((b7.chg q8 (by first | assumption | omega)).ext e9).ext e10).ext hy43) rfl rfl ?_
        exact WL_nil ⟨(Ext.refl _), rfl⟩
      apply AnyR_rel (RelP (pAgg [pEq _, pNo w10.heap.size 93 _, pEq _, pEq _, pNo w10.heap.size 93 _, pEq _])) [60] rfl (RelP.mono (pAgg_mono (PsM.cons pEq_mono (PsM.cons pNo_mono (PsM.cons pEq_mono (PsM.cons pEq_mono (PsM.cons pNo_mono (PsM.cons pEq_mono PsM.nil)))))))) (by kernel_rfl)
      · --
        intro y44 hy44
        have zy44 := hy44.size
        refine AllV_v ?_
        refine AllV_nil ?_
        refine O_call enters13 rfl rfl rfl (of10_c (by (try simp only [val_dig, List.length_take, List.length_nil, List.length_cons, List.length_append, List.length_replicate, List.length_set, List.length_map, List.length_drop]); omega) (by (try simp only [val_dig, List.length_take, List.length_nil, List.length_cons, List.length_append, List.length_replicate, List.length_set, List.length_map, List.length_drop]); omega) (by (try simp only [val_dig, List.length_take, List.length_nil, List.length_cons, List.length_append, List.length_replicate, List.length_set, List.length_map, List.length_drop]); omega) (by (try simp only [val_dig, List.length_take, List.length_nil, List.length_cons, List.length_append, List.length_replicate, List.length_set, List.length_map, List.length_drop]); omega)) (fun v45 w45 e45 h45 => ?_)
        have z45 := e45.size
        try simp only [val_dig] at h45
        obtain ⟨mq45, ms45, rfl, hmq45, hms45⟩ := h45
        simp only [made0] at hmq45 hms45 ⊢
        exact WL_nil ⟨e45, _, rfl, ⟨_, rfl, (AllP.cons rfl (AllP.cons (hmq45.mono (by omega)) (AllP.cons rfl (AllP.cons rfl (AllP.cons (hms45.mono (by omega)) (AllP.cons rfl AllP.nil))))))⟩⟩
      apply AnyR_val [60, 61, 62] rfl (by kernel_rfl)
      · --
        intro y46 hy46
        have zy46 := hy46.size
        refine AllV_v ?_
        refine AllV_v ?_
        refine AllV_r fun a47 b47 v47 la47 lb47 lc47 h47 ap47 => ?_
        clear ap47
        obtain ⟨_, rfl, v47_0, _, rfl, rfl, v47_1, _, rfl, h47_1, v47_2, _, rfl, rfl, v47_3, _, rfl, rfl, v47_4, _, rfl, h47_4, v47_5, _, rfl, rfl, rfl⟩ := h47
        refine AllV_nil ?_
        refine O_call enters11 rfl rfl rfl (ivcmp_c rfl (((((((hqA.ext e5).ext e6).chgBk (b5.ext e6) (by decide) q7).chgBk (b6.chg q7 (by first | assumption | omega)) (by decide) q8).ext e9).ext e10).ext hy46).nl rfl (((((((hsA.ext e5).ext e6).chgBk (b5.ext e6) (by decide) q7).chgBk (b6.chg q7 (by first | assumption | omega)) (by decide) q8).ext e9).ext e10).ext hy46).nl (by first | with_reducible assumption | exact dval_dman _ _ | exact dval_zero) (by first | with_reducible assumption | exact dval_dman _ _ | exact dval_zero) rfl h47_1.nl rfl h47_4.nl (by first | with_reducible assumption | exact dval_dman _ _ | exact dval_zero) (by first | with_reducible assumption | exact dval_dman _ _ | exact dval_zero)) (fun v48 w48 e48 h48 => ?_)
        have z48 := e48.size
        obtain rfl := h48
        exact WL_nil ⟨e48, rfl⟩
      apply AnyR_val [60, 63] rfl (by kernel_rfl)
      · --
        intro y49 hy49
        have zy49 := hy49.size
        refine AllV_v ?_
        refine AllV_v ?_
        refine AllV_nil ?_
        refine O_eql rfl rfl rfl rfl rfl ?_
        exact WL_nil ⟨(Ext.refl _), rfl⟩
      apply AnyR_val [60, 9] rfl (by kernel_rfl)
      · --
        intro y50 hy50
        have zy50 := hy50.size
        refine AllV_v ?_
        refine AllV_nil ?_
        refine O_move rfl rfl rfl ?_
        exact WL_nil ⟨(Ext.refl _), rfl⟩
      apply AnyR_val [60, 65] rfl (by kernel_rfl)
      · --
        intro y51 hy51
        have zy51 := hy51.size
        refine AllV_v ?_
        refine AllV_v ?_
        refine AllV_nil ?_
        refine O_not rfl rfl rfl rfl ?_
        exact WL_nil ⟨(Ext.refl _), rfl⟩
      apply AnyR_val [60, 66] rfl (by kernel_rfl)
      · --
        intro y52 hy52
        have zy52 := hy52.size
        refine AllV_v ?_
        refine AllV_v ?_
        refine AllV_nil ?_
        refine O_move rfl rfl rfl ?_
        exact WL_nil ⟨(Ext.refl _), rfl⟩
      apply AnyR_val [67, 8] rfl (by kernel_rfl)
      · --
        intro y53 hy53
        have zy53 := hy53.size
        refine AllV_v ?_
        refine AllV_nil ?_
        refine O_move rfl rfl rfl ?_
        exact WL_nil ⟨(Ext.refl _), rfl⟩
      apply AnyR_val [67, 68] rfl (by kernel_rfl)
      · --
        intro y54 hy54
        have zy54 := hy54.size
        refine AllV_v ?_
        refine AllV_v ?_
        refine AllV_nil ?_
        refine O_eql rfl rfl rfl rfl rfl ?_
        exact WL_nil ⟨(Ext.refl _), rfl⟩
      apply AnyR_val [60, 67, 69] rfl (by kernel_rfl)
      · --
        intro y55 hy55
        have zy55 := hy55.size
        refine AllV_v ?_
        refine AllV_v ?_
        refine AllV_v ?_
        refine AllV_nil ?_
        refine O_pickF rfl rfl rfl rfl ?_
        exact WL_nil ⟨(Ext.refl _), rfl⟩
      apply AnyR_val [60, 64, 70] rfl (by kernel_rfl)
      · --
        intro y56 hy56
        have zy56 := hy56.size
        refine AllV_v ?_
        refine AllV_v ?_
        refine AllV_v ?_
        refine AllV_nil ?_
        refine O_beql Try.underlying4 (t := true) rfl rfl rfl rfl (by rw [hsg, if_pos hss]; simp) ?_
        exact WL_nil ⟨(Ext.refl _), rfl⟩
      apply AnyR_val [60, 71] rfl (by kernel_rfl)
      · --
        intro y57 hy57
        have zy57 := hy57.size
        refine AllV_v ?_
        refine AllV_v ?_
        refine AllV_nil ?_
        refine O_pickT rfl rfl rfl rfl ?_
        exact WL_nil ⟨(Ext.refl _), rfl⟩
      refine AnyR_nil fun y58 hy58 => ?_
      have zy58 := hy58.size
      refine AllV_v ?_
      refine AllV_v ?_
      refine AllV_v ?_
      refine AllV_v ?_
      refine AllV_v ?_
      refine AllV_v ?_
      refine AllV_v ?_
      refine AllV_v ?_
      refine AllV_v ?_
      refine AllV_v ?_
      refine AllV_v ?_
      refine AllV_v ?_
      refine AllV_v ?_
      refine AllV_v ?_
      refine AllV_v ?_
      refine AllV_v ?_
      refine AllV_v ?_
      refine AllV_v ?_
      refine AllV_v ?_
      refine AllV_v ?_
      refine AllV_v ?_
      refine AllV_v ?_
      refine AllV_v ?_
      refine AllV_v ?_
      refine AllV_v ?_
      refine AllV_v ?_
      refine AllV_v ?_
      refine AllV_v ?_
      refine AllV_v ?_
      refine AllV_r fun a59 b59 v59 la59 lb59 lc59 h59 ap59 => ?_
      clear ap59
      obtain ⟨_, rfl, v59_0, _, rfl, rfl, v59_1, _, rfl, h59_1, v59_2, _, rfl, rfl, v59_3, _, rfl, rfl, v59_4, _, rfl, h59_4, v59_5, _, rfl, rfl, rfl⟩ := h59
      refine AllV_v ?_
      refine AllV_v ?_
      refine AllV_v ?_
      refine AllV_v ?_
      refine AllV_v ?_
      refine AllV_v ?_
      refine AllV_v ?_
      refine AllV_v ?_
      refine AllV_v ?_
      refine AllV_v ?_
      refine AllV_nil ?_
      refine O_assign rfl rfl rfl ?_
      refine WL_end [(4, _)] ⟨rfl, trivial⟩ ?_
      refine WP_ret ?_
      refine ret1 Try.results3 rfl ?_
      exact ⟨_, rfl, (((e8.trans e9).trans e10).trans hy58), rfl⟩
    · rw [decide_eq_false hss]
      rw [if_neg hss] at hsg
      refine WP_sub [(5, _), (6, _), (8, _), (9, _), (10, _), (11, _)] ⟨rfl, rfl, rfl, rfl, rfl, rfl, trivial⟩ ?_
      refine WP_anyR 40 [5, 6, 8, 9, 10, 11] mixed rfl (by kernel_rfl) ?_
      apply AnyR_val [5] rfl (by kernel_rfl)
      · --
        intro y60 hy60
        have zy60 := hy60.size
        refine AllV_nil ?_
        refine O_loadA (vs := [_, _, _, _, _, _]) S28 rfl rfl rfl ((((b7.chg q8 (by first | assumption | omega)).ext e9).ext e10).ext hy60) rfl rfl ?_
        exact WL_nil ⟨(Ext.refl _), rfl⟩
      apply AnyR_val [6] rfl (by kernel_rfl)
      · --
        intro y61 hy61
        have zy61 := hy61.size
        refine AllV_nil ?_
        refine O_loadA (vs := [_, _, _, _, _, _]) S28 rfl rfl rfl (((b8.ext e9).ext e10).ext hy61) rfl rfl ?_
        exact WL_nil ⟨(Ext.refl _), rfl⟩
      apply AnyR_val [33, 34] rfl (by kernel_rfl)
      · --
        intro y62 hy62
        have zy62 := hy62.size
        refine AllV_v ?_
        refine AllV_v ?_
        refine AllV_nil ?_
        refine O_call enters11 rfl rfl rfl (ivcmp_c rfl (((((((hqA.ext e5).ext e6).chgBk (b5.ext e6) (by decide) q7).chgBk (b6.chg q7 (by first | assumption | omega)) (by decide) q8).ext e9).ext e10).ext hy62).nl rfl (((((((hsA.ext e5).ext e6).chgBk (b5.ext e6) (by decide) q7).chgBk (b6.chg q7 (by first | assumption | omega)) (by decide) q8).ext e9).ext e10).ext hy62).nl (by first | with_reducible assumption | exact dval_dman _ _ | exact dval_zero) (by first | with_reducible assumption | exact dval_dman _ _ | exact dval_zero) rfl (((((((htA.ext e5).ext e6).chgBk (b5.ext e6) (by decide) q7).chgBk (b6.chg q7 (by first | assumption | omega)) (by decide) q8).ext e9).ext e10).ext hy62).nl rfl (((((((hvA.ext e5).ext e6).chgBk (b5.ext e6) (by decide) q7).chgBk (b6.chg q7 (by first | assumption | omega)) (by decide) q8).ext e9).ext e10).ext hy62).nl (by first | with_reducible assumption | exact dval_dman _ _ | exact dval_zero) (by first | with_reducible assumption | exact dval_dman _ _ | exact dval_zero)) (fun v63 w63 e63 h63 => ?_)
        have z63 := e63.size
        obtain rfl := h63
        exact WL_nil ⟨e63, rfl⟩
      apply AnyR_val [5] rfl (by kernel_rfl)
      · --
        intro y64 hy64
        have zy64 := hy64.size
        refine AllV_nil ?_
        refine O_loadA (vs := [_, _, _, _, _, _]) S28 rfl rfl rfl ((((b7.chg q8 (by first | assumption | omega)).ext e9).ext e10).ext hy64) rfl rfl ?_
        exact WL_nil ⟨(Ext.refl _), rfl⟩
      apply AnyR_val [6] rfl (by kernel_rfl)
      · --
        intro y65 hy65
        have zy65 := hy65.size
        refine AllV_nil ?_
        refine O_loadA (vs := [_, _, _, _, _, _]) S28 rfl rfl rfl (((b8.ext e9).ext e10).ext hy65) rfl rfl ?_
        exact WL_nil ⟨(Ext.refl _), rfl⟩
      apply AnyR_val [36, 37] rfl (by kernel_rfl)
      · --
        intro y66 hy66
        have zy66 := hy66.size
        refine AllV_v ?_
        refine AllV_v ?_
        refine AllV_nil ?_
        refine O_call enters12 rfl rfl rfl (rivcmp_c rfl (((((((hqA.ext e5).ext e6).chgBk (b5.ext e6) (by decide) q7).chgBk (b6.chg q7 (by first | assumption | omega)) (by decide) q8).ext e9).ext e10).ext hy66).nl rfl (((((((hsA.ext e5).ext e6).chgBk (b5.ext e6) (by decide) q7).chgBk (b6.chg q7 (by first | assumption | omega)) (by decide) q8).ext e9).ext e10).ext hy66).nl (by first | with_reducible assumption | exact dval_dman _ _ | exact dval_zero) (by first | with_reducible assumption | exact dval_dman _ _ | exact dval_zero) rfl (((((((htA.ext e5).ext e6).chgBk (b5.ext e6) (by decide) q7).chgBk (b6.chg q7 (by first | assumption | omega)) (by decide) q8).ext e9).ext e10).ext hy66).nl rfl (((((((hvA.ext e5).ext e6).chgBk (b5.ext e6) (by decide) q7).chgBk (b6.chg q7 (by first | assumption | omega)) (by decide) q8).ext e9).ext e10).ext hy66).nl (by first | with_reducible assumption | exact dval_dman _ _ | exact dval_zero) (by first | with_reducible assumption | exact dval_dman _ _ | exact dval_zero)) (fun v67 w67 e67 h67 => ?_)
        have z67 := e67.size
        obtain rfl := h67
        exact WL_nil ⟨e67, rfl⟩
      apply AnyR_val [35, 38] rfl (by kernel_rfl)
      · --
        intro y68 hy68
        have zy68 := hy68.size
        refine AllV_v ?_
        refine AllV_v ?_
        refine AllV_nil ?_
        refine O_eql (t := true) rfl rfl rfl rfl (decide_eq_true rfl) ?_
        exact WL_nil ⟨(Ext.refl _), rfl⟩
      apply AnyR_val [39] rfl (by kernel_rfl)
      · --
        intro y69 hy69
        have zy69 := hy69.size
        refine AllV_v ?_
        refine AllV_nil ?_
        refine O_move rfl rfl rfl ?_
        exact WL_nil ⟨(Ext.refl _), rfl⟩
      apply AnyR_val [40, 6] rfl (by kernel_rfl)
      · --
        intro y70 hy70
        have zy70 := hy70.size
        refine AllV_v ?_
        refine AllV_nil ?_
        refine O_loadA (vs := [_, _, _, _, _, _]) S28 rfl rfl rfl (((b8.ext e9).ext e10).ext hy70) rfl rfl ?_
        exact WL_nil ⟨(Ext.refl _), rfl⟩
      apply AnyR_val [40, 5] rfl (by kernel_rfl)
      · --
        intro y71 hy71
        have zy71 := hy71.size
        refine AllV_v ?_
        refine AllV_nil ?_
        refine O_loadA (vs := [_, _, _, _, _, _]) S28 rfl rfl rfl ((((b7.chg q8 (by first | assumption | omega)).ext e9).ext e10).ext hy71) rfl rfl ?_
        exact WL_nil ⟨(Ext.refl _), rfl⟩
      apply AnyR_val [40, 41, 42] rfl (by kernel_rfl)
      · --
        intro y72 hy72
        have zy72 := hy72.size
        refine AllV_v ?_
        refine AllV_v ?_
        refine AllV_v ?_
        refine AllV_nil ?_
        refine O_call enters11 rfl rfl rfl (ivcmp_c rfl (((((((htA.ext e5).ext e6).chgBk (b5.ext e6) (by decide) q7).chgBk (b6.chg q7 (by first | assumption | omega)) (by decide) q8).ext e9).ext e10).ext hy72).nl rfl (((((((hvA.ext e5).ext e6).chgBk (b5.ext e6) (by decide) q7).chgBk (b6.chg q7 (by first | assumption | omega)) (by decide) q8).ext e9).ext e10).ext hy72).nl (by first | with_reducible assumption | exact dval_dman _ _ | exact dval_zero) (by first | with_reducible assumption | exact dval_dman _ _ | exact dval_zero) rfl (((((((hqA.ext e5).ext e6).chgBk (b5.ext e6) (by decide) q7).chgBk (b6.chg q7 (by first | assumption | omega)) (by decide) q8).ext e9).ext e10).ext hy72).nl rfl (((((((hsA.ext e5).ext e6).chgBk (b5.ext e6) (by decide) q7).chgBk (b6.chg q7 (by first | assumption | omega)) (by decide) q8).ext e9).ext e10).ext hy72).nl (by first | with_reducible assumption | exact dval_dman _ _ | exact dval_zero) (by first | with_reducible assumption | exact dval_dman _ _ | exact dval_zero)) (fun v73 w73 e73 h73 => ?_)
        have z73 := e73.size
        obtain rfl := h73
        exact WL_nil ⟨e73, rfl⟩
      apply AnyR_val [40, 5] rfl (by kernel_rfl)
      · --
        intro y74 hy74
        have zy74 := hy74.size
        refine AllV_v ?_
        refine AllV_nil ?_
        refine O_loadA (vs := [_, _, _, _, _, _]) S28 rfl rfl rfl ((((b7.chg q8 (by first | assumption | omega)).ext e9).ext e10).ext hy74) rfl rfl ?_
        exact WL_nil ⟨(Ext.refl _), rfl⟩
      apply AnyR_val [40, 6] rfl (by kernel_rfl)
      · --
        intro y75 hy75
        have zy75 := hy75.size
        refine AllV_v ?_
        refine AllV_nil ?_
        refine O_loadA (vs := [_, _, _, _, _, _]) S28 rfl rfl rfl (((b8.ext e9).ext e10).ext hy75) rfl rfl ?_
        exact WL_nil ⟨(Ext.refl _), rfl⟩
      apply AnyR_val [40, 44, 45] rfl (by kernel_rfl)
      · --
        intro y76 hy76
        have zy76 := hy76.size
        refine AllV_v ?_
        refine AllV_v ?_
        refine AllV_v ?_
        refine AllV_nil ?_
        refine O_call enters11 rfl rfl rfl (ivcmp_c rfl (((((((hqA.ext e5).ext e6).chgBk (b5.ext e6) (by decide) q7).chgBk (b6.chg q7 (by first | assumption | omega)) (by decide) q8).ext e9).ext e10).ext hy76).nl rfl (((((((hsA.ext e5).ext e6).chgBk (b5.ext e6) (by decide) q7).chgBk (b6.chg q7 (by first | assumption | omega)) (by decide) q8).ext e9).ext e10).ext hy76).nl (by first | with_reducible assumption | exact dval_dman _ _ | exact dval_zero) (by first | with_reducible assumption | exact dval_dman _ _ | exact dval_zero) rfl (((((((htA.ext e5).ext e6).chgBk (b5.ext e6) (by decide) q7).chgBk (b6.chg q7 (by first | assumption | omega)) (by decide) q8).ext e9).ext e10).ext hy76).nl rfl (((((((hvA.ext e5).ext e6).chgBk (b5.ext e6) (by decide) q7).chgBk (b6.chg q7 (by first | assumption | omega)) (by decide) q8).ext e9).ext e10).ext hy76).nl (by first | with_reducible assumption | exact dval_dman _ _ | exact dval_zero) (by first | with_reducible assumption | exact dval_dman _ _ | exact dval_zero)) (fun v77 w77 e77 h77 => ?_)
        have z77 := e77.size
        obtain rfl := h77
        exact WL_nil ⟨e77, rfl⟩
      apply AnyR_val [40, 46] rfl (by kernel_rfl)
      · --
        intro y78 hy78
        have zy78 := hy78.size
        refine AllV_v ?_
        refine AllV_v ?_
        refine AllV_nil ?_
        refine O_neg (r := (-(ivcmp X E Y F Z G U H))) rfl rfl rfl (by rw [IntKind.wrap_i64]; omega) ?_
        exact WL_nil ⟨(Ext.refl _), rfl⟩
      apply AnyR_val [40, 43, 47] rfl (by kernel_rfl)
      · --
        intro y79 hy79
        have zy79 := hy79.size
        refine AllV_v ?_
        refine AllV_v ?_
        refine AllV_v ?_
        refine AllV_nil ?_
        refine O_eql (t := true) rfl rfl rfl rfl (decide_eq_true (ivcmp_swap hX hY hZ hU hXY hZU)) ?_
        exact WL_nil ⟨(Ext.refl _), rfl⟩
      apply AnyR_val [40, 48] rfl (by kernel_rfl)
      · --
        intro y80 hy80
        have zy80 := hy80.size
        refine AllV_v ?_
        refine AllV_v ?_
        refine AllV_nil ?_
        refine O_pickT rfl rfl rfl rfl ?_
        exact WL_nil ⟨(Ext.refl _), rfl⟩
      apply AnyR_val [49] rfl (by kernel_rfl)
      · --
        intro y81 hy81
        have zy81 := hy81.size
        refine AllV_v ?_
        refine AllV_nil ?_
        refine O_move rfl rfl rfl ?_
        exact WL_nil ⟨(Ext.refl _), rfl⟩
      apply AnyR_val [50, 8] rfl (by kernel_rfl)
      · --
        intro y82 hy82
        have zy82 := hy82.size
        refine AllV_v ?_
        refine AllV_nil ?_
        refine O_move rfl rfl rfl ?_
        exact WL_nil ⟨(Ext.refl _), rfl⟩
      apply AnyR_val [50, 10] rfl (by kernel_rfl)
      · --
        intro y83 hy83
        have zy83 := hy83.size
        refine AllV_v ?_
        refine AllV_nil ?_
        refine O_move rfl rfl rfl ?_
        exact WL_nil ⟨(Ext.refl _), rfl⟩
      apply AnyR_val [50, 51, 52] rfl (by kernel_rfl)
      · --
        intro y84 hy84
        have zy84 := hy84.size
        refine AllV_v ?_
        refine AllV_v ?_
        refine AllV_v ?_
        refine AllV_nil ?_
        refine O_eql (t := true) rfl rfl rfl rfl (decide_eq_true rfl) ?_
        exact WL_nil ⟨(Ext.refl _), rfl⟩
      apply AnyR_val [50, 53] rfl (by kernel_rfl)
      · --
        intro y85 hy85
        have zy85 := hy85.size
        refine AllV_v ?_
        refine AllV_v ?_
        refine AllV_nil ?_
        refine O_pickT rfl rfl rfl rfl ?_
        exact WL_nil ⟨(Ext.refl _), rfl⟩
      apply AnyR_val [54] rfl (by kernel_rfl)
      · --
        intro y86 hy86
        have zy86 := hy86.size
        refine AllV_v ?_
        refine AllV_nil ?_
        refine O_move rfl rfl rfl ?_
        exact WL_nil ⟨(Ext.refl _), rfl⟩
      apply AnyR_val [55, 9] rfl (by kernel_rfl)
      · --
        intro y87 hy87
        have zy87 := hy87.size
        refine AllV_v ?_
        refine AllV_nil ?_
        refine O_move rfl rfl rfl ?_
        exact WL_nil ⟨(Ext.refl _), rfl⟩
      apply AnyR_val [55, 11] rfl (by kernel_rfl)
      · --
        intro y88 hy88
        have zy88 := hy88.size
        refine AllV_v ?_
        refine AllV_nil ?_
        refine O_move rfl rfl rfl ?_
        exact WL_nil ⟨(Ext.refl _), rfl⟩
      apply AnyR_val [55, 56, 57] rfl (by kernel_rfl)
      · --
        intro y89 hy89
        have zy89 := hy89.size
        refine AllV_v ?_
        refine AllV_v ?_
        refine AllV_v ?_
        refine AllV_nil ?_
        refine O_beql Try.underlying4 (t := true) rfl rfl rfl rfl (beq_self_eq_true _) ?_
        exact WL_nil ⟨(Ext.refl _), rfl⟩
      apply AnyR_val [55, 58] rfl (by kernel_rfl)
      · --
        intro y90 hy90
        have zy90 := hy90.size
        refine AllV_v ?_
        refine AllV_v ?_
        refine AllV_nil ?_
        refine O_pickT rfl rfl rfl rfl ?_
        exact WL_nil ⟨(Ext.refl _), rfl⟩
      apply AnyR_val [59] rfl (by kernel_rfl)
      · --
        intro y91 hy91
        have zy91 := hy91.size
        refine AllV_v ?_
        refine AllV_nil ?_
        refine O_move rfl rfl rfl ?_
        exact WL_nil ⟨(Ext.refl _), rfl⟩
      apply AnyR_val [60, 5] rfl (by kernel_rfl)
      · --
        intro y92 hy92
        have zy92 := hy92.size
        refine AllV_v ?_
        refine AllV_nil ?_
        refine O_loadA (vs := [_, _, _, _, _, _]) S28 rfl rfl rfl ((((b7.chg q8 (by first | assumption | omega)).ext e9).ext e10).ext hy92) rfl rfl ?_
        exact WL_nil ⟨(Ext.refl _), rfl⟩
      apply AnyR_rel (RelP (pAgg [pEq _, pNo w10.heap.size 93 _, pEq _, pEq _, pNo w10.heap.size 93 _, pEq _])) [60] rfl (RelP.mono (pAgg_mono (PsM.cons pEq_mono (PsM.cons pNo_mono (PsM.cons pEq_mono (PsM.cons pEq_mono (PsM.cons pNo_mono (PsM.cons pEq_mono PsM.nil)))))))) (by kernel_rfl)
      · --
        intro y93 hy93
        have zy93 := hy93.size
        refine AllV_v ?_
        refine AllV_nil ?_
        refine O_call enters13 rfl rfl rfl (of10_c (by (try simp only [val_dig, List.length_take, List.length_nil, List.length_cons, List.length_append, List.length_replicate, List.length_set, List.length_map, List.length_drop]); omega) (by (try simp only [val_dig, List.length_take, List.length_nil, List.length_cons, List.length_append, List.length_replicate, List.length_set, List.length_map, List.length_drop]); omega) (by (try simp only [val_dig, List.length_take, List.length_nil, List.length_cons, List.length_append, List.length_replicate, List.length_set, List.length_map, List.length_drop]); omega) (by (try simp only [val_dig, List.length_take, List.length_nil, List.length_cons, List.length_append, List.length_replicate, List.length_set, List.length_map, List.length_drop]); omega)) (fun v94 w94 e94 h94 => ?_)
        have z94 := e94.size
        try simp only [val_dig] at h94
        obtain ⟨mq94, ms94, rfl, hmq94, hms94⟩ := h94
        simp only [made0] at hmq94 hms94 ⊢
        exact WL_nil ⟨e94, _, rfl, ⟨_, rfl, (AllP.cons rfl (AllP.cons (hmq94.mono (by omega)) (AllP.cons rfl (AllP.cons rfl (AllP.cons (hms94.mono (by omega)) (AllP.cons rfl AllP.nil))))))⟩⟩
      apply AnyR_val [60, 61, 62] rfl (by kernel_rfl)
      · --
        intro y95 hy95
        have zy95 := hy95.size
        refine AllV_v ?_
        refine AllV_v ?_
        refine AllV_r fun a96 b96 v96 la96 lb96 lc96 h96 ap96 => ?_
        clear ap96
        obtain ⟨_, rfl, v96_0, _, rfl, rfl, v96_1, _, rfl, h96_1, v96_2, _, rfl, rfl, v96_3, _, rfl, rfl, v96_4, _, rfl, h96_4, v96_5, _, rfl, rfl, rfl⟩ := h96
        refine AllV_nil ?_
        refine O_call enters11 rfl rfl rfl (ivcmp_c rfl (((((((hqA.ext e5).ext e6).chgBk (b5.ext e6) (by decide) q7).chgBk (b6.chg q7 (by first | assumption | omega)) (by decide) q8).ext e9).ext e10).ext hy95).nl rfl (((((((hsA.ext e5).ext e6).chgBk (b5.ext e6) (by decide) q7).chgBk (b6.chg q7 (by first | assumption | omega)) (by decide) q8).ext e9).ext e10).ext hy95).nl (by first | with_reducible assumption | exact dval_dman _ _ | exact dval_zero) (by first | with_reducible assumption | exact dval_dman _ _ | exact dval_zero) rfl h96_1.nl rfl h96_4.nl (by first | with_reducible assumption | exact dval_dman _ _ | exact dval_zero) (by first | with_reducible assumption | exact dval_dman _ _ | exact dval_zero)) (fun v97 w97 e97 h97 => ?_)
        have z97 := e97.size
        obtain rfl := h97
        exact WL_nil ⟨e97, rfl⟩
      apply AnyR_val [60, 63] rfl (by kernel_rfl)
      · --
        intro y98 hy98
        have zy98 := hy98.size
        refine AllV_v ?_
        refine AllV_v ?_
        refine AllV_nil ?_
        refine O_eql rfl rfl rfl rfl rfl ?_
        exact WL_nil ⟨(Ext.refl _), rfl⟩
      apply AnyR_val [60, 9] rfl (by kernel_rfl)
      · --
        intro y99 hy99
        have zy99 := hy99.size
        refine AllV_v ?_
        refine AllV_nil ?_
        refine O_move rfl rfl rfl ?_
        exact WL_nil ⟨(Ext.refl _), rfl⟩
      apply AnyR_val [60, 65] rfl (by kernel_rfl)
      · --
        intro y100 hy100
        have zy100 := hy100.size
        refine AllV_v ?_
        refine AllV_v ?_
        refine AllV_nil ?_
        refine O_not rfl rfl rfl rfl ?_
        exact WL_nil ⟨(Ext.refl _), rfl⟩
      apply AnyR_val [60, 66] rfl (by kernel_rfl)
      · --
        intro y101 hy101
        have zy101 := hy101.size
        refine AllV_v ?_
        refine AllV_v ?_
        refine AllV_nil ?_
        refine O_move rfl rfl rfl ?_
        exact WL_nil ⟨(Ext.refl _), rfl⟩
      apply AnyR_val [67, 8] rfl (by kernel_rfl)
      · --
        intro y102 hy102
        have zy102 := hy102.size
        refine AllV_v ?_
        refine AllV_nil ?_
        refine O_skip rfl rfl ?_
        exact WL_nil ⟨(Ext.refl _), rfl⟩
      apply AnyR_val [67, 68] rfl (by kernel_rfl)
      · --
        intro y103 hy103
        have zy103 := hy103.size
        refine AllV_v ?_
        refine AllV_v ?_
        refine AllV_nil ?_
        refine O_skip rfl rfl ?_
        exact WL_nil ⟨(Ext.refl _), rfl⟩
      apply AnyR_val [60, 67, 69] rfl (by kernel_rfl)
      · --
        intro y104 hy104
        have zy104 := hy104.size
        refine AllV_v ?_
        refine AllV_v ?_
        refine AllV_v ?_
        refine AllV_nil ?_
        refine O_pickT rfl rfl rfl rfl ?_
        exact WL_nil ⟨(Ext.refl _), rfl⟩
      apply AnyR_val [60, 64, 70] rfl (by kernel_rfl)
      · --
        intro y105 hy105
        have zy105 := hy105.size
        refine AllV_v ?_
        refine AllV_v ?_
        refine AllV_v ?_
        refine AllV_nil ?_
        refine O_beql Try.underlying4 (t := true) rfl rfl rfl rfl (by rw [hsg]; rfl) ?_
        exact WL_nil ⟨(Ext.refl _), rfl⟩
      apply AnyR_val [60, 71] rfl (by kernel_rfl)
      · --
        intro y106 hy106
        have zy106 := hy106.size
        refine AllV_v ?_
        refine AllV_v ?_
        refine AllV_nil ?_
        refine O_pickT rfl rfl rfl rfl ?_
        exact WL_nil ⟨(Ext.refl _), rfl⟩
      refine AnyR_nil fun y107 hy107 => ?_
      have zy107 := hy107.size
      refine AllV_v ?_
      refine AllV_v ?_
      refine AllV_v ?_
      refine AllV_v ?_
      refine AllV_v ?_
      refine AllV_v ?_
      refine AllV_v ?_
      refine AllV_v ?_
      refine AllV_v ?_
      refine AllV_v ?_
      refine AllV_v ?_
      refine AllV_v ?_
      refine AllV_v ?_
      refine AllV_v ?_
      refine AllV_v ?_
      refine AllV_v ?_
      refine AllV_v ?_
      refine AllV_v ?_
      refine AllV_v ?_
      refine AllV_v ?_
      refine AllV_v ?_
      refine AllV_v ?_
      refine AllV_v ?_
      refine AllV_v ?_
      refine AllV_v ?_
      refine AllV_v ?_
      refine AllV_v ?_
      refine AllV_v ?_
      refine AllV_v ?_
      refine AllV_r fun a108 b108 v108 la108 lb108 lc108 h108 ap108 => ?_
      clear ap108
      obtain ⟨_, rfl, v108_0, _, rfl, rfl, v108_1, _, rfl, h108_1, v108_2, _, rfl, rfl, v108_3, _, rfl, rfl, v108_4, _, rfl, h108_4, v108_5, _, rfl, rfl, rfl⟩ := h108
      refine AllV_v ?_
      refine AllV_v ?_
      refine AllV_v ?_
      refine AllV_v ?_
      refine AllV_v ?_
      refine AllV_v ?_
      refine AllV_v ?_
      refine AllV_v ?_
      refine AllV_v ?_
      refine AllV_v ?_
      refine AllV_nil ?_
      refine O_assign rfl rfl rfl ?_
      refine WL_end [(4, _)] ⟨rfl, trivial⟩ ?_
      refine WP_ret ?_
      refine ret1 Try.results3 rfl ?_
      exact ⟨_, rfl, (((e8.trans e9).trans e10).trans hy107), rfl⟩

end Go.Proofs.Ythbfhljpfkicpaa
