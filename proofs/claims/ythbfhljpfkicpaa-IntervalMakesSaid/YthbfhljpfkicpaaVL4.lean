/-
  Walks.
-/
import Derived.Test.YthbfhljpfkicpaaV6
set_option linter.unusedVariables false
set_option linter.unusedSimpArgs false
set_option maxRecDepth 100000
namespace Go.Proofs.Ythbfhljpfkicpaa
open Go Go.RowKit
set_option maxHeartbeats 4000000 in
theorem law_IM_T {w : World} {vx vy : Value} {x y e f : Int} {bx by_ : Bool} (hbx : bx = decide (x < 0)) (hx : Nl w vx (dig x.natAbs)) (hby : by_ = decide (y < 0)) (hy : Nl w vy (dig y.natAbs)) (hvx : dval x e = true) (hvy : dval y f = true) (hr : dcmp x e y f ≤ 0) {vz vu : Value} {lz lu : List Nat} {bz bu : Bool} {g h : Int} (hz : Nl w vz lz) (hu : Nl w vu lu) :
    Calls Try.prog 4 #[.agg #[.bool bx, vx, .int .i64 e, .bool by_, vy, .int .i64 f], .agg #[.bool bz, vz, .int .i64 g], .agg #[.bool bu, vu, .int .i64 h]] w (Ret w fun r _ => r = .bool true) := by
  subst hbx
  subst hby
  have hRx := dval_range hvx
  have hlx : (dig x.natAbs).length ≤ 2049 := dval_len hvx
  have hRy := dval_range hvy
  have hly : (dig y.natAbs).length ≤ 2049 := dval_len hvy
  refine enter (args := [_, _, _]) Try.func4 rfl Try.ntmps4 rfl ?_
  refine WP_seq ?_
  refine WP_region ?_
  refine O_box _ rfl rfl rfl rfl (fun g1 w1 b1 e1 gl1 gh1 => ?_)
  have z1 := e1.size
  refine O_box _ rfl rfl rfl rfl (fun g2 w2 b2 e2 gl2 gh2 => ?_)
  have z2 := e2.size
  refine O_box _ rfl rfl rfl rfl (fun g3 w3 b3 e3 gl3 gh3 => ?_)
  have z3 := e3.size
  refine O_assign rfl rfl rfl ?_
  refine WL_end [(3, _), (4, _), (5, _)] ⟨rfl, rfl, rfl, trivial⟩ ?_
  refine WP_seq ?_
  refine WP_seq ?_
  refine WP_region ?_
  refine O_call enters7 rfl rfl rfl (awake10_c) (fun v4 w4 e4 h4 => ?_)
  have z4 := e4.size
  obtain rfl := h4
  refine O_not rfl rfl rfl rfl ?_
  refine WL_end [(3, _), (4, _), (5, _), (14, _)] ⟨rfl, rfl, rfl, rfl, trivial⟩ ?_
  refine WP_condF rfl ?_
  refine WP_skip ?_
  refine WP_seq ?_
  refine WP_region ?_
  refine O_loadA (vs := [_, _, _]) S26 rfl rfl rfl ((b2.ext e3).ext e4) rfl rfl ?_
  refine O_call enters14 rfl rfl rfl (mdy_c (n := 5) (m := 60) (hz.ext (((e1.trans e2).trans e3).trans e4)) (by decide)) (fun v5 w5 e5 h5 => ?_)
  have z5 := e5.size
  try simp only [val_dig] at h5
  obtain ⟨XA, EA, qA, bA, rfl, hqA, hvA, hkA, hjA, hlA⟩ := h5
  refine O_move rfl rfl rfl ?_
  refine O_extract rfl rfl rfl rfl ?_
  refine O_extract rfl rfl rfl rfl ?_
  refine O_alloc S26 rfl rfl (fun g6 w6 b6 e6 gl6 gh6 => ?_)
  have z6 := e6.size
  refine O_storeA (cs' := [_, _, _]) S26 rfl rfl rfl b6 rfl rfl (one_cons rfl (one_cons ((hqA.ext e6).nl).one (one_cons rfl one_nil))) rfl (fun w7 b7 q7 => ?_)
  have z7 := Nat.le_of_eq q7.size.symm
  have e7 : Ext w w7 := q7.ext (((((e1.trans e2).trans e3).trans e4).trans e5).trans e6) (by omega)
  refine O_assign rfl rfl rfl ?_
  refine WL_end [(3, _), (5, _), (7, _), (8, _)] ⟨rfl, rfl, rfl, rfl, trivial⟩ ?_
  refine WP_seq ?_
  refine WP_region ?_
  refine O_loadA (vs := [_, _, _]) S26 rfl rfl rfl ((((b3.ext e4).ext e5).ext e6).chg q7 (by first | assumption | omega)) rfl rfl ?_
  refine O_call enters14 rfl rfl rfl (mdy_c (n := 5) (m := 60) (hu.ext e7) (by decide)) (fun v8 w8 e8 h8 => ?_)
  have z8 := e8.size
  try simp only [val_dig] at h8
  obtain ⟨XB, EB, qB, bB, rfl, hqB, hvB, hkB, hjB, hlB⟩ := h8
  refine O_move rfl rfl rfl ?_
  refine O_extract rfl rfl rfl rfl ?_
  refine O_extract rfl rfl rfl rfl ?_
  refine O_alloc S26 rfl rfl (fun g9 w9 b9 e9 gl9 gh9 => ?_)
  have z9 := e9.size
  refine O_storeA (cs' := [_, _, _]) S26 rfl rfl rfl b9 rfl rfl (one_cons rfl (one_cons ((hqB.ext e9).nl).one (one_cons rfl one_nil))) rfl (fun w10 b10 q10 => ?_)
  have z10 := Nat.le_of_eq q10.size.symm
  have e10 : Ext w w10 := q10.ext ((e7.trans e8).trans e9) (by omega)
  refine O_assign rfl rfl rfl ?_
  refine WL_end [(3, _), (7, _), (8, _), (9, _), (10, _)] ⟨rfl, rfl, rfl, rfl, rfl, trivial⟩ ?_
  refine WP_seq ?_
  refine WP_seq ?_
  refine WP_region ?_
  refine O_move rfl rfl rfl ?_
  refine O_not rfl rfl rfl rfl ?_
  refine O_move rfl rfl rfl ?_
  refine WL_bool 27 rfl (fun g27 => ?_) (fun g27 => ?_)
  · --
    refine O_skip rfl rfl ?_
    refine O_skip rfl rfl ?_
    refine O_pickT rfl rfl rfl rfl ?_
    refine O_move rfl rfl rfl ?_
    refine O_skip rfl rfl ?_
    refine O_skip rfl rfl ?_
    refine O_skip rfl rfl ?_
    refine O_skip rfl rfl ?_
    refine O_skip rfl rfl ?_
    refine O_skip rfl rfl ?_
    refine O_pickT rfl rfl rfl rfl ?_
    refine O_move rfl rfl rfl ?_
    refine O_skip rfl rfl ?_
    refine O_skip rfl rfl ?_
    refine O_skip rfl rfl ?_
    refine O_skip rfl rfl ?_
    refine O_skip rfl rfl ?_
    refine O_skip rfl rfl ?_
    refine O_pickT rfl rfl rfl rfl ?_
    refine WL_end [(3, _), (7, _), (9, _), (46, _)] ⟨rfl, rfl, rfl, rfl, trivial⟩ ?_
    refine WP_condT rfl ?_
    refine WP_seq ?_
    refine WP_region ?_
    refine O_assign rfl rfl rfl ?_
    refine WL_end [(6, _)] ⟨rfl, trivial⟩ ?_
    refine WP_ret ?_
    refine ret1 Try.results4 rfl ?_
    exact ⟨_, rfl, e10, rfl⟩
  · --
    refine O_move rfl rfl rfl ?_
    refine O_not rfl rfl rfl rfl ?_
    refine O_pickF rfl rfl rfl rfl ?_
    refine O_move rfl rfl rfl ?_
    refine WL_bool 31 rfl (fun g31 => ?_) (fun g31 => ?_)
    · --
      refine O_skip rfl rfl ?_
      refine O_skip rfl rfl ?_
      refine O_skip rfl rfl ?_
      refine O_skip rfl rfl ?_
      refine O_skip rfl rfl ?_
      refine O_skip rfl rfl ?_
      refine O_pickT rfl rfl rfl rfl ?_
      refine O_move rfl rfl rfl ?_
      refine O_skip rfl rfl ?_
      refine O_skip rfl rfl ?_
      refine O_skip rfl rfl ?_
      refine O_skip rfl rfl ?_
      refine O_skip rfl rfl ?_
      refine O_skip rfl rfl ?_
      refine O_pickT rfl rfl rfl rfl ?_
      refine WL_end [(3, _), (7, _), (9, _), (46, _)] ⟨rfl, rfl, rfl, rfl, trivial⟩ ?_
      refine WP_condT rfl ?_
      refine WP_seq ?_
      refine WP_region ?_
      refine O_assign rfl rfl rfl ?_
      refine WL_end [(6, _)] ⟨rfl, trivial⟩ ?_
      refine WP_ret ?_
      refine ret1 Try.results4 rfl ?_
      exact ⟨_, rfl, e10, rfl⟩
    · --
      refine O_field F28_0 rfl rfl rfl ?_
      refine O_field F26_0 rfl rfl rfl ?_
      refine O_field F24_1 rfl rfl rfl ?_
      refine O_loadC Try.underlying22 rfl rfl rfl rfl (((((((((b1.ext e2).ext e3).ext e4).ext e5).ext e6).chg q7 (by first | assumption | omega)).ext e8).ext e9).chg q10 (by first | assumption | omega)) rfl ?_
      refine N_len T22 rfl rfl rfl (hx.ext e10) ?_
      refine O_gtr rfl rfl rfl rfl rfl ?_
      refine O_pickF rfl rfl rfl rfl ?_
      refine O_move rfl rfl rfl ?_
      refine WL_dec 39 rfl (fun g39 => ?_) (fun g39 => ?_)
      · --
        refine O_skip rfl rfl ?_
        refine O_skip rfl rfl ?_
        refine O_skip rfl rfl ?_
        refine O_skip rfl rfl ?_
        refine O_skip rfl rfl ?_
        refine O_skip rfl rfl ?_
        refine O_pickT rfl rfl rfl rfl ?_
        refine WL_end [(3, _), (7, _), (9, _), (46, _)] ⟨rfl, rfl, rfl, rfl, trivial⟩ ?_
        refine WP_condT rfl ?_
        refine WP_seq ?_
        refine WP_region ?_
        refine O_assign rfl rfl rfl ?_
        refine WL_end [(6, _)] ⟨rfl, trivial⟩ ?_
        refine WP_ret ?_
        refine ret1 Try.results4 rfl ?_
        exact ⟨_, rfl, e10, rfl⟩
      · --
        refine O_field F28_1 rfl rfl rfl ?_
        refine O_field F26_0 rfl rfl rfl ?_
        refine O_field F24_1 rfl rfl rfl ?_
        refine O_loadC Try.underlying22 rfl rfl rfl rfl (((((((((b1.ext e2).ext e3).ext e4).ext e5).ext e6).chg q7 (by first | assumption | omega)).ext e8).ext e9).chg q10 (by first | assumption | omega)) rfl ?_
        refine N_len T22 rfl rfl rfl (hy.ext e10) ?_
        refine O_gtr rfl rfl rfl rfl rfl ?_
        refine O_pickF rfl rfl rfl rfl ?_
        refine WL_end [(3, _), (7, _), (9, _), (46, _)] ⟨rfl, rfl, rfl, rfl, trivial⟩ ?_
        refine WP_condD rfl (fun c46 => ?_) (fun c46 => ?_)
        · --
          refine WP_seq ?_
          refine WP_region ?_
          refine O_assign rfl rfl rfl ?_
          refine WL_end [(6, _)] ⟨rfl, trivial⟩ ?_
          refine WP_ret ?_
          refine ret1 Try.results4 rfl ?_
          exact ⟨_, rfl, e10, rfl⟩
        · --
          refine WP_skip ?_
          refine WP_seq ?_
          refine WP_seq ?_
          refine WP_sub [(3, _), (7, _), (9, _)] ⟨rfl, rfl, rfl, trivial⟩ ?_
          refine WP_anyR 25 [3, 7, 9] mixed rfl (by kernel_rfl) ?_
          apply AnyR_val [3] rfl (by kernel_rfl)
          · --
            intro y11 hy11
            have zy11 := hy11.size
            refine AllV_nil ?_
            refine O_field F28_0 rfl rfl rfl ?_
            exact WL_nil ⟨(Ext.refl _), rfl⟩
          apply AnyR_val [47] rfl (by kernel_rfl)
          · --
            intro y12 hy12
            have zy12 := hy12.size
            refine AllV_v ?_
            refine AllV_nil ?_
            refine O_loadA (vs := [_, _, _]) S26 rfl rfl rfl ((((((((((b1.ext e2).ext e3).ext e4).ext e5).ext e6).chg q7 (by first | assumption | omega)).ext e8).ext e9).chg q10 (by first | assumption | omega)).ext hy12) rfl rfl ?_
            exact WL_nil ⟨(Ext.refl _), rfl⟩
          apply AnyR_val [48] rfl (by kernel_rfl)
          · --
            intro y13 hy13
            have zy13 := hy13.size
            refine AllV_v ?_
            refine AllV_nil ?_
            refine O_call enters15 rfl rfl rfl (rdvalT_c rfl (hx.ext (e10.trans hy13)) (by (try simp only [val_dig, List.length_take, List.length_nil, List.length_cons, List.length_append, List.length_replicate, List.length_set, List.length_map, List.length_drop]); omega) (by first | with_reducible assumption | exact dval_dman _ _ | exact dval_zero)) (fun v14 w14 e14 h14 => ?_)
            have z14 := e14.size
            obtain rfl := h14
            exact WL_nil ⟨e14, rfl⟩
          apply AnyR_val [49] rfl (by kernel_rfl)
          · --
            intro y15 hy15
            have zy15 := hy15.size
            refine AllV_v ?_
            refine AllV_nil ?_
            refine O_move rfl rfl rfl ?_
            exact WL_nil ⟨(Ext.refl _), rfl⟩
          apply AnyR_val [50, 3] rfl (by kernel_rfl)
          · --
            intro y16 hy16
            have zy16 := hy16.size
            refine AllV_v ?_
            refine AllV_nil ?_
            refine O_field F28_1 rfl rfl rfl ?_
            exact WL_nil ⟨(Ext.refl _), rfl⟩
          apply AnyR_val [50, 51] rfl (by kernel_rfl)
          · --
            intro y17 hy17
            have zy17 := hy17.size
            refine AllV_v ?_
            refine AllV_v ?_
            refine AllV_nil ?_
            refine O_loadA (vs := [_, _, _]) S26 rfl rfl rfl ((((((((((b1.ext e2).ext e3).ext e4).ext e5).ext e6).chg q7 (by first | assumption | omega)).ext e8).ext e9).chg q10 (by first | assumption | omega)).ext hy17) rfl rfl ?_
            exact WL_nil ⟨(Ext.refl _), rfl⟩
          apply AnyR_val [50, 52] rfl (by kernel_rfl)
          · --
            intro y18 hy18
            have zy18 := hy18.size
            refine AllV_v ?_
            refine AllV_v ?_
            refine AllV_nil ?_
            refine O_call enters15 rfl rfl rfl (rdvalT_c rfl (hy.ext (e10.trans hy18)) (by (try simp only [val_dig, List.length_take, List.length_nil, List.length_cons, List.length_append, List.length_replicate, List.length_set, List.length_map, List.length_drop]); omega) (by first | with_reducible assumption | exact dval_dman _ _ | exact dval_zero)) (fun v19 w19 e19 h19 => ?_)
            have z19 := e19.size
            obtain rfl := h19
            exact WL_nil ⟨e19, rfl⟩
          apply AnyR_val [50, 53] rfl (by kernel_rfl)
          · --
            intro y20 hy20
            have zy20 := hy20.size
            refine AllV_v ?_
            refine AllV_v ?_
            refine AllV_nil ?_
            refine O_pickT rfl rfl rfl rfl ?_
            exact WL_nil ⟨(Ext.refl _), rfl⟩
          apply AnyR_val [54] rfl (by kernel_rfl)
          · --
            intro y21 hy21
            have zy21 := hy21.size
            refine AllV_v ?_
            refine AllV_nil ?_
            refine O_move rfl rfl rfl ?_
            exact WL_nil ⟨(Ext.refl _), rfl⟩
          apply AnyR_val [55, 3] rfl (by kernel_rfl)
          · --
            intro y22 hy22
            have zy22 := hy22.size
            refine AllV_v ?_
            refine AllV_nil ?_
            refine O_loadA (vs := [_, _, _, _, _, _]) S28 rfl rfl rfl ((((((((((b1.ext e2).ext e3).ext e4).ext e5).ext e6).chg q7 (by first | assumption | omega)).ext e8).ext e9).chg q10 (by first | assumption | omega)).ext hy22) rfl rfl ?_
            exact WL_nil ⟨(Ext.refl _), rfl⟩
          apply AnyR_val [55, 56] rfl (by kernel_rfl)
          · --
            intro y23 hy23
            have zy23 := hy23.size
            refine AllV_v ?_
            refine AllV_v ?_
            refine AllV_nil ?_
            refine O_call enters16 rfl rfl rfl (ivval_T rfl (hx.ext (e10.trans hy23)) rfl (hy.ext (e10.trans hy23)) (by first | with_reducible assumption | exact dval_dman _ _ | exact dval_zero | exact dval_dg (by assumption) (by assumption) | exact dval_dl (by assumption) (by assumption)) (by first | with_reducible assumption | exact dval_dman _ _ | exact dval_zero | exact dval_dg (by assumption) (by assumption) | exact dval_dl (by assumption) (by assumption)) hr) (fun v24 w24 e24 h24 => ?_)
            have z24 := e24.size
            obtain rfl := h24
            exact WL_nil ⟨e24, rfl⟩
          apply AnyR_val [55, 3] rfl (by kernel_rfl)
          · --
            intro y25 hy25
            have zy25 := hy25.size
            refine AllV_v ?_
            refine AllV_nil ?_
            refine O_loadA (vs := [_, _, _, _, _, _]) S28 rfl rfl rfl ((((((((((b1.ext e2).ext e3).ext e4).ext e5).ext e6).chg q7 (by first | assumption | omega)).ext e8).ext e9).chg q10 (by first | assumption | omega)).ext hy25) rfl rfl ?_
            exact WL_nil ⟨(Ext.refl _), rfl⟩
          apply AnyR_val [55, 58] rfl (by kernel_rfl)
          · --
            intro y26 hy26
            have zy26 := hy26.size
            refine AllV_v ?_
            refine AllV_v ?_
            refine AllV_nil ?_
            refine O_call enters17 rfl rfl rfl (rivval_T rfl (hx.ext (e10.trans hy26)) rfl (hy.ext (e10.trans hy26)) (by first | with_reducible assumption | exact dval_dman _ _ | exact dval_zero | exact dval_dg (by assumption) (by assumption) | exact dval_dl (by assumption) (by assumption)) (by first | with_reducible assumption | exact dval_dman _ _ | exact dval_zero | exact dval_dg (by assumption) (by assumption) | exact dval_dl (by assumption) (by assumption)) hr) (fun v27 w27 e27 h27 => ?_)
            have z27 := e27.size
            obtain rfl := h27
            exact WL_nil ⟨e27, rfl⟩
          apply AnyR_val [55, 57, 59] rfl (by kernel_rfl)
          · --
            intro y28 hy28
            have zy28 := hy28.size
            refine AllV_v ?_
            refine AllV_v ?_
            refine AllV_v ?_
            refine AllV_nil ?_
            refine O_bneq Try.underlying4 rfl rfl rfl rfl rfl ?_
            exact WL_nil ⟨(Ext.refl _), rfl⟩
          apply AnyR_val [55, 60] rfl (by kernel_rfl)
          · --
            intro y29 hy29
            have zy29 := hy29.size
            refine AllV_v ?_
            refine AllV_v ?_
            refine AllV_nil ?_
            refine O_pickT rfl rfl rfl rfl ?_
            exact WL_nil ⟨(Ext.refl _), rfl⟩
          apply AnyR_val [61] rfl (by kernel_rfl)
          · --
            intro y30 hy30
            have zy30 := hy30.size
            refine AllV_v ?_
            refine AllV_nil ?_
            refine O_move rfl rfl rfl ?_
            exact WL_nil ⟨(Ext.refl _), rfl⟩
          apply AnyR_val [62, 3] rfl (by kernel_rfl)
          · --
            intro y31 hy31
            have zy31 := hy31.size
            refine AllV_v ?_
            refine AllV_nil ?_
            refine O_loadA (vs := [_, _, _, _, _, _]) S28 rfl rfl rfl ((((((((((b1.ext e2).ext e3).ext e4).ext e5).ext e6).chg q7 (by first | assumption | omega)).ext e8).ext e9).chg q10 (by first | assumption | omega)).ext hy31) rfl rfl ?_
            exact WL_nil ⟨(Ext.refl _), rfl⟩
          apply AnyR_val [62, 63] rfl (by kernel_rfl)
          · --
            intro y32 hy32
            have zy32 := hy32.size
            refine AllV_v ?_
            refine AllV_v ?_
            refine AllV_nil ?_
            refine O_call enters16 rfl rfl rfl (ivval_T rfl (hx.ext (e10.trans hy32)) rfl (hy.ext (e10.trans hy32)) (by first | with_reducible assumption | exact dval_dman _ _ | exact dval_zero | exact dval_dg (by assumption) (by assumption) | exact dval_dl (by assumption) (by assumption)) (by first | with_reducible assumption | exact dval_dman _ _ | exact dval_zero | exact dval_dg (by assumption) (by assumption) | exact dval_dl (by assumption) (by assumption)) hr) (fun v33 w33 e33 h33 => ?_)
            have z33 := e33.size
            obtain rfl := h33
            exact WL_nil ⟨e33, rfl⟩
          apply AnyR_val [62, 64] rfl (by kernel_rfl)
          · --
            intro y34 hy34
            have zy34 := hy34.size
            refine AllV_v ?_
            refine AllV_v ?_
            refine AllV_nil ?_
            refine O_move rfl rfl rfl ?_
            exact WL_nil ⟨(Ext.refl _), rfl⟩
          apply AnyR_val [65, 3] rfl (by kernel_rfl)
          · --
            intro y35 hy35
            have zy35 := hy35.size
            refine AllV_v ?_
            refine AllV_nil ?_
            refine O_field F28_0 rfl rfl rfl ?_
            exact WL_nil ⟨(Ext.refl _), rfl⟩
          apply AnyR_val [65, 66] rfl (by kernel_rfl)
          · --
            intro y36 hy36
            have zy36 := hy36.size
            refine AllV_v ?_
            refine AllV_v ?_
            refine AllV_nil ?_
            refine O_loadA (vs := [_, _, _]) S26 rfl rfl rfl ((((((((((b1.ext e2).ext e3).ext e4).ext e5).ext e6).chg q7 (by first | assumption | omega)).ext e8).ext e9).chg q10 (by first | assumption | omega)).ext hy36) rfl rfl ?_
            exact WL_nil ⟨(Ext.refl _), rfl⟩
          apply AnyR_val [65, 67] rfl (by kernel_rfl)
          · --
            intro y37 hy37
            have zy37 := hy37.size
            refine AllV_v ?_
            refine AllV_v ?_
            refine AllV_nil ?_
            refine O_call enters15 rfl rfl rfl (rdvalT_c rfl (hx.ext (e10.trans hy37)) (by (try simp only [val_dig, List.length_take, List.length_nil, List.length_cons, List.length_append, List.length_replicate, List.length_set, List.length_map, List.length_drop]); omega) (by first | with_reducible assumption | exact dval_dman _ _ | exact dval_zero)) (fun v38 w38 e38 h38 => ?_)
            have z38 := e38.size
            obtain rfl := h38
            exact WL_nil ⟨e38, rfl⟩
          apply AnyR_val [65, 68] rfl (by kernel_rfl)
          · --
            intro y39 hy39
            have zy39 := hy39.size
            refine AllV_v ?_
            refine AllV_v ?_
            refine AllV_nil ?_
            refine O_not rfl rfl rfl rfl ?_
            exact WL_nil ⟨(Ext.refl _), rfl⟩
          apply AnyR_val [62, 65, 69] rfl (by kernel_rfl)
          · --
            intro y40 hy40
            have zy40 := hy40.size
            refine AllV_v ?_
            refine AllV_v ?_
            refine AllV_v ?_
            refine AllV_nil ?_
            refine O_pickT rfl rfl rfl rfl ?_
            exact WL_nil ⟨(Ext.refl _), rfl⟩
          apply AnyR_val [62, 70] rfl (by kernel_rfl)
          · --
            intro y41 hy41
            have zy41 := hy41.size
            refine AllV_v ?_
            refine AllV_v ?_
            refine AllV_nil ?_
            refine O_pickF rfl rfl rfl rfl ?_
            exact WL_nil ⟨(Ext.refl _), rfl⟩
          refine AnyR_nil fun y42 hy42 => ?_
          have zy42 := hy42.size
          refine AllV_v ?_
          refine AllV_v ?_
          refine AllV_v ?_
          refine AllV_v ?_
          refine AllV_v ?_
          refine AllV_v ?_
          refine AllV_v ?_
          refine AllV_v ?_
          refine AllV_v ?_
          refine AllV_v ?_
          refine AllV_v ?_
          refine AllV_v ?_
          refine AllV_v ?_
          refine AllV_v ?_
          refine AllV_v ?_
          refine AllV_v ?_
          refine AllV_v ?_
          refine AllV_v ?_
          refine AllV_v ?_
          refine AllV_v ?_
          refine AllV_v ?_
          refine AllV_v ?_
          refine AllV_v ?_
          refine AllV_v ?_
          refine AllV_v ?_
          refine AllV_nil ?_
          refine WL_end [(7, _), (9, _), (71, _)] ⟨rfl, rfl, rfl, trivial⟩ ?_
          refine WP_condF rfl ?_
          refine WP_skip ?_
          refine WP_seq ?_
          have hmE := dcmp_bd XA EA XB EB
          by_cases ho : dcmp XA EA XB EB ≤ 0
          · skip
            refine WP_region ?_
            refine O_loadA (vs := [_, _, _]) S26 rfl rfl rfl ((((b7.ext e8).ext e9).chg q10 (by first | assumption | omega)).ext hy42) rfl rfl ?_
            refine O_loadA (vs := [_, _, _]) S26 rfl rfl rfl (b10.ext hy42) rfl rfl ?_
            refine O_call enters18 rfl rfl rfl (imake_T rfl ((((((hqA.ext e6).chgBk b6 (by decide) q7).ext e8).ext e9).chgBk b9 (by decide) q10).ext hy42).nl rfl (((hqB.ext e9).chgBk b9 (by decide) q10).ext hy42).nl (by first | with_reducible assumption | exact dval_dman _ _ | exact dval_zero | exact dval_dg (by assumption) (by assumption) | exact dval_dl (by assumption) (by assumption)) (by first | with_reducible assumption | exact dval_dman _ _ | exact dval_zero | exact dval_dg (by assumption) (by assumption) | exact dval_dl (by assumption) (by assumption)) ho) (fun v43 w43 e43 h43 => ?_)
            have z43 := e43.size
            try simp only [val_dig] at h43
            obtain ⟨mq43, ms43, rfl, hmq43, hms43⟩ := h43
            refine O_move rfl rfl rfl ?_
            refine O_extract rfl rfl rfl rfl ?_
            refine O_extract rfl rfl rfl rfl ?_
            refine O_alloc S28 rfl rfl (fun g44 w44 b44 e44 gl44 gh44 => ?_)
            have z44 := e44.size
            refine O_storeA (cs' := [_, _, _, _, _, _]) S28 rfl rfl rfl b44 rfl rfl (one_cons rfl (one_cons ((hmq43.ext e44).nl).one (one_cons rfl (one_cons rfl (one_cons ((hms43.ext e44).nl).one (one_cons rfl one_nil)))))) rfl (fun w45 b45 q45 => ?_)
            have z45 := Nat.le_of_eq q45.size.symm
            have e45 : Ext w w45 := q45.ext (((e10.trans hy42).trans e43).trans e44) (by omega)
            refine O_assign rfl rfl rfl ?_
            refine WL_end [(7, _), (9, _), (11, _), (12, _)] ⟨rfl, rfl, rfl, rfl, trivial⟩ ?_
            refine WP_seq ?_
            refine WP_seq ?_
            refine WP_region ?_
            refine O_loadA (vs := [_, _, _]) S26 rfl rfl rfl (((((((b7.ext e8).ext e9).chg q10 (by first | assumption | omega)).ext hy42).ext e43).ext e44).chg q45 (by first | assumption | omega)) rfl rfl ?_
            refine O_loadA (vs := [_, _, _]) S26 rfl rfl rfl ((((b10.ext hy42).ext e43).ext e44).chg q45 (by first | assumption | omega)) rfl rfl ?_
            refine O_call enters19 rfl rfl rfl (rdcmp_c rfl (((((((((hqA.ext e6).chgBk b6 (by decide) q7).ext e8).ext e9).chgBk b9 (by decide) q10).ext hy42).ext e43).ext e44).chgBk b44 (by decide) q45).nl rfl ((((((hqB.ext e9).chgBk b9 (by decide) q10).ext hy42).ext e43).ext e44).chgBk b44 (by decide) q45).nl (by (try simp only [val_dig, List.length_take, List.length_nil, List.length_cons, List.length_append, List.length_replicate, List.length_set, List.length_map, List.length_drop]); omega) (by (try simp only [val_dig, List.length_take, List.length_nil, List.length_cons, List.length_append, List.length_replicate, List.length_set, List.length_map, List.length_drop]); omega) (by (try simp only [val_dig, List.length_take, List.length_nil, List.length_cons, List.length_append, List.length_replicate, List.length_set, List.length_map, List.length_drop]); omega) (by (try simp only [val_dig, List.length_take, List.length_nil, List.length_cons, List.length_append, List.length_replicate, List.length_set, List.length_map, List.length_drop]); omega) (by (try simp only [val_dig, List.length_take, List.length_nil, List.length_cons, List.length_append, List.length_replicate, List.length_set, List.length_map, List.length_drop]); omega) (by (try simp only [val_dig, List.length_take, List.length_nil, List.length_cons, List.length_append, List.length_replicate, List.length_set, List.length_map, List.length_drop]); omega)) (fun v46 w46 e46 h46 => ?_)
            have z46 := e46.size
            obtain rfl := h46
            refine O_gtr (t := false) rfl rfl rfl rfl (decide_eq_false (by omega)) ?_
            refine WL_end [(7, _), (9, _), (11, _), (12, _), (81, _)] ⟨rfl, rfl, rfl, rfl, rfl, trivial⟩ ?_
            refine WP_condF rfl ?_
            refine WP_skip ?_
            refine WP_seq ?_
            refine WP_sub [(7, _), (9, _), (11, _), (12, _)] ⟨rfl, rfl, rfl, rfl, trivial⟩ ?_
            refine WP_anyR 15 [7, 9, 11, 12] mixed rfl (by kernel_rfl) ?_
            apply AnyR_val [12] rfl (by kernel_rfl)
            · --
              intro y47 hy47
              have zy47 := hy47.size
              refine AllV_nil ?_
              refine O_move rfl rfl rfl ?_
              exact WL_nil ⟨(Ext.refl _), rfl⟩
            apply AnyR_val [89] rfl (by kernel_rfl)
            · --
              intro y48 hy48
              have zy48 := hy48.size
              refine AllV_v ?_
              refine AllV_nil ?_
              refine O_eql (t := true) rfl rfl rfl rfl (decide_eq_true rfl) ?_
              exact WL_nil ⟨(Ext.refl _), rfl⟩
            apply AnyR_val [90] rfl (by kernel_rfl)
            · --
              intro y49 hy49
              have zy49 := hy49.size
              refine AllV_v ?_
              refine AllV_nil ?_
              refine O_move rfl rfl rfl ?_
              exact WL_nil ⟨(Ext.refl _), rfl⟩
            apply AnyR_val [91, 11] rfl (by kernel_rfl)
            · --
              intro y50 hy50
              have zy50 := hy50.size
              refine AllV_v ?_
              refine AllV_nil ?_
              refine O_loadA (vs := [_, _, _, _, _, _]) S28 rfl rfl rfl ((b45.ext e46).ext hy50) rfl rfl ?_
              exact WL_nil ⟨(Ext.refl _), rfl⟩
            apply AnyR_val [91, 7] rfl (by kernel_rfl)
            · --
              intro y51 hy51
              have zy51 := hy51.size
              refine AllV_v ?_
              refine AllV_nil ?_
              refine O_loadA (vs := [_, _, _]) S26 rfl rfl rfl (((((((((b7.ext e8).ext e9).chg q10 (by first | assumption | omega)).ext hy42).ext e43).ext e44).chg q45 (by first | assumption | omega)).ext e46).ext hy51) rfl rfl ?_
              exact WL_nil ⟨(Ext.refl _), rfl⟩
            apply AnyR_val [91, 9] rfl (by kernel_rfl)
            · --
              intro y52 hy52
              have zy52 := hy52.size
              refine AllV_v ?_
              refine AllV_nil ?_
              refine O_loadA (vs := [_, _, _]) S26 rfl rfl rfl ((((((b10.ext hy42).ext e43).ext e44).chg q45 (by first | assumption | omega)).ext e46).ext hy52) rfl rfl ?_
              exact WL_nil ⟨(Ext.refl _), rfl⟩
            apply AnyR_val [91, 93, 94] rfl (by kernel_rfl)
            · --
              intro y53 hy53
              have zy53 := hy53.size
              refine AllV_v ?_
              refine AllV_v ?_
              refine AllV_v ?_
              refine AllV_nil ?_
              refine O_build (cs := [_, _, _, _, _, _]) B28 rfl rfl rfl (cells_cons rfl (cells_cons rfl cells_nil)) rfl ?_
              exact WL_nil ⟨(Ext.refl _), rfl⟩
            apply AnyR_val [91, 92, 95] rfl (by kernel_rfl)
            · --
              intro y54 hy54
              have zy54 := hy54.size
              refine AllV_v ?_
              refine AllV_v ?_
              refine AllV_v ?_
              refine AllV_nil ?_
              refine O_call enters20 rfl rfl rfl (rivsameT_c rfl ((((hmq43.ext e44).chgBk b44 (by decide) q45).ext e46).ext hy54).nl rfl ((((hms43.ext e44).chgBk b44 (by decide) q45).ext e46).ext hy54).nl (by first | with_reducible assumption | exact dval_dman _ _ | exact dval_zero | exact dval_dg (by assumption) (by assumption) | exact dval_dl (by assumption) (by assumption)) (by first | with_reducible assumption | exact dval_dman _ _ | exact dval_zero | exact dval_dg (by assumption) (by assumption) | exact dval_dl (by assumption) (by assumption)) rfl (((((((((((hqA.ext e6).chgBk b6 (by decide) q7).ext e8).ext e9).chgBk b9 (by decide) q10).ext hy42).ext e43).ext e44).chgBk b44 (by decide) q45).ext e46).ext hy54).nl rfl ((((((((hqB.ext e9).chgBk b9 (by decide) q10).ext hy42).ext e43).ext e44).chgBk b44 (by decide) q45).ext e46).ext hy54).nl (by first | with_reducible assumption | exact dval_dman _ _ | exact dval_zero | exact dval_dg (by assumption) (by assumption) | exact dval_dl (by assumption) (by assumption)) (by first | with_reducible assumption | exact dval_dman _ _ | exact dval_zero | exact dval_dg (by assumption) (by assumption) | exact dval_dl (by assumption) (by assumption)) samev_self) (fun v55 w55 e55 h55 => ?_)
              have z55 := e55.size
              obtain rfl := h55
              exact WL_nil ⟨e55, rfl⟩
            apply AnyR_val [91, 96] rfl (by kernel_rfl)
            · --
              intro y56 hy56
              have zy56 := hy56.size
              refine AllV_v ?_
              refine AllV_v ?_
              refine AllV_nil ?_
              refine O_pickT rfl rfl rfl rfl ?_
              exact WL_nil ⟨(Ext.refl _), rfl⟩
            apply AnyR_val [97] rfl (by kernel_rfl)
            · --
              intro y57 hy57
              have zy57 := hy57.size
              refine AllV_v ?_
              refine AllV_nil ?_
              refine O_move rfl rfl rfl ?_
              exact WL_nil ⟨(Ext.refl _), rfl⟩
            apply AnyR_val [98, 7] rfl (by kernel_rfl)
            · --
              intro y58 hy58
              have zy58 := hy58.size
              refine AllV_v ?_
              refine AllV_nil ?_
              refine O_loadA (vs := [_, _, _]) S26 rfl rfl rfl (((((((((b7.ext e8).ext e9).chg q10 (by first | assumption | omega)).ext hy42).ext e43).ext e44).chg q45 (by first | assumption | omega)).ext e46).ext hy58) rfl rfl ?_
              exact WL_nil ⟨(Ext.refl _), rfl⟩
            apply AnyR_rel (RelP (pAgg [pEq _, pNo w46.heap.size 93 _, pEq _, pEq _, pNo w46.heap.size 93 _, pEq _])) [98, 99] rfl (RelP.mono (pAgg_mono (PsM.cons pEq_mono (PsM.cons pNo_mono (PsM.cons pEq_mono (PsM.cons pEq_mono (PsM.cons pNo_mono (PsM.cons pEq_mono PsM.nil)))))))) (by kernel_rfl)
            · --
              intro y59 hy59
              have zy59 := hy59.size
              refine AllV_v ?_
              refine AllV_v ?_
              refine AllV_nil ?_
              refine O_call enters21 rfl rfl rfl (point_c rfl (((((((((((hqA.ext e6).chgBk b6 (by decide) q7).ext e8).ext e9).chgBk b9 (by decide) q10).ext hy42).ext e43).ext e44).chgBk b44 (by decide) q45).ext e46).ext hy59).nl (by first | with_reducible assumption | exact dval_dman _ _ | exact dval_zero | exact dval_dg (by assumption) (by assumption) | exact dval_dl (by assumption) (by assumption))) (fun v60 w60 e60 h60 => ?_)
              have z60 := e60.size
              try simp only [val_dig] at h60
              obtain ⟨mq60, ms60, rfl, hmq60, hms60⟩ := h60
              exact WL_nil ⟨e60, _, rfl, ⟨_, rfl, (AllP.cons rfl (AllP.cons (hmq60.mono (by omega)) (AllP.cons rfl (AllP.cons rfl (AllP.cons (hms60.mono (by omega)) (AllP.cons rfl AllP.nil))))))⟩⟩
            apply AnyR_val [98, 7] rfl (by kernel_rfl)
            · --
              intro y61 hy61
              have zy61 := hy61.size
              refine AllV_v ?_
              refine AllV_nil ?_
              refine O_loadA (vs := [_, _, _]) S26 rfl rfl rfl (((((((((b7.ext e8).ext e9).chg q10 (by first | assumption | omega)).ext hy42).ext e43).ext e44).chg q45 (by first | assumption | omega)).ext e46).ext hy61) rfl rfl ?_
              exact WL_nil ⟨(Ext.refl _), rfl⟩
            apply AnyR_val [98, 7] rfl (by kernel_rfl)
            · --
              intro y62 hy62
              have zy62 := hy62.size
              refine AllV_v ?_
              refine AllV_nil ?_
              refine O_loadA (vs := [_, _, _]) S26 rfl rfl rfl (((((((((b7.ext e8).ext e9).chg q10 (by first | assumption | omega)).ext hy42).ext e43).ext e44).chg q45 (by first | assumption | omega)).ext e46).ext hy62) rfl rfl ?_
              exact WL_nil ⟨(Ext.refl _), rfl⟩
            apply AnyR_val [98, 101, 102] rfl (by kernel_rfl)
            · --
              intro y63 hy63
              have zy63 := hy63.size
              refine AllV_v ?_
              refine AllV_v ?_
              refine AllV_v ?_
              refine AllV_nil ?_
              refine O_build (cs := [_, _, _, _, _, _]) B28 rfl rfl rfl (cells_cons rfl (cells_cons rfl cells_nil)) rfl ?_
              exact WL_nil ⟨(Ext.refl _), rfl⟩
            refine AnyR_nil fun y64 hy64 => ?_
            have zy64 := hy64.size
            refine AllV_v ?_
            refine AllV_v ?_
            refine AllV_v ?_
            refine AllV_v ?_
            refine AllV_v ?_
            refine AllV_v ?_
            refine AllV_v ?_
            refine AllV_v ?_
            refine AllV_v ?_
            refine AllV_v ?_
            refine AllV_v ?_
            refine AllV_r fun a65 b65 v65 la65 lb65 lc65 h65 ap65 => ?_
            clear ap65
            obtain ⟨_, rfl, v65_0, _, rfl, rfl, v65_1, _, rfl, h65_1, v65_2, _, rfl, rfl, v65_3, _, rfl, rfl, v65_4, _, rfl, h65_4, v65_5, _, rfl, rfl, rfl⟩ := h65
            refine AllV_v ?_
            refine AllV_v ?_
            refine AllV_v ?_
            refine AllV_nil ?_
            refine O_call enters20 rfl rfl rfl (rivsameT_c rfl h65_1.nl rfl h65_4.nl (by first | with_reducible assumption | exact dval_dman _ _ | exact dval_zero | exact dval_dg (by assumption) (by assumption) | exact dval_dl (by assumption) (by assumption)) (by first | with_reducible assumption | exact dval_dman _ _ | exact dval_zero | exact dval_dg (by assumption) (by assumption) | exact dval_dl (by assumption) (by assumption)) rfl (((((((((((hqA.ext e6).chgBk b6 (by decide) q7).ext e8).ext e9).chgBk b9 (by decide) q10).ext hy42).ext e43).ext e44).chgBk b44 (by decide) q45).ext e46).ext hy64).nl rfl (((((((((((hqA.ext e6).chgBk b6 (by decide) q7).ext e8).ext e9).chgBk b9 (by decide) q10).ext hy42).ext e43).ext e44).chgBk b44 (by decide) q45).ext e46).ext hy64).nl (by first | with_reducible assumption | exact dval_dman _ _ | exact dval_zero | exact dval_dg (by assumption) (by assumption) | exact dval_dl (by assumption) (by assumption)) (by first | with_reducible assumption | exact dval_dman _ _ | exact dval_zero | exact dval_dg (by assumption) (by assumption) | exact dval_dl (by assumption) (by assumption)) samev_self) (fun v66 w66 e66 h66 => ?_)
            have z66 := e66.size
            obtain rfl := h66
            refine O_pickT rfl rfl rfl rfl ?_
            refine O_assign rfl rfl rfl ?_
            refine WL_end [(6, _)] ⟨rfl, trivial⟩ ?_
            refine WP_ret ?_
            refine ret1 Try.results4 rfl ?_
            exact ⟨_, rfl, (((e45.trans e46).trans hy64).trans e66), rfl⟩
          · skip
            refine WP_region ?_
            refine O_loadA (vs := [_, _, _]) S26 rfl rfl rfl ((((b7.ext e8).ext e9).chg q10 (by first | assumption | omega)).ext hy42) rfl rfl ?_
            refine O_loadA (vs := [_, _, _]) S26 rfl rfl rfl (b10.ext hy42) rfl rfl ?_
            refine O_call enters18 rfl rfl rfl (imake_F rfl ((((((hqA.ext e6).chgBk b6 (by decide) q7).ext e8).ext e9).chgBk b9 (by decide) q10).ext hy42).nl rfl (((hqB.ext e9).chgBk b9 (by decide) q10).ext hy42).nl (by first | with_reducible assumption | exact dval_dman _ _ | exact dval_zero | exact dval_dg (by assumption) (by assumption) | exact dval_dl (by assumption) (by assumption)) (by first | with_reducible assumption | exact dval_dman _ _ | exact dval_zero | exact dval_dg (by assumption) (by assumption) | exact dval_dl (by assumption) (by assumption)) ho) (fun v67 w67 e67 h67 => ?_)
            have z67 := e67.size
            try simp only [val_dig] at h67
            obtain rfl := h67
            refine O_move rfl rfl rfl ?_
            refine O_extract rfl rfl rfl rfl ?_
            refine O_extract rfl rfl rfl rfl ?_
            refine O_alloc S28 rfl rfl (fun g68 w68 b68 e68 gl68 gh68 => ?_)
            have z68 := e68.size
            refine O_storeA (cs' := [_, _, _, _, _, _]) S28 rfl rfl rfl b68 rfl rfl (one_cons rfl (one_cons rfl (one_cons rfl (one_cons rfl (one_cons rfl (one_cons rfl one_nil)))))) rfl (fun w69 b69 q69 => ?_)
            have z69 := Nat.le_of_eq q69.size.symm
            have e69 : Ext w w69 := q69.ext (((e10.trans hy42).trans e67).trans e68) (by omega)
            refine O_assign rfl rfl rfl ?_
            refine WL_end [(7, _), (9, _), (11, _), (12, _)] ⟨rfl, rfl, rfl, rfl, trivial⟩ ?_
            refine WP_seq ?_
            refine WP_seq ?_
            refine WP_region ?_
            refine O_loadA (vs := [_, _, _]) S26 rfl rfl rfl (((((((b7.ext e8).ext e9).chg q10 (by first | assumption | omega)).ext hy42).ext e67).ext e68).chg q69 (by first | assumption | omega)) rfl rfl ?_
            refine O_loadA (vs := [_, _, _]) S26 rfl rfl rfl ((((b10.ext hy42).ext e67).ext e68).chg q69 (by first | assumption | omega)) rfl rfl ?_
            refine O_call enters19 rfl rfl rfl (rdcmp_c rfl (((((((((hqA.ext e6).chgBk b6 (by decide) q7).ext e8).ext e9).chgBk b9 (by decide) q10).ext hy42).ext e67).ext e68).chgBk b68 (by decide) q69).nl rfl ((((((hqB.ext e9).chgBk b9 (by decide) q10).ext hy42).ext e67).ext e68).chgBk b68 (by decide) q69).nl (by (try simp only [val_dig, List.length_take, List.length_nil, List.length_cons, List.length_append, List.length_replicate, List.length_set, List.length_map, List.length_drop]); omega) (by (try simp only [val_dig, List.length_take, List.length_nil, List.length_cons, List.length_append, List.length_replicate, List.length_set, List.length_map, List.length_drop]); omega) (by (try simp only [val_dig, List.length_take, List.length_nil, List.length_cons, List.length_append, List.length_replicate, List.length_set, List.length_map, List.length_drop]); omega) (by (try simp only [val_dig, List.length_take, List.length_nil, List.length_cons, List.length_append, List.length_replicate, List.length_set, List.length_map, List.length_drop]); omega) (by (try simp only [val_dig, List.length_take, List.length_nil, List.length_cons, List.length_append, List.length_replicate, List.length_set, List.length_map, List.length_drop]); omega) (by (try simp only [val_dig, List.length_take, List.length_nil, List.length_cons, List.length_append, List.length_replicate, List.length_set, List.length_map, List.length_drop]); omega)) (fun v70 w70 e70 h70 => ?_)
            have z70 := e70.size
            obtain rfl := h70
            refine O_gtr (t := true) rfl rfl rfl rfl (decide_eq_true (by omega)) ?_
            refine WL_end [(7, _), (9, _), (11, _), (12, _), (81, _)] ⟨rfl, rfl, rfl, rfl, rfl, trivial⟩ ?_
            refine WP_condT rfl ?_
            refine WP_seq ?_
            refine WP_region ?_
            refine O_move rfl rfl rfl ?_
            refine O_eql (t := true) rfl rfl rfl rfl (decide_eq_true rfl) ?_
            refine O_move rfl rfl rfl ?_
            refine O_loadA (vs := [_, _, _, _, _, _]) S28 rfl rfl rfl (b69.ext e70) rfl rfl ?_
            refine O_build (cs := [_, _, _, _, _, _]) B28 rfl rfl rfl cells_nil rfl ?_
            refine O_call enters20 rfl rfl rfl (rivsameT_z) (fun v71 w71 e71 h71 => ?_)
            have z71 := e71.size
            obtain rfl := h71
            refine O_pickT rfl rfl rfl rfl ?_
            refine O_assign rfl rfl rfl ?_
            refine WL_end [(6, _)] ⟨rfl, trivial⟩ ?_
            refine WP_ret ?_
            refine ret1 Try.results4 rfl ?_
            exact ⟨_, rfl, ((e69.trans e70).trans e71), rfl⟩
set_option maxHeartbeats 4000000 in
theorem law_IM_F {w : World} {vx vy : Value} {x y e f : Int} {bx by_ : Bool} (hbx : bx = decide (x < 0)) (hx : Nl w vx (dig x.natAbs)) (hby : by_ = decide (y < 0)) (hy : Nl w vy (dig y.natAbs)) (hvx : dval x e = true) (hvy : dval y f = true) (hr : ¬ dcmp x e y f ≤ 0) {vz vu : Value} {lz lu : List Nat} {bz bu : Bool} {g h : Int} (hz : Nl w vz lz) (hu : Nl w vu lu) :
    Calls Try.prog 4 #[.agg #[.bool bx, vx, .int .i64 e, .bool by_, vy, .int .i64 f], .agg #[.bool bz, vz, .int .i64 g], .agg #[.bool bu, vu, .int .i64 h]] w (Ret w fun r _ => r = .bool true) := by
  subst hbx
  subst hby
  have hRx := dval_range hvx
  have hlx : (dig x.natAbs).length ≤ 2049 := dval_len hvx
  have hRy := dval_range hvy
  have hly : (dig y.natAbs).length ≤ 2049 := dval_len hvy
  refine enter (args := [_, _, _]) Try.func4 rfl Try.ntmps4 rfl ?_
  refine WP_seq ?_
  refine WP_region ?_
  refine O_box _ rfl rfl rfl rfl (fun g1 w1 b1 e1 gl1 gh1 => ?_)
  have z1 := e1.size
  refine O_box _ rfl rfl rfl rfl (fun g2 w2 b2 e2 gl2 gh2 => ?_)
  have z2 := e2.size
  refine O_box _ rfl rfl rfl rfl (fun g3 w3 b3 e3 gl3 gh3 => ?_)
  have z3 := e3.size
  refine O_assign rfl rfl rfl ?_
  refine WL_end [(3, _), (4, _), (5, _)] ⟨rfl, rfl, rfl, trivial⟩ ?_
  refine WP_seq ?_
  refine WP_seq ?_
  refine WP_region ?_
  refine O_call enters7 rfl rfl rfl (awake10_c) (fun v4 w4 e4 h4 => ?_)
  have z4 := e4.size
  obtain rfl := h4
  refine O_not rfl rfl rfl rfl ?_
  refine WL_end [(3, _), (4, _), (5, _), (14, _)] ⟨rfl, rfl, rfl, rfl, trivial⟩ ?_
  refine WP_condF rfl ?_
  refine WP_skip ?_
  refine WP_seq ?_
  refine WP_region ?_
  refine O_loadA (vs := [_, _, _]) S26 rfl rfl rfl ((b2.ext e3).ext e4) rfl rfl ?_
  refine O_call enters14 rfl rfl rfl (mdy_c (n := 5) (m := 60) (hz.ext (((e1.trans e2).trans e3).trans e4)) (by decide)) (fun v5 w5 e5 h5 => ?_)
  have z5 := e5.size
  try simp only [val_dig] at h5
  obtain ⟨XA, EA, qA, bA, rfl, hqA, hvA, hkA, hjA, hlA⟩ := h5
  refine O_move rfl rfl rfl ?_
  refine O_extract rfl rfl rfl rfl ?_
  refine O_extract rfl rfl rfl rfl ?_
  refine O_alloc S26 rfl rfl (fun g6 w6 b6 e6 gl6 gh6 => ?_)
  have z6 := e6.size
  refine O_storeA (cs' := [_, _, _]) S26 rfl rfl rfl b6 rfl rfl (one_cons rfl (one_cons ((hqA.ext e6).nl).one (one_cons rfl one_nil))) rfl (fun w7 b7 q7 => ?_)
  have z7 := Nat.le_of_eq q7.size.symm
  have e7 : Ext w w7 := q7.ext (((((e1.trans e2).trans e3).trans e4).trans e5).trans e6) (by omega)
  refine O_assign rfl rfl rfl ?_
  refine WL_end [(3, _), (5, _), (7, _), (8, _)] ⟨rfl, rfl, rfl, rfl, trivial⟩ ?_
  refine WP_seq ?_
  refine WP_region ?_
  refine O_loadA (vs := [_, _, _]) S26 rfl rfl rfl ((((b3.ext e4).ext e5).ext e6).chg q7 (by first | assumption | omega)) rfl rfl ?_
  refine O_call enters14 rfl rfl rfl (mdy_c (n := 5) (m := 60) (hu.ext e7) (by decide)) (fun v8 w8 e8 h8 => ?_)
  have z8 := e8.size
  try simp only [val_dig] at h8
  obtain ⟨XB, EB, qB, bB, rfl, hqB, hvB, hkB, hjB, hlB⟩ := h8
  refine O_move rfl rfl rfl ?_
  refine O_extract rfl rfl rfl rfl ?_
  refine O_extract rfl rfl rfl rfl ?_
  refine O_alloc S26 rfl rfl (fun g9 w9 b9 e9 gl9 gh9 => ?_)
  have z9 := e9.size
  refine O_storeA (cs' := [_, _, _]) S26 rfl rfl rfl b9 rfl rfl (one_cons rfl (one_cons ((hqB.ext e9).nl).one (one_cons rfl one_nil))) rfl (fun w10 b10 q10 => ?_)
  have z10 := Nat.le_of_eq q10.size.symm
  have e10 : Ext w w10 := q10.ext ((e7.trans e8).trans e9) (by omega)
  refine O_assign rfl rfl rfl ?_
  refine WL_end [(3, _), (7, _), (8, _), (9, _), (10, _)] ⟨rfl, rfl, rfl, rfl, rfl, trivial⟩ ?_
  refine WP_seq ?_
  refine WP_seq ?_
  refine WP_region ?_
  refine O_move rfl rfl rfl ?_
  refine O_not rfl rfl rfl rfl ?_
  refine O_move rfl rfl rfl ?_
  refine WL_bool 27 rfl (fun g27 => ?_) (fun g27 => ?_)
  · --
    refine O_skip rfl rfl ?_
    refine O_skip rfl rfl ?_
    refine O_pickT rfl rfl rfl rfl ?_
    refine O_move rfl rfl rfl ?_
    refine O_skip rfl rfl ?_
    refine O_skip rfl rfl ?_
    refine O_skip rfl rfl ?_
    refine O_skip rfl rfl ?_
    refine O_skip rfl rfl ?_
    refine O_skip rfl rfl ?_
    refine O_pickT rfl rfl rfl rfl ?_
    refine O_move rfl rfl rfl ?_
    refine O_skip rfl rfl ?_
    refine O_skip rfl rfl ?_
    refine O_skip rfl rfl ?_
    refine O_skip rfl rfl ?_
    refine O_skip rfl rfl ?_
    refine O_skip rfl rfl ?_
    refine O_pickT rfl rfl rfl rfl ?_
    refine WL_end [(3, _), (7, _), (9, _), (46, _)] ⟨rfl, rfl, rfl, rfl, trivial⟩ ?_
    refine WP_condT rfl ?_
    refine WP_seq ?_
    refine WP_region ?_
    refine O_assign rfl rfl rfl ?_
    refine WL_end [(6, _)] ⟨rfl, trivial⟩ ?_
    refine WP_ret ?_
    refine ret1 Try.results4 rfl ?_
    exact ⟨_, rfl, e10, rfl⟩
  · --
    refine O_move rfl rfl rfl ?_
    refine O_not rfl rfl rfl rfl ?_
    refine O_pickF rfl rfl rfl rfl ?_
    refine O_move rfl rfl rfl ?_
    refine WL_bool 31 rfl (fun g31 => ?_) (fun g31 => ?_)
    · --
      refine O_skip rfl rfl ?_
      refine O_skip rfl rfl ?_
      refine O_skip rfl rfl ?_
      refine O_skip rfl rfl ?_
      refine O_skip rfl rfl ?_
      refine O_skip rfl rfl ?_
      refine O_pickT rfl rfl rfl rfl ?_
      refine O_move rfl rfl rfl ?_
      refine O_skip rfl rfl ?_
      refine O_skip rfl rfl ?_
      refine O_skip rfl rfl ?_
      refine O_skip rfl rfl ?_
      refine O_skip rfl rfl ?_
      refine O_skip rfl rfl ?_
      refine O_pickT rfl rfl rfl rfl ?_
      refine WL_end [(3, _), (7, _), (9, _), (46, _)] ⟨rfl, rfl, rfl, rfl, trivial⟩ ?_
      refine WP_condT rfl ?_
      refine WP_seq ?_
      refine WP_region ?_
      refine O_assign rfl rfl rfl ?_
      refine WL_end [(6, _)] ⟨rfl, trivial⟩ ?_
      refine WP_ret ?_
      refine ret1 Try.results4 rfl ?_
      exact ⟨_, rfl, e10, rfl⟩
    · --
      refine O_field F28_0 rfl rfl rfl ?_
      refine O_field F26_0 rfl rfl rfl ?_
      refine O_field F24_1 rfl rfl rfl ?_
      refine O_loadC Try.underlying22 rfl rfl rfl rfl (((((((((b1.ext e2).ext e3).ext e4).ext e5).ext e6).chg q7 (by first | assumption | omega)).ext e8).ext e9).chg q10 (by first | assumption | omega)) rfl ?_
      refine N_len T22 rfl rfl rfl (hx.ext e10) ?_
      refine O_gtr rfl rfl rfl rfl rfl ?_
      refine O_pickF rfl rfl rfl rfl ?_
      refine O_move rfl rfl rfl ?_
      refine WL_dec 39 rfl (fun g39 => ?_) (fun g39 => ?_)
      · --
        refine O_skip rfl rfl ?_
        refine O_skip rfl rfl ?_
        refine O_skip rfl rfl ?_
        refine O_skip rfl rfl ?_
        refine O_skip rfl rfl ?_
        refine O_skip rfl rfl ?_
        refine O_pickT rfl rfl rfl rfl ?_
        refine WL_end [(3, _), (7, _), (9, _), (46, _)] ⟨rfl, rfl, rfl, rfl, trivial⟩ ?_
        refine WP_condT rfl ?_
        refine WP_seq ?_
        refine WP_region ?_
        refine O_assign rfl rfl rfl ?_
        refine WL_end [(6, _)] ⟨rfl, trivial⟩ ?_
        refine WP_ret ?_
        refine ret1 Try.results4 rfl ?_
        exact ⟨_, rfl, e10, rfl⟩
      · --
        refine O_field F28_1 rfl rfl rfl ?_
        refine O_field F26_0 rfl rfl rfl ?_
        refine O_field F24_1 rfl rfl rfl ?_
        refine O_loadC Try.underlying22 rfl rfl rfl rfl (((((((((b1.ext e2).ext e3).ext e4).ext e5).ext e6).chg q7 (by first | assumption | omega)).ext e8).ext e9).chg q10 (by first | assumption | omega)) rfl ?_
        refine N_len T22 rfl rfl rfl (hy.ext e10) ?_
        refine O_gtr rfl rfl rfl rfl rfl ?_
        refine O_pickF rfl rfl rfl rfl ?_
        refine WL_end [(3, _), (7, _), (9, _), (46, _)] ⟨rfl, rfl, rfl, rfl, trivial⟩ ?_
        refine WP_condD rfl (fun c46 => ?_) (fun c46 => ?_)
        · --
          refine WP_seq ?_
          refine WP_region ?_
          refine O_assign rfl rfl rfl ?_
          refine WL_end [(6, _)] ⟨rfl, trivial⟩ ?_
          refine WP_ret ?_
          refine ret1 Try.results4 rfl ?_
          exact ⟨_, rfl, e10, rfl⟩
        · --
          refine WP_skip ?_
          refine WP_seq ?_
          refine WP_seq ?_
          refine WP_sub [(3, _), (7, _), (9, _)] ⟨rfl, rfl, rfl, trivial⟩ ?_
          refine WP_anyR 25 [3, 7, 9] mixed rfl (by kernel_rfl) ?_
          apply AnyR_val [3] rfl (by kernel_rfl)
          · --
            intro y11 hy11
            have zy11 := hy11.size
            refine AllV_nil ?_
            refine O_field F28_0 rfl rfl rfl ?_
            exact WL_nil ⟨(Ext.refl _), rfl⟩
          apply AnyR_val [47] rfl (by kernel_rfl)
          · --
            intro y12 hy12
            have zy12 := hy12.size
            refine AllV_v ?_
            refine AllV_nil ?_
            refine O_loadA (vs := [_, _, _]) S26 rfl rfl rfl ((((((((((b1.ext e2).ext e3).ext e4).ext e5).ext e6).chg q7 (by first | assumption | omega)).ext e8).ext e9).chg q10 (by first | assumption | omega)).ext hy12) rfl rfl ?_
            exact WL_nil ⟨(Ext.refl _), rfl⟩
          apply AnyR_val [48] rfl (by kernel_rfl)
          · --
            intro y13 hy13
            have zy13 := hy13.size
            refine AllV_v ?_
            refine AllV_nil ?_
            refine O_call enters15 rfl rfl rfl (rdvalT_c rfl (hx.ext (e10.trans hy13)) (by (try simp only [val_dig, List.length_take, List.length_nil, List.length_cons, List.length_append, List.length_replicate, List.length_set, List.length_map, List.length_drop]); omega) (by first | with_reducible assumption | exact dval_dman _ _ | exact dval_zero)) (fun v14 w14 e14 h14 => ?_)
            have z14 := e14.size
            obtain rfl := h14
            exact WL_nil ⟨e14, rfl⟩
          apply AnyR_val [49] rfl (by kernel_rfl)
          · --
            intro y15 hy15
            have zy15 := hy15.size
            refine AllV_v ?_
            refine AllV_nil ?_
            refine O_move rfl rfl rfl ?_
            exact WL_nil ⟨(Ext.refl _), rfl⟩
          apply AnyR_val [50, 3] rfl (by kernel_rfl)
          · --
            intro y16 hy16
            have zy16 := hy16.size
            refine AllV_v ?_
            refine AllV_nil ?_
            refine O_field F28_1 rfl rfl rfl ?_
            exact WL_nil ⟨(Ext.refl _), rfl⟩
          apply AnyR_val [50, 51] rfl (by kernel_rfl)
          · --
            intro y17 hy17
            have zy17 := hy17.size
            refine AllV_v ?_
            refine AllV_v ?_
            refine AllV_nil ?_
            refine O_loadA (vs := [_, _, _]) S26 rfl rfl rfl ((((((((((b1.ext e2).ext e3).ext e4).ext e5).ext e6).chg q7 (by first | assumption | omega)).ext e8).ext e9).chg q10 (by first | assumption | omega)).ext hy17) rfl rfl ?_
            exact WL_nil ⟨(Ext.refl _), rfl⟩
          apply AnyR_val [50, 52] rfl (by kernel_rfl)
          · --
            intro y18 hy18
            have zy18 := hy18.size
            refine AllV_v ?_
            refine AllV_v ?_
            refine AllV_nil ?_
            refine O_call enters15 rfl rfl rfl (rdvalT_c rfl (hy.ext (e10.trans hy18)) (by (try simp only [val_dig, List.length_take, List.length_nil, List.length_cons, List.length_append, List.length_replicate, List.length_set, List.length_map, List.length_drop]); omega) (by first | with_reducible assumption | exact dval_dman _ _ | exact dval_zero)) (fun v19 w19 e19 h19 => ?_)
            have z19 := e19.size
            obtain rfl := h19
            exact WL_nil ⟨e19, rfl⟩
          apply AnyR_val [50, 53] rfl (by kernel_rfl)
          · --
            intro y20 hy20
            have zy20 := hy20.size
            refine AllV_v ?_
            refine AllV_v ?_
            refine AllV_nil ?_
            refine O_pickT rfl rfl rfl rfl ?_
            exact WL_nil ⟨(Ext.refl _), rfl⟩
          apply AnyR_val [54] rfl (by kernel_rfl)
          · --
            intro y21 hy21
            have zy21 := hy21.size
            refine AllV_v ?_
            refine AllV_nil ?_
            refine O_move rfl rfl rfl ?_
            exact WL_nil ⟨(Ext.refl _), rfl⟩
          apply AnyR_val [55, 3] rfl (by kernel_rfl)
          · --
            intro y22 hy22
            have zy22 := hy22.size
            refine AllV_v ?_
            refine AllV_nil ?_
            refine O_loadA (vs := [_, _, _, _, _, _]) S28 rfl rfl rfl ((((((((((b1.ext e2).ext e3).ext e4).ext e5).ext e6).chg q7 (by first | assumption | omega)).ext e8).ext e9).chg q10 (by first | assumption | omega)).ext hy22) rfl rfl ?_
            exact WL_nil ⟨(Ext.refl _), rfl⟩
          apply AnyR_val [55, 56] rfl (by kernel_rfl)
          · --
            intro y23 hy23
            have zy23 := hy23.size
            refine AllV_v ?_
            refine AllV_v ?_
            refine AllV_nil ?_
            refine O_call enters16 rfl rfl rfl (ivval_F rfl (hx.ext (e10.trans hy23)) rfl (hy.ext (e10.trans hy23)) (by first | with_reducible assumption | exact dval_dman _ _ | exact dval_zero | exact dval_dg (by assumption) (by assumption) | exact dval_dl (by assumption) (by assumption)) (by first | with_reducible assumption | exact dval_dman _ _ | exact dval_zero | exact dval_dg (by assumption) (by assumption) | exact dval_dl (by assumption) (by assumption)) hr) (fun v24 w24 e24 h24 => ?_)
            have z24 := e24.size
            obtain rfl := h24
            exact WL_nil ⟨e24, rfl⟩
          apply AnyR_val [55, 3] rfl (by kernel_rfl)
          · --
            intro y25 hy25
            have zy25 := hy25.size
            refine AllV_v ?_
            refine AllV_nil ?_
            refine O_loadA (vs := [_, _, _, _, _, _]) S28 rfl rfl rfl ((((((((((b1.ext e2).ext e3).ext e4).ext e5).ext e6).chg q7 (by first | assumption | omega)).ext e8).ext e9).chg q10 (by first | assumption | omega)).ext hy25) rfl rfl ?_
            exact WL_nil ⟨(Ext.refl _), rfl⟩
          apply AnyR_val [55, 58] rfl (by kernel_rfl)
          · --
            intro y26 hy26
            have zy26 := hy26.size
            refine AllV_v ?_
            refine AllV_v ?_
            refine AllV_nil ?_
            refine O_call enters17 rfl rfl rfl (rivval_F rfl (hx.ext (e10.trans hy26)) rfl (hy.ext (e10.trans hy26)) (by first | with_reducible assumption | exact dval_dman _ _ | exact dval_zero | exact dval_dg (by assumption) (by assumption) | exact dval_dl (by assumption) (by assumption)) (by first | with_reducible assumption | exact dval_dman _ _ | exact dval_zero | exact dval_dg (by assumption) (by assumption) | exact dval_dl (by assumption) (by assumption)) hr) (fun v27 w27 e27 h27 => ?_)
            have z27 := e27.size
            obtain rfl := h27
            exact WL_nil ⟨e27, rfl⟩
          apply AnyR_val [55, 57, 59] rfl (by kernel_rfl)
          · --
            intro y28 hy28
            have zy28 := hy28.size
            refine AllV_v ?_
            refine AllV_v ?_
            refine AllV_v ?_
            refine AllV_nil ?_
            refine O_bneq Try.underlying4 rfl rfl rfl rfl rfl ?_
            exact WL_nil ⟨(Ext.refl _), rfl⟩
          apply AnyR_val [55, 60] rfl (by kernel_rfl)
          · --
            intro y29 hy29
            have zy29 := hy29.size
            refine AllV_v ?_
            refine AllV_v ?_
            refine AllV_nil ?_
            refine O_pickT rfl rfl rfl rfl ?_
            exact WL_nil ⟨(Ext.refl _), rfl⟩
          apply AnyR_val [61] rfl (by kernel_rfl)
          · --
            intro y30 hy30
            have zy30 := hy30.size
            refine AllV_v ?_
            refine AllV_nil ?_
            refine O_move rfl rfl rfl ?_
            exact WL_nil ⟨(Ext.refl _), rfl⟩
          apply AnyR_val [62, 3] rfl (by kernel_rfl)
          · --
            intro y31 hy31
            have zy31 := hy31.size
            refine AllV_v ?_
            refine AllV_nil ?_
            refine O_loadA (vs := [_, _, _, _, _, _]) S28 rfl rfl rfl ((((((((((b1.ext e2).ext e3).ext e4).ext e5).ext e6).chg q7 (by first | assumption | omega)).ext e8).ext e9).chg q10 (by first | assumption | omega)).ext hy31) rfl rfl ?_
            exact WL_nil ⟨(Ext.refl _), rfl⟩
          apply AnyR_val [62, 63] rfl (by kernel_rfl)
          · --
            intro y32 hy32
            have zy32 := hy32.size
            refine AllV_v ?_
            refine AllV_v ?_
            refine AllV_nil ?_
            refine O_call enters16 rfl rfl rfl (ivval_F rfl (hx.ext (e10.trans hy32)) rfl (hy.ext (e10.trans hy32)) (by first | with_reducible assumption | exact dval_dman _ _ | exact dval_zero | exact dval_dg (by assumption) (by assumption) | exact dval_dl (by assumption) (by assumption)) (by first | with_reducible assumption | exact dval_dman _ _ | exact dval_zero | exact dval_dg (by assumption) (by assumption) | exact dval_dl (by assumption) (by assumption)) hr) (fun v33 w33 e33 h33 => ?_)
            have z33 := e33.size
            obtain rfl := h33
            exact WL_nil ⟨e33, rfl⟩
          apply AnyR_val [62, 64] rfl (by kernel_rfl)
          · --
            intro y34 hy34
            have zy34 := hy34.size
            refine AllV_v ?_
            refine AllV_v ?_
            refine AllV_nil ?_
            refine O_move rfl rfl rfl ?_
            exact WL_nil ⟨(Ext.refl _), rfl⟩
          apply AnyR_val [65, 3] rfl (by kernel_rfl)
          · --
            intro y35 hy35
            have zy35 := hy35.size
            refine AllV_v ?_
            refine AllV_nil ?_
            refine O_skip rfl rfl ?_
            exact WL_nil ⟨(Ext.refl _), rfl⟩
          apply AnyR_val [65, 66] rfl (by kernel_rfl)
          · --
            intro y36 hy36
            have zy36 := hy36.size
            refine AllV_v ?_
            refine AllV_v ?_
            refine AllV_nil ?_
            refine O_skip rfl rfl ?_
            exact WL_nil ⟨(Ext.refl _), rfl⟩
          apply AnyR_val [65, 67] rfl (by kernel_rfl)
          · --
            intro y37 hy37
            have zy37 := hy37.size
            refine AllV_v ?_
            refine AllV_v ?_
            refine AllV_nil ?_
            refine O_skip rfl rfl ?_
            exact WL_nil ⟨(Ext.refl _), rfl⟩
          apply AnyR_val [65, 68] rfl (by kernel_rfl)
          · --
            intro y38 hy38
            have zy38 := hy38.size
            refine AllV_v ?_
            refine AllV_v ?_
            refine AllV_nil ?_
            refine O_skip rfl rfl ?_
            exact WL_nil ⟨(Ext.refl _), rfl⟩
          apply AnyR_val [62, 65, 69] rfl (by kernel_rfl)
          · --
            intro y39 hy39
            have zy39 := hy39.size
            refine AllV_v ?_
            refine AllV_v ?_
            refine AllV_v ?_
            refine AllV_nil ?_
            refine O_pickF rfl rfl rfl rfl ?_
            exact WL_nil ⟨(Ext.refl _), rfl⟩
          apply AnyR_val [62, 70] rfl (by kernel_rfl)
          · --
            intro y40 hy40
            have zy40 := hy40.size
            refine AllV_v ?_
            refine AllV_v ?_
            refine AllV_nil ?_
            refine O_pickF rfl rfl rfl rfl ?_
            exact WL_nil ⟨(Ext.refl _), rfl⟩
          refine AnyR_nil fun y41 hy41 => ?_
          have zy41 := hy41.size
          refine AllV_v ?_
          refine AllV_v ?_
          refine AllV_v ?_
          refine AllV_v ?_
          refine AllV_v ?_
          refine AllV_v ?_
          refine AllV_v ?_
          refine AllV_v ?_
          refine AllV_v ?_
          refine AllV_v ?_
          refine AllV_v ?_
          refine AllV_v ?_
          refine AllV_v ?_
          refine AllV_v ?_
          refine AllV_v ?_
          refine AllV_v ?_
          refine AllV_v ?_
          refine AllV_v ?_
          refine AllV_v ?_
          refine AllV_v ?_
          refine AllV_v ?_
          refine AllV_v ?_
          refine AllV_v ?_
          refine AllV_v ?_
          refine AllV_v ?_
          refine AllV_nil ?_
          refine WL_end [(7, _), (9, _), (71, _)] ⟨rfl, rfl, rfl, trivial⟩ ?_
          refine WP_condF rfl ?_
          refine WP_skip ?_
          refine WP_seq ?_
          have hmE := dcmp_bd XA EA XB EB
          by_cases ho : dcmp XA EA XB EB ≤ 0
          · skip
            refine WP_region ?_
            refine O_loadA (vs := [_, _, _]) S26 rfl rfl rfl ((((b7.ext e8).ext e9).chg q10 (by first | assumption | omega)).ext hy41) rfl rfl ?_
            refine O_loadA (vs := [_, _, _]) S26 rfl rfl rfl (b10.ext hy41) rfl rfl ?_
            refine O_call enters18 rfl rfl rfl (imake_T rfl ((((((hqA.ext e6).chgBk b6 (by decide) q7).ext e8).ext e9).chgBk b9 (by decide) q10).ext hy41).nl rfl (((hqB.ext e9).chgBk b9 (by decide) q10).ext hy41).nl (by first | with_reducible assumption | exact dval_dman _ _ | exact dval_zero | exact dval_dg (by assumption) (by assumption) | exact dval_dl (by assumption) (by assumption)) (by first | with_reducible assumption | exact dval_dman _ _ | exact dval_zero | exact dval_dg (by assumption) (by assumption) | exact dval_dl (by assumption) (by assumption)) ho) (fun v42 w42 e42 h42 => ?_)
            have z42 := e42.size
            try simp only [val_dig] at h42
            obtain ⟨mq42, ms42, rfl, hmq42, hms42⟩ := h42
            refine O_move rfl rfl rfl ?_
            refine O_extract rfl rfl rfl rfl ?_
            refine O_extract rfl rfl rfl rfl ?_
            refine O_alloc S28 rfl rfl (fun g43 w43 b43 e43 gl43 gh43 => ?_)
            have z43 := e43.size
            refine O_storeA (cs' := [_, _, _, _, _, _]) S28 rfl rfl rfl b43 rfl rfl (one_cons rfl (one_cons ((hmq42.ext e43).nl).one (one_cons rfl (one_cons rfl (one_cons ((hms42.ext e43).nl).one (one_cons rfl one_nil)))))) rfl (fun w44 b44 q44 => ?_)
            have z44 := Nat.le_of_eq q44.size.symm
            have e44 : Ext w w44 := q44.ext (((e10.trans hy41).trans e42).trans e43) (by omega)
            refine O_assign rfl rfl rfl ?_
            refine WL_end [(7, _), (9, _), (11, _), (12, _)] ⟨rfl, rfl, rfl, rfl, trivial⟩ ?_
            refine WP_seq ?_
            refine WP_seq ?_
            refine WP_region ?_
            refine O_loadA (vs := [_, _, _]) S26 rfl rfl rfl (((((((b7.ext e8).ext e9).chg q10 (by first | assumption | omega)).ext hy41).ext e42).ext e43).chg q44 (by first | assumption | omega)) rfl rfl ?_
            refine O_loadA (vs := [_, _, _]) S26 rfl rfl rfl ((((b10.ext hy41).ext e42).ext e43).chg q44 (by first | assumption | omega)) rfl rfl ?_
            refine O_call enters19 rfl rfl rfl (rdcmp_c rfl (((((((((hqA.ext e6).chgBk b6 (by decide) q7).ext e8).ext e9).chgBk b9 (by decide) q10).ext hy41).ext e42).ext e43).chgBk b43 (by decide) q44).nl rfl ((((((hqB.ext e9).chgBk b9 (by decide) q10).ext hy41).ext e42).ext e43).chgBk b43 (by decide) q44).nl (by (try simp only [val_dig, List.length_take, List.length_nil, List.length_cons, List.length_append, List.length_replicate, List.length_set, List.length_map, List.length_drop]); omega) (by (try simp only [val_dig, List.length_take, List.length_nil, List.length_cons, List.length_append, List.length_replicate, List.length_set, List.length_map, List.length_drop]); omega) (by (try simp only [val_dig, List.length_take, List.length_nil, List.length_cons, List.length_append, List.length_replicate, List.length_set, List.length_map, List.length_drop]); omega) (by (try simp only [val_dig, List.length_take, List.length_nil, List.length_cons, List.length_append, List.length_replicate, List.length_set, List.length_map, List.length_drop]); omega) (by (try simp only [val_dig, List.length_take, List.length_nil, List.length_cons, List.length_append, List.length_replicate, List.length_set, List.length_map, List.length_drop]); omega) (by (try simp only [val_dig, List.length_take, List.length_nil, List.length_cons, List.length_append, List.length_replicate, List.length_set, List.length_map, List.length_drop]); omega)) (fun v45 w45 e45 h45 => ?_)
            have z45 := e45.size
            obtain rfl := h45
            refine O_gtr (t := false) rfl rfl rfl rfl (decide_eq_false (by omega)) ?_
            refine WL_end [(7, _), (9, _), (11, _), (12, _), (81, _)] ⟨rfl, rfl, rfl, rfl, rfl, trivial⟩ ?_
            refine WP_condF rfl ?_
            refine WP_skip ?_
            refine WP_seq ?_
            refine WP_sub [(7, _), (9, _), (11, _), (12, _)] ⟨rfl, rfl, rfl, rfl, trivial⟩ ?_
            refine WP_anyR 15 [7, 9, 11, 12] mixed rfl (by kernel_rfl) ?_
            apply AnyR_val [12] rfl (by kernel_rfl)
            · --
              intro y46 hy46
              have zy46 := hy46.size
              refine AllV_nil ?_
              refine O_move rfl rfl rfl ?_
              exact WL_nil ⟨(Ext.refl _), rfl⟩
            apply AnyR_val [89] rfl (by kernel_rfl)
            · --
              intro y47 hy47
              have zy47 := hy47.size
              refine AllV_v ?_
              refine AllV_nil ?_
              refine O_eql (t := true) rfl rfl rfl rfl (decide_eq_true rfl) ?_
              exact WL_nil ⟨(Ext.refl _), rfl⟩
            apply AnyR_val [90] rfl (by kernel_rfl)
            · --
              intro y48 hy48
              have zy48 := hy48.size
              refine AllV_v ?_
              refine AllV_nil ?_
              refine O_move rfl rfl rfl ?_
              exact WL_nil ⟨(Ext.refl _), rfl⟩
            apply AnyR_val [91, 11] rfl (by kernel_rfl)
            · --
              intro y49 hy49
              have zy49 := hy49.size
              refine AllV_v ?_
              refine AllV_nil ?_
              refine O_loadA (vs := [_, _, _, _, _, _]) S28 rfl rfl rfl ((b44.ext e45).ext hy49) rfl rfl ?_
              exact WL_nil ⟨(Ext.refl _), rfl⟩
            apply AnyR_val [91, 7] rfl (by kernel_rfl)
            · --
              intro y50 hy50
              have zy50 := hy50.size
              refine AllV_v ?_
              refine AllV_nil ?_
              refine O_loadA (vs := [_, _, _]) S26 rfl rfl rfl (((((((((b7.ext e8).ext e9).chg q10 (by first | assumption | omega)).ext hy41).ext e42).ext e43).chg q44 (by first | assumption | omega)).ext e45).ext hy50) rfl rfl ?_
              exact WL_nil ⟨(Ext.refl _), rfl⟩
            apply AnyR_val [91, 9] rfl (by kernel_rfl)
            · --
              intro y51 hy51
              have zy51 := hy51.size
              refine AllV_v ?_
              refine AllV_nil ?_
              refine O_loadA (vs := [_, _, _]) S26 rfl rfl rfl ((((((b10.ext hy41).ext e42).ext e43).chg q44 (by first | assumption | omega)).ext e45).ext hy51) rfl rfl ?_
              exact WL_nil ⟨(Ext.refl _), rfl⟩
            apply AnyR_val [91, 93, 94] rfl (by kernel_rfl)
            · --
              intro y52 hy52
              have zy52 := hy52.size
              refine AllV_v ?_
              refine AllV_v ?_
              refine AllV_v ?_
              refine AllV_nil ?_
              refine O_build (cs := [_, _, _, _, _, _]) B28 rfl rfl rfl (cells_cons rfl (cells_cons rfl cells_nil)) rfl ?_
              exact WL_nil ⟨(Ext.refl _), rfl⟩
            apply AnyR_val [91, 92, 95] rfl (by kernel_rfl)
            · --
              intro y53 hy53
              have zy53 := hy53.size
              refine AllV_v ?_
              refine AllV_v ?_
              refine AllV_v ?_
              refine AllV_nil ?_
              refine O_call enters20 rfl rfl rfl (rivsameT_c rfl ((((hmq42.ext e43).chgBk b43 (by decide) q44).ext e45).ext hy53).nl rfl ((((hms42.ext e43).chgBk b43 (by decide) q44).ext e45).ext hy53).nl (by first | with_reducible assumption | exact dval_dman _ _ | exact dval_zero | exact dval_dg (by assumption) (by assumption) | exact dval_dl (by assumption) (by assumption)) (by first | with_reducible assumption | exact dval_dman _ _ | exact dval_zero | exact dval_dg (by assumption) (by assumption) | exact dval_dl (by assumption) (by assumption)) rfl (((((((((((hqA.ext e6).chgBk b6 (by decide) q7).ext e8).ext e9).chgBk b9 (by decide) q10).ext hy41).ext e42).ext e43).chgBk b43 (by decide) q44).ext e45).ext hy53).nl rfl ((((((((hqB.ext e9).chgBk b9 (by decide) q10).ext hy41).ext e42).ext e43).chgBk b43 (by decide) q44).ext e45).ext hy53).nl (by first | with_reducible assumption | exact dval_dman _ _ | exact dval_zero | exact dval_dg (by assumption) (by assumption) | exact dval_dl (by assumption) (by assumption)) (by first | with_reducible assumption | exact dval_dman _ _ | exact dval_zero | exact dval_dg (by assumption) (by assumption) | exact dval_dl (by assumption) (by assumption)) samev_self) (fun v54 w54 e54 h54 => ?_)
              have z54 := e54.size
              obtain rfl := h54
              exact WL_nil ⟨e54, rfl⟩
            apply AnyR_val [91, 96] rfl (by kernel_rfl)
            · --
              intro y55 hy55
              have zy55 := hy55.size
              refine AllV_v ?_
              refine AllV_v ?_
              refine AllV_nil ?_
              refine O_pickT rfl rfl rfl rfl ?_
              exact WL_nil ⟨(Ext.refl _), rfl⟩
            apply AnyR_val [97] rfl (by kernel_rfl)
            · --
              intro y56 hy56
              have zy56 := hy56.size
              refine AllV_v ?_
              refine AllV_nil ?_
              refine O_move rfl rfl rfl ?_
              exact WL_nil ⟨(Ext.refl _), rfl⟩
            apply AnyR_val [98, 7] rfl (by kernel_rfl)
            · --
              intro y57 hy57
              have zy57 := hy57.size
              refine AllV_v ?_
              refine AllV_nil ?_
              refine O_loadA (vs := [_, _, _]) S26 rfl rfl rfl (((((((((b7.ext e8).ext e9).chg q10 (by first | assumption | omega)).ext hy41).ext e42).ext e43).chg q44 (by first | assumption | omega)).ext e45).ext hy57) rfl rfl ?_
              exact WL_nil ⟨(Ext.refl _), rfl⟩
            apply AnyR_rel (RelP (pAgg [pEq _, pNo w45.heap.size 93 _, pEq _, pEq _, pNo w45.heap.size 93 _, pEq _])) [98, 99] rfl (RelP.mono (pAgg_mono (PsM.cons pEq_mono (PsM.cons pNo_mono (PsM.cons pEq_mono (PsM.cons pEq_mono (PsM.cons pNo_mono (PsM.cons pEq_mono PsM.nil)))))))) (by kernel_rfl)
            · --
              intro y58 hy58
              have zy58 := hy58.size
              refine AllV_v ?_
              refine AllV_v ?_
              refine AllV_nil ?_
              refine O_call enters21 rfl rfl rfl (point_c rfl (((((((((((hqA.ext e6).chgBk b6 (by decide) q7).ext e8).ext e9).chgBk b9 (by decide) q10).ext hy41).ext e42).ext e43).chgBk b43 (by decide) q44).ext e45).ext hy58).nl (by first | with_reducible assumption | exact dval_dman _ _ | exact dval_zero | exact dval_dg (by assumption) (by assumption) | exact dval_dl (by assumption) (by assumption))) (fun v59 w59 e59 h59 => ?_)
              have z59 := e59.size
              try simp only [val_dig] at h59
              obtain ⟨mq59, ms59, rfl, hmq59, hms59⟩ := h59
              exact WL_nil ⟨e59, _, rfl, ⟨_, rfl, (AllP.cons rfl (AllP.cons (hmq59.mono (by omega)) (AllP.cons rfl (AllP.cons rfl (AllP.cons (hms59.mono (by omega)) (AllP.cons rfl AllP.nil))))))⟩⟩
            apply AnyR_val [98, 7] rfl (by kernel_rfl)
            · --
              intro y60 hy60
              have zy60 := hy60.size
              refine AllV_v ?_
              refine AllV_nil ?_
              refine O_loadA (vs := [_, _, _]) S26 rfl rfl rfl (((((((((b7.ext e8).ext e9).chg q10 (by first | assumption | omega)).ext hy41).ext e42).ext e43).chg q44 (by first | assumption | omega)).ext e45).ext hy60) rfl rfl ?_
              exact WL_nil ⟨(Ext.refl _), rfl⟩
            apply AnyR_val [98, 7] rfl (by kernel_rfl)
            · --
              intro y61 hy61
              have zy61 := hy61.size
              refine AllV_v ?_
              refine AllV_nil ?_
              refine O_loadA (vs := [_, _, _]) S26 rfl rfl rfl (((((((((b7.ext e8).ext e9).chg q10 (by first | assumption | omega)).ext hy41).ext e42).ext e43).chg q44 (by first | assumption | omega)).ext e45).ext hy61) rfl rfl ?_
              exact WL_nil ⟨(Ext.refl _), rfl⟩
            apply AnyR_val [98, 101, 102] rfl (by kernel_rfl)
            · --
              intro y62 hy62
              have zy62 := hy62.size
              refine AllV_v ?_
              refine AllV_v ?_
              refine AllV_v ?_
              refine AllV_nil ?_
              refine O_build (cs := [_, _, _, _, _, _]) B28 rfl rfl rfl (cells_cons rfl (cells_cons rfl cells_nil)) rfl ?_
              exact WL_nil ⟨(Ext.refl _), rfl⟩
            refine AnyR_nil fun y63 hy63 => ?_
            have zy63 := hy63.size
            refine AllV_v ?_
            refine AllV_v ?_
            refine AllV_v ?_
            refine AllV_v ?_
            refine AllV_v ?_
            refine AllV_v ?_
            refine AllV_v ?_
            refine AllV_v ?_
            refine AllV_v ?_
            refine AllV_v ?_
            refine AllV_v ?_
            refine AllV_r fun a64 b64 v64 la64 lb64 lc64 h64 ap64 => ?_
            clear ap64
            obtain ⟨_, rfl, v64_0, _, rfl, rfl, v64_1, _, rfl, h64_1, v64_2, _, rfl, rfl, v64_3, _, rfl, rfl, v64_4, _, rfl, h64_4, v64_5, _, rfl, rfl, rfl⟩ := h64
            refine AllV_v ?_
            refine AllV_v ?_
            refine AllV_v ?_
            refine AllV_nil ?_
            refine O_call enters20 rfl rfl rfl (rivsameT_c rfl h64_1.nl rfl h64_4.nl (by first | with_reducible assumption | exact dval_dman _ _ | exact dval_zero | exact dval_dg (by assumption) (by assumption) | exact dval_dl (by assumption) (by assumption)) (by first | with_reducible assumption | exact dval_dman _ _ | exact dval_zero | exact dval_dg (by assumption) (by assumption) | exact dval_dl (by assumption) (by assumption)) rfl (((((((((((hqA.ext e6).chgBk b6 (by decide) q7).ext e8).ext e9).chgBk b9 (by decide) q10).ext hy41).ext e42).ext e43).chgBk b43 (by decide) q44).ext e45).ext hy63).nl rfl (((((((((((hqA.ext e6).chgBk b6 (by decide) q7).ext e8).ext e9).chgBk b9 (by decide) q10).ext hy41).ext e42).ext e43).chgBk b43 (by decide) q44).ext e45).ext hy63).nl (by first | with_reducible assumption | exact dval_dman _ _ | exact dval_zero | exact dval_dg (by assumption) (by assumption) | exact dval_dl (by assumption) (by assumption)) (by first | with_reducible assumption | exact dval_dman _ _ | exact dval_zero | exact dval_dg (by assumption) (by assumption) | exact dval_dl (by assumption) (by assumption)) samev_self) (fun v65 w65 e65 h65 => ?_)
            have z65 := e65.size
            obtain rfl := h65
            refine O_pickT rfl rfl rfl rfl ?_
            refine O_assign rfl rfl rfl ?_
            refine WL_end [(6, _)] ⟨rfl, trivial⟩ ?_
            refine WP_ret ?_
            refine ret1 Try.results4 rfl ?_
            exact ⟨_, rfl, (((e44.trans e45).trans hy63).trans e65), rfl⟩
          · skip
            refine WP_region ?_
            refine O_loadA (vs := [_, _, _]) S26 rfl rfl rfl ((((b7.ext e8).ext e9).chg q10 (by first | assumption | omega)).ext hy41) rfl rfl ?_
            refine O_loadA (vs := [_, _, _]) S26 rfl rfl rfl (b10.ext hy41) rfl rfl ?_
            refine O_call enters18 rfl rfl rfl (imake_F rfl ((((((hqA.ext e6).chgBk b6 (by decide) q7).ext e8).ext e9).chgBk b9 (by decide) q10).ext hy41).nl rfl (((hqB.ext e9).chgBk b9 (by decide) q10).ext hy41).nl (by first | with_reducible assumption | exact dval_dman _ _ | exact dval_zero | exact dval_dg (by assumption) (by assumption) | exact dval_dl (by assumption) (by assumption)) (by first | with_reducible assumption | exact dval_dman _ _ | exact dval_zero | exact dval_dg (by assumption) (by assumption) | exact dval_dl (by assumption) (by assumption)) ho) (fun v66 w66 e66 h66 => ?_)
            have z66 := e66.size
            try simp only [val_dig] at h66
            obtain rfl := h66
            refine O_move rfl rfl rfl ?_
            refine O_extract rfl rfl rfl rfl ?_
            refine O_extract rfl rfl rfl rfl ?_
            refine O_alloc S28 rfl rfl (fun g67 w67 b67 e67 gl67 gh67 => ?_)
            have z67 := e67.size
            refine O_storeA (cs' := [_, _, _, _, _, _]) S28 rfl rfl rfl b67 rfl rfl (one_cons rfl (one_cons rfl (one_cons rfl (one_cons rfl (one_cons rfl (one_cons rfl one_nil)))))) rfl (fun w68 b68 q68 => ?_)
            have z68 := Nat.le_of_eq q68.size.symm
            have e68 : Ext w w68 := q68.ext (((e10.trans hy41).trans e66).trans e67) (by omega)
            refine O_assign rfl rfl rfl ?_
            refine WL_end [(7, _), (9, _), (11, _), (12, _)] ⟨rfl, rfl, rfl, rfl, trivial⟩ ?_
            refine WP_seq ?_
            refine WP_seq ?_
            refine WP_region ?_
            refine O_loadA (vs := [_, _, _]) S26 rfl rfl rfl (((((((b7.ext e8).ext e9).chg q10 (by first | assumption | omega)).ext hy41).ext e66).ext e67).chg q68 (by first | assumption | omega)) rfl rfl ?_
            refine O_loadA (vs := [_, _, _]) S26 rfl rfl rfl ((((b10.ext hy41).ext e66).ext e67).chg q68 (by first | assumption | omega)) rfl rfl ?_
            refine O_call enters19 rfl rfl rfl (rdcmp_c rfl (((((((((hqA.ext e6).chgBk b6 (by decide) q7).ext e8).ext e9).chgBk b9 (by decide) q10).ext hy41).ext e66).ext e67).chgBk b67 (by decide) q68).nl rfl ((((((hqB.ext e9).chgBk b9 (by decide) q10).ext hy41).ext e66).ext e67).chgBk b67 (by decide) q68).nl (by (try simp only [val_dig, List.length_take, List.length_nil, List.length_cons, List.length_append, List.length_replicate, List.length_set, List.length_map, List.length_drop]); omega) (by (try simp only [val_dig, List.length_take, List.length_nil, List.length_cons, List.length_append, List.length_replicate, List.length_set, List.length_map, List.length_drop]); omega) (by (try simp only [val_dig, List.length_take, List.length_nil, List.length_cons, List.length_append, List.length_replicate, List.length_set, List.length_map, List.length_drop]); omega) (by (try simp only [val_dig, List.length_take, List.length_nil, List.length_cons, List.length_append, List.length_replicate, List.length_set, List.length_map, List.length_drop]); omega) (by (try simp only [val_dig, List.length_take, List.length_nil, List.length_cons, List.length_append, List.length_replicate, List.length_set, List.length_map, List.length_drop]); omega) (by (try simp only [val_dig, List.length_take, List.length_nil, List.length_cons, List.length_append, List.length_replicate, List.length_set, List.length_map, List.length_drop]); omega)) (fun v69 w69 e69 h69 => ?_)
            have z69 := e69.size
            obtain rfl := h69
            refine O_gtr (t := true) rfl rfl rfl rfl (decide_eq_true (by omega)) ?_
            refine WL_end [(7, _), (9, _), (11, _), (12, _), (81, _)] ⟨rfl, rfl, rfl, rfl, rfl, trivial⟩ ?_
            refine WP_condT rfl ?_
            refine WP_seq ?_
            refine WP_region ?_
            refine O_move rfl rfl rfl ?_
            refine O_eql (t := true) rfl rfl rfl rfl (decide_eq_true rfl) ?_
            refine O_move rfl rfl rfl ?_
            refine O_loadA (vs := [_, _, _, _, _, _]) S28 rfl rfl rfl (b68.ext e69) rfl rfl ?_
            refine O_build (cs := [_, _, _, _, _, _]) B28 rfl rfl rfl cells_nil rfl ?_
            refine O_call enters20 rfl rfl rfl (rivsameT_z) (fun v70 w70 e70 h70 => ?_)
            have z70 := e70.size
            obtain rfl := h70
            refine O_pickT rfl rfl rfl rfl ?_
            refine O_assign rfl rfl rfl ?_
            refine WL_end [(6, _)] ⟨rfl, trivial⟩ ?_
            refine WP_ret ?_
            refine ret1 Try.results4 rfl ?_
            exact ⟨_, rfl, ((e68.trans e69).trans e70), rfl⟩
set_option maxHeartbeats 4000000 in
theorem law_IM_L {w : World} {vx vy : Value} {lx ly : List Nat} {bx by_ : Bool} {e f : Int} (hx : Nl w vx lx) (hy : Nl w vy ly) (hlx : lx.length ≤ 20) (hly : ly.length ≤ 20) (hr : dvalr bx lx e = false) {vz vu : Value} {lz lu : List Nat} {bz bu : Bool} {g h : Int} (hz : Nl w vz lz) (hu : Nl w vu lu) :
    Calls Try.prog 4 #[.agg #[.bool bx, vx, .int .i64 e, .bool by_, vy, .int .i64 f], .agg #[.bool bz, vz, .int .i64 g], .agg #[.bool bu, vu, .int .i64 h]] w (Ret w fun r _ => r = .bool true) := by
  refine enter (args := [_, _, _]) Try.func4 rfl Try.ntmps4 rfl ?_
  refine WP_seq ?_
  refine WP_region ?_
  refine O_box _ rfl rfl rfl rfl (fun g1 w1 b1 e1 gl1 gh1 => ?_)
  have z1 := e1.size
  refine O_box _ rfl rfl rfl rfl (fun g2 w2 b2 e2 gl2 gh2 => ?_)
  have z2 := e2.size
  refine O_box _ rfl rfl rfl rfl (fun g3 w3 b3 e3 gl3 gh3 => ?_)
  have z3 := e3.size
  refine O_assign rfl rfl rfl ?_
  refine WL_end [(3, _), (4, _), (5, _)] ⟨rfl, rfl, rfl, trivial⟩ ?_
  refine WP_seq ?_
  refine WP_seq ?_
  refine WP_region ?_
  refine O_call enters7 rfl rfl rfl (awake10_c) (fun v4 w4 e4 h4 => ?_)
  have z4 := e4.size
  obtain rfl := h4
  refine O_not rfl rfl rfl rfl ?_
  refine WL_end [(3, _), (4, _), (5, _), (14, _)] ⟨rfl, rfl, rfl, rfl, trivial⟩ ?_
  refine WP_condF rfl ?_
  refine WP_skip ?_
  refine WP_seq ?_
  refine WP_region ?_
  refine O_loadA (vs := [_, _, _]) S26 rfl rfl rfl ((b2.ext e3).ext e4) rfl rfl ?_
  refine O_call enters14 rfl rfl rfl (mdy_c (n := 5) (m := 60) (hz.ext (((e1.trans e2).trans e3).trans e4)) (by decide)) (fun v5 w5 e5 h5 => ?_)
  have z5 := e5.size
  try simp only [val_dig] at h5
  obtain ⟨XA, EA, qA, bA, rfl, hqA, hvA, hkA, hjA, hlA⟩ := h5
  refine O_move rfl rfl rfl ?_
  refine O_extract rfl rfl rfl rfl ?_
  refine O_extract rfl rfl rfl rfl ?_
  refine O_alloc S26 rfl rfl (fun g6 w6 b6 e6 gl6 gh6 => ?_)
  have z6 := e6.size
  refine O_storeA (cs' := [_, _, _]) S26 rfl rfl rfl b6 rfl rfl (one_cons rfl (one_cons ((hqA.ext e6).nl).one (one_cons rfl one_nil))) rfl (fun w7 b7 q7 => ?_)
  have z7 := Nat.le_of_eq q7.size.symm
  have e7 : Ext w w7 := q7.ext (((((e1.trans e2).trans e3).trans e4).trans e5).trans e6) (by omega)
  refine O_assign rfl rfl rfl ?_
  refine WL_end [(3, _), (5, _), (7, _), (8, _)] ⟨rfl, rfl, rfl, rfl, trivial⟩ ?_
  refine WP_seq ?_
  refine WP_region ?_
  refine O_loadA (vs := [_, _, _]) S26 rfl rfl rfl ((((b3.ext e4).ext e5).ext e6).chg q7 (by first | assumption | omega)) rfl rfl ?_
  refine O_call enters14 rfl rfl rfl (mdy_c (n := 5) (m := 60) (hu.ext e7) (by decide)) (fun v8 w8 e8 h8 => ?_)
  have z8 := e8.size
  try simp only [val_dig] at h8
  obtain ⟨XB, EB, qB, bB, rfl, hqB, hvB, hkB, hjB, hlB⟩ := h8
  refine O_move rfl rfl rfl ?_
  refine O_extract rfl rfl rfl rfl ?_
  refine O_extract rfl rfl rfl rfl ?_
  refine O_alloc S26 rfl rfl (fun g9 w9 b9 e9 gl9 gh9 => ?_)
  have z9 := e9.size
  refine O_storeA (cs' := [_, _, _]) S26 rfl rfl rfl b9 rfl rfl (one_cons rfl (one_cons ((hqB.ext e9).nl).one (one_cons rfl one_nil))) rfl (fun w10 b10 q10 => ?_)
  have z10 := Nat.le_of_eq q10.size.symm
  have e10 : Ext w w10 := q10.ext ((e7.trans e8).trans e9) (by omega)
  refine O_assign rfl rfl rfl ?_
  refine WL_end [(3, _), (7, _), (8, _), (9, _), (10, _)] ⟨rfl, rfl, rfl, rfl, rfl, trivial⟩ ?_
  refine WP_seq ?_
  refine WP_seq ?_
  refine WP_region ?_
  refine O_move rfl rfl rfl ?_
  refine O_not rfl rfl rfl rfl ?_
  refine O_move rfl rfl rfl ?_
  refine WL_bool 27 rfl (fun g27 => ?_) (fun g27 => ?_)
  · --
    refine O_skip rfl rfl ?_
    refine O_skip rfl rfl ?_
    refine O_pickT rfl rfl rfl rfl ?_
    refine O_move rfl rfl rfl ?_
    refine O_skip rfl rfl ?_
    refine O_skip rfl rfl ?_
    refine O_skip rfl rfl ?_
    refine O_skip rfl rfl ?_
    refine O_skip rfl rfl ?_
    refine O_skip rfl rfl ?_
    refine O_pickT rfl rfl rfl rfl ?_
    refine O_move rfl rfl rfl ?_
    refine O_skip rfl rfl ?_
    refine O_skip rfl rfl ?_
    refine O_skip rfl rfl ?_
    refine O_skip rfl rfl ?_
    refine O_skip rfl rfl ?_
    refine O_skip rfl rfl ?_
    refine O_pickT rfl rfl rfl rfl ?_
    refine WL_end [(3, _), (7, _), (9, _), (46, _)] ⟨rfl, rfl, rfl, rfl, trivial⟩ ?_
    refine WP_condT rfl ?_
    refine WP_seq ?_
    refine WP_region ?_
    refine O_assign rfl rfl rfl ?_
    refine WL_end [(6, _)] ⟨rfl, trivial⟩ ?_
    refine WP_ret ?_
    refine ret1 Try.results4 rfl ?_
    exact ⟨_, rfl, e10, rfl⟩
  · --
    refine O_move rfl rfl rfl ?_
    refine O_not rfl rfl rfl rfl ?_
    refine O_pickF rfl rfl rfl rfl ?_
    refine O_move rfl rfl rfl ?_
    refine WL_bool 31 rfl (fun g31 => ?_) (fun g31 => ?_)
    · --
      refine O_skip rfl rfl ?_
      refine O_skip rfl rfl ?_
      refine O_skip rfl rfl ?_
      refine O_skip rfl rfl ?_
      refine O_skip rfl rfl ?_
      refine O_skip rfl rfl ?_
      refine O_pickT rfl rfl rfl rfl ?_
      refine O_move rfl rfl rfl ?_
      refine O_skip rfl rfl ?_
      refine O_skip rfl rfl ?_
      refine O_skip rfl rfl ?_
      refine O_skip rfl rfl ?_
      refine O_skip rfl rfl ?_
      refine O_skip rfl rfl ?_
      refine O_pickT rfl rfl rfl rfl ?_
      refine WL_end [(3, _), (7, _), (9, _), (46, _)] ⟨rfl, rfl, rfl, rfl, trivial⟩ ?_
      refine WP_condT rfl ?_
      refine WP_seq ?_
      refine WP_region ?_
      refine O_assign rfl rfl rfl ?_
      refine WL_end [(6, _)] ⟨rfl, trivial⟩ ?_
      refine WP_ret ?_
      refine ret1 Try.results4 rfl ?_
      exact ⟨_, rfl, e10, rfl⟩
    · --
      refine O_field F28_0 rfl rfl rfl ?_
      refine O_field F26_0 rfl rfl rfl ?_
      refine O_field F24_1 rfl rfl rfl ?_
      refine O_loadC Try.underlying22 rfl rfl rfl rfl (((((((((b1.ext e2).ext e3).ext e4).ext e5).ext e6).chg q7 (by first | assumption | omega)).ext e8).ext e9).chg q10 (by first | assumption | omega)) rfl ?_
      refine N_len T22 rfl rfl rfl (hx.ext e10) ?_
      refine O_gtr rfl rfl rfl rfl rfl ?_
      refine O_pickF rfl rfl rfl rfl ?_
      refine O_move rfl rfl rfl ?_
      refine WL_dec 39 rfl (fun g39 => ?_) (fun g39 => ?_)
      · --
        refine O_skip rfl rfl ?_
        refine O_skip rfl rfl ?_
        refine O_skip rfl rfl ?_
        refine O_skip rfl rfl ?_
        refine O_skip rfl rfl ?_
        refine O_skip rfl rfl ?_
        refine O_pickT rfl rfl rfl rfl ?_
        refine WL_end [(3, _), (7, _), (9, _), (46, _)] ⟨rfl, rfl, rfl, rfl, trivial⟩ ?_
        refine WP_condT rfl ?_
        refine WP_seq ?_
        refine WP_region ?_
        refine O_assign rfl rfl rfl ?_
        refine WL_end [(6, _)] ⟨rfl, trivial⟩ ?_
        refine WP_ret ?_
        refine ret1 Try.results4 rfl ?_
        exact ⟨_, rfl, e10, rfl⟩
      · --
        refine O_field F28_1 rfl rfl rfl ?_
        refine O_field F26_0 rfl rfl rfl ?_
        refine O_field F24_1 rfl rfl rfl ?_
        refine O_loadC Try.underlying22 rfl rfl rfl rfl (((((((((b1.ext e2).ext e3).ext e4).ext e5).ext e6).chg q7 (by first | assumption | omega)).ext e8).ext e9).chg q10 (by first | assumption | omega)) rfl ?_
        refine N_len T22 rfl rfl rfl (hy.ext e10) ?_
        refine O_gtr rfl rfl rfl rfl rfl ?_
        refine O_pickF rfl rfl rfl rfl ?_
        refine WL_end [(3, _), (7, _), (9, _), (46, _)] ⟨rfl, rfl, rfl, rfl, trivial⟩ ?_
        refine WP_condD rfl (fun c46 => ?_) (fun c46 => ?_)
        · --
          refine WP_seq ?_
          refine WP_region ?_
          refine O_assign rfl rfl rfl ?_
          refine WL_end [(6, _)] ⟨rfl, trivial⟩ ?_
          refine WP_ret ?_
          refine ret1 Try.results4 rfl ?_
          exact ⟨_, rfl, e10, rfl⟩
        · --
          refine WP_skip ?_
          refine WP_seq ?_
          refine WP_seq ?_
          refine WP_sub [(3, _), (7, _), (9, _)] ⟨rfl, rfl, rfl, trivial⟩ ?_
          refine WP_anyR 25 [3, 7, 9] mixed rfl (by kernel_rfl) ?_
          apply AnyR_val [3] rfl (by kernel_rfl)
          · --
            intro y11 hy11
            have zy11 := hy11.size
            refine AllV_nil ?_
            refine O_field F28_0 rfl rfl rfl ?_
            exact WL_nil ⟨(Ext.refl _), rfl⟩
          apply AnyR_val [47] rfl (by kernel_rfl)
          · --
            intro y12 hy12
            have zy12 := hy12.size
            refine AllV_v ?_
            refine AllV_nil ?_
            refine O_loadA (vs := [_, _, _]) S26 rfl rfl rfl ((((((((((b1.ext e2).ext e3).ext e4).ext e5).ext e6).chg q7 (by first | assumption | omega)).ext e8).ext e9).chg q10 (by first | assumption | omega)).ext hy12) rfl rfl ?_
            exact WL_nil ⟨(Ext.refl _), rfl⟩
          apply AnyR_val [48] rfl (by kernel_rfl)
          · --
            intro y13 hy13
            have zy13 := hy13.size
            refine AllV_v ?_
            refine AllV_nil ?_
            refine O_call enters15 rfl rfl rfl (rdvalRF_c (hx.ext (e10.trans hy13)) (by first | with_reducible assumption | omega) hr) (fun v14 w14 e14 h14 => ?_)
            have z14 := e14.size
            obtain rfl := h14
            exact WL_nil ⟨e14, rfl⟩
          apply AnyR_val [49] rfl (by kernel_rfl)
          · --
            intro y15 hy15
            have zy15 := hy15.size
            refine AllV_v ?_
            refine AllV_nil ?_
            refine O_move rfl rfl rfl ?_
            exact WL_nil ⟨(Ext.refl _), rfl⟩
          apply AnyR_val [50, 3] rfl (by kernel_rfl)
          · --
            intro y16 hy16
            have zy16 := hy16.size
            refine AllV_v ?_
            refine AllV_nil ?_
            refine O_skip rfl rfl ?_
            exact WL_nil ⟨(Ext.refl _), rfl⟩
          apply AnyR_val [50, 51] rfl (by kernel_rfl)
          · --
            intro y17 hy17
            have zy17 := hy17.size
            refine AllV_v ?_
            refine AllV_v ?_
            refine AllV_nil ?_
            refine O_skip rfl rfl ?_
            exact WL_nil ⟨(Ext.refl _), rfl⟩
          apply AnyR_val [50, 52] rfl (by kernel_rfl)
          · --
            intro y18 hy18
            have zy18 := hy18.size
            refine AllV_v ?_
            refine AllV_v ?_
            refine AllV_nil ?_
            refine O_skip rfl rfl ?_
            exact WL_nil ⟨(Ext.refl _), rfl⟩
          apply AnyR_val [50, 53] rfl (by kernel_rfl)
          · --
            intro y19 hy19
            have zy19 := hy19.size
            refine AllV_v ?_
            refine AllV_v ?_
            refine AllV_nil ?_
            refine O_pickF rfl rfl rfl rfl ?_
            exact WL_nil ⟨(Ext.refl _), rfl⟩
          apply AnyR_val [54] rfl (by kernel_rfl)
          · --
            intro y20 hy20
            have zy20 := hy20.size
            refine AllV_v ?_
            refine AllV_nil ?_
            refine O_move rfl rfl rfl ?_
            exact WL_nil ⟨(Ext.refl _), rfl⟩
          apply AnyR_val [55, 3] rfl (by kernel_rfl)
          · --
            intro y21 hy21
            have zy21 := hy21.size
            refine AllV_v ?_
            refine AllV_nil ?_
            refine O_skip rfl rfl ?_
            exact WL_nil ⟨(Ext.refl _), rfl⟩
          apply AnyR_val [55, 56] rfl (by kernel_rfl)
          · --
            intro y22 hy22
            have zy22 := hy22.size
            refine AllV_v ?_
            refine AllV_v ?_
            refine AllV_nil ?_
            refine O_skip rfl rfl ?_
            exact WL_nil ⟨(Ext.refl _), rfl⟩
          apply AnyR_val [55, 3] rfl (by kernel_rfl)
          · --
            intro y23 hy23
            have zy23 := hy23.size
            refine AllV_v ?_
            refine AllV_nil ?_
            refine O_skip rfl rfl ?_
            exact WL_nil ⟨(Ext.refl _), rfl⟩
          apply AnyR_val [55, 58] rfl (by kernel_rfl)
          · --
            intro y24 hy24
            have zy24 := hy24.size
            refine AllV_v ?_
            refine AllV_v ?_
            refine AllV_nil ?_
            refine O_skip rfl rfl ?_
            exact WL_nil ⟨(Ext.refl _), rfl⟩
          apply AnyR_val [55, 57, 59] rfl (by kernel_rfl)
          · --
            intro y25 hy25
            have zy25 := hy25.size
            refine AllV_v ?_
            refine AllV_v ?_
            refine AllV_v ?_
            refine AllV_nil ?_
            refine O_skip rfl rfl ?_
            exact WL_nil ⟨(Ext.refl _), rfl⟩
          apply AnyR_val [55, 60] rfl (by kernel_rfl)
          · --
            intro y26 hy26
            have zy26 := hy26.size
            refine AllV_v ?_
            refine AllV_v ?_
            refine AllV_nil ?_
            refine O_pickF rfl rfl rfl rfl ?_
            exact WL_nil ⟨(Ext.refl _), rfl⟩
          apply AnyR_val [61] rfl (by kernel_rfl)
          · --
            intro y27 hy27
            have zy27 := hy27.size
            refine AllV_v ?_
            refine AllV_nil ?_
            refine O_move rfl rfl rfl ?_
            exact WL_nil ⟨(Ext.refl _), rfl⟩
          apply AnyR_val [62, 3] rfl (by kernel_rfl)
          · --
            intro y28 hy28
            have zy28 := hy28.size
            refine AllV_v ?_
            refine AllV_nil ?_
            refine O_loadA (vs := [_, _, _, _, _, _]) S28 rfl rfl rfl ((((((((((b1.ext e2).ext e3).ext e4).ext e5).ext e6).chg q7 (by first | assumption | omega)).ext e8).ext e9).chg q10 (by first | assumption | omega)).ext hy28) rfl rfl ?_
            exact WL_nil ⟨(Ext.refl _), rfl⟩
          apply AnyR_val [62, 63] rfl (by kernel_rfl)
          · --
            intro y29 hy29
            have zy29 := hy29.size
            refine AllV_v ?_
            refine AllV_v ?_
            refine AllV_nil ?_
            refine O_call enters16 rfl rfl rfl (ivalFL_c (hx.ext (e10.trans hy29)) (by first | with_reducible assumption | omega) (hy.ext (e10.trans hy29)) (by first | with_reducible assumption | omega) hr) (fun v30 w30 e30 h30 => ?_)
            have z30 := e30.size
            obtain rfl := h30
            exact WL_nil ⟨e30, rfl⟩
          apply AnyR_val [62, 64] rfl (by kernel_rfl)
          · --
            intro y31 hy31
            have zy31 := hy31.size
            refine AllV_v ?_
            refine AllV_v ?_
            refine AllV_nil ?_
            refine O_move rfl rfl rfl ?_
            exact WL_nil ⟨(Ext.refl _), rfl⟩
          apply AnyR_val [65, 3] rfl (by kernel_rfl)
          · --
            intro y32 hy32
            have zy32 := hy32.size
            refine AllV_v ?_
            refine AllV_nil ?_
            refine O_skip rfl rfl ?_
            exact WL_nil ⟨(Ext.refl _), rfl⟩
          apply AnyR_val [65, 66] rfl (by kernel_rfl)
          · --
            intro y33 hy33
            have zy33 := hy33.size
            refine AllV_v ?_
            refine AllV_v ?_
            refine AllV_nil ?_
            refine O_skip rfl rfl ?_
            exact WL_nil ⟨(Ext.refl _), rfl⟩
          apply AnyR_val [65, 67] rfl (by kernel_rfl)
          · --
            intro y34 hy34
            have zy34 := hy34.size
            refine AllV_v ?_
            refine AllV_v ?_
            refine AllV_nil ?_
            refine O_skip rfl rfl ?_
            exact WL_nil ⟨(Ext.refl _), rfl⟩
          apply AnyR_val [65, 68] rfl (by kernel_rfl)
          · --
            intro y35 hy35
            have zy35 := hy35.size
            refine AllV_v ?_
            refine AllV_v ?_
            refine AllV_nil ?_
            refine O_skip rfl rfl ?_
            exact WL_nil ⟨(Ext.refl _), rfl⟩
          apply AnyR_val [62, 65, 69] rfl (by kernel_rfl)
          · --
            intro y36 hy36
            have zy36 := hy36.size
            refine AllV_v ?_
            refine AllV_v ?_
            refine AllV_v ?_
            refine AllV_nil ?_
            refine O_pickF rfl rfl rfl rfl ?_
            exact WL_nil ⟨(Ext.refl _), rfl⟩
          apply AnyR_val [62, 70] rfl (by kernel_rfl)
          · --
            intro y37 hy37
            have zy37 := hy37.size
            refine AllV_v ?_
            refine AllV_v ?_
            refine AllV_nil ?_
            refine O_pickF rfl rfl rfl rfl ?_
            exact WL_nil ⟨(Ext.refl _), rfl⟩
          refine AnyR_nil fun y38 hy38 => ?_
          have zy38 := hy38.size
          refine AllV_v ?_
          refine AllV_v ?_
          refine AllV_v ?_
          refine AllV_v ?_
          refine AllV_v ?_
          refine AllV_v ?_
          refine AllV_v ?_
          refine AllV_v ?_
          refine AllV_v ?_
          refine AllV_v ?_
          refine AllV_v ?_
          refine AllV_v ?_
          refine AllV_v ?_
          refine AllV_v ?_
          refine AllV_v ?_
          refine AllV_v ?_
          refine AllV_v ?_
          refine AllV_v ?_
          refine AllV_v ?_
          refine AllV_v ?_
          refine AllV_v ?_
          refine AllV_v ?_
          refine AllV_v ?_
          refine AllV_v ?_
          refine AllV_v ?_
          refine AllV_nil ?_
          refine WL_end [(7, _), (9, _), (71, _)] ⟨rfl, rfl, rfl, trivial⟩ ?_
          refine WP_condF rfl ?_
          refine WP_skip ?_
          refine WP_seq ?_
          have hmE := dcmp_bd XA EA XB EB
          by_cases ho : dcmp XA EA XB EB ≤ 0
          · skip
            refine WP_region ?_
            refine O_loadA (vs := [_, _, _]) S26 rfl rfl rfl ((((b7.ext e8).ext e9).chg q10 (by first | assumption | omega)).ext hy38) rfl rfl ?_
            refine O_loadA (vs := [_, _, _]) S26 rfl rfl rfl (b10.ext hy38) rfl rfl ?_
            refine O_call enters18 rfl rfl rfl (imake_T rfl ((((((hqA.ext e6).chgBk b6 (by decide) q7).ext e8).ext e9).chgBk b9 (by decide) q10).ext hy38).nl rfl (((hqB.ext e9).chgBk b9 (by decide) q10).ext hy38).nl (by first | with_reducible assumption | exact dval_dman _ _ | exact dval_zero | exact dval_dg (by assumption) (by assumption) | exact dval_dl (by assumption) (by assumption)) (by first | with_reducible assumption | exact dval_dman _ _ | exact dval_zero | exact dval_dg (by assumption) (by assumption) | exact dval_dl (by assumption) (by assumption)) ho) (fun v39 w39 e39 h39 => ?_)
            have z39 := e39.size
            try simp only [val_dig] at h39
            obtain ⟨mq39, ms39, rfl, hmq39, hms39⟩ := h39
            refine O_move rfl rfl rfl ?_
            refine O_extract rfl rfl rfl rfl ?_
            refine O_extract rfl rfl rfl rfl ?_
            refine O_alloc S28 rfl rfl (fun g40 w40 b40 e40 gl40 gh40 => ?_)
            have z40 := e40.size
            refine O_storeA (cs' := [_, _, _, _, _, _]) S28 rfl rfl rfl b40 rfl rfl (one_cons rfl (one_cons ((hmq39.ext e40).nl).one (one_cons rfl (one_cons rfl (one_cons ((hms39.ext e40).nl).one (one_cons rfl one_nil)))))) rfl (fun w41 b41 q41 => ?_)
            have z41 := Nat.le_of_eq q41.size.symm
            have e41 : Ext w w41 := q41.ext (((e10.trans hy38).trans e39).trans e40) (by omega)
            refine O_assign rfl rfl rfl ?_
            refine WL_end [(7, _), (9, _), (11, _), (12, _)] ⟨rfl, rfl, rfl, rfl, trivial⟩ ?_
            refine WP_seq ?_
            refine WP_seq ?_
            refine WP_region ?_
            refine O_loadA (vs := [_, _, _]) S26 rfl rfl rfl (((((((b7.ext e8).ext e9).chg q10 (by first | assumption | omega)).ext hy38).ext e39).ext e40).chg q41 (by first | assumption | omega)) rfl rfl ?_
            refine O_loadA (vs := [_, _, _]) S26 rfl rfl rfl ((((b10.ext hy38).ext e39).ext e40).chg q41 (by first | assumption | omega)) rfl rfl ?_
            refine O_call enters19 rfl rfl rfl (rdcmp_c rfl (((((((((hqA.ext e6).chgBk b6 (by decide) q7).ext e8).ext e9).chgBk b9 (by decide) q10).ext hy38).ext e39).ext e40).chgBk b40 (by decide) q41).nl rfl ((((((hqB.ext e9).chgBk b9 (by decide) q10).ext hy38).ext e39).ext e40).chgBk b40 (by decide) q41).nl (by (try simp only [val_dig, List.length_take, List.length_nil, List.length_cons, List.length_append, List.length_replicate, List.length_set, List.length_map, List.length_drop]); omega) (by (try simp only [val_dig, List.length_take, List.length_nil, List.length_cons, List.length_append, List.length_replicate, List.length_set, List.length_map, List.length_drop]); omega) (by (try simp only [val_dig, List.length_take, List.length_nil, List.length_cons, List.length_append, List.length_replicate, List.length_set, List.length_map, List.length_drop]); omega) (by (try simp only [val_dig, List.length_take, List.length_nil, List.length_cons, List.length_append, List.length_replicate, List.length_set, List.length_map, List.length_drop]); omega) (by (try simp only [val_dig, List.length_take, List.length_nil, List.length_cons, List.length_append, List.length_replicate, List.length_set, List.length_map, List.length_drop]); omega) (by (try simp only [val_dig, List.length_take, List.length_nil, List.length_cons, List.length_append, List.length_replicate, List.length_set, List.length_map, List.length_drop]); omega)) (fun v42 w42 e42 h42 => ?_)
            have z42 := e42.size
            obtain rfl := h42
            refine O_gtr (t := false) rfl rfl rfl rfl (decide_eq_false (by omega)) ?_
            refine WL_end [(7, _), (9, _), (11, _), (12, _), (81, _)] ⟨rfl, rfl, rfl, rfl, rfl, trivial⟩ ?_
            refine WP_condF rfl ?_
            refine WP_skip ?_
            refine WP_seq ?_
            refine WP_sub [(7, _), (9, _), (11, _), (12, _)] ⟨rfl, rfl, rfl, rfl, trivial⟩ ?_
            refine WP_anyR 15 [7, 9, 11, 12] mixed rfl (by kernel_rfl) ?_
            apply AnyR_val [12] rfl (by kernel_rfl)
            · --
              intro y43 hy43
              have zy43 := hy43.size
              refine AllV_nil ?_
              refine O_move rfl rfl rfl ?_
              exact WL_nil ⟨(Ext.refl _), rfl⟩
            apply AnyR_val [89] rfl (by kernel_rfl)
            · --
              intro y44 hy44
              have zy44 := hy44.size
              refine AllV_v ?_
              refine AllV_nil ?_
              refine O_eql (t := true) rfl rfl rfl rfl (decide_eq_true rfl) ?_
              exact WL_nil ⟨(Ext.refl _), rfl⟩
            apply AnyR_val [90] rfl (by kernel_rfl)
            · --
              intro y45 hy45
              have zy45 := hy45.size
              refine AllV_v ?_
              refine AllV_nil ?_
              refine O_move rfl rfl rfl ?_
              exact WL_nil ⟨(Ext.refl _), rfl⟩
            apply AnyR_val [91, 11] rfl (by kernel_rfl)
            · --
              intro y46 hy46
              have zy46 := hy46.size
              refine AllV_v ?_
              refine AllV_nil ?_
              refine O_loadA (vs := [_, _, _, _, _, _]) S28 rfl rfl rfl ((b41.ext e42).ext hy46) rfl rfl ?_
              exact WL_nil ⟨(Ext.refl _), rfl⟩
            apply AnyR_val [91, 7] rfl (by kernel_rfl)
            · --
              intro y47 hy47
              have zy47 := hy47.size
              refine AllV_v ?_
              refine AllV_nil ?_
              refine O_loadA (vs := [_, _, _]) S26 rfl rfl rfl (((((((((b7.ext e8).ext e9).chg q10 (by first | assumption | omega)).ext hy38).ext e39).ext e40).chg q41 (by first | assumption | omega)).ext e42).ext hy47) rfl rfl ?_
              exact WL_nil ⟨(Ext.refl _), rfl⟩
            apply AnyR_val [91, 9] rfl (by kernel_rfl)
            · --
              intro y48 hy48
              have zy48 := hy48.size
              refine AllV_v ?_
              refine AllV_nil ?_
              refine O_loadA (vs := [_, _, _]) S26 rfl rfl rfl ((((((b10.ext hy38).ext e39).ext e40).chg q41 (by first | assumption | omega)).ext e42).ext hy48) rfl rfl ?_
              exact WL_nil ⟨(Ext.refl _), rfl⟩
            apply AnyR_val [91, 93, 94] rfl (by kernel_rfl)
            · --
              intro y49 hy49
              have zy49 := hy49.size
              refine AllV_v ?_
              refine AllV_v ?_
              refine AllV_v ?_
              refine AllV_nil ?_
              refine O_build (cs := [_, _, _, _, _, _]) B28 rfl rfl rfl (cells_cons rfl (cells_cons rfl cells_nil)) rfl ?_
              exact WL_nil ⟨(Ext.refl _), rfl⟩
            apply AnyR_val [91, 92, 95] rfl (by kernel_rfl)
            · --
              intro y50 hy50
              have zy50 := hy50.size
              refine AllV_v ?_
              refine AllV_v ?_
              refine AllV_v ?_
              refine AllV_nil ?_
              refine O_call enters20 rfl rfl rfl (rivsameT_c rfl ((((hmq39.ext e40).chgBk b40 (by decide) q41).ext e42).ext hy50).nl rfl ((((hms39.ext e40).chgBk b40 (by decide) q41).ext e42).ext hy50).nl (by first | with_reducible assumption | exact dval_dman _ _ | exact dval_zero | exact dval_dg (by assumption) (by assumption) | exact dval_dl (by assumption) (by assumption)) (by first | with_reducible assumption | exact dval_dman _ _ | exact dval_zero | exact dval_dg (by assumption) (by assumption) | exact dval_dl (by assumption) (by assumption)) rfl (((((((((((hqA.ext e6).chgBk b6 (by decide) q7).ext e8).ext e9).chgBk b9 (by decide) q10).ext hy38).ext e39).ext e40).chgBk b40 (by decide) q41).ext e42).ext hy50).nl rfl ((((((((hqB.ext e9).chgBk b9 (by decide) q10).ext hy38).ext e39).ext e40).chgBk b40 (by decide) q41).ext e42).ext hy50).nl (by first | with_reducible assumption | exact dval_dman _ _ | exact dval_zero | exact dval_dg (by assumption) (by assumption) | exact dval_dl (by assumption) (by assumption)) (by first | with_reducible assumption | exact dval_dman _ _ | exact dval_zero | exact dval_dg (by assumption) (by assumption) | exact dval_dl (by assumption) (by assumption)) samev_self) (fun v51 w51 e51 h51 => ?_)
              have z51 := e51.size
              obtain rfl := h51
              exact WL_nil ⟨e51, rfl⟩
            apply AnyR_val [91, 96] rfl (by kernel_rfl)
            · --
              intro y52 hy52
              have zy52 := hy52.size
              refine AllV_v ?_
              refine AllV_v ?_
              refine AllV_nil ?_
              refine O_pickT rfl rfl rfl rfl ?_
              exact WL_nil ⟨(Ext.refl _), rfl⟩
            apply AnyR_val [97] rfl (by kernel_rfl)
            · --
              intro y53 hy53
              have zy53 := hy53.size
              refine AllV_v ?_
              refine AllV_nil ?_
              refine O_move rfl rfl rfl ?_
              exact WL_nil ⟨(Ext.refl _), rfl⟩
            apply AnyR_val [98, 7] rfl (by kernel_rfl)
            · --
              intro y54 hy54
              have zy54 := hy54.size
              refine AllV_v ?_
              refine AllV_nil ?_
              refine O_loadA (vs := [_, _, _]) S26 rfl rfl rfl (((((((((b7.ext e8).ext e9).chg q10 (by first | assumption | omega)).ext hy38).ext e39).ext e40).chg q41 (by first | assumption | omega)).ext e42).ext hy54) rfl rfl ?_
              exact WL_nil ⟨(Ext.refl _), rfl⟩
            apply AnyR_rel (RelP (pAgg [pEq _, pNo w42.heap.size 93 _, pEq _, pEq _, pNo w42.heap.size 93 _, pEq _])) [98, 99] rfl (RelP.mono (pAgg_mono (PsM.cons pEq_mono (PsM.cons pNo_mono (PsM.cons pEq_mono (PsM.cons pEq_mono (PsM.cons pNo_mono (PsM.cons pEq_mono PsM.nil)))))))) (by kernel_rfl)
            · --
              intro y55 hy55
              have zy55 := hy55.size
              refine AllV_v ?_
              refine AllV_v ?_
              refine AllV_nil ?_
              refine O_call enters21 rfl rfl rfl (point_c rfl (((((((((((hqA.ext e6).chgBk b6 (by decide) q7).ext e8).ext e9).chgBk b9 (by decide) q10).ext hy38).ext e39).ext e40).chgBk b40 (by decide) q41).ext e42).ext hy55).nl (by first | with_reducible assumption | exact dval_dman _ _ | exact dval_zero | exact dval_dg (by assumption) (by assumption) | exact dval_dl (by assumption) (by assumption))) (fun v56 w56 e56 h56 => ?_)
              have z56 := e56.size
              try simp only [val_dig] at h56
              obtain ⟨mq56, ms56, rfl, hmq56, hms56⟩ := h56
              exact WL_nil ⟨e56, _, rfl, ⟨_, rfl, (AllP.cons rfl (AllP.cons (hmq56.mono (by omega)) (AllP.cons rfl (AllP.cons rfl (AllP.cons (hms56.mono (by omega)) (AllP.cons rfl AllP.nil))))))⟩⟩
            apply AnyR_val [98, 7] rfl (by kernel_rfl)
            · --
              intro y57 hy57
              have zy57 := hy57.size
              refine AllV_v ?_
              refine AllV_nil ?_
              refine O_loadA (vs := [_, _, _]) S26 rfl rfl rfl (((((((((b7.ext e8).ext e9).chg q10 (by first | assumption | omega)).ext hy38).ext e39).ext e40).chg q41 (by first | assumption | omega)).ext e42).ext hy57) rfl rfl ?_
              exact WL_nil ⟨(Ext.refl _), rfl⟩
            apply AnyR_val [98, 7] rfl (by kernel_rfl)
            · --
              intro y58 hy58
              have zy58 := hy58.size
              refine AllV_v ?_
              refine AllV_nil ?_
              refine O_loadA (vs := [_, _, _]) S26 rfl rfl rfl (((((((((b7.ext e8).ext e9).chg q10 (by first | assumption | omega)).ext hy38).ext e39).ext e40).chg q41 (by first | assumption | omega)).ext e42).ext hy58) rfl rfl ?_
              exact WL_nil ⟨(Ext.refl _), rfl⟩
            apply AnyR_val [98, 101, 102] rfl (by kernel_rfl)
            · --
              intro y59 hy59
              have zy59 := hy59.size
              refine AllV_v ?_
              refine AllV_v ?_
              refine AllV_v ?_
              refine AllV_nil ?_
              refine O_build (cs := [_, _, _, _, _, _]) B28 rfl rfl rfl (cells_cons rfl (cells_cons rfl cells_nil)) rfl ?_
              exact WL_nil ⟨(Ext.refl _), rfl⟩
            refine AnyR_nil fun y60 hy60 => ?_
            have zy60 := hy60.size
            refine AllV_v ?_
            refine AllV_v ?_
            refine AllV_v ?_
            refine AllV_v ?_
            refine AllV_v ?_
            refine AllV_v ?_
            refine AllV_v ?_
            refine AllV_v ?_
            refine AllV_v ?_
            refine AllV_v ?_
            refine AllV_v ?_
            refine AllV_r fun a61 b61 v61 la61 lb61 lc61 h61 ap61 => ?_
            clear ap61
            obtain ⟨_, rfl, v61_0, _, rfl, rfl, v61_1, _, rfl, h61_1, v61_2, _, rfl, rfl, v61_3, _, rfl, rfl, v61_4, _, rfl, h61_4, v61_5, _, rfl, rfl, rfl⟩ := h61
            refine AllV_v ?_
            refine AllV_v ?_
            refine AllV_v ?_
            refine AllV_nil ?_
            refine O_call enters20 rfl rfl rfl (rivsameT_c rfl h61_1.nl rfl h61_4.nl (by first | with_reducible assumption | exact dval_dman _ _ | exact dval_zero | exact dval_dg (by assumption) (by assumption) | exact dval_dl (by assumption) (by assumption)) (by first | with_reducible assumption | exact dval_dman _ _ | exact dval_zero | exact dval_dg (by assumption) (by assumption) | exact dval_dl (by assumption) (by assumption)) rfl (((((((((((hqA.ext e6).chgBk b6 (by decide) q7).ext e8).ext e9).chgBk b9 (by decide) q10).ext hy38).ext e39).ext e40).chgBk b40 (by decide) q41).ext e42).ext hy60).nl rfl (((((((((((hqA.ext e6).chgBk b6 (by decide) q7).ext e8).ext e9).chgBk b9 (by decide) q10).ext hy38).ext e39).ext e40).chgBk b40 (by decide) q41).ext e42).ext hy60).nl (by first | with_reducible assumption | exact dval_dman _ _ | exact dval_zero | exact dval_dg (by assumption) (by assumption) | exact dval_dl (by assumption) (by assumption)) (by first | with_reducible assumption | exact dval_dman _ _ | exact dval_zero | exact dval_dg (by assumption) (by assumption) | exact dval_dl (by assumption) (by assumption)) samev_self) (fun v62 w62 e62 h62 => ?_)
            have z62 := e62.size
            obtain rfl := h62
            refine O_pickT rfl rfl rfl rfl ?_
            refine O_assign rfl rfl rfl ?_
            refine WL_end [(6, _)] ⟨rfl, trivial⟩ ?_
            refine WP_ret ?_
            refine ret1 Try.results4 rfl ?_
            exact ⟨_, rfl, (((e41.trans e42).trans hy60).trans e62), rfl⟩
          · skip
            refine WP_region ?_
            refine O_loadA (vs := [_, _, _]) S26 rfl rfl rfl ((((b7.ext e8).ext e9).chg q10 (by first | assumption | omega)).ext hy38) rfl rfl ?_
            refine O_loadA (vs := [_, _, _]) S26 rfl rfl rfl (b10.ext hy38) rfl rfl ?_
            refine O_call enters18 rfl rfl rfl (imake_F rfl ((((((hqA.ext e6).chgBk b6 (by decide) q7).ext e8).ext e9).chgBk b9 (by decide) q10).ext hy38).nl rfl (((hqB.ext e9).chgBk b9 (by decide) q10).ext hy38).nl (by first | with_reducible assumption | exact dval_dman _ _ | exact dval_zero | exact dval_dg (by assumption) (by assumption) | exact dval_dl (by assumption) (by assumption)) (by first | with_reducible assumption | exact dval_dman _ _ | exact dval_zero | exact dval_dg (by assumption) (by assumption) | exact dval_dl (by assumption) (by assumption)) ho) (fun v63 w63 e63 h63 => ?_)
            have z63 := e63.size
            try simp only [val_dig] at h63
            obtain rfl := h63
            refine O_move rfl rfl rfl ?_
            refine O_extract rfl rfl rfl rfl ?_
            refine O_extract rfl rfl rfl rfl ?_
            refine O_alloc S28 rfl rfl (fun g64 w64 b64 e64 gl64 gh64 => ?_)
            have z64 := e64.size
            refine O_storeA (cs' := [_, _, _, _, _, _]) S28 rfl rfl rfl b64 rfl rfl (one_cons rfl (one_cons rfl (one_cons rfl (one_cons rfl (one_cons rfl (one_cons rfl one_nil)))))) rfl (fun w65 b65 q65 => ?_)
            have z65 := Nat.le_of_eq q65.size.symm
            have e65 : Ext w w65 := q65.ext (((e10.trans hy38).trans e63).trans e64) (by omega)
            refine O_assign rfl rfl rfl ?_
            refine WL_end [(7, _), (9, _), (11, _), (12, _)] ⟨rfl, rfl, rfl, rfl, trivial⟩ ?_
            refine WP_seq ?_
            refine WP_seq ?_
            refine WP_region ?_
            refine O_loadA (vs := [_, _, _]) S26 rfl rfl rfl (((((((b7.ext e8).ext e9).chg q10 (by first | assumption | omega)).ext hy38).ext e63).ext e64).chg q65 (by first | assumption | omega)) rfl rfl ?_
            refine O_loadA (vs := [_, _, _]) S26 rfl rfl rfl ((((b10.ext hy38).ext e63).ext e64).chg q65 (by first | assumption | omega)) rfl rfl ?_
            refine O_call enters19 rfl rfl rfl (rdcmp_c rfl (((((((((hqA.ext e6).chgBk b6 (by decide) q7).ext e8).ext e9).chgBk b9 (by decide) q10).ext hy38).ext e63).ext e64).chgBk b64 (by decide) q65).nl rfl ((((((hqB.ext e9).chgBk b9 (by decide) q10).ext hy38).ext e63).ext e64).chgBk b64 (by decide) q65).nl (by (try simp only [val_dig, List.length_take, List.length_nil, List.length_cons, List.length_append, List.length_replicate, List.length_set, List.length_map, List.length_drop]); omega) (by (try simp only [val_dig, List.length_take, List.length_nil, List.length_cons, List.length_append, List.length_replicate, List.length_set, List.length_map, List.length_drop]); omega) (by (try simp only [val_dig, List.length_take, List.length_nil, List.length_cons, List.length_append, List.length_replicate, List.length_set, List.length_map, List.length_drop]); omega) (by (try simp only [val_dig, List.length_take, List.length_nil, List.length_cons, List.length_append, List.length_replicate, List.length_set, List.length_map, List.length_drop]); omega) (by (try simp only [val_dig, List.length_take, List.length_nil, List.length_cons, List.length_append, List.length_replicate, List.length_set, List.length_map, List.length_drop]); omega) (by (try simp only [val_dig, List.length_take, List.length_nil, List.length_cons, List.length_append, List.length_replicate, List.length_set, List.length_map, List.length_drop]); omega)) (fun v66 w66 e66 h66 => ?_)
            have z66 := e66.size
            obtain rfl := h66
            refine O_gtr (t := true) rfl rfl rfl rfl (decide_eq_true (by omega)) ?_
            refine WL_end [(7, _), (9, _), (11, _), (12, _), (81, _)] ⟨rfl, rfl, rfl, rfl, rfl, trivial⟩ ?_
            refine WP_condT rfl ?_
            refine WP_seq ?_
            refine WP_region ?_
            refine O_move rfl rfl rfl ?_
            refine O_eql (t := true) rfl rfl rfl rfl (decide_eq_true rfl) ?_
            refine O_move rfl rfl rfl ?_
            refine O_loadA (vs := [_, _, _, _, _, _]) S28 rfl rfl rfl (b65.ext e66) rfl rfl ?_
            refine O_build (cs := [_, _, _, _, _, _]) B28 rfl rfl rfl cells_nil rfl ?_
            refine O_call enters20 rfl rfl rfl (rivsameT_z) (fun v67 w67 e67 h67 => ?_)
            have z67 := e67.size
            obtain rfl := h67
            refine O_pickT rfl rfl rfl rfl ?_
            refine O_assign rfl rfl rfl ?_
            refine WL_end [(6, _)] ⟨rfl, trivial⟩ ?_
            refine WP_ret ?_
            refine ret1 Try.results4 rfl ?_
            exact ⟨_, rfl, ((e65.trans e66).trans e67), rfl⟩
set_option maxHeartbeats 4000000 in
theorem law_IM_H {w : World} {vx vy : Value} {x : Int} {ly : List Nat} {bx by_ : Bool} {e f : Int} (hbx : bx = decide (x < 0)) (hx : Nl w vx (dig x.natAbs)) (hvx : dval x e = true) (hy : Nl w vy ly) (hly : ly.length ≤ 20) (hr : dvalr by_ ly f = false) {vz vu : Value} {lz lu : List Nat} {bz bu : Bool} {g h : Int} (hz : Nl w vz lz) (hu : Nl w vu lu) :
    Calls Try.prog 4 #[.agg #[.bool bx, vx, .int .i64 e, .bool by_, vy, .int .i64 f], .agg #[.bool bz, vz, .int .i64 g], .agg #[.bool bu, vu, .int .i64 h]] w (Ret w fun r _ => r = .bool true) := by
  subst hbx
  have hRx := dval_range hvx
  have hlx : (dig x.natAbs).length ≤ 2049 := dval_len hvx
  refine enter (args := [_, _, _]) Try.func4 rfl Try.ntmps4 rfl ?_
  refine WP_seq ?_
  refine WP_region ?_
  refine O_box _ rfl rfl rfl rfl (fun g1 w1 b1 e1 gl1 gh1 => ?_)
  have z1 := e1.size
  refine O_box _ rfl rfl rfl rfl (fun g2 w2 b2 e2 gl2 gh2 => ?_)
  have z2 := e2.size
  refine O_box _ rfl rfl rfl rfl (fun g3 w3 b3 e3 gl3 gh3 => ?_)
  have z3 := e3.size
  refine O_assign rfl rfl rfl ?_
  refine WL_end [(3, _), (4, _), (5, _)] ⟨rfl, rfl, rfl, trivial⟩ ?_
  refine WP_seq ?_
  refine WP_seq ?_
  refine WP_region ?_
  refine O_call enters7 rfl rfl rfl (awake10_c) (fun v4 w4 e4 h4 => ?_)
  have z4 := e4.size
  obtain rfl := h4
  refine O_not rfl rfl rfl rfl ?_
  refine WL_end [(3, _), (4, _), (5, _), (14, _)] ⟨rfl, rfl, rfl, rfl, trivial⟩ ?_
  refine WP_condF rfl ?_
  refine WP_skip ?_
  refine WP_seq ?_
  refine WP_region ?_
  refine O_loadA (vs := [_, _, _]) S26 rfl rfl rfl ((b2.ext e3).ext e4) rfl rfl ?_
  refine O_call enters14 rfl rfl rfl (mdy_c (n := 5) (m := 60) (hz.ext (((e1.trans e2).trans e3).trans e4)) (by decide)) (fun v5 w5 e5 h5 => ?_)
  have z5 := e5.size
  try simp only [val_dig] at h5
  obtain ⟨XA, EA, qA, bA, rfl, hqA, hvA, hkA, hjA, hlA⟩ := h5
  refine O_move rfl rfl rfl ?_
  refine O_extract rfl rfl rfl rfl ?_
  refine O_extract rfl rfl rfl rfl ?_
  refine O_alloc S26 rfl rfl (fun g6 w6 b6 e6 gl6 gh6 => ?_)
  have z6 := e6.size
  refine O_storeA (cs' := [_, _, _]) S26 rfl rfl rfl b6 rfl rfl (one_cons rfl (one_cons ((hqA.ext e6).nl).one (one_cons rfl one_nil))) rfl (fun w7 b7 q7 => ?_)
  have z7 := Nat.le_of_eq q7.size.symm
  have e7 : Ext w w7 := q7.ext (((((e1.trans e2).trans e3).trans e4).trans e5).trans e6) (by omega)
  refine O_assign rfl rfl rfl ?_
  refine WL_end [(3, _), (5, _), (7, _), (8, _)] ⟨rfl, rfl, rfl, rfl, trivial⟩ ?_
  refine WP_seq ?_
  refine WP_region ?_
  refine O_loadA (vs := [_, _, _]) S26 rfl rfl rfl ((((b3.ext e4).ext e5).ext e6).chg q7 (by first | assumption | omega)) rfl rfl ?_
  refine O_call enters14 rfl rfl rfl (mdy_c (n := 5) (m := 60) (hu.ext e7) (by decide)) (fun v8 w8 e8 h8 => ?_)
  have z8 := e8.size
  try simp only [val_dig] at h8
  obtain ⟨XB, EB, qB, bB, rfl, hqB, hvB, hkB, hjB, hlB⟩ := h8
  refine O_move rfl rfl rfl ?_
  refine O_extract rfl rfl rfl rfl ?_
  refine O_extract rfl rfl rfl rfl ?_
  refine O_alloc S26 rfl rfl (fun g9 w9 b9 e9 gl9 gh9 => ?_)
  have z9 := e9.size
  refine O_storeA (cs' := [_, _, _]) S26 rfl rfl rfl b9 rfl rfl (one_cons rfl (one_cons ((hqB.ext e9).nl).one (one_cons rfl one_nil))) rfl (fun w10 b10 q10 => ?_)
  have z10 := Nat.le_of_eq q10.size.symm
  have e10 : Ext w w10 := q10.ext ((e7.trans e8).trans e9) (by omega)
  refine O_assign rfl rfl rfl ?_
  refine WL_end [(3, _), (7, _), (8, _), (9, _), (10, _)] ⟨rfl, rfl, rfl, rfl, rfl, trivial⟩ ?_
  refine WP_seq ?_
  refine WP_seq ?_
  refine WP_region ?_
  refine O_move rfl rfl rfl ?_
  refine O_not rfl rfl rfl rfl ?_
  refine O_move rfl rfl rfl ?_
  refine WL_bool 27 rfl (fun g27 => ?_) (fun g27 => ?_)
  · --
    refine O_skip rfl rfl ?_
    refine O_skip rfl rfl ?_
    refine O_pickT rfl rfl rfl rfl ?_
    refine O_move rfl rfl rfl ?_
    refine O_skip rfl rfl ?_
    refine O_skip rfl rfl ?_
    refine O_skip rfl rfl ?_
    refine O_skip rfl rfl ?_
    refine O_skip rfl rfl ?_
    refine O_skip rfl rfl ?_
    refine O_pickT rfl rfl rfl rfl ?_
    refine O_move rfl rfl rfl ?_
    refine O_skip rfl rfl ?_
    refine O_skip rfl rfl ?_
    refine O_skip rfl rfl ?_
    refine O_skip rfl rfl ?_
    refine O_skip rfl rfl ?_
    refine O_skip rfl rfl ?_
    refine O_pickT rfl rfl rfl rfl ?_
    refine WL_end [(3, _), (7, _), (9, _), (46, _)] ⟨rfl, rfl, rfl, rfl, trivial⟩ ?_
    refine WP_condT rfl ?_
    refine WP_seq ?_
    refine WP_region ?_
    refine O_assign rfl rfl rfl ?_
    refine WL_end [(6, _)] ⟨rfl, trivial⟩ ?_
    refine WP_ret ?_
    refine ret1 Try.results4 rfl ?_
    exact ⟨_, rfl, e10, rfl⟩
  · --
    refine O_move rfl rfl rfl ?_
    refine O_not rfl rfl rfl rfl ?_
    refine O_pickF rfl rfl rfl rfl ?_
    refine O_move rfl rfl rfl ?_
    refine WL_bool 31 rfl (fun g31 => ?_) (fun g31 => ?_)
    · --
      refine O_skip rfl rfl ?_
      refine O_skip rfl rfl ?_
      refine O_skip rfl rfl ?_
      refine O_skip rfl rfl ?_
      refine O_skip rfl rfl ?_
      refine O_skip rfl rfl ?_
      refine O_pickT rfl rfl rfl rfl ?_
      refine O_move rfl rfl rfl ?_
      refine O_skip rfl rfl ?_
      refine O_skip rfl rfl ?_
      refine O_skip rfl rfl ?_
      refine O_skip rfl rfl ?_
      refine O_skip rfl rfl ?_
      refine O_skip rfl rfl ?_
      refine O_pickT rfl rfl rfl rfl ?_
      refine WL_end [(3, _), (7, _), (9, _), (46, _)] ⟨rfl, rfl, rfl, rfl, trivial⟩ ?_
      refine WP_condT rfl ?_
      refine WP_seq ?_
      refine WP_region ?_
      refine O_assign rfl rfl rfl ?_
      refine WL_end [(6, _)] ⟨rfl, trivial⟩ ?_
      refine WP_ret ?_
      refine ret1 Try.results4 rfl ?_
      exact ⟨_, rfl, e10, rfl⟩
    · --
      refine O_field F28_0 rfl rfl rfl ?_
      refine O_field F26_0 rfl rfl rfl ?_
      refine O_field F24_1 rfl rfl rfl ?_
      refine O_loadC Try.underlying22 rfl rfl rfl rfl (((((((((b1.ext e2).ext e3).ext e4).ext e5).ext e6).chg q7 (by first | assumption | omega)).ext e8).ext e9).chg q10 (by first | assumption | omega)) rfl ?_
      refine N_len T22 rfl rfl rfl (hx.ext e10) ?_
      refine O_gtr rfl rfl rfl rfl rfl ?_
      refine O_pickF rfl rfl rfl rfl ?_
      refine O_move rfl rfl rfl ?_
      refine WL_dec 39 rfl (fun g39 => ?_) (fun g39 => ?_)
      · --
        refine O_skip rfl rfl ?_
        refine O_skip rfl rfl ?_
        refine O_skip rfl rfl ?_
        refine O_skip rfl rfl ?_
        refine O_skip rfl rfl ?_
        refine O_skip rfl rfl ?_
        refine O_pickT rfl rfl rfl rfl ?_
        refine WL_end [(3, _), (7, _), (9, _), (46, _)] ⟨rfl, rfl, rfl, rfl, trivial⟩ ?_
        refine WP_condT rfl ?_
        refine WP_seq ?_
        refine WP_region ?_
        refine O_assign rfl rfl rfl ?_
        refine WL_end [(6, _)] ⟨rfl, trivial⟩ ?_
        refine WP_ret ?_
        refine ret1 Try.results4 rfl ?_
        exact ⟨_, rfl, e10, rfl⟩
      · --
        refine O_field F28_1 rfl rfl rfl ?_
        refine O_field F26_0 rfl rfl rfl ?_
        refine O_field F24_1 rfl rfl rfl ?_
        refine O_loadC Try.underlying22 rfl rfl rfl rfl (((((((((b1.ext e2).ext e3).ext e4).ext e5).ext e6).chg q7 (by first | assumption | omega)).ext e8).ext e9).chg q10 (by first | assumption | omega)) rfl ?_
        refine N_len T22 rfl rfl rfl (hy.ext e10) ?_
        refine O_gtr rfl rfl rfl rfl rfl ?_
        refine O_pickF rfl rfl rfl rfl ?_
        refine WL_end [(3, _), (7, _), (9, _), (46, _)] ⟨rfl, rfl, rfl, rfl, trivial⟩ ?_
        refine WP_condD rfl (fun c46 => ?_) (fun c46 => ?_)
        · --
          refine WP_seq ?_
          refine WP_region ?_
          refine O_assign rfl rfl rfl ?_
          refine WL_end [(6, _)] ⟨rfl, trivial⟩ ?_
          refine WP_ret ?_
          refine ret1 Try.results4 rfl ?_
          exact ⟨_, rfl, e10, rfl⟩
        · --
          refine WP_skip ?_
          refine WP_seq ?_
          refine WP_seq ?_
          refine WP_sub [(3, _), (7, _), (9, _)] ⟨rfl, rfl, rfl, trivial⟩ ?_
          refine WP_anyR 25 [3, 7, 9] mixed rfl (by kernel_rfl) ?_
          apply AnyR_val [3] rfl (by kernel_rfl)
          · --
            intro y11 hy11
            have zy11 := hy11.size
            refine AllV_nil ?_
            refine O_field F28_0 rfl rfl rfl ?_
            exact WL_nil ⟨(Ext.refl _), rfl⟩
          apply AnyR_val [47] rfl (by kernel_rfl)
          · --
            intro y12 hy12
            have zy12 := hy12.size
            refine AllV_v ?_
            refine AllV_nil ?_
            refine O_loadA (vs := [_, _, _]) S26 rfl rfl rfl ((((((((((b1.ext e2).ext e3).ext e4).ext e5).ext e6).chg q7 (by first | assumption | omega)).ext e8).ext e9).chg q10 (by first | assumption | omega)).ext hy12) rfl rfl ?_
            exact WL_nil ⟨(Ext.refl _), rfl⟩
          apply AnyR_val [48] rfl (by kernel_rfl)
          · --
            intro y13 hy13
            have zy13 := hy13.size
            refine AllV_v ?_
            refine AllV_nil ?_
            refine O_call enters15 rfl rfl rfl (rdvalT_c rfl (hx.ext (e10.trans hy13)) (by (try simp only [val_dig, List.length_take, List.length_nil, List.length_cons, List.length_append, List.length_replicate, List.length_set, List.length_map, List.length_drop]); omega) (by first | with_reducible assumption | exact dval_dman _ _ | exact dval_zero)) (fun v14 w14 e14 h14 => ?_)
            have z14 := e14.size
            obtain rfl := h14
            exact WL_nil ⟨e14, rfl⟩
          apply AnyR_val [49] rfl (by kernel_rfl)
          · --
            intro y15 hy15
            have zy15 := hy15.size
            refine AllV_v ?_
            refine AllV_nil ?_
            refine O_move rfl rfl rfl ?_
            exact WL_nil ⟨(Ext.refl _), rfl⟩
          apply AnyR_val [50, 3] rfl (by kernel_rfl)
          · --
            intro y16 hy16
            have zy16 := hy16.size
            refine AllV_v ?_
            refine AllV_nil ?_
            refine O_field F28_1 rfl rfl rfl ?_
            exact WL_nil ⟨(Ext.refl _), rfl⟩
          apply AnyR_val [50, 51] rfl (by kernel_rfl)
          · --
            intro y17 hy17
            have zy17 := hy17.size
            refine AllV_v ?_
            refine AllV_v ?_
            refine AllV_nil ?_
            refine O_loadA (vs := [_, _, _]) S26 rfl rfl rfl ((((((((((b1.ext e2).ext e3).ext e4).ext e5).ext e6).chg q7 (by first | assumption | omega)).ext e8).ext e9).chg q10 (by first | assumption | omega)).ext hy17) rfl rfl ?_
            exact WL_nil ⟨(Ext.refl _), rfl⟩
          apply AnyR_val [50, 52] rfl (by kernel_rfl)
          · --
            intro y18 hy18
            have zy18 := hy18.size
            refine AllV_v ?_
            refine AllV_v ?_
            refine AllV_nil ?_
            refine O_call enters15 rfl rfl rfl (rdvalRF_c (hy.ext (e10.trans hy18)) (by first | with_reducible assumption | omega) hr) (fun v19 w19 e19 h19 => ?_)
            have z19 := e19.size
            obtain rfl := h19
            exact WL_nil ⟨e19, rfl⟩
          apply AnyR_val [50, 53] rfl (by kernel_rfl)
          · --
            intro y20 hy20
            have zy20 := hy20.size
            refine AllV_v ?_
            refine AllV_v ?_
            refine AllV_nil ?_
            refine O_pickT rfl rfl rfl rfl ?_
            exact WL_nil ⟨(Ext.refl _), rfl⟩
          apply AnyR_val [54] rfl (by kernel_rfl)
          · --
            intro y21 hy21
            have zy21 := hy21.size
            refine AllV_v ?_
            refine AllV_nil ?_
            refine O_move rfl rfl rfl ?_
            exact WL_nil ⟨(Ext.refl _), rfl⟩
          apply AnyR_val [55, 3] rfl (by kernel_rfl)
          · --
            intro y22 hy22
            have zy22 := hy22.size
            refine AllV_v ?_
            refine AllV_nil ?_
            refine O_skip rfl rfl ?_
            exact WL_nil ⟨(Ext.refl _), rfl⟩
          apply AnyR_val [55, 56] rfl (by kernel_rfl)
          · --
            intro y23 hy23
            have zy23 := hy23.size
            refine AllV_v ?_
            refine AllV_v ?_
            refine AllV_nil ?_
            refine O_skip rfl rfl ?_
            exact WL_nil ⟨(Ext.refl _), rfl⟩
          apply AnyR_val [55, 3] rfl (by kernel_rfl)
          · --
            intro y24 hy24
            have zy24 := hy24.size
            refine AllV_v ?_
            refine AllV_nil ?_
            refine O_skip rfl rfl ?_
            exact WL_nil ⟨(Ext.refl _), rfl⟩
          apply AnyR_val [55, 58] rfl (by kernel_rfl)
          · --
            intro y25 hy25
            have zy25 := hy25.size
            refine AllV_v ?_
            refine AllV_v ?_
            refine AllV_nil ?_
            refine O_skip rfl rfl ?_
            exact WL_nil ⟨(Ext.refl _), rfl⟩
          apply AnyR_val [55, 57, 59] rfl (by kernel_rfl)
          · --
            intro y26 hy26
            have zy26 := hy26.size
            refine AllV_v ?_
            refine AllV_v ?_
            refine AllV_v ?_
            refine AllV_nil ?_
            refine O_skip rfl rfl ?_
            exact WL_nil ⟨(Ext.refl _), rfl⟩
          apply AnyR_val [55, 60] rfl (by kernel_rfl)
          · --
            intro y27 hy27
            have zy27 := hy27.size
            refine AllV_v ?_
            refine AllV_v ?_
            refine AllV_nil ?_
            refine O_pickF rfl rfl rfl rfl ?_
            exact WL_nil ⟨(Ext.refl _), rfl⟩
          apply AnyR_val [61] rfl (by kernel_rfl)
          · --
            intro y28 hy28
            have zy28 := hy28.size
            refine AllV_v ?_
            refine AllV_nil ?_
            refine O_move rfl rfl rfl ?_
            exact WL_nil ⟨(Ext.refl _), rfl⟩
          apply AnyR_val [62, 3] rfl (by kernel_rfl)
          · --
            intro y29 hy29
            have zy29 := hy29.size
            refine AllV_v ?_
            refine AllV_nil ?_
            refine O_loadA (vs := [_, _, _, _, _, _]) S28 rfl rfl rfl ((((((((((b1.ext e2).ext e3).ext e4).ext e5).ext e6).chg q7 (by first | assumption | omega)).ext e8).ext e9).chg q10 (by first | assumption | omega)).ext hy29) rfl rfl ?_
            exact WL_nil ⟨(Ext.refl _), rfl⟩
          apply AnyR_val [62, 63] rfl (by kernel_rfl)
          · --
            intro y30 hy30
            have zy30 := hy30.size
            refine AllV_v ?_
            refine AllV_v ?_
            refine AllV_nil ?_
            refine O_call enters16 rfl rfl rfl (ivalFH_c rfl (hx.ext (e10.trans hy30)) (by first | with_reducible assumption | exact dval_dman _ _ | exact dval_zero) (hy.ext (e10.trans hy30)) (by first | with_reducible assumption | omega) hr) (fun v31 w31 e31 h31 => ?_)
            have z31 := e31.size
            obtain rfl := h31
            exact WL_nil ⟨e31, rfl⟩
          apply AnyR_val [62, 64] rfl (by kernel_rfl)
          · --
            intro y32 hy32
            have zy32 := hy32.size
            refine AllV_v ?_
            refine AllV_v ?_
            refine AllV_nil ?_
            refine O_move rfl rfl rfl ?_
            exact WL_nil ⟨(Ext.refl _), rfl⟩
          apply AnyR_val [65, 3] rfl (by kernel_rfl)
          · --
            intro y33 hy33
            have zy33 := hy33.size
            refine AllV_v ?_
            refine AllV_nil ?_
            refine O_skip rfl rfl ?_
            exact WL_nil ⟨(Ext.refl _), rfl⟩
          apply AnyR_val [65, 66] rfl (by kernel_rfl)
          · --
            intro y34 hy34
            have zy34 := hy34.size
            refine AllV_v ?_
            refine AllV_v ?_
            refine AllV_nil ?_
            refine O_skip rfl rfl ?_
            exact WL_nil ⟨(Ext.refl _), rfl⟩
          apply AnyR_val [65, 67] rfl (by kernel_rfl)
          · --
            intro y35 hy35
            have zy35 := hy35.size
            refine AllV_v ?_
            refine AllV_v ?_
            refine AllV_nil ?_
            refine O_skip rfl rfl ?_
            exact WL_nil ⟨(Ext.refl _), rfl⟩
          apply AnyR_val [65, 68] rfl (by kernel_rfl)
          · --
            intro y36 hy36
            have zy36 := hy36.size
            refine AllV_v ?_
            refine AllV_v ?_
            refine AllV_nil ?_
            refine O_skip rfl rfl ?_
            exact WL_nil ⟨(Ext.refl _), rfl⟩
          apply AnyR_val [62, 65, 69] rfl (by kernel_rfl)
          · --
            intro y37 hy37
            have zy37 := hy37.size
            refine AllV_v ?_
            refine AllV_v ?_
            refine AllV_v ?_
            refine AllV_nil ?_
            refine O_pickF rfl rfl rfl rfl ?_
            exact WL_nil ⟨(Ext.refl _), rfl⟩
          apply AnyR_val [62, 70] rfl (by kernel_rfl)
          · --
            intro y38 hy38
            have zy38 := hy38.size
            refine AllV_v ?_
            refine AllV_v ?_
            refine AllV_nil ?_
            refine O_pickF rfl rfl rfl rfl ?_
            exact WL_nil ⟨(Ext.refl _), rfl⟩
          refine AnyR_nil fun y39 hy39 => ?_
          have zy39 := hy39.size
          refine AllV_v ?_
          refine AllV_v ?_
          refine AllV_v ?_
          refine AllV_v ?_
          refine AllV_v ?_
          refine AllV_v ?_
          refine AllV_v ?_
          refine AllV_v ?_
          refine AllV_v ?_
          refine AllV_v ?_
          refine AllV_v ?_
          refine AllV_v ?_
          refine AllV_v ?_
          refine AllV_v ?_
          refine AllV_v ?_
          refine AllV_v ?_
          refine AllV_v ?_
          refine AllV_v ?_
          refine AllV_v ?_
          refine AllV_v ?_
          refine AllV_v ?_
          refine AllV_v ?_
          refine AllV_v ?_
          refine AllV_v ?_
          refine AllV_v ?_
          refine AllV_nil ?_
          refine WL_end [(7, _), (9, _), (71, _)] ⟨rfl, rfl, rfl, trivial⟩ ?_
          refine WP_condF rfl ?_
          refine WP_skip ?_
          refine WP_seq ?_
          have hmE := dcmp_bd XA EA XB EB
          by_cases ho : dcmp XA EA XB EB ≤ 0
          · skip
            refine WP_region ?_
            refine O_loadA (vs := [_, _, _]) S26 rfl rfl rfl ((((b7.ext e8).ext e9).chg q10 (by first | assumption | omega)).ext hy39) rfl rfl ?_
            refine O_loadA (vs := [_, _, _]) S26 rfl rfl rfl (b10.ext hy39) rfl rfl ?_
            refine O_call enters18 rfl rfl rfl (imake_T rfl ((((((hqA.ext e6).chgBk b6 (by decide) q7).ext e8).ext e9).chgBk b9 (by decide) q10).ext hy39).nl rfl (((hqB.ext e9).chgBk b9 (by decide) q10).ext hy39).nl (by first | with_reducible assumption | exact dval_dman _ _ | exact dval_zero | exact dval_dg (by assumption) (by assumption) | exact dval_dl (by assumption) (by assumption)) (by first | with_reducible assumption | exact dval_dman _ _ | exact dval_zero | exact dval_dg (by assumption) (by assumption) | exact dval_dl (by assumption) (by assumption)) ho) (fun v40 w40 e40 h40 => ?_)
            have z40 := e40.size
            try simp only [val_dig] at h40
            obtain ⟨mq40, ms40, rfl, hmq40, hms40⟩ := h40
            refine O_move rfl rfl rfl ?_
            refine O_extract rfl rfl rfl rfl ?_
            refine O_extract rfl rfl rfl rfl ?_
            refine O_alloc S28 rfl rfl (fun g41 w41 b41 e41 gl41 gh41 => ?_)
            have z41 := e41.size
            refine O_storeA (cs' := [_, _, _, _, _, _]) S28 rfl rfl rfl b41 rfl rfl (one_cons rfl (one_cons ((hmq40.ext e41).nl).one (one_cons rfl (one_cons rfl (one_cons ((hms40.ext e41).nl).one (one_cons rfl one_nil)))))) rfl (fun w42 b42 q42 => ?_)
            have z42 := Nat.le_of_eq q42.size.symm
            have e42 : Ext w w42 := q42.ext (((e10.trans hy39).trans e40).trans e41) (by omega)
            refine O_assign rfl rfl rfl ?_
            refine WL_end [(7, _), (9, _), (11, _), (12, _)] ⟨rfl, rfl, rfl, rfl, trivial⟩ ?_
            refine WP_seq ?_
            refine WP_seq ?_
            refine WP_region ?_
            refine O_loadA (vs := [_, _, _]) S26 rfl rfl rfl (((((((b7.ext e8).ext e9).chg q10 (by first | assumption | omega)).ext hy39).ext e40).ext e41).chg q42 (by first | assumption | omega)) rfl rfl ?_
            refine O_loadA (vs := [_, _, _]) S26 rfl rfl rfl ((((b10.ext hy39).ext e40).ext e41).chg q42 (by first | assumption | omega)) rfl rfl ?_
            refine O_call enters19 rfl rfl rfl (rdcmp_c rfl (((((((((hqA.ext e6).chgBk b6 (by decide) q7).ext e8).ext e9).chgBk b9 (by decide) q10).ext hy39).ext e40).ext e41).chgBk b41 (by decide) q42).nl rfl ((((((hqB.ext e9).chgBk b9 (by decide) q10).ext hy39).ext e40).ext e41).chgBk b41 (by decide) q42).nl (by (try simp only [val_dig, List.length_take, List.length_nil, List.length_cons, List.length_append, List.length_replicate, List.length_set, List.length_map, List.length_drop]); omega) (by (try simp only [val_dig, List.length_take, List.length_nil, List.length_cons, List.length_append, List.length_replicate, List.length_set, List.length_map, List.length_drop]); omega) (by (try simp only [val_dig, List.length_take, List.length_nil, List.length_cons, List.length_append, List.length_replicate, List.length_set, List.length_map, List.length_drop]); omega) (by (try simp only [val_dig, List.length_take, List.length_nil, List.length_cons, List.length_append, List.length_replicate, List.length_set, List.length_map, List.length_drop]); omega) (by (try simp only [val_dig, List.length_take, List.length_nil, List.length_cons, List.length_append, List.length_replicate, List.length_set, List.length_map, List.length_drop]); omega) (by (try simp only [val_dig, List.length_take, List.length_nil, List.length_cons, List.length_append, List.length_replicate, List.length_set, List.length_map, List.length_drop]); omega)) (fun v43 w43 e43 h43 => ?_)
            have z43 := e43.size
            obtain rfl := h43
            refine O_gtr (t := false) rfl rfl rfl rfl (decide_eq_false (by omega)) ?_
            refine WL_end [(7, _), (9, _), (11, _), (12, _), (81, _)] ⟨rfl, rfl, rfl, rfl, rfl, trivial⟩ ?_
            refine WP_condF rfl ?_
            refine WP_skip ?_
            refine WP_seq ?_
            refine WP_sub [(7, _), (9, _), (11, _), (12, _)] ⟨rfl, rfl, rfl, rfl, trivial⟩ ?_
            refine WP_anyR 15 [7, 9, 11, 12] mixed rfl (by kernel_rfl) ?_
            apply AnyR_val [12] rfl (by kernel_rfl)
            · --
              intro y44 hy44
              have zy44 := hy44.size
              refine AllV_nil ?_
              refine O_move rfl rfl rfl ?_
              exact WL_nil ⟨(Ext.refl _), rfl⟩
            apply AnyR_val [89] rfl (by kernel_rfl)
            · --
              intro y45 hy45
              have zy45 := hy45.size
              refine AllV_v ?_
              refine AllV_nil ?_
              refine O_eql (t := true) rfl rfl rfl rfl (decide_eq_true rfl) ?_
              exact WL_nil ⟨(Ext.refl _), rfl⟩
            apply AnyR_val [90] rfl (by kernel_rfl)
            · --
              intro y46 hy46
              have zy46 := hy46.size
              refine AllV_v ?_
              refine AllV_nil ?_
              refine O_move rfl rfl rfl ?_
              exact WL_nil ⟨(Ext.refl _), rfl⟩
            apply AnyR_val [91, 11] rfl (by kernel_rfl)
            · --
              intro y47 hy47
              have zy47 := hy47.size
              refine AllV_v ?_
              refine AllV_nil ?_
              refine O_loadA (vs := [_, _, _, _, _, _]) S28 rfl rfl rfl ((b42.ext e43).ext hy47) rfl rfl ?_
              exact WL_nil ⟨(Ext.refl _), rfl⟩
            apply AnyR_val [91, 7] rfl (by kernel_rfl)
            · --
              intro y48 hy48
              have zy48 := hy48.size
              refine AllV_v ?_
              refine AllV_nil ?_
              refine O_loadA (vs := [_, _, _]) S26 rfl rfl rfl (((((((((b7.ext e8).ext e9).chg q10 (by first | assumption | omega)).ext hy39).ext e40).ext e41).chg q42 (by first | assumption | omega)).ext e43).ext hy48) rfl rfl ?_
              exact WL_nil ⟨(Ext.refl _), rfl⟩
            apply AnyR_val [91, 9] rfl (by kernel_rfl)
            · --
              intro y49 hy49
              have zy49 := hy49.size
              refine AllV_v ?_
              refine AllV_nil ?_
              refine O_loadA (vs := [_, _, _]) S26 rfl rfl rfl ((((((b10.ext hy39).ext e40).ext e41).chg q42 (by first | assumption | omega)).ext e43).ext hy49) rfl rfl ?_
              exact WL_nil ⟨(Ext.refl _), rfl⟩
            apply AnyR_val [91, 93, 94] rfl (by kernel_rfl)
            · --
              intro y50 hy50
              have zy50 := hy50.size
              refine AllV_v ?_
              refine AllV_v ?_
              refine AllV_v ?_
              refine AllV_nil ?_
              refine O_build (cs := [_, _, _, _, _, _]) B28 rfl rfl rfl (cells_cons rfl (cells_cons rfl cells_nil)) rfl ?_
              exact WL_nil ⟨(Ext.refl _), rfl⟩
            apply AnyR_val [91, 92, 95] rfl (by kernel_rfl)
            · --
              intro y51 hy51
              have zy51 := hy51.size
              refine AllV_v ?_
              refine AllV_v ?_
              refine AllV_v ?_
              refine AllV_nil ?_
              refine O_call enters20 rfl rfl rfl (rivsameT_c rfl ((((hmq40.ext e41).chgBk b41 (by decide) q42).ext e43).ext hy51).nl rfl ((((hms40.ext e41).chgBk b41 (by decide) q42).ext e43).ext hy51).nl (by first | with_reducible assumption | exact dval_dman _ _ | exact dval_zero | exact dval_dg (by assumption) (by assumption) | exact dval_dl (by assumption) (by assumption)) (by first | with_reducible assumption | exact dval_dman _ _ | exact dval_zero | exact dval_dg (by assumption) (by assumption) | exact dval_dl (by assumption) (by assumption)) rfl (((((((((((hqA.ext e6).chgBk b6 (by decide) q7).ext e8).ext e9).chgBk b9 (by decide) q10).ext hy39).ext e40).ext e41).chgBk b41 (by decide) q42).ext e43).ext hy51).nl rfl ((((((((hqB.ext e9).chgBk b9 (by decide) q10).ext hy39).ext e40).ext e41).chgBk b41 (by decide) q42).ext e43).ext hy51).nl (by first | with_reducible assumption | exact dval_dman _ _ | exact dval_zero | exact dval_dg (by assumption) (by assumption) | exact dval_dl (by assumption) (by assumption)) (by first | with_reducible assumption | exact dval_dman _ _ | exact dval_zero | exact dval_dg (by assumption) (by assumption) | exact dval_dl (by assumption) (by assumption)) samev_self) (fun v52 w52 e52 h52 => ?_)
              have z52 := e52.size
              obtain rfl := h52
              exact WL_nil ⟨e52, rfl⟩
            apply AnyR_val [91, 96] rfl (by kernel_rfl)
            · --
              intro y53 hy53
              have zy53 := hy53.size
              refine AllV_v ?_
              refine AllV_v ?_
              refine AllV_nil ?_
              refine O_pickT rfl rfl rfl rfl ?_
              exact WL_nil ⟨(Ext.refl _), rfl⟩
            apply AnyR_val [97] rfl (by kernel_rfl)
            · --
              intro y54 hy54
              have zy54 := hy54.size
              refine AllV_v ?_
              refine AllV_nil ?_
              refine O_move rfl rfl rfl ?_
              exact WL_nil ⟨(Ext.refl _), rfl⟩
            apply AnyR_val [98, 7] rfl (by kernel_rfl)
            · --
              intro y55 hy55
              have zy55 := hy55.size
              refine AllV_v ?_
              refine AllV_nil ?_
              refine O_loadA (vs := [_, _, _]) S26 rfl rfl rfl (((((((((b7.ext e8).ext e9).chg q10 (by first | assumption | omega)).ext hy39).ext e40).ext e41).chg q42 (by first | assumption | omega)).ext e43).ext hy55) rfl rfl ?_
              exact WL_nil ⟨(Ext.refl _), rfl⟩
            apply AnyR_rel (RelP (pAgg [pEq _, pNo w43.heap.size 93 _, pEq _, pEq _, pNo w43.heap.size 93 _, pEq _])) [98, 99] rfl (RelP.mono (pAgg_mono (PsM.cons pEq_mono (PsM.cons pNo_mono (PsM.cons pEq_mono (PsM.cons pEq_mono (PsM.cons pNo_mono (PsM.cons pEq_mono PsM.nil)))))))) (by kernel_rfl)
            · --
              intro y56 hy56
              have zy56 := hy56.size
              refine AllV_v ?_
              refine AllV_v ?_
              refine AllV_nil ?_
              refine O_call enters21 rfl rfl rfl (point_c rfl (((((((((((hqA.ext e6).chgBk b6 (by decide) q7).ext e8).ext e9).chgBk b9 (by decide) q10).ext hy39).ext e40).ext e41).chgBk b41 (by decide) q42).ext e43).ext hy56).nl (by first | with_reducible assumption | exact dval_dman _ _ | exact dval_zero | exact dval_dg (by assumption) (by assumption) | exact dval_dl (by assumption) (by assumption))) (fun v57 w57 e57 h57 => ?_)
              have z57 := e57.size
              try simp only [val_dig] at h57
              obtain ⟨mq57, ms57, rfl, hmq57, hms57⟩ := h57
              exact WL_nil ⟨e57, _, rfl, ⟨_, rfl, (AllP.cons rfl (AllP.cons (hmq57.mono (by omega)) (AllP.cons rfl (AllP.cons rfl (AllP.cons (hms57.mono (by omega)) (AllP.cons rfl AllP.nil))))))⟩⟩
            apply AnyR_val [98, 7] rfl (by kernel_rfl)
            · --
              intro y58 hy58
              have zy58 := hy58.size
              refine AllV_v ?_
              refine AllV_nil ?_
              refine O_loadA (vs := [_, _, _]) S26 rfl rfl rfl (((((((((b7.ext e8).ext e9).chg q10 (by first | assumption | omega)).ext hy39).ext e40).ext e41).chg q42 (by first | assumption | omega)).ext e43).ext hy58) rfl rfl ?_
              exact WL_nil ⟨(Ext.refl _), rfl⟩
            apply AnyR_val [98, 7] rfl (by kernel_rfl)
            · --
              intro y59 hy59
              have zy59 := hy59.size
              refine AllV_v ?_
              refine AllV_nil ?_
              refine O_loadA (vs := [_, _, _]) S26 rfl rfl rfl (((((((((b7.ext e8).ext e9).chg q10 (by first | assumption | omega)).ext hy39).ext e40).ext e41).chg q42 (by first | assumption | omega)).ext e43).ext hy59) rfl rfl ?_
              exact WL_nil ⟨(Ext.refl _), rfl⟩
            apply AnyR_val [98, 101, 102] rfl (by kernel_rfl)
            · --
              intro y60 hy60
              have zy60 := hy60.size
              refine AllV_v ?_
              refine AllV_v ?_
              refine AllV_v ?_
              refine AllV_nil ?_
              refine O_build (cs := [_, _, _, _, _, _]) B28 rfl rfl rfl (cells_cons rfl (cells_cons rfl cells_nil)) rfl ?_
              exact WL_nil ⟨(Ext.refl _), rfl⟩
            refine AnyR_nil fun y61 hy61 => ?_
            have zy61 := hy61.size
            refine AllV_v ?_
            refine AllV_v ?_
            refine AllV_v ?_
            refine AllV_v ?_
            refine AllV_v ?_
            refine AllV_v ?_
            refine AllV_v ?_
            refine AllV_v ?_
            refine AllV_v ?_
            refine AllV_v ?_
            refine AllV_v ?_
            refine AllV_r fun a62 b62 v62 la62 lb62 lc62 h62 ap62 => ?_
            clear ap62
            obtain ⟨_, rfl, v62_0, _, rfl, rfl, v62_1, _, rfl, h62_1, v62_2, _, rfl, rfl, v62_3, _, rfl, rfl, v62_4, _, rfl, h62_4, v62_5, _, rfl, rfl, rfl⟩ := h62
            refine AllV_v ?_
            refine AllV_v ?_
            refine AllV_v ?_
            refine AllV_nil ?_
            refine O_call enters20 rfl rfl rfl (rivsameT_c rfl h62_1.nl rfl h62_4.nl (by first | with_reducible assumption | exact dval_dman _ _ | exact dval_zero | exact dval_dg (by assumption) (by assumption) | exact dval_dl (by assumption) (by assumption)) (by first | with_reducible assumption | exact dval_dman _ _ | exact dval_zero | exact dval_dg (by assumption) (by assumption) | exact dval_dl (by assumption) (by assumption)) rfl (((((((((((hqA.ext e6).chgBk b6 (by decide) q7).ext e8).ext e9).chgBk b9 (by decide) q10).ext hy39).ext e40).ext e41).chgBk b41 (by decide) q42).ext e43).ext hy61).nl rfl (((((((((((hqA.ext e6).chgBk b6 (by decide) q7).ext e8).ext e9).chgBk b9 (by decide) q10).ext hy39).ext e40).ext e41).chgBk b41 (by decide) q42).ext e43).ext hy61).nl (by first | with_reducible assumption | exact dval_dman _ _ | exact dval_zero | exact dval_dg (by assumption) (by assumption) | exact dval_dl (by assumption) (by assumption)) (by first | with_reducible assumption | exact dval_dman _ _ | exact dval_zero | exact dval_dg (by assumption) (by assumption) | exact dval_dl (by assumption) (by assumption)) samev_self) (fun v63 w63 e63 h63 => ?_)
            have z63 := e63.size
            obtain rfl := h63
            refine O_pickT rfl rfl rfl rfl ?_
            refine O_assign rfl rfl rfl ?_
            refine WL_end [(6, _)] ⟨rfl, trivial⟩ ?_
            refine WP_ret ?_
            refine ret1 Try.results4 rfl ?_
            exact ⟨_, rfl, (((e42.trans e43).trans hy61).trans e63), rfl⟩
          · skip
            refine WP_region ?_
            refine O_loadA (vs := [_, _, _]) S26 rfl rfl rfl ((((b7.ext e8).ext e9).chg q10 (by first | assumption | omega)).ext hy39) rfl rfl ?_
            refine O_loadA (vs := [_, _, _]) S26 rfl rfl rfl (b10.ext hy39) rfl rfl ?_
            refine O_call enters18 rfl rfl rfl (imake_F rfl ((((((hqA.ext e6).chgBk b6 (by decide) q7).ext e8).ext e9).chgBk b9 (by decide) q10).ext hy39).nl rfl (((hqB.ext e9).chgBk b9 (by decide) q10).ext hy39).nl (by first | with_reducible assumption | exact dval_dman _ _ | exact dval_zero | exact dval_dg (by assumption) (by assumption) | exact dval_dl (by assumption) (by assumption)) (by first | with_reducible assumption | exact dval_dman _ _ | exact dval_zero | exact dval_dg (by assumption) (by assumption) | exact dval_dl (by assumption) (by assumption)) ho) (fun v64 w64 e64 h64 => ?_)
            have z64 := e64.size
            try simp only [val_dig] at h64
            obtain rfl := h64
            refine O_move rfl rfl rfl ?_
            refine O_extract rfl rfl rfl rfl ?_
            refine O_extract rfl rfl rfl rfl ?_
            refine O_alloc S28 rfl rfl (fun g65 w65 b65 e65 gl65 gh65 => ?_)
            have z65 := e65.size
            refine O_storeA (cs' := [_, _, _, _, _, _]) S28 rfl rfl rfl b65 rfl rfl (one_cons rfl (one_cons rfl (one_cons rfl (one_cons rfl (one_cons rfl (one_cons rfl one_nil)))))) rfl (fun w66 b66 q66 => ?_)
            have z66 := Nat.le_of_eq q66.size.symm
            have e66 : Ext w w66 := q66.ext (((e10.trans hy39).trans e64).trans e65) (by omega)
            refine O_assign rfl rfl rfl ?_
            refine WL_end [(7, _), (9, _), (11, _), (12, _)] ⟨rfl, rfl, rfl, rfl, trivial⟩ ?_
            refine WP_seq ?_
            refine WP_seq ?_
            refine WP_region ?_
            refine O_loadA (vs := [_, _, _]) S26 rfl rfl rfl (((((((b7.ext e8).ext e9).chg q10 (by first | assumption | omega)).ext hy39).ext e64).ext e65).chg q66 (by first | assumption | omega)) rfl rfl ?_
            refine O_loadA (vs := [_, _, _]) S26 rfl rfl rfl ((((b10.ext hy39).ext e64).ext e65).chg q66 (by first | assumption | omega)) rfl rfl ?_
            refine O_call enters19 rfl rfl rfl (rdcmp_c rfl (((((((((hqA.ext e6).chgBk b6 (by decide) q7).ext e8).ext e9).chgBk b9 (by decide) q10).ext hy39).ext e64).ext e65).chgBk b65 (by decide) q66).nl rfl ((((((hqB.ext e9).chgBk b9 (by decide) q10).ext hy39).ext e64).ext e65).chgBk b65 (by decide) q66).nl (by (try simp only [val_dig, List.length_take, List.length_nil, List.length_cons, List.length_append, List.length_replicate, List.length_set, List.length_map, List.length_drop]); omega) (by (try simp only [val_dig, List.length_take, List.length_nil, List.length_cons, List.length_append, List.length_replicate, List.length_set, List.length_map, List.length_drop]); omega) (by (try simp only [val_dig, List.length_take, List.length_nil, List.length_cons, List.length_append, List.length_replicate, List.length_set, List.length_map, List.length_drop]); omega) (by (try simp only [val_dig, List.length_take, List.length_nil, List.length_cons, List.length_append, List.length_replicate, List.length_set, List.length_map, List.length_drop]); omega) (by (try simp only [val_dig, List.length_take, List.length_nil, List.length_cons, List.length_append, List.length_replicate, List.length_set, List.length_map, List.length_drop]); omega) (by (try simp only [val_dig, List.length_take, List.length_nil, List.length_cons, List.length_append, List.length_replicate, List.length_set, List.length_map, List.length_drop]); omega)) (fun v67 w67 e67 h67 => ?_)
            have z67 := e67.size
            obtain rfl := h67
            refine O_gtr (t := true) rfl rfl rfl rfl (decide_eq_true (by omega)) ?_
            refine WL_end [(7, _), (9, _), (11, _), (12, _), (81, _)] ⟨rfl, rfl, rfl, rfl, rfl, trivial⟩ ?_
            refine WP_condT rfl ?_
            refine WP_seq ?_
            refine WP_region ?_
            refine O_move rfl rfl rfl ?_
            refine O_eql (t := true) rfl rfl rfl rfl (decide_eq_true rfl) ?_
            refine O_move rfl rfl rfl ?_
            refine O_loadA (vs := [_, _, _, _, _, _]) S28 rfl rfl rfl (b66.ext e67) rfl rfl ?_
            refine O_build (cs := [_, _, _, _, _, _]) B28 rfl rfl rfl cells_nil rfl ?_
            refine O_call enters20 rfl rfl rfl (rivsameT_z) (fun v68 w68 e68 h68 => ?_)
            have z68 := e68.size
            obtain rfl := h68
            refine O_pickT rfl rfl rfl rfl ?_
            refine O_assign rfl rfl rfl ?_
            refine WL_end [(6, _)] ⟨rfl, trivial⟩ ?_
            refine WP_ret ?_
            refine ret1 Try.results4 rfl ?_
            exact ⟨_, rfl, ((e66.trans e67).trans e68), rfl⟩
set_option maxHeartbeats 4000000 in
theorem law_IM_X1 {w : World} {vx vy : Value} {lx ly : List Nat} {bx by_ : Bool} {e f : Int} (hx : Nl w vx lx) (hy : Nl w vy ly) (hl : 20 < lx.length) {vz vu : Value} {lz lu : List Nat} {bz bu : Bool} {g h : Int} (hz : Nl w vz lz) (hu : Nl w vu lu) :
    Calls Try.prog 4 #[.agg #[.bool bx, vx, .int .i64 e, .bool by_, vy, .int .i64 f], .agg #[.bool bz, vz, .int .i64 g], .agg #[.bool bu, vu, .int .i64 h]] w (Ret w fun r _ => r = .bool true) := by
  refine enter (args := [_, _, _]) Try.func4 rfl Try.ntmps4 rfl ?_
  refine WP_seq ?_
  refine WP_region ?_
  refine O_box _ rfl rfl rfl rfl (fun g1 w1 b1 e1 gl1 gh1 => ?_)
  have z1 := e1.size
  refine O_box _ rfl rfl rfl rfl (fun g2 w2 b2 e2 gl2 gh2 => ?_)
  have z2 := e2.size
  refine O_box _ rfl rfl rfl rfl (fun g3 w3 b3 e3 gl3 gh3 => ?_)
  have z3 := e3.size
  refine O_assign rfl rfl rfl ?_
  refine WL_end [(3, _), (4, _), (5, _)] ⟨rfl, rfl, rfl, trivial⟩ ?_
  refine WP_seq ?_
  refine WP_seq ?_
  refine WP_region ?_
  refine O_call enters7 rfl rfl rfl (awake10_c) (fun v4 w4 e4 h4 => ?_)
  have z4 := e4.size
  obtain rfl := h4
  refine O_not rfl rfl rfl rfl ?_
  refine WL_end [(3, _), (4, _), (5, _), (14, _)] ⟨rfl, rfl, rfl, rfl, trivial⟩ ?_
  refine WP_condF rfl ?_
  refine WP_skip ?_
  refine WP_seq ?_
  refine WP_region ?_
  refine O_loadA (vs := [_, _, _]) S26 rfl rfl rfl ((b2.ext e3).ext e4) rfl rfl ?_
  refine O_call enters14 rfl rfl rfl (mdy_c (n := 5) (m := 60) (hz.ext (((e1.trans e2).trans e3).trans e4)) (by decide)) (fun v5 w5 e5 h5 => ?_)
  have z5 := e5.size
  try simp only [val_dig] at h5
  obtain ⟨XA, EA, qA, bA, rfl, hqA, hvA, hkA, hjA, hlA⟩ := h5
  refine O_move rfl rfl rfl ?_
  refine O_extract rfl rfl rfl rfl ?_
  refine O_extract rfl rfl rfl rfl ?_
  refine O_alloc S26 rfl rfl (fun g6 w6 b6 e6 gl6 gh6 => ?_)
  have z6 := e6.size
  refine O_storeA (cs' := [_, _, _]) S26 rfl rfl rfl b6 rfl rfl (one_cons rfl (one_cons ((hqA.ext e6).nl).one (one_cons rfl one_nil))) rfl (fun w7 b7 q7 => ?_)
  have z7 := Nat.le_of_eq q7.size.symm
  have e7 : Ext w w7 := q7.ext (((((e1.trans e2).trans e3).trans e4).trans e5).trans e6) (by omega)
  refine O_assign rfl rfl rfl ?_
  refine WL_end [(3, _), (5, _), (7, _), (8, _)] ⟨rfl, rfl, rfl, rfl, trivial⟩ ?_
  refine WP_seq ?_
  refine WP_region ?_
  refine O_loadA (vs := [_, _, _]) S26 rfl rfl rfl ((((b3.ext e4).ext e5).ext e6).chg q7 (by first | assumption | omega)) rfl rfl ?_
  refine O_call enters14 rfl rfl rfl (mdy_c (n := 5) (m := 60) (hu.ext e7) (by decide)) (fun v8 w8 e8 h8 => ?_)
  have z8 := e8.size
  try simp only [val_dig] at h8
  obtain ⟨XB, EB, qB, bB, rfl, hqB, hvB, hkB, hjB, hlB⟩ := h8
  refine O_move rfl rfl rfl ?_
  refine O_extract rfl rfl rfl rfl ?_
  refine O_extract rfl rfl rfl rfl ?_
  refine O_alloc S26 rfl rfl (fun g9 w9 b9 e9 gl9 gh9 => ?_)
  have z9 := e9.size
  refine O_storeA (cs' := [_, _, _]) S26 rfl rfl rfl b9 rfl rfl (one_cons rfl (one_cons ((hqB.ext e9).nl).one (one_cons rfl one_nil))) rfl (fun w10 b10 q10 => ?_)
  have z10 := Nat.le_of_eq q10.size.symm
  have e10 : Ext w w10 := q10.ext ((e7.trans e8).trans e9) (by omega)
  refine O_assign rfl rfl rfl ?_
  refine WL_end [(3, _), (7, _), (8, _), (9, _), (10, _)] ⟨rfl, rfl, rfl, rfl, rfl, trivial⟩ ?_
  refine WP_seq ?_
  refine WP_seq ?_
  refine WP_region ?_
  refine O_move rfl rfl rfl ?_
  refine O_not rfl rfl rfl rfl ?_
  refine O_move rfl rfl rfl ?_
  refine WL_bool 27 rfl (fun g27 => ?_) (fun g27 => ?_)
  · --
    refine O_skip rfl rfl ?_
    refine O_skip rfl rfl ?_
    refine O_pickT rfl rfl rfl rfl ?_
    refine O_move rfl rfl rfl ?_
    refine O_skip rfl rfl ?_
    refine O_skip rfl rfl ?_
    refine O_skip rfl rfl ?_
    refine O_skip rfl rfl ?_
    refine O_skip rfl rfl ?_
    refine O_skip rfl rfl ?_
    refine O_pickT rfl rfl rfl rfl ?_
    refine O_move rfl rfl rfl ?_
    refine O_skip rfl rfl ?_
    refine O_skip rfl rfl ?_
    refine O_skip rfl rfl ?_
    refine O_skip rfl rfl ?_
    refine O_skip rfl rfl ?_
    refine O_skip rfl rfl ?_
    refine O_pickT rfl rfl rfl rfl ?_
    refine WL_end [(3, _), (7, _), (9, _), (46, _)] ⟨rfl, rfl, rfl, rfl, trivial⟩ ?_
    refine WP_condT rfl ?_
    refine WP_seq ?_
    refine WP_region ?_
    refine O_assign rfl rfl rfl ?_
    refine WL_end [(6, _)] ⟨rfl, trivial⟩ ?_
    refine WP_ret ?_
    refine ret1 Try.results4 rfl ?_
    exact ⟨_, rfl, e10, rfl⟩
  · --
    refine O_move rfl rfl rfl ?_
    refine O_not rfl rfl rfl rfl ?_
    refine O_pickF rfl rfl rfl rfl ?_
    refine O_move rfl rfl rfl ?_
    refine WL_bool 31 rfl (fun g31 => ?_) (fun g31 => ?_)
    · --
      refine O_skip rfl rfl ?_
      refine O_skip rfl rfl ?_
      refine O_skip rfl rfl ?_
      refine O_skip rfl rfl ?_
      refine O_skip rfl rfl ?_
      refine O_skip rfl rfl ?_
      refine O_pickT rfl rfl rfl rfl ?_
      refine O_move rfl rfl rfl ?_
      refine O_skip rfl rfl ?_
      refine O_skip rfl rfl ?_
      refine O_skip rfl rfl ?_
      refine O_skip rfl rfl ?_
      refine O_skip rfl rfl ?_
      refine O_skip rfl rfl ?_
      refine O_pickT rfl rfl rfl rfl ?_
      refine WL_end [(3, _), (7, _), (9, _), (46, _)] ⟨rfl, rfl, rfl, rfl, trivial⟩ ?_
      refine WP_condT rfl ?_
      refine WP_seq ?_
      refine WP_region ?_
      refine O_assign rfl rfl rfl ?_
      refine WL_end [(6, _)] ⟨rfl, trivial⟩ ?_
      refine WP_ret ?_
      refine ret1 Try.results4 rfl ?_
      exact ⟨_, rfl, e10, rfl⟩
    · --
      refine O_field F28_0 rfl rfl rfl ?_
      refine O_field F26_0 rfl rfl rfl ?_
      refine O_field F24_1 rfl rfl rfl ?_
      refine O_loadC Try.underlying22 rfl rfl rfl rfl (((((((((b1.ext e2).ext e3).ext e4).ext e5).ext e6).chg q7 (by first | assumption | omega)).ext e8).ext e9).chg q10 (by first | assumption | omega)) rfl ?_
      refine N_len T22 rfl rfl rfl (hx.ext e10) ?_
      refine O_gtr (t := true) rfl rfl rfl rfl (decide_eq_true (by omega)) ?_
      refine O_pickF rfl rfl rfl rfl ?_
      refine O_move rfl rfl rfl ?_
      refine O_skip rfl rfl ?_
      refine O_skip rfl rfl ?_
      refine O_skip rfl rfl ?_
      refine O_skip rfl rfl ?_
      refine O_skip rfl rfl ?_
      refine O_skip rfl rfl ?_
      refine O_pickT rfl rfl rfl rfl ?_
      refine WL_end [(3, _), (7, _), (9, _), (46, _)] ⟨rfl, rfl, rfl, rfl, trivial⟩ ?_
      refine WP_condT rfl ?_
      refine WP_seq ?_
      refine WP_region ?_
      refine O_assign rfl rfl rfl ?_
      refine WL_end [(6, _)] ⟨rfl, trivial⟩ ?_
      refine WP_ret ?_
      refine ret1 Try.results4 rfl ?_
      exact ⟨_, rfl, e10, rfl⟩
set_option maxHeartbeats 4000000 in
theorem law_IM_X2 {w : World} {vx vy : Value} {lx ly : List Nat} {bx by_ : Bool} {e f : Int} (hx : Nl w vx lx) (hy : Nl w vy ly) (hl : 20 < ly.length) (hl0 : lx.length ≤ 20) {vz vu : Value} {lz lu : List Nat} {bz bu : Bool} {g h : Int} (hz : Nl w vz lz) (hu : Nl w vu lu) :
    Calls Try.prog 4 #[.agg #[.bool bx, vx, .int .i64 e, .bool by_, vy, .int .i64 f], .agg #[.bool bz, vz, .int .i64 g], .agg #[.bool bu, vu, .int .i64 h]] w (Ret w fun r _ => r = .bool true) := by
  refine enter (args := [_, _, _]) Try.func4 rfl Try.ntmps4 rfl ?_
  refine WP_seq ?_
  refine WP_region ?_
  refine O_box _ rfl rfl rfl rfl (fun g1 w1 b1 e1 gl1 gh1 => ?_)
  have z1 := e1.size
  refine O_box _ rfl rfl rfl rfl (fun g2 w2 b2 e2 gl2 gh2 => ?_)
  have z2 := e2.size
  refine O_box _ rfl rfl rfl rfl (fun g3 w3 b3 e3 gl3 gh3 => ?_)
  have z3 := e3.size
  refine O_assign rfl rfl rfl ?_
  refine WL_end [(3, _), (4, _), (5, _)] ⟨rfl, rfl, rfl, trivial⟩ ?_
  refine WP_seq ?_
  refine WP_seq ?_
  refine WP_region ?_
  refine O_call enters7 rfl rfl rfl (awake10_c) (fun v4 w4 e4 h4 => ?_)
  have z4 := e4.size
  obtain rfl := h4
  refine O_not rfl rfl rfl rfl ?_
  refine WL_end [(3, _), (4, _), (5, _), (14, _)] ⟨rfl, rfl, rfl, rfl, trivial⟩ ?_
  refine WP_condF rfl ?_
  refine WP_skip ?_
  refine WP_seq ?_
  refine WP_region ?_
  refine O_loadA (vs := [_, _, _]) S26 rfl rfl rfl ((b2.ext e3).ext e4) rfl rfl ?_
  refine O_call enters14 rfl rfl rfl (mdy_c (n := 5) (m := 60) (hz.ext (((e1.trans e2).trans e3).trans e4)) (by decide)) (fun v5 w5 e5 h5 => ?_)
  have z5 := e5.size
  try simp only [val_dig] at h5
  obtain ⟨XA, EA, qA, bA, rfl, hqA, hvA, hkA, hjA, hlA⟩ := h5
  refine O_move rfl rfl rfl ?_
  refine O_extract rfl rfl rfl rfl ?_
  refine O_extract rfl rfl rfl rfl ?_
  refine O_alloc S26 rfl rfl (fun g6 w6 b6 e6 gl6 gh6 => ?_)
  have z6 := e6.size
  refine O_storeA (cs' := [_, _, _]) S26 rfl rfl rfl b6 rfl rfl (one_cons rfl (one_cons ((hqA.ext e6).nl).one (one_cons rfl one_nil))) rfl (fun w7 b7 q7 => ?_)
  have z7 := Nat.le_of_eq q7.size.symm
  have e7 : Ext w w7 := q7.ext (((((e1.trans e2).trans e3).trans e4).trans e5).trans e6) (by omega)
  refine O_assign rfl rfl rfl ?_
  refine WL_end [(3, _), (5, _), (7, _), (8, _)] ⟨rfl, rfl, rfl, rfl, trivial⟩ ?_
  refine WP_seq ?_
  refine WP_region ?_
  refine O_loadA (vs := [_, _, _]) S26 rfl rfl rfl ((((b3.ext e4).ext e5).ext e6).chg q7 (by first | assumption | omega)) rfl rfl ?_
  refine O_call enters14 rfl rfl rfl (mdy_c (n := 5) (m := 60) (hu.ext e7) (by decide)) (fun v8 w8 e8 h8 => ?_)
  have z8 := e8.size
  try simp only [val_dig] at h8
  obtain ⟨XB, EB, qB, bB, rfl, hqB, hvB, hkB, hjB, hlB⟩ := h8
  refine O_move rfl rfl rfl ?_
  refine O_extract rfl rfl rfl rfl ?_
  refine O_extract rfl rfl rfl rfl ?_
  refine O_alloc S26 rfl rfl (fun g9 w9 b9 e9 gl9 gh9 => ?_)
  have z9 := e9.size
  refine O_storeA (cs' := [_, _, _]) S26 rfl rfl rfl b9 rfl rfl (one_cons rfl (one_cons ((hqB.ext e9).nl).one (one_cons rfl one_nil))) rfl (fun w10 b10 q10 => ?_)
  have z10 := Nat.le_of_eq q10.size.symm
  have e10 : Ext w w10 := q10.ext ((e7.trans e8).trans e9) (by omega)
  refine O_assign rfl rfl rfl ?_
  refine WL_end [(3, _), (7, _), (8, _), (9, _), (10, _)] ⟨rfl, rfl, rfl, rfl, rfl, trivial⟩ ?_
  refine WP_seq ?_
  refine WP_seq ?_
  refine WP_region ?_
  refine O_move rfl rfl rfl ?_
  refine O_not rfl rfl rfl rfl ?_
  refine O_move rfl rfl rfl ?_
  refine WL_bool 27 rfl (fun g27 => ?_) (fun g27 => ?_)
  · --
    refine O_skip rfl rfl ?_
    refine O_skip rfl rfl ?_
    refine O_pickT rfl rfl rfl rfl ?_
    refine O_move rfl rfl rfl ?_
    refine O_skip rfl rfl ?_
    refine O_skip rfl rfl ?_
    refine O_skip rfl rfl ?_
    refine O_skip rfl rfl ?_
    refine O_skip rfl rfl ?_
    refine O_skip rfl rfl ?_
    refine O_pickT rfl rfl rfl rfl ?_
    refine O_move rfl rfl rfl ?_
    refine O_skip rfl rfl ?_
    refine O_skip rfl rfl ?_
    refine O_skip rfl rfl ?_
    refine O_skip rfl rfl ?_
    refine O_skip rfl rfl ?_
    refine O_skip rfl rfl ?_
    refine O_pickT rfl rfl rfl rfl ?_
    refine WL_end [(3, _), (7, _), (9, _), (46, _)] ⟨rfl, rfl, rfl, rfl, trivial⟩ ?_
    refine WP_condT rfl ?_
    refine WP_seq ?_
    refine WP_region ?_
    refine O_assign rfl rfl rfl ?_
    refine WL_end [(6, _)] ⟨rfl, trivial⟩ ?_
    refine WP_ret ?_
    refine ret1 Try.results4 rfl ?_
    exact ⟨_, rfl, e10, rfl⟩
  · --
    refine O_move rfl rfl rfl ?_
    refine O_not rfl rfl rfl rfl ?_
    refine O_pickF rfl rfl rfl rfl ?_
    refine O_move rfl rfl rfl ?_
    refine WL_bool 31 rfl (fun g31 => ?_) (fun g31 => ?_)
    · --
      refine O_skip rfl rfl ?_
      refine O_skip rfl rfl ?_
      refine O_skip rfl rfl ?_
      refine O_skip rfl rfl ?_
      refine O_skip rfl rfl ?_
      refine O_skip rfl rfl ?_
      refine O_pickT rfl rfl rfl rfl ?_
      refine O_move rfl rfl rfl ?_
      refine O_skip rfl rfl ?_
      refine O_skip rfl rfl ?_
      refine O_skip rfl rfl ?_
      refine O_skip rfl rfl ?_
      refine O_skip rfl rfl ?_
      refine O_skip rfl rfl ?_
      refine O_pickT rfl rfl rfl rfl ?_
      refine WL_end [(3, _), (7, _), (9, _), (46, _)] ⟨rfl, rfl, rfl, rfl, trivial⟩ ?_
      refine WP_condT rfl ?_
      refine WP_seq ?_
      refine WP_region ?_
      refine O_assign rfl rfl rfl ?_
      refine WL_end [(6, _)] ⟨rfl, trivial⟩ ?_
      refine WP_ret ?_
      refine ret1 Try.results4 rfl ?_
      exact ⟨_, rfl, e10, rfl⟩
    · --
      refine O_field F28_0 rfl rfl rfl ?_
      refine O_field F26_0 rfl rfl rfl ?_
      refine O_field F24_1 rfl rfl rfl ?_
      refine O_loadC Try.underlying22 rfl rfl rfl rfl (((((((((b1.ext e2).ext e3).ext e4).ext e5).ext e6).chg q7 (by first | assumption | omega)).ext e8).ext e9).chg q10 (by first | assumption | omega)) rfl ?_
      refine N_len T22 rfl rfl rfl (hx.ext e10) ?_
      refine O_gtr (t := false) rfl rfl rfl rfl (decide_eq_false (by omega)) ?_
      refine O_pickF rfl rfl rfl rfl ?_
      refine O_move rfl rfl rfl ?_
      refine O_field F28_1 rfl rfl rfl ?_
      refine O_field F26_0 rfl rfl rfl ?_
      refine O_field F24_1 rfl rfl rfl ?_
      refine O_loadC Try.underlying22 rfl rfl rfl rfl (((((((((b1.ext e2).ext e3).ext e4).ext e5).ext e6).chg q7 (by first | assumption | omega)).ext e8).ext e9).chg q10 (by first | assumption | omega)) rfl ?_
      refine N_len T22 rfl rfl rfl (hy.ext e10) ?_
      refine O_gtr (t := true) rfl rfl rfl rfl (decide_eq_true (by omega)) ?_
      refine O_pickF rfl rfl rfl rfl ?_
      refine WL_end [(3, _), (7, _), (9, _), (46, _)] ⟨rfl, rfl, rfl, rfl, trivial⟩ ?_
      refine WP_condT rfl ?_
      refine WP_seq ?_
      refine WP_region ?_
      refine O_assign rfl rfl rfl ?_
      refine WL_end [(6, _)] ⟨rfl, trivial⟩ ?_
      refine WP_ret ?_
      refine ret1 Try.results4 rfl ?_
      exact ⟨_, rfl, e10, rfl⟩

theorem law_IntervalMakes {w : World} {vx vy : Value} {lx ly : List Nat} {bx by_ : Bool} {e f : Int} (hx : Nl w vx lx) (hy : Nl w vy ly) {vz vu : Value} {lz lu : List Nat} {bz bu : Bool} {g h : Int} (hz : Nl w vz lz) (hu : Nl w vu lu) : Calls Try.prog 4 #[.agg #[.bool bx, vx, .int .i64 e, .bool by_, vy, .int .i64 f], .agg #[.bool bz, vz, .int .i64 g], .agg #[.bool bu, vu, .int .i64 h]] w (Ret w fun r _ => r = .bool true) := by
  by_cases h1 : lx.length ≤ 20
  · by_cases h2 : ly.length ≤ 20
    · cases h3 : dvalr bx lx e with
      | false => exact law_IM_L hx hy h1 h2 h3 hz hu
      | true =>
        unfold dvalr at h3
        rw [Bool.and_eq_true] at h3
        obtain ⟨a1, a2⟩ := ival_canon hx.d h3.1
        have a3 : Nl w vx (dig (mk bx (val lx)).natAbs) := by rw [← a1]; exact hx
        cases h4 : dvalr by_ ly f with
        | false => exact law_IM_H a2 a3 h3.2 hy h2 h4 hz hu
        | true =>
          unfold dvalr at h4
          rw [Bool.and_eq_true] at h4
          obtain ⟨b1, b2⟩ := ival_canon hy.d h4.1
          have b3 : Nl w vy (dig (mk by_ (val ly)).natAbs) := by rw [← b1]; exact hy
          by_cases hr : dcmp (mk bx (val lx)) e (mk by_ (val ly)) f ≤ 0
          · exact law_IM_T a2 a3 b2 b3 h3.2 h4.2 hr hz hu
          · exact law_IM_F a2 a3 b2 b3 h3.2 h4.2 hr hz hu
    · exact law_IM_X2 hx hy (by omega) h1 hz hu
  · exact law_IM_X1 hx hy (by omega) hz hu

end Go.Proofs.Ythbfhljpfkicpaa
