/-
  Walks.
-/
import Derived.Test.YthbfhljpfkicpaaDoorH1
set_option linter.unusedVariables false
set_option linter.unusedSimpArgs false
set_option maxRecDepth 100000
namespace Go.Proofs.YthbfhljpfkicpaaDoor
open Go Go.RowKit
set_option maxHeartbeats 4000000 in
theorem law_IntervalMiddles {w : World} {vx vy : Value} {lx ly : List Nat} {bx by_ : Bool} {e f : Int} (hx : Nl w vx lx) (hy : Nl w vy ly) (hT : Tab w) :
    Calls Tryd.prog 9 #[.agg #[.bool bx, vx, .int .i64 e, .bool by_, vy, .int .i64 f]] w (Ret w fun r _ => r = .bool true) := by
 refine enter (args := [_]) Tryd.func9 rfl Tryd.ntmps9 rfl ?_
 refine WP_seq ?_
 refine WP_region ?_
 refine O_box _ rfl rfl rfl rfl (fun g1 w1 b1 e1 gl1 gh1 => ?_)
 have z1 := e1.size
 refine O_assign rfl rfl rfl ?_
 refine WL_end [(1, _)] ⟨rfl, trivial⟩ ?_
 refine WP_seq ?_
 refine WP_seq ?_
 refine WP_region ?_
 refine O_call enters37 rfl rfl rfl (awake10_c) (fun v2 w2 e2 h2 => ?_)
 have z2 := e2.size
 obtain rfl := h2
 refine O_not rfl rfl rfl rfl ?_
 refine WL_end [(1, _), (14, _)] ⟨rfl, rfl, trivial⟩ ?_
 refine WP_condF rfl ?_
 refine WP_skip ?_
 refine WP_seq ?_
 refine WP_region ?_
 refine O_loadA (vs := [_, _, _, _, _, _]) S53 rfl rfl rfl (b1.ext e2) rfl rfl ?_
 refine O_call enters38 rfl rfl rfl (mint10_c (n := 5) (m := 60) (hx.ext (e1.trans e2)) (hy.ext (e1.trans e2)) (by decide)) (fun v3 w3 e3 h3 => ?_)
 have z3 := e3.size
 try simp only [val_dig] at h3
 obtain ⟨xA, eA, yA, fA, qA, sA, bA, rfl, hqA, hsA, hvA, huA, hcA, hkA, hjA, hmA, hnA, hlA, hoA⟩ := h3
 refine O_move rfl rfl rfl ?_
 refine O_extract rfl rfl rfl rfl ?_
 refine O_extract rfl rfl rfl rfl ?_
 refine O_alloc S53 rfl rfl (fun g4 w4 b4 e4 gl4 gh4 => ?_)
 have z4 := e4.size
 refine O_storeA (cs' := [_, _, _, _, _, _]) S53 rfl rfl rfl b4 rfl rfl (one_cons rfl (one_cons ((hqA.ext e4).nl).one (one_cons rfl (one_cons rfl (one_cons ((hsA.ext e4).nl).one (one_cons rfl one_nil)))))) rfl (fun w5 b5 q5 => ?_)
 have z5 := Nat.le_of_eq q5.size.symm
 have e5 : Ext w w5 := q5.ext (((e1.trans e2).trans e3).trans e4) (by omega)
 refine O_assign rfl rfl rfl ?_
 refine WL_end [(3, _), (4, _)] ⟨rfl, rfl, trivial⟩ ?_
 refine WP_seq ?_
 refine WP_seq ?_
 refine WP_region ?_
 refine O_move rfl rfl rfl ?_
 refine O_not rfl rfl rfl rfl ?_
 refine WL_end [(3, _), (21, _)] ⟨rfl, rfl, trivial⟩ ?_
 refine WP_cond rfl (fun c21 => ?_) (fun c21 => ?_)
 · --
  refine WP_seq ?_
  refine WP_region ?_
  refine O_assign rfl rfl rfl ?_
  refine WL_end [(2, _)] ⟨rfl, trivial⟩ ?_
  refine WP_ret ?_
  refine ret1 Tryd.results9 rfl ?_
  exact ⟨_, rfl, e5, rfl⟩
 · --
  refine WP_skip ?_
  refine WP_seq ?_
  have hrx := dval_range hvA
  have hry := dval_range huA
  have hsl := dsum_len (x := xA) (e := eA) (y := yA) (f := fA) (a := 5) (m := 320) hlA hoA (by omega) (by omega)
  obtain ⟨hcm, hvm, g1, g2, hlm⟩ := dcode_small (x := dsum xA eA yA fA) (e := min eA fA) (a := 17) (m := 220) (Nat.le_trans hsl (by decide)) (by omega) (by omega) (by decide)
  obtain ⟨hcm2, hvn, g3, g4, hln⟩ := dcode_small (x := dman (dsum xA eA yA fA) (min eA fA)) (e := dexp (dsum xA eA yA fA) (min eA fA) + -1) (a := 17) (m := 900) hlm (by omega) (by omega) (by decide)
  have hs1 := sw_sum hvA huA hcm
  have hs2 := sw_half (by omega) hcm2
  have hle := (dcmp_le_iff hvA huA).1 hcA
  have hwl := dsum_len (x := yA) (e := fA) (y := -xA) (f := eA) (a := 5) (m := 320) hoA (neg_len hlA) (by omega) (by omega)
  obtain ⟨hcw, hvw, g5, g6, hlw⟩ := dcode_small (x := dsum yA fA (-xA) eA) (e := min fA eA) (a := 17) (m := 220) (Nat.le_trans hwl (by decide)) (by omega) (by omega) (by decide)
  have hh := hasv_rat hvA huA hvn (by omega) (by omega)
  obtain ⟨n1, m1⟩ := rat_lens (a := 17) hvn hln
  · --
   skip
   refine WP_region ?_
   refine O_loadA (vs := [_, _, _, _, _, _]) S53 rfl rfl rfl b5 rfl rfl ?_
   refine O_call enters43 rfl rfl rfl (ivwidth_c rfl ((hqA.ext e4).chgBk b4 (by decide) q5).nl rfl ((hsA.ext e4).chgBk b4 (by decide) q5).nl (by first | with_reducible assumption | exact dval_dman _ _ | exact dval_zero | exact dval_dg (by assumption) (by assumption) | exact dval_dl (by assumption) (by assumption)) (by first | with_reducible assumption | exact dval_dman _ _ | exact dval_zero | exact dval_dg (by assumption) (by assumption) | exact dval_dl (by assumption) (by assumption)) (by with_reducible assumption) (hT.ext e5)) (fun v6 w6 e6 h6 => ?_)
   have z6 := e6.size
   try simp only [val_dig] at h6
   obtain ⟨q6, rfl, hq6⟩ := h6
   refine O_move rfl rfl rfl ?_
   refine O_extract rfl rfl rfl rfl ?_
   refine O_extract rfl rfl rfl rfl ?_
   refine O_alloc S26 rfl rfl (fun g7 w7 b7 e7 gl7 gh7 => ?_)
   have z7 := e7.size
   refine O_storeA (cs' := [_, _, _]) S26 rfl rfl rfl b7 rfl rfl (one_cons rfl (one_cons ((hq6.ext e7).nl).one (one_cons rfl one_nil))) rfl (fun w8 b8 q8 => ?_)
   have z8 := Nat.le_of_eq q8.size.symm
   have e8 : Ext w w8 := q8.ext ((e5.trans e6).trans e7) (by omega)
   refine O_assign rfl rfl rfl ?_
   refine WL_end [(3, _), (5, _), (6, _)] ⟨rfl, rfl, rfl, trivial⟩ ?_
   refine WP_seq ?_
   refine WP_region ?_
   refine O_loadA (vs := [_, _, _, _, _, _]) S53 rfl rfl rfl (((b5.ext e6).ext e7).chg q8 (by first | assumption | omega)) rfl rfl ?_
   refine O_call enters44 rfl rfl rfl (ivmid_c rfl (((((hqA.ext e4).chgBk b4 (by decide) q5).ext e6).ext e7).chgBk b7 (by decide) q8).nl rfl (((((hsA.ext e4).chgBk b4 (by decide) q5).ext e6).ext e7).chgBk b7 (by decide) q8).nl (by first | with_reducible assumption | exact dval_dman _ _ | exact dval_zero | exact dval_dg (by assumption) (by assumption) | exact dval_dl (by assumption) (by assumption)) (by first | with_reducible assumption | exact dval_dman _ _ | exact dval_zero | exact dval_dg (by assumption) (by assumption) | exact dval_dl (by assumption) (by assumption)) (by with_reducible assumption) (by with_reducible assumption) (hT.ext e8)) (fun v9 w9 e9 h9 => ?_)
   have z9 := e9.size
   try simp only [val_dig] at h9
   obtain ⟨q9, rfl, hq9⟩ := h9
   refine O_move rfl rfl rfl ?_
   refine O_extract rfl rfl rfl rfl ?_
   refine O_extract rfl rfl rfl rfl ?_
   refine O_alloc S26 rfl rfl (fun g10 w10 b10 e10 gl10 gh10 => ?_)
   have z10 := e10.size
   refine O_storeA (cs' := [_, _, _]) S26 rfl rfl rfl b10 rfl rfl (one_cons rfl (one_cons ((hq9.ext e10).nl).one (one_cons rfl one_nil))) rfl (fun w11 b11 q11 => ?_)
   have z11 := Nat.le_of_eq q11.size.symm
   have e11 : Ext w w11 := q11.ext ((e8.trans e9).trans e10) (by omega)
   refine O_assign rfl rfl rfl ?_
   refine WL_end [(3, _), (5, _), (6, _), (7, _), (8, _)] ⟨rfl, rfl, rfl, rfl, rfl, trivial⟩ ?_
   refine WP_seq ?_
   refine WP_region ?_
   refine O_loadA (vs := [_, _, _, _, _, _]) S53 rfl rfl rfl ((((((b5.ext e6).ext e7).chg q8 (by first | assumption | omega)).ext e9).ext e10).chg q11 (by first | assumption | omega)) rfl rfl ?_
   refine O_call enters45 rfl rfl rfl (rivwidth_c rfl ((((((((hqA.ext e4).chgBk b4 (by decide) q5).ext e6).ext e7).chgBk b7 (by decide) q8).ext e9).ext e10).chgBk b10 (by decide) q11).nl rfl ((((((((hsA.ext e4).chgBk b4 (by decide) q5).ext e6).ext e7).chgBk b7 (by decide) q8).ext e9).ext e10).chgBk b10 (by decide) q11).nl (by first | with_reducible assumption | exact dval_dman _ _ | exact dval_zero | exact dval_dg (by assumption) (by assumption) | exact dval_dl (by assumption) (by assumption)) (by first | with_reducible assumption | exact dval_dman _ _ | exact dval_zero | exact dval_dg (by assumption) (by assumption) | exact dval_dl (by assumption) (by assumption)) (by with_reducible assumption)) (fun v12 w12 e12 h12 => ?_)
   have z12 := e12.size
   try simp only [val_dig] at h12
   obtain ⟨q12, rfl, hq12⟩ := h12
   refine O_move rfl rfl rfl ?_
   refine O_extract rfl rfl rfl rfl ?_
   refine O_extract rfl rfl rfl rfl ?_
   refine O_alloc S26 rfl rfl (fun g13 w13 b13 e13 gl13 gh13 => ?_)
   have z13 := e13.size
   refine O_storeA (cs' := [_, _, _]) S26 rfl rfl rfl b13 rfl rfl (one_cons rfl (one_cons ((hq12.ext e13).nl).one (one_cons rfl one_nil))) rfl (fun w14 b14 q14 => ?_)
   have z14 := Nat.le_of_eq q14.size.symm
   have e14 : Ext w w14 := q14.ext ((e11.trans e12).trans e13) (by omega)
   refine O_assign rfl rfl rfl ?_
   refine WL_end [(3, _), (5, _), (6, _), (7, _), (8, _), (9, _), (10, _)] ⟨rfl, rfl, rfl, rfl, rfl, rfl, rfl, trivial⟩ ?_
   refine WP_seq ?_
   refine WP_region ?_
   refine O_loadA (vs := [_, _, _, _, _, _]) S53 rfl rfl rfl (((((((((b5.ext e6).ext e7).chg q8 (by first | assumption | omega)).ext e9).ext e10).chg q11 (by first | assumption | omega)).ext e12).ext e13).chg q14 (by first | assumption | omega)) rfl rfl ?_
   refine O_call enters46 rfl rfl rfl (rivmid_c rfl (((((((((((hqA.ext e4).chgBk b4 (by decide) q5).ext e6).ext e7).chgBk b7 (by decide) q8).ext e9).ext e10).chgBk b10 (by decide) q11).ext e12).ext e13).chgBk b13 (by decide) q14).nl rfl (((((((((((hsA.ext e4).chgBk b4 (by decide) q5).ext e6).ext e7).chgBk b7 (by decide) q8).ext e9).ext e10).chgBk b10 (by decide) q11).ext e12).ext e13).chgBk b13 (by decide) q14).nl (by first | with_reducible assumption | exact dval_dman _ _ | exact dval_zero | exact dval_dg (by assumption) (by assumption) | exact dval_dl (by assumption) (by assumption)) (by first | with_reducible assumption | exact dval_dman _ _ | exact dval_zero | exact dval_dg (by assumption) (by assumption) | exact dval_dl (by assumption) (by assumption)) (by with_reducible assumption) (by with_reducible assumption)) (fun v15 w15 e15 h15 => ?_)
   have z15 := e15.size
   try simp only [val_dig] at h15
   obtain ⟨q15, rfl, hq15⟩ := h15
   refine O_move rfl rfl rfl ?_
   refine O_extract rfl rfl rfl rfl ?_
   refine O_extract rfl rfl rfl rfl ?_
   refine O_alloc S26 rfl rfl (fun g16 w16 b16 e16 gl16 gh16 => ?_)
   have z16 := e16.size
   refine O_storeA (cs' := [_, _, _]) S26 rfl rfl rfl b16 rfl rfl (one_cons rfl (one_cons ((hq15.ext e16).nl).one (one_cons rfl one_nil))) rfl (fun w17 b17 q17 => ?_)
   have z17 := Nat.le_of_eq q17.size.symm
   have e17 : Ext w w17 := q17.ext ((e14.trans e15).trans e16) (by omega)
   refine O_assign rfl rfl rfl ?_
   refine WL_end [(3, _), (5, _), (6, _), (7, _), (8, _), (9, _), (10, _), (11, _), (12, _)] ⟨rfl, rfl, rfl, rfl, rfl, rfl, rfl, rfl, rfl, trivial⟩ ?_
   refine WP_seq ?_
   refine WP_sub [(3, _), (5, _), (6, _), (7, _), (8, _), (9, _), (10, _), (11, _), (12, _)] ⟨rfl, rfl, rfl, rfl, rfl, rfl, rfl, rfl, rfl, trivial⟩ ?_
   refine WP_anyR 24 [3, 5, 6, 7, 8, 9, 10, 11, 12] mixed rfl (by kernel_rfl) ?_
   apply AnyR_val [6] rfl (by kernel_rfl)
   · --
    intro y18 hy18
    have zy18 := hy18.size
    refine AllV_nil ?_
    refine O_move rfl rfl rfl ?_
    exact WL_nil ⟨(Ext.refl _), rfl⟩
   apply AnyR_val [10] rfl (by kernel_rfl)
   · --
    intro y19 hy19
    have zy19 := hy19.size
    refine AllV_nil ?_
    refine O_move rfl rfl rfl ?_
    exact WL_nil ⟨(Ext.refl _), rfl⟩
   apply AnyR_val [42, 43] rfl (by kernel_rfl)
   · --
    intro y20 hy20
    have zy20 := hy20.size
    refine AllV_v ?_
    refine AllV_v ?_
    refine AllV_nil ?_
    refine O_eql (t := true) rfl rfl rfl rfl (decide_eq_true rfl) ?_
    exact WL_nil ⟨(Ext.refl _), rfl⟩
   apply AnyR_val [44] rfl (by kernel_rfl)
   · --
    intro y21 hy21
    have zy21 := hy21.size
    refine AllV_v ?_
    refine AllV_nil ?_
    refine O_move rfl rfl rfl ?_
    exact WL_nil ⟨(Ext.refl _), rfl⟩
   apply AnyR_val [45, 8] rfl (by kernel_rfl)
   · --
    intro y22 hy22
    have zy22 := hy22.size
    refine AllV_v ?_
    refine AllV_nil ?_
    refine O_move rfl rfl rfl ?_
    exact WL_nil ⟨(Ext.refl _), rfl⟩
   apply AnyR_val [45, 12] rfl (by kernel_rfl)
   · --
    intro y23 hy23
    have zy23 := hy23.size
    refine AllV_v ?_
    refine AllV_nil ?_
    refine O_move rfl rfl rfl ?_
    exact WL_nil ⟨(Ext.refl _), rfl⟩
   apply AnyR_val [45, 46, 47] rfl (by kernel_rfl)
   · --
    intro y24 hy24
    have zy24 := hy24.size
    refine AllV_v ?_
    refine AllV_v ?_
    refine AllV_v ?_
    refine AllV_nil ?_
    refine O_eql (t := true) rfl rfl rfl rfl (decide_eq_true rfl) ?_
    exact WL_nil ⟨(Ext.refl _), rfl⟩
   apply AnyR_val [45, 48] rfl (by kernel_rfl)
   · --
    intro y25 hy25
    have zy25 := hy25.size
    refine AllV_v ?_
    refine AllV_v ?_
    refine AllV_nil ?_
    refine O_pickT rfl rfl rfl rfl ?_
    exact WL_nil ⟨(Ext.refl _), rfl⟩
   apply AnyR_val [49] rfl (by kernel_rfl)
   · --
    intro y26 hy26
    have zy26 := hy26.size
    refine AllV_v ?_
    refine AllV_nil ?_
    refine O_move rfl rfl rfl ?_
    exact WL_nil ⟨(Ext.refl _), rfl⟩
   apply AnyR_val [50, 5] rfl (by kernel_rfl)
   · --
    intro y27 hy27
    have zy27 := hy27.size
    refine AllV_v ?_
    refine AllV_nil ?_
    refine O_loadA (vs := [_, _, _]) S26 rfl rfl rfl ((((((((((b8.ext e9).ext e10).chg q11 (by first | assumption | omega)).ext e12).ext e13).chg q14 (by first | assumption | omega)).ext e15).ext e16).chg q17 (by first | assumption | omega)).ext hy27) rfl rfl ?_
    exact WL_nil ⟨(Ext.refl _), rfl⟩
   apply AnyR_val [50, 9] rfl (by kernel_rfl)
   · --
    intro y28 hy28
    have zy28 := hy28.size
    refine AllV_v ?_
    refine AllV_nil ?_
    refine O_loadA (vs := [_, _, _]) S26 rfl rfl rfl ((((b14.ext e15).ext e16).chg q17 (by first | assumption | omega)).ext hy28) rfl rfl ?_
    exact WL_nil ⟨(Ext.refl _), rfl⟩
   apply AnyR_val [50, 51, 52] rfl (by kernel_rfl)
   · --
    intro y29 hy29
    have zy29 := hy29.size
    refine AllV_v ?_
    refine AllV_v ?_
    refine AllV_v ?_
    refine AllV_nil ?_
    refine O_call enters20 rfl rfl rfl (rdsame_c rfl ((((((((((((hq6.ext e7).chgBk b7 (by decide) q8).ext e9).ext e10).chgBk b10 (by decide) q11).ext e12).ext e13).chgBk b13 (by decide) q14).ext e15).ext e16).chgBk b16 (by decide) q17).ext hy29).nl ((((((hq12.ext e13).chgBk b13 (by decide) q14).ext e15).ext e16).chgBk b16 (by decide) q17).ext hy29).nl (by (try simp only [lens]); omega) (by (try simp only [lens]); omega) rfl rfl) (fun v30 w30 e30 h30 => ?_)
    have z30 := e30.size
    obtain rfl := h30
    exact WL_nil ⟨e30, rfl⟩
   apply AnyR_val [50, 53] rfl (by kernel_rfl)
   · --
    intro y31 hy31
    have zy31 := hy31.size
    refine AllV_v ?_
    refine AllV_v ?_
    refine AllV_nil ?_
    refine O_pickT rfl rfl rfl rfl ?_
    exact WL_nil ⟨(Ext.refl _), rfl⟩
   apply AnyR_val [54] rfl (by kernel_rfl)
   · --
    intro y32 hy32
    have zy32 := hy32.size
    refine AllV_v ?_
    refine AllV_nil ?_
    refine O_move rfl rfl rfl ?_
    exact WL_nil ⟨(Ext.refl _), rfl⟩
   apply AnyR_val [55, 7] rfl (by kernel_rfl)
   · --
    intro y33 hy33
    have zy33 := hy33.size
    refine AllV_v ?_
    refine AllV_nil ?_
    refine O_loadA (vs := [_, _, _]) S26 rfl rfl rfl (((((((b11.ext e12).ext e13).chg q14 (by first | assumption | omega)).ext e15).ext e16).chg q17 (by first | assumption | omega)).ext hy33) rfl rfl ?_
    exact WL_nil ⟨(Ext.refl _), rfl⟩
   apply AnyR_val [55, 11] rfl (by kernel_rfl)
   · --
    intro y34 hy34
    have zy34 := hy34.size
    refine AllV_v ?_
    refine AllV_nil ?_
    refine O_loadA (vs := [_, _, _]) S26 rfl rfl rfl (b17.ext hy34) rfl rfl ?_
    exact WL_nil ⟨(Ext.refl _), rfl⟩
   apply AnyR_val [55, 56, 57] rfl (by kernel_rfl)
   · --
    intro y35 hy35
    have zy35 := hy35.size
    refine AllV_v ?_
    refine AllV_v ?_
    refine AllV_v ?_
    refine AllV_nil ?_
    refine O_call enters20 rfl rfl rfl (rdsame_c rfl (((((((((hq9.ext e10).chgBk b10 (by decide) q11).ext e12).ext e13).chgBk b13 (by decide) q14).ext e15).ext e16).chgBk b16 (by decide) q17).ext hy35).nl (((hq15.ext e16).chgBk b16 (by decide) q17).ext hy35).nl (by (try simp only [lens]); omega) (by (try simp only [lens]); omega) rfl rfl) (fun v36 w36 e36 h36 => ?_)
    have z36 := e36.size
    obtain rfl := h36
    exact WL_nil ⟨e36, rfl⟩
   apply AnyR_val [55, 58] rfl (by kernel_rfl)
   · --
    intro y37 hy37
    have zy37 := hy37.size
    refine AllV_v ?_
    refine AllV_v ?_
    refine AllV_nil ?_
    refine O_pickT rfl rfl rfl rfl ?_
    exact WL_nil ⟨(Ext.refl _), rfl⟩
   apply AnyR_val [59] rfl (by kernel_rfl)
   · --
    intro y38 hy38
    have zy38 := hy38.size
    refine AllV_v ?_
    refine AllV_nil ?_
    refine O_move rfl rfl rfl ?_
    exact WL_nil ⟨(Ext.refl _), rfl⟩
   apply AnyR_val [60, 3] rfl (by kernel_rfl)
   · --
    intro y39 hy39
    have zy39 := hy39.size
    refine AllV_v ?_
    refine AllV_nil ?_
    refine O_loadA (vs := [_, _, _, _, _, _]) S53 rfl rfl rfl (((((((((((((b5.ext e6).ext e7).chg q8 (by first | assumption | omega)).ext e9).ext e10).chg q11 (by first | assumption | omega)).ext e12).ext e13).chg q14 (by first | assumption | omega)).ext e15).ext e16).chg q17 (by first | assumption | omega)).ext hy39) rfl rfl ?_
    exact WL_nil ⟨(Ext.refl _), rfl⟩
   apply AnyR_val [60, 7] rfl (by kernel_rfl)
   · --
    intro y40 hy40
    have zy40 := hy40.size
    refine AllV_v ?_
    refine AllV_nil ?_
    refine O_loadA (vs := [_, _, _]) S26 rfl rfl rfl (((((((b11.ext e12).ext e13).chg q14 (by first | assumption | omega)).ext e15).ext e16).chg q17 (by first | assumption | omega)).ext hy40) rfl rfl ?_
    exact WL_nil ⟨(Ext.refl _), rfl⟩
   apply AnyR_rel (RelP (pAgg [pEq _, pNl _, pNl _])) [60, 62] rfl (RelP.mono (pAgg_mono (PsM.cons pEq_mono (PsM.cons pNl_mono (PsM.cons pNl_mono PsM.nil))))) (by kernel_rfl)
   · --
    intro y41 hy41
    have zy41 := hy41.size
    refine AllV_v ?_
    refine AllV_v ?_
    refine AllV_nil ?_
    refine O_call enters24 rfl rfl rfl (rdrat_c rfl (((((((((hq9.ext e10).chgBk b10 (by decide) q11).ext e12).ext e13).chgBk b13 (by decide) q14).ext e15).ext e16).chgBk b16 (by decide) q17).ext hy41).nl (by (try simp only [lens]); omega) (by (try simp only [lens]); omega) (by (try simp only [lens]); omega)) (fun v42 w42 e42 h42 => ?_)
    have z42 := e42.size
    try simp only [val_dig] at h42
    obtain ⟨rq42, rs42, rfl, hrq42, hrs42⟩ := h42
    exact WL_nil ⟨e42, _, rfl, ⟨_, rfl, (AllP.cons rfl (AllP.cons hrq42 (AllP.cons hrs42 AllP.nil)))⟩⟩
   apply AnyR_val [60, 61, 63] rfl (by kernel_rfl)
   · --
    intro y43 hy43
    have zy43 := hy43.size
    refine AllV_v ?_
    refine AllV_v ?_
    refine AllV_r fun a44 b44 v44 la44 lb44 lc44 h44 ap44 => ?_
    clear ap44
    obtain ⟨_, rfl, v44_0, _, rfl, rfl, v44_1, _, rfl, h44_1, v44_2, _, rfl, h44_2, rfl⟩ := h44
    refine AllV_nil ?_
    refine O_call enters47 rfl rfl rfl (ivhasT_c rfl (((((((((((((((hqA.ext e4).chgBk b4 (by decide) q5).ext e6).ext e7).chgBk b7 (by decide) q8).ext e9).ext e10).chgBk b10 (by decide) q11).ext e12).ext e13).chgBk b13 (by decide) q14).ext e15).ext e16).chgBk b16 (by decide) q17).ext hy43).nl rfl (((((((((((((((hsA.ext e4).chgBk b4 (by decide) q5).ext e6).ext e7).chgBk b7 (by decide) q8).ext e9).ext e10).chgBk b10 (by decide) q11).ext e12).ext e13).chgBk b13 (by decide) q14).ext e15).ext e16).chgBk b16 (by decide) q17).ext hy43).nl (by first | with_reducible assumption | exact dval_dman _ _ | exact dval_zero | exact dval_dg (by assumption) (by assumption) | exact dval_dl (by assumption) (by assumption)) (by first | with_reducible assumption | exact dval_dman _ _ | exact dval_zero | exact dval_dg (by assumption) (by assumption) | exact dval_dl (by assumption) (by assumption)) rfl h44_1 h44_2 (by first | with_reducible assumption | omega) (by first | with_reducible assumption | omega) hh) (fun v45 w45 e45 h45 => ?_)
    have z45 := e45.size
    obtain rfl := h45
    exact WL_nil ⟨e45, rfl⟩
   apply AnyR_val [60, 64] rfl (by kernel_rfl)
   · --
    intro y46 hy46
    have zy46 := hy46.size
    refine AllV_v ?_
    refine AllV_v ?_
    refine AllV_nil ?_
    refine O_pickT rfl rfl rfl rfl ?_
    exact WL_nil ⟨(Ext.refl _), rfl⟩
   refine AnyR_nil fun y47 hy47 => ?_
   have zy47 := hy47.size
   refine AllV_v ?_
   refine AllV_v ?_
   refine AllV_v ?_
   refine AllV_v ?_
   refine AllV_v ?_
   refine AllV_v ?_
   refine AllV_v ?_
   refine AllV_v ?_
   refine AllV_v ?_
   refine AllV_v ?_
   refine AllV_v ?_
   refine AllV_v ?_
   refine AllV_v ?_
   refine AllV_v ?_
   refine AllV_v ?_
   refine AllV_v ?_
   refine AllV_v ?_
   refine AllV_v ?_
   refine AllV_v ?_
   refine AllV_v ?_
   refine AllV_v ?_
   refine AllV_r fun a48 b48 v48 la48 lb48 lc48 h48 ap48 => ?_
   clear ap48
   obtain ⟨_, rfl, v48_0, _, rfl, rfl, v48_1, _, rfl, h48_1, v48_2, _, rfl, h48_2, rfl⟩ := h48
   refine AllV_v ?_
   refine AllV_v ?_
   refine AllV_nil ?_
   refine O_assign rfl rfl rfl ?_
   refine WL_end [(2, _)] ⟨rfl, trivial⟩ ?_
   refine WP_ret ?_
   refine ret1 Tryd.results9 rfl ?_
   exact ⟨_, rfl, (e17.trans hy47), rfl⟩

end Go.Proofs.YthbfhljpfkicpaaDoor
