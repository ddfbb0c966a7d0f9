/-
  Walks.
-/
import Derived.Test.YtnfnadhbjdcbnaaGreatDoorE2
set_option linter.unusedVariables false
set_option linter.unusedSimpArgs false
set_option maxRecDepth 100000
namespace Go.Proofs.YtnfnadhbjdcbnaaGreatDoor
open Go Go.RowKit
set_option maxHeartbeats 4000000 in
theorem law_DyadicExact {w : World} {vx vy : Value} {lx ly : List Nat} {bx by_ : Bool} {e f : Int} (hx : Nl w vx lx) (hy : Nl w vy ly) (hT : Tab w) :
    Calls Tryz.prog 3 #[.agg #[.bool bx, vx, .int .i64 e], .agg #[.bool by_, vy, .int .i64 f]] w (Ret w fun r _ => r = .bool true) := by
 refine enter (args := [_, _]) Tryz.func3 rfl Tryz.ntmps3 rfl ?_
 refine WP_seq ?_
 refine WP_region ?_
 refine O_box _ rfl rfl rfl rfl (fun g1 w1 b1 e1 gl1 gh1 => ?_)
 have z1 := e1.size
 refine O_box _ rfl rfl rfl rfl (fun g2 w2 b2 e2 gl2 gh2 => ?_)
 have z2 := e2.size
 refine O_assign rfl rfl rfl ?_
 refine WL_end [(2, _), (3, _)] ⟨rfl, rfl, trivial⟩ ?_
 refine WP_seq ?_
 refine WP_seq ?_
 refine WP_region ?_
 refine O_call enters4 rfl rfl rfl (awake8_c (hT.ext (e1.trans e2))) (fun v3 w3 e3 h3 => ?_)
 have z3 := e3.size
 obtain rfl := h3
 refine O_not rfl rfl rfl rfl ?_
 refine WL_end [(2, _), (3, _), (17, _)] ⟨rfl, rfl, rfl, trivial⟩ ?_
 refine WP_condF rfl ?_
 refine WP_skip ?_
 refine WP_seq ?_
 refine WP_region ?_
 refine O_loadA (vs := [_, _, _]) S26 rfl rfl rfl ((b1.ext e2).ext e3) rfl rfl ?_
 refine O_loadA (vs := [_, _, _]) S26 rfl rfl rfl (b2.ext e3) rfl rfl ?_
 refine O_call enters5 rfl rfl rfl (two08_c (hx.ext ((e1.trans e2).trans e3)) (hy.ext ((e1.trans e2).trans e3))) (fun v4 w4 e4 h4 => ?_)
 have z4 := e4.size
 try simp only [val_dig] at h4
 obtain ⟨X, E, Y, F, qX, qY, bT, rfl, hqX, hqY, ⟨hvX, hE1, hE2, hlX⟩, ⟨hvY, hF1, hF2, hlY⟩⟩ := h4
 refine O_move rfl rfl rfl ?_
 refine O_extract rfl rfl rfl rfl ?_
 refine O_extract rfl rfl rfl rfl ?_
 refine O_extract rfl rfl rfl rfl ?_
 refine O_alloc S26 rfl rfl (fun g5 w5 b5 e5 gl5 gh5 => ?_)
 have z5 := e5.size
 refine O_alloc S26 rfl rfl (fun g6 w6 b6 e6 gl6 gh6 => ?_)
 have z6 := e6.size
 refine O_storeA (cs' := [_, _, _]) S26 rfl rfl rfl (b5.ext e6) rfl rfl (one_cons rfl (one_cons (((hqX.ext e5).ext e6).nl).one (one_cons rfl one_nil))) rfl (fun w7 b7 q7 => ?_)
 have z7 := Nat.le_of_eq q7.size.symm
 have e7 : Ext w w7 := q7.ext (((((e1.trans e2).trans e3).trans e4).trans e5).trans e6) (by omega)
 refine O_storeA (cs' := [_, _, _]) S26 rfl rfl rfl (b6.chg q7 (by first | assumption | omega)) rfl rfl (one_cons rfl (one_cons ((((hqY.ext e5).ext e6).chgBk (b5.ext e6) (by decide) q7).nl).one (one_cons rfl one_nil))) rfl (fun w8 b8 q8 => ?_)
 have z8 := Nat.le_of_eq q8.size.symm
 have e8 : Ext w w8 := q8.ext e7 (by omega)
 refine O_assign rfl rfl rfl ?_
 refine WL_end [(5, _), (6, _), (7, _)] ⟨rfl, rfl, rfl, trivial⟩ ?_
 refine WP_seq ?_
 refine WP_seq ?_
 refine WP_region ?_
 refine O_move rfl rfl rfl ?_
 refine O_not rfl rfl rfl rfl ?_
 refine WL_end [(5, _), (6, _), (26, _)] ⟨rfl, rfl, rfl, trivial⟩ ?_
 refine WP_cond rfl (fun c26 => ?_) (fun c26 => ?_)
 · --
  refine WP_seq ?_
  refine WP_region ?_
  refine O_assign rfl rfl rfl ?_
  refine WL_end [(4, _)] ⟨rfl, trivial⟩ ?_
  refine WP_ret ?_
  refine ret1 Tryz.results3 rfl ?_
  exact ⟨_, rfl, e8, rfl⟩
 · --
  refine WP_skip ?_
  refine WP_seq ?_
  refine WP_region ?_
  refine O_loadA (vs := [_, _, _]) S26 rfl rfl rfl (b7.chg q8 (by first | assumption | omega)) rfl rfl ?_
  refine O_loadA (vs := [_, _, _]) S26 rfl rfl rfl b8 rfl rfl ?_
  refine O_call enters6 rfl rfl rfl (dadd_c rfl ((((hqX.ext e5).ext e6).chgBk (b5.ext e6) (by decide) q7).chgBk (b6.chg q7 (by first | assumption | omega)) (by decide) q8).nl rfl ((((hqY.ext e5).ext e6).chgBk (b5.ext e6) (by decide) q7).chgBk (b6.chg q7 (by first | assumption | omega)) (by decide) q8).nl (by with_reducible assumption) (by with_reducible assumption) (hT.ext e8)) (fun v9 w9 e9 h9 => ?_)
  have z9 := e9.size
  try simp only [val_dig] at h9
  obtain ⟨q9, rfl, hq9⟩ := h9
  refine O_move rfl rfl rfl ?_
  refine O_extract rfl rfl rfl rfl ?_
  refine O_extract rfl rfl rfl rfl ?_
  refine O_alloc S26 rfl rfl (fun g10 w10 b10 e10 gl10 gh10 => ?_)
  have z10 := e10.size
  refine O_storeA (cs' := [_, _, _]) S26 rfl rfl rfl b10 rfl rfl (one_cons rfl (one_cons ((hq9.ext e10).nl).one (one_cons rfl one_nil))) rfl (fun w11 b11 q11 => ?_)
  have z11 := Nat.le_of_eq q11.size.symm
  have e11 : Ext w w11 := q11.ext ((e8.trans e9).trans e10) (by omega)
  refine O_assign rfl rfl rfl ?_
  refine WL_end [(5, _), (6, _), (8, _), (9, _)] ⟨rfl, rfl, rfl, rfl, trivial⟩ ?_
  refine WP_seq ?_
  refine WP_region ?_
  refine O_loadA (vs := [_, _, _]) S26 rfl rfl rfl ((((b7.chg q8 (by first | assumption | omega)).ext e9).ext e10).chg q11 (by first | assumption | omega)) rfl rfl ?_
  refine O_loadA (vs := [_, _, _]) S26 rfl rfl rfl (((b8.ext e9).ext e10).chg q11 (by first | assumption | omega)) rfl rfl ?_
  refine O_call enters7 rfl rfl rfl (dsub_c rfl (((((((hqX.ext e5).ext e6).chgBk (b5.ext e6) (by decide) q7).chgBk (b6.chg q7 (by first | assumption | omega)) (by decide) q8).ext e9).ext e10).chgBk b10 (by decide) q11).nl rfl (((((((hqY.ext e5).ext e6).chgBk (b5.ext e6) (by decide) q7).chgBk (b6.chg q7 (by first | assumption | omega)) (by decide) q8).ext e9).ext e10).chgBk b10 (by decide) q11).nl (by first | with_reducible assumption | exact dval_dman _ _ | exact dval_zero | exact dval_dg (by assumption) (by assumption) | exact dval_dl (by assumption) (by assumption)) (by first | with_reducible assumption | exact dval_dman _ _ | exact dval_zero | exact dval_dg (by assumption) (by assumption) | exact dval_dl (by assumption) (by assumption)) (hT.ext e11)) (fun v12 w12 e12 h12 => ?_)
  have z12 := e12.size
  try simp only [val_dig] at h12
  obtain ⟨q12, rfl, hq12⟩ := h12
  refine O_move rfl rfl rfl ?_
  refine O_extract rfl rfl rfl rfl ?_
  refine O_extract rfl rfl rfl rfl ?_
  refine O_alloc S26 rfl rfl (fun g13 w13 b13 e13 gl13 gh13 => ?_)
  have z13 := e13.size
  refine O_storeA (cs' := [_, _, _]) S26 rfl rfl rfl b13 rfl rfl (one_cons rfl (one_cons ((hq12.ext e13).nl).one (one_cons rfl one_nil))) rfl (fun w14 b14 q14 => ?_)
  have z14 := Nat.le_of_eq q14.size.symm
  have e14 : Ext w w14 := q14.ext ((e11.trans e12).trans e13) (by omega)
  refine O_assign rfl rfl rfl ?_
  refine WL_end [(5, _), (6, _), (8, _), (9, _), (10, _), (11, _)] ⟨rfl, rfl, rfl, rfl, rfl, rfl, trivial⟩ ?_
  refine WP_seq ?_
  refine WP_region ?_
  refine O_loadA (vs := [_, _, _]) S26 rfl rfl rfl (((((((b7.chg q8 (by first | assumption | omega)).ext e9).ext e10).chg q11 (by first | assumption | omega)).ext e12).ext e13).chg q14 (by first | assumption | omega)) rfl rfl ?_
  refine O_loadA (vs := [_, _, _]) S26 rfl rfl rfl ((((((b8.ext e9).ext e10).chg q11 (by first | assumption | omega)).ext e12).ext e13).chg q14 (by first | assumption | omega)) rfl rfl ?_
  refine O_call enters8 rfl rfl rfl (dmul_c rfl ((((((((((hqX.ext e5).ext e6).chgBk (b5.ext e6) (by decide) q7).chgBk (b6.chg q7 (by first | assumption | omega)) (by decide) q8).ext e9).ext e10).chgBk b10 (by decide) q11).ext e12).ext e13).chgBk b13 (by decide) q14).nl rfl ((((((((((hqY.ext e5).ext e6).chgBk (b5.ext e6) (by decide) q7).chgBk (b6.chg q7 (by first | assumption | omega)) (by decide) q8).ext e9).ext e10).chgBk b10 (by decide) q11).ext e12).ext e13).chgBk b13 (by decide) q14).nl (by with_reducible assumption) (by with_reducible assumption) (hT.ext e14)) (fun v15 w15 e15 h15 => ?_)
  have z15 := e15.size
  try simp only [val_dig] at h15
  obtain ⟨q15, rfl, hq15⟩ := h15
  refine O_move rfl rfl rfl ?_
  refine O_extract rfl rfl rfl rfl ?_
  refine O_extract rfl rfl rfl rfl ?_
  refine O_alloc S26 rfl rfl (fun g16 w16 b16 e16 gl16 gh16 => ?_)
  have z16 := e16.size
  refine O_storeA (cs' := [_, _, _]) S26 rfl rfl rfl b16 rfl rfl (one_cons rfl (one_cons ((hq15.ext e16).nl).one (one_cons rfl one_nil))) rfl (fun w17 b17 q17 => ?_)
  have z17 := Nat.le_of_eq q17.size.symm
  have e17 : Ext w w17 := q17.ext ((e14.trans e15).trans e16) (by omega)
  refine O_assign rfl rfl rfl ?_
  refine WL_end [(5, _), (6, _), (8, _), (9, _), (10, _), (11, _), (12, _), (13, _)] ⟨rfl, rfl, rfl, rfl, rfl, rfl, rfl, rfl, trivial⟩ ?_
  refine WP_seq ?_
  refine WP_seq ?_
  have hn9 := neg_len hlX
  have hr1 := rnum_len (e := E) hlX (by omega)
  have hr2 := rden_len (e := E) (by omega)
  have hr3 := rnum_len (e := F) hlY (by omega)
  have hr4 := rden_len (e := F) (by omega)
  have hd1 := rden_pos E
  have hd2 := rden_pos F
  have a1 := shl_len' (k := (E - min E F).toNat) hlX
  have a2 := shl_len' (k := (F - min E F).toNat) hlY
  have a3 := shl_len' (k := (F - min E F).toNat) (neg_len hlY)
  have b1 : (dig (dsum X E Y F).natAbs).length ≤ 60 := Nat.le_trans (add_len a1 a2) (by omega)
  have b2 : (dig (dsum X E (-Y) F).natAbs).length ≤ 60 := Nat.le_trans (add_len a1 a3) (by omega)
  have b3 : (dig (X * Y).natAbs).length ≤ 60 := Nat.le_trans (mul_len hlX hlY) (by omega)
  obtain ⟨c1, v1_, l1_, u1_, n1_⟩ := dcode_small (e := (min E F)) (m := 1400) b1 (by omega) (by omega) (by decide)
  have z1_ : dcode3 (dsum X E Y F) (min E F) = 0 := if_pos c1
  have w1_ := sv_made (K := 70000) c1 (by omega)
  have g1_ := rat_gcd v1_
  obtain ⟨c2, v2_, l2_, u2_, n2_⟩ := dcode_small (e := (min E F)) (m := 1400) b2 (by omega) (by omega) (by decide)
  have z2_ : dcode3 (dsum X E (-Y) F) (min E F) = 0 := if_pos c2
  have w2_ := sv_made (K := 70000) c2 (by omega)
  have g2_ := rat_gcd v2_
  obtain ⟨c3, v3_, l3_, u3_, n3_⟩ := dcode_small (e := (E + F)) (m := 1400) b3 (by omega) (by omega) (by decide)
  have z3_ : dcode3 (X * Y) (E + F) = 0 := if_pos c3
  have w3_ := sv_made (K := 70000) c3 (by omega)
  have g3_ := rat_gcd v3_
  have t1_ := rat_add (x := X) (e := E) (y := Y) (f := F) (by omega) (by omega) (by omega) (w1_.trans (sv_add (by omega) (by omega)))
  have t2_ := rat_add (x := X) (e := E) (y := -Y) (f := F) (by omega) (by omega) (by omega) (w2_.trans (sv_add (by omega) (by omega)))
  have t3_ := rat_mul (x := X) (e := E) (y := Y) (f := F) (by omega) (by omega) (by omega) w3_
  rw [rnum_neg] at t2_
  generalize dman (dsum X E Y F) (min E F) = S1 at *
  generalize dexp (dsum X E Y F) (min E F) = G1 at *
  have p1_ := rnum_len (e := G1) n1_ (by omega)
  have o1_ := rden_len (e := G1) (by omega)
  generalize dman (dsum X E (-Y) F) (min E F) = S2 at *
  generalize dexp (dsum X E (-Y) F) (min E F) = G2 at *
  have p2_ := rnum_len (e := G2) n2_ (by omega)
  have o2_ := rden_len (e := G2) (by omega)
  generalize dman (X * Y) (E + F) = S3 at *
  generalize dexp (X * Y) (E + F) = G3 at *
  have p3_ := rnum_len (e := G3) n3_ (by omega)
  have o3_ := rden_len (e := G3) (by omega)
  · --
   skip
   refine WP_region ?_
   refine O_move rfl rfl rfl ?_
   refine O_neq (t := false) rfl rfl rfl rfl (decide_eq_false (fun h => h z1_)) ?_
   refine O_move rfl rfl rfl ?_
   refine O_move rfl rfl rfl ?_
   refine O_neq (t := false) rfl rfl rfl rfl (decide_eq_false (fun h => h z2_)) ?_
   refine O_pickF rfl rfl rfl rfl ?_
   refine O_move rfl rfl rfl ?_
   refine O_move rfl rfl rfl ?_
   refine O_neq (t := false) rfl rfl rfl rfl (decide_eq_false (fun h => h z3_)) ?_
   refine O_pickF rfl rfl rfl rfl ?_
   refine O_move rfl rfl rfl ?_
   refine O_loadA (vs := [_, _, _]) S26 rfl rfl rfl ((((((b11.ext e12).ext e13).chg q14 (by first | assumption | omega)).ext e15).ext e16).chg q17 (by first | assumption | omega)) rfl rfl ?_
   refine O_call enters9 rfl rfl rfl (dvalT_c rfl ((((((((hq9.ext e10).chgBk b10 (by decide) q11).ext e12).ext e13).chgBk b13 (by decide) q14).ext e15).ext e16).chgBk b16 (by decide) q17).nl (by (try simp only [lens]); omega) v1_) (fun v18 w18 e18 h18 => ?_)
   have z18 := e18.size
   obtain rfl := h18
   refine O_not rfl rfl rfl rfl ?_
   refine O_pickF rfl rfl rfl rfl ?_
   refine O_move rfl rfl rfl ?_
   refine O_loadA (vs := [_, _, _]) S26 rfl rfl rfl ((((b14.ext e15).ext e16).chg q17 (by first | assumption | omega)).ext e18) rfl rfl ?_
   refine O_call enters9 rfl rfl rfl (dvalT_c rfl ((((((hq12.ext e13).chgBk b13 (by decide) q14).ext e15).ext e16).chgBk b16 (by decide) q17).ext e18).nl (by (try simp only [lens]); omega) v2_) (fun v19 w19 e19 h19 => ?_)
   have z19 := e19.size
   obtain rfl := h19
   refine O_not rfl rfl rfl rfl ?_
   refine O_pickF rfl rfl rfl rfl ?_
   refine O_move rfl rfl rfl ?_
   refine O_loadA (vs := [_, _, _]) S26 rfl rfl rfl ((b17.ext e18).ext e19) rfl rfl ?_
   refine O_call enters9 rfl rfl rfl (dvalT_c rfl ((((hq15.ext e16).chgBk b16 (by decide) q17).ext e18).ext e19).nl (by (try simp only [lens]); omega) v3_) (fun v20 w20 e20 h20 => ?_)
   have z20 := e20.size
   obtain rfl := h20
   refine O_not rfl rfl rfl rfl ?_
   refine O_pickF rfl rfl rfl rfl ?_
   refine WL_end [(5, _), (6, _), (8, _), (10, _), (12, _), (69, _)] ⟨rfl, rfl, rfl, rfl, rfl, rfl, trivial⟩ ?_
   refine WP_condF rfl ?_
   refine WP_skip ?_
   refine WP_seq ?_
   refine WP_sub [(5, _), (6, _), (8, _), (10, _), (12, _)] ⟨rfl, rfl, rfl, rfl, rfl, trivial⟩ ?_
   refine WP_anyR 6 [5, 6, 8, 10, 12] mixed rfl (by kernel_rfl) ?_
   apply AnyR_val [5] rfl (by kernel_rfl)
   · --
    intro y21 hy21
    have zy21 := hy21.size
    refine AllV_nil ?_
    refine O_loadA (vs := [_, _, _]) S26 rfl rfl rfl ((((((((((((((b7.chg q8 (by first | assumption | omega)).ext e9).ext e10).chg q11 (by first | assumption | omega)).ext e12).ext e13).chg q14 (by first | assumption | omega)).ext e15).ext e16).chg q17 (by first | assumption | omega)).ext e18).ext e19).ext e20).ext hy21) rfl rfl ?_
    exact WL_nil ⟨(Ext.refl _), rfl⟩
   apply AnyR_rel (RelP (pAgg [pEq _, pNo 0 83 _, pNo 0 83 _])) [70] rfl (RelP.mono (pAgg_mono (PsM.cons pEq_mono (PsM.cons pNo_mono (PsM.cons pNo_mono PsM.nil))))) (by kernel_rfl)
   · --
    intro y22 hy22
    have zy22 := hy22.size
    refine AllV_v ?_
    refine AllV_nil ?_
    refine O_call enters10 rfl rfl rfl (rdratO_c rfl ((((((((((((((((((hqX.ext e5).ext e6).chgBk (b5.ext e6) (by decide) q7).chgBk (b6.chg q7 (by first | assumption | omega)) (by decide) q8).ext e9).ext e10).chgBk b10 (by decide) q11).ext e12).ext e13).chgBk b13 (by decide) q14).ext e15).ext e16).chgBk b16 (by decide) q17).ext e18).ext e19).ext e20).ext hy22).mono (Nat.zero_le _)) (by first | with_reducible assumption | omega) (by (try simp only [lens]); omega) (by (try simp only [lens]); omega)) (fun v23 w23 e23 h23 => ?_)
    have z23 := e23.size
    try simp only [val_dig] at h23
    obtain ⟨rq23, rs23, rfl, hrq23, hrs23⟩ := h23
    exact WL_nil ⟨e23, _, rfl, ⟨_, rfl, (AllP.cons rfl (AllP.cons (hrq23.mono (Nat.zero_le _)) (AllP.cons (hrs23.mono (Nat.zero_le _)) AllP.nil)))⟩⟩
   apply AnyR_val [6] rfl (by kernel_rfl)
   · --
    intro y24 hy24
    have zy24 := hy24.size
    refine AllV_nil ?_
    refine O_loadA (vs := [_, _, _]) S26 rfl rfl rfl (((((((((((((b8.ext e9).ext e10).chg q11 (by first | assumption | omega)).ext e12).ext e13).chg q14 (by first | assumption | omega)).ext e15).ext e16).chg q17 (by first | assumption | omega)).ext e18).ext e19).ext e20).ext hy24) rfl rfl ?_
    exact WL_nil ⟨(Ext.refl _), rfl⟩
   apply AnyR_rel (RelP (pAgg [pEq _, pNo 0 83 _, pNo 0 83 _])) [72] rfl (RelP.mono (pAgg_mono (PsM.cons pEq_mono (PsM.cons pNo_mono (PsM.cons pNo_mono PsM.nil))))) (by kernel_rfl)
   · --
    intro y25 hy25
    have zy25 := hy25.size
    refine AllV_v ?_
    refine AllV_nil ?_
    refine O_call enters10 rfl rfl rfl (rdratO_c rfl ((((((((((((((((((hqY.ext e5).ext e6).chgBk (b5.ext e6) (by decide) q7).chgBk (b6.chg q7 (by first | assumption | omega)) (by decide) q8).ext e9).ext e10).chgBk b10 (by decide) q11).ext e12).ext e13).chgBk b13 (by decide) q14).ext e15).ext e16).chgBk b16 (by decide) q17).ext e18).ext e19).ext e20).ext hy25).mono (Nat.zero_le _)) (by first | with_reducible assumption | omega) (by (try simp only [lens]); omega) (by (try simp only [lens]); omega)) (fun v26 w26 e26 h26 => ?_)
    have z26 := e26.size
    try simp only [val_dig] at h26
    obtain ⟨rq26, rs26, rfl, hrq26, hrs26⟩ := h26
    exact WL_nil ⟨e26, _, rfl, ⟨_, rfl, (AllP.cons rfl (AllP.cons (hrq26.mono (Nat.zero_le _)) (AllP.cons (hrs26.mono (Nat.zero_le _)) AllP.nil)))⟩⟩
   apply AnyR_rel (BkR _ _) [] rfl BkR.mono (by kernel_rfl)
   · --
    intro y27 hy27
    have zy27 := hy27.size
    refine AllV_nil ?_
    refine O_alloc S35 rfl rfl (fun g28 w28 b28 e28 gl28 gh28 => ?_)
    have z28 := e28.size
    exact WL_nil ⟨e28, _, rfl, _, rfl, gl28, gh28, b28⟩
   apply AnyR_rel (BkR _ _) [] rfl BkR.mono (by kernel_rfl)
   · --
    intro y29 hy29
    have zy29 := hy29.size
    refine AllV_nil ?_
    refine O_alloc S35 rfl rfl (fun g30 w30 b30 e30 gl30 gh30 => ?_)
    have z30 := e30.size
    exact WL_nil ⟨e30, _, rfl, _, rfl, gl30, gh30, b30⟩
   refine AnyR_nil fun y31 hy31 => ?_
   have zy31 := hy31.size
   refine AllV_v ?_
   refine AllV_r fun a32 b32 v32 la32 lb32 lc32 h32 ap32 => ?_
   clear ap32
   obtain ⟨_, rfl, v32_0, _, rfl, rfl, v32_1, _, rfl, h32_1, v32_2, _, rfl, h32_2, rfl⟩ := h32
   refine AllV_v ?_
   refine AllV_r fun a33 b33 v33 la33 lb33 lc33 h33 ap33 => ?_
   clear ap33
   obtain ⟨_, rfl, v33_0, _, rfl, rfl, v33_1, _, rfl, h33_1, v33_2, _, rfl, h33_2, rfl⟩ := h33
   refine AllV_r fun a34 b34 v34 la34 lb34 lc34 h34 ap34 => ?_
   clear ap34
   obtain ⟨g34, rfl, gl34, gh34, b34⟩ := h34
   refine AllV_r fun a35 b35 v35 la35 lb35 lc35 h35 ap35 => ?_
   obtain ⟨p35_34, -, -, -⟩ := ap35
   obtain ⟨g35, rfl, gl35, gh35, b35⟩ := h35
   have ne35_34 := ap_ne p35_34 gl35 gh35 gl34 gh34
   have ne34_35 := ne35_34.symm
   clear p35_34
   refine AllV_nil ?_
   refine O_storeA (cs' := [_, _, _]) S35 rfl rfl rfl b34 rfl rfl (one_cons rfl (one_cons (h32_1.nl).one (one_cons (h32_2.nl).one one_nil))) rfl (fun w36 b36 q36 => ?_)
   have z36 := Nat.le_of_eq q36.size.symm
   have e36 : Ext w w36 := q36.ext ((((e17.trans e18).trans e19).trans e20).trans hy31) (by omega)
   refine O_storeA (cs' := [_, _, _]) S35 rfl rfl rfl (b35.chg q36 (by first | assumption | omega)) rfl rfl (one_cons rfl (one_cons ((h33_1.chgBk b34 (by decide) q36).nl).one (one_cons ((h33_2.chgBk b34 (by decide) q36).nl).one one_nil))) rfl (fun w37 b37 q37 => ?_)
   have z37 := Nat.le_of_eq q37.size.symm
   have e37 : Ext w w37 := q37.ext e36 (by omega)
   refine WL_end [(5, _), (8, _), (10, _), (12, _), (14, _), (15, _)] ⟨rfl, rfl, rfl, rfl, rfl, rfl, trivial⟩ ?_
   refine WP_seq ?_
   refine WP_sub [(5, _), (8, _), (10, _), (12, _), (14, _), (15, _)] ⟨rfl, rfl, rfl, rfl, rfl, rfl, trivial⟩ ?_
   refine WP_anyR 29 [5, 8, 10, 12, 14, 15] mixed rfl (by kernel_rfl) ?_
   apply AnyR_val [8] rfl (by kernel_rfl)
   · --
    intro y38 hy38
    have zy38 := hy38.size
    refine AllV_nil ?_
    refine O_loadA (vs := [_, _, _]) S26 rfl rfl rfl (((((((((((((b11.ext e12).ext e13).chg q14 (by first | assumption | omega)).ext e15).ext e16).chg q17 (by first | assumption | omega)).ext e18).ext e19).ext e20).ext hy31).chg q36 (by first | assumption | omega)).chg q37 (by first | assumption | omega)).ext hy38) rfl rfl ?_
    exact WL_nil ⟨(Ext.refl _), rfl⟩
   apply AnyR_rel (RelP (pAgg [pEq _, pNl _, pNl _])) [74] rfl (RelP.mono (pAgg_mono (PsM.cons pEq_mono (PsM.cons pNl_mono (PsM.cons pNl_mono PsM.nil))))) (by kernel_rfl)
   · --
    intro y39 hy39
    have zy39 := hy39.size
    refine AllV_v ?_
    refine AllV_nil ?_
    refine O_call enters12 rfl rfl rfl (drat_c rfl (((((((((((((((hq9.ext e10).chgBk b10 (by decide) q11).ext e12).ext e13).chgBk b13 (by decide) q14).ext e15).ext e16).chgBk b16 (by decide) q17).ext e18).ext e19).ext e20).ext hy31).chgBk b34 (by decide) q36).chgBk (b35.chg q36 (by first | assumption | omega)) (by decide) q37).ext hy39).nl (by (try simp only [lens]); omega) (by (try simp only [lens]); omega) (by (try simp only [lens]); omega)) (fun v40 w40 e40 h40 => ?_)
    have z40 := e40.size
    try simp only [val_dig] at h40
    obtain ⟨rq40, rs40, rfl, hrq40, hrs40⟩ := h40
    exact WL_nil ⟨e40, _, rfl, ⟨_, rfl, (AllP.cons rfl (AllP.cons hrq40 (AllP.cons hrs40 AllP.nil)))⟩⟩
   apply AnyR_val [14] rfl (by kernel_rfl)
   · --
    intro y41 hy41
    have zy41 := hy41.size
    refine AllV_nil ?_
    refine O_loadA (vs := [_, _, _]) S35 rfl rfl rfl ((b36.chg q37 (by first | assumption | omega)).ext hy41) rfl rfl ?_
    exact WL_nil ⟨(Ext.refl _), rfl⟩
   apply AnyR_val [15] rfl (by kernel_rfl)
   · --
    intro y42 hy42
    have zy42 := hy42.size
    refine AllV_nil ?_
    refine O_loadA (vs := [_, _, _]) S35 rfl rfl rfl (b37.ext hy42) rfl rfl ?_
    exact WL_nil ⟨(Ext.refl _), rfl⟩
   apply AnyR_rel (RelP (pAgg [pEq _, pNo w37.heap.size 83 _, pNo w37.heap.size 83 _])) [76, 77] rfl (RelP.mono (pAgg_mono (PsM.cons pEq_mono (PsM.cons pNo_mono (PsM.cons pNo_mono PsM.nil))))) (by kernel_rfl)
   · --
    intro y43 hy43
    have zy43 := hy43.size
    refine AllV_v ?_
    refine AllV_v ?_
    refine AllV_nil ?_
    refine O_call enters13 rfl rfl rfl (radd07_c (M := rnum S1 G1) (D := rden G1) rfl (((h32_1.chgBk b34 (by decide) q36).chgBk (b35.chg q36 (by first | assumption | omega)) (by decide) q37).ext hy43).nl (((h32_2.chgBk b34 (by decide) q36).chgBk (b35.chg q36 (by first | assumption | omega)) (by decide) q37).ext hy43).nl (by first | with_reducible assumption | omega) (by first | with_reducible assumption | omega) rfl (((h33_1.chgBk b34 (by decide) q36).chgBk (b35.chg q36 (by first | assumption | omega)) (by decide) q37).ext hy43).nl (((h33_2.chgBk b34 (by decide) q36).chgBk (b35.chg q36 (by first | assumption | omega)) (by decide) q37).ext hy43).nl (by first | with_reducible assumption | omega) (by first | with_reducible assumption | omega) hd1 hd2 (rden_pos _) g1_ t1_) (fun v44 w44 e44 h44 => ?_)
    have z44 := e44.size
    try simp only [val_dig] at h44
    obtain ⟨q44, s44, rfl, hq44, hs44⟩ := h44
    exact WL_nil ⟨e44, _, rfl, ⟨_, rfl, (AllP.cons rfl (AllP.cons (hq44.mono (by omega)) (AllP.cons (hs44.mono (by omega)) AllP.nil)))⟩⟩
   apply AnyR_val [75, 78] rfl (by kernel_rfl)
   · --
    intro y45 hy45
    have zy45 := hy45.size
    refine AllV_r fun a46 b46 v46 la46 lb46 lc46 h46 ap46 => ?_
    clear ap46
    obtain ⟨_, rfl, v46_0, _, rfl, rfl, v46_1, _, rfl, h46_1, v46_2, _, rfl, h46_2, rfl⟩ := h46
    refine AllV_r fun a47 b47 v47 la47 lb47 lc47 h47 ap47 => ?_
    clear ap47
    obtain ⟨_, rfl, v47_0, _, rfl, rfl, v47_1, _, rfl, h47_1, v47_2, _, rfl, h47_2, rfl⟩ := h47
    refine AllV_nil ?_
    refine O_call enters11 rfl rfl rfl (rsameR_c rfl h46_1 h46_2 h47_1.nl h47_2.nl (by first | with_reducible assumption | omega) (by first | with_reducible assumption | omega)) (fun v48 w48 e48 h48 => ?_)
    have z48 := e48.size
    obtain rfl := h48
    exact WL_nil ⟨e48, rfl⟩
   apply AnyR_val [79] rfl (by kernel_rfl)
   · --
    intro y49 hy49
    have zy49 := hy49.size
    refine AllV_v ?_
    refine AllV_nil ?_
    refine O_move rfl rfl rfl ?_
    exact WL_nil ⟨(Ext.refl _), rfl⟩
   apply AnyR_val [80, 10] rfl (by kernel_rfl)
   · --
    intro y50 hy50
    have zy50 := hy50.size
    refine AllV_v ?_
    refine AllV_nil ?_
    refine O_loadA (vs := [_, _, _]) S26 rfl rfl rfl ((((((((((b14.ext e15).ext e16).chg q17 (by first | assumption | omega)).ext e18).ext e19).ext e20).ext hy31).chg q36 (by first | assumption | omega)).chg q37 (by first | assumption | omega)).ext hy50) rfl rfl ?_
    exact WL_nil ⟨(Ext.refl _), rfl⟩
   apply AnyR_rel (RelP (pAgg [pEq _, pNl _, pNl _])) [80, 81] rfl (RelP.mono (pAgg_mono (PsM.cons pEq_mono (PsM.cons pNl_mono (PsM.cons pNl_mono PsM.nil))))) (by kernel_rfl)
   · --
    intro y51 hy51
    have zy51 := hy51.size
    refine AllV_v ?_
    refine AllV_v ?_
    refine AllV_nil ?_
    refine O_call enters12 rfl rfl rfl (drat_c rfl ((((((((((((hq12.ext e13).chgBk b13 (by decide) q14).ext e15).ext e16).chgBk b16 (by decide) q17).ext e18).ext e19).ext e20).ext hy31).chgBk b34 (by decide) q36).chgBk (b35.chg q36 (by first | assumption | omega)) (by decide) q37).ext hy51).nl (by (try simp only [lens]); omega) (by (try simp only [lens]); omega) (by (try simp only [lens]); omega)) (fun v52 w52 e52 h52 => ?_)
    have z52 := e52.size
    try simp only [val_dig] at h52
    obtain ⟨rq52, rs52, rfl, hrq52, hrs52⟩ := h52
    exact WL_nil ⟨e52, _, rfl, ⟨_, rfl, (AllP.cons rfl (AllP.cons hrq52 (AllP.cons hrs52 AllP.nil)))⟩⟩
   apply AnyR_val [80, 14] rfl (by kernel_rfl)
   · --
    intro y53 hy53
    have zy53 := hy53.size
    refine AllV_v ?_
    refine AllV_nil ?_
    refine O_loadA (vs := [_, _, _]) S35 rfl rfl rfl ((b36.chg q37 (by first | assumption | omega)).ext hy53) rfl rfl ?_
    exact WL_nil ⟨(Ext.refl _), rfl⟩
   apply AnyR_val [80, 15] rfl (by kernel_rfl)
   · --
    intro y54 hy54
    have zy54 := hy54.size
    refine AllV_v ?_
    refine AllV_nil ?_
    refine O_loadA (vs := [_, _, _]) S35 rfl rfl rfl (b37.ext hy54) rfl rfl ?_
    exact WL_nil ⟨(Ext.refl _), rfl⟩
   apply AnyR_rel (RelP (pAgg [pEq _, pNo w37.heap.size 83 _, pNo w37.heap.size 83 _])) [80, 83, 84] rfl (RelP.mono (pAgg_mono (PsM.cons pEq_mono (PsM.cons pNo_mono (PsM.cons pNo_mono PsM.nil))))) (by kernel_rfl)
   · --
    intro y55 hy55
    have zy55 := hy55.size
    refine AllV_v ?_
    refine AllV_v ?_
    refine AllV_v ?_
    refine AllV_nil ?_
    refine O_call enters14 rfl rfl rfl (rsub07_c (M := rnum S2 G2) (D := rden G2) rfl (((h32_1.chgBk b34 (by decide) q36).chgBk (b35.chg q36 (by first | assumption | omega)) (by decide) q37).ext hy55).nl (((h32_2.chgBk b34 (by decide) q36).chgBk (b35.chg q36 (by first | assumption | omega)) (by decide) q37).ext hy55).nl (by first | with_reducible assumption | omega) (by first | with_reducible assumption | omega) rfl (((h33_1.chgBk b34 (by decide) q36).chgBk (b35.chg q36 (by first | assumption | omega)) (by decide) q37).ext hy55).nl (((h33_2.chgBk b34 (by decide) q36).chgBk (b35.chg q36 (by first | assumption | omega)) (by decide) q37).ext hy55).nl (by first | with_reducible assumption | omega) (by first | with_reducible assumption | omega) hd1 hd2 (rden_pos _) g2_ t2_) (fun v56 w56 e56 h56 => ?_)
    have z56 := e56.size
    try simp only [val_dig] at h56
    obtain ⟨q56, s56, rfl, hq56, hs56⟩ := h56
    exact WL_nil ⟨e56, _, rfl, ⟨_, rfl, (AllP.cons rfl (AllP.cons (hq56.mono (by omega)) (AllP.cons (hs56.mono (by omega)) AllP.nil)))⟩⟩
   apply AnyR_val [80, 82, 85] rfl (by kernel_rfl)
   · --
    intro y57 hy57
    have zy57 := hy57.size
    refine AllV_v ?_
    refine AllV_r fun a58 b58 v58 la58 lb58 lc58 h58 ap58 => ?_
    clear ap58
    obtain ⟨_, rfl, v58_0, _, rfl, rfl, v58_1, _, rfl, h58_1, v58_2, _, rfl, h58_2, rfl⟩ := h58
    refine AllV_r fun a59 b59 v59 la59 lb59 lc59 h59 ap59 => ?_
    clear ap59
    obtain ⟨_, rfl, v59_0, _, rfl, rfl, v59_1, _, rfl, h59_1, v59_2, _, rfl, h59_2, rfl⟩ := h59
    refine AllV_nil ?_
    refine O_call enters11 rfl rfl rfl (rsameR_c rfl h58_1 h58_2 h59_1.nl h59_2.nl (by first | with_reducible assumption | omega) (by first | with_reducible assumption | omega)) (fun v60 w60 e60 h60 => ?_)
    have z60 := e60.size
    obtain rfl := h60
    exact WL_nil ⟨e60, rfl⟩
   apply AnyR_val [80, 86] rfl (by kernel_rfl)
   · --
    intro y61 hy61
    have zy61 := hy61.size
    refine AllV_v ?_
    refine AllV_v ?_
    refine AllV_nil ?_
    refine O_pickT rfl rfl rfl rfl ?_
    exact WL_nil ⟨(Ext.refl _), rfl⟩
   apply AnyR_val [87] rfl (by kernel_rfl)
   · --
    intro y62 hy62
    have zy62 := hy62.size
    refine AllV_v ?_
    refine AllV_nil ?_
    refine O_move rfl rfl rfl ?_
    exact WL_nil ⟨(Ext.refl _), rfl⟩
   apply AnyR_val [88, 12] rfl (by kernel_rfl)
   · --
    intro y63 hy63
    have zy63 := hy63.size
    refine AllV_v ?_
    refine AllV_nil ?_
    refine O_loadA (vs := [_, _, _]) S26 rfl rfl rfl (((((((b17.ext e18).ext e19).ext e20).ext hy31).chg q36 (by first | assumption | omega)).chg q37 (by first | assumption | omega)).ext hy63) rfl rfl ?_
    exact WL_nil ⟨(Ext.refl _), rfl⟩
   apply AnyR_rel (RelP (pAgg [pEq _, pNl _, pNl _])) [88, 89] rfl (RelP.mono (pAgg_mono (PsM.cons pEq_mono (PsM.cons pNl_mono (PsM.cons pNl_mono PsM.nil))))) (by kernel_rfl)
   · --
    intro y64 hy64
    have zy64 := hy64.size
    refine AllV_v ?_
    refine AllV_v ?_
    refine AllV_nil ?_
    refine O_call enters12 rfl rfl rfl (drat_c rfl (((((((((hq15.ext e16).chgBk b16 (by decide) q17).ext e18).ext e19).ext e20).ext hy31).chgBk b34 (by decide) q36).chgBk (b35.chg q36 (by first | assumption | omega)) (by decide) q37).ext hy64).nl (by (try simp only [lens]); omega) (by (try simp only [lens]); omega) (by (try simp only [lens]); omega)) (fun v65 w65 e65 h65 => ?_)
    have z65 := e65.size
    try simp only [val_dig] at h65
    obtain ⟨rq65, rs65, rfl, hrq65, hrs65⟩ := h65
    exact WL_nil ⟨e65, _, rfl, ⟨_, rfl, (AllP.cons rfl (AllP.cons hrq65 (AllP.cons hrs65 AllP.nil)))⟩⟩
   apply AnyR_val [88, 14] rfl (by kernel_rfl)
   · --
    intro y66 hy66
    have zy66 := hy66.size
    refine AllV_v ?_
    refine AllV_nil ?_
    refine O_loadA (vs := [_, _, _]) S35 rfl rfl rfl ((b36.chg q37 (by first | assumption | omega)).ext hy66) rfl rfl ?_
    exact WL_nil ⟨(Ext.refl _), rfl⟩
   apply AnyR_val [88, 15] rfl (by kernel_rfl)
   · --
    intro y67 hy67
    have zy67 := hy67.size
    refine AllV_v ?_
    refine AllV_nil ?_
    refine O_loadA (vs := [_, _, _]) S35 rfl rfl rfl (b37.ext hy67) rfl rfl ?_
    exact WL_nil ⟨(Ext.refl _), rfl⟩
   apply AnyR_rel (RelP (pAgg [pEq _, pNo w37.heap.size 83 _, pNo w37.heap.size 83 _])) [88, 91, 92] rfl (RelP.mono (pAgg_mono (PsM.cons pEq_mono (PsM.cons pNo_mono (PsM.cons pNo_mono PsM.nil))))) (by kernel_rfl)
   · --
    intro y68 hy68
    have zy68 := hy68.size
    refine AllV_v ?_
    refine AllV_v ?_
    refine AllV_v ?_
    refine AllV_nil ?_
    refine O_call enters15 rfl rfl rfl (rmul07_c (M := rnum S3 G3) (D := rden G3) rfl (((h32_1.chgBk b34 (by decide) q36).chgBk (b35.chg q36 (by first | assumption | omega)) (by decide) q37).ext hy68).nl (((h32_2.chgBk b34 (by decide) q36).chgBk (b35.chg q36 (by first | assumption | omega)) (by decide) q37).ext hy68).nl (by first | with_reducible assumption | omega) (by first | with_reducible assumption | omega) rfl (((h33_1.chgBk b34 (by decide) q36).chgBk (b35.chg q36 (by first | assumption | omega)) (by decide) q37).ext hy68).nl (((h33_2.chgBk b34 (by decide) q36).chgBk (b35.chg q36 (by first | assumption | omega)) (by decide) q37).ext hy68).nl (by first | with_reducible assumption | omega) (by first | with_reducible assumption | omega) hd1 hd2 (rden_pos _) g3_ t3_) (fun v69 w69 e69 h69 => ?_)
    have z69 := e69.size
    try simp only [val_dig] at h69
    obtain ⟨q69, s69, rfl, hq69, hs69⟩ := h69
    exact WL_nil ⟨e69, _, rfl, ⟨_, rfl, (AllP.cons rfl (AllP.cons (hq69.mono (by omega)) (AllP.cons (hs69.mono (by omega)) AllP.nil)))⟩⟩
   apply AnyR_val [88, 90, 93] rfl (by kernel_rfl)
   · --
    intro y70 hy70
    have zy70 := hy70.size
    refine AllV_v ?_
    refine AllV_r fun a71 b71 v71 la71 lb71 lc71 h71 ap71 => ?_
    clear ap71
    obtain ⟨_, rfl, v71_0, _, rfl, rfl, v71_1, _, rfl, h71_1, v71_2, _, rfl, h71_2, rfl⟩ := h71
    refine AllV_r fun a72 b72 v72 la72 lb72 lc72 h72 ap72 => ?_
    clear ap72
    obtain ⟨_, rfl, v72_0, _, rfl, rfl, v72_1, _, rfl, h72_1, v72_2, _, rfl, h72_2, rfl⟩ := h72
    refine AllV_nil ?_
    refine O_call enters11 rfl rfl rfl (rsameR_c rfl h71_1 h71_2 h72_1.nl h72_2.nl (by first | with_reducible assumption | omega) (by first | with_reducible assumption | omega)) (fun v73 w73 e73 h73 => ?_)
    have z73 := e73.size
    obtain rfl := h73
    exact WL_nil ⟨e73, rfl⟩
   apply AnyR_val [88, 94] rfl (by kernel_rfl)
   · --
    intro y74 hy74
    have zy74 := hy74.size
    refine AllV_v ?_
    refine AllV_v ?_
    refine AllV_nil ?_
    refine O_pickT rfl rfl rfl rfl ?_
    exact WL_nil ⟨(Ext.refl _), rfl⟩
   apply AnyR_val [95] rfl (by kernel_rfl)
   · --
    intro y75 hy75
    have zy75 := hy75.size
    refine AllV_v ?_
    refine AllV_nil ?_
    refine O_move rfl rfl rfl ?_
    exact WL_nil ⟨(Ext.refl _), rfl⟩
   apply AnyR_val [96, 5] rfl (by kernel_rfl)
   · --
    intro y76 hy76
    have zy76 := hy76.size
    refine AllV_v ?_
    refine AllV_nil ?_
    refine O_loadA (vs := [_, _, _]) S26 rfl rfl rfl (((((((((((((((((b7.chg q8 (by first | assumption | omega)).ext e9).ext e10).chg q11 (by first | assumption | omega)).ext e12).ext e13).chg q14 (by first | assumption | omega)).ext e15).ext e16).chg q17 (by first | assumption | omega)).ext e18).ext e19).ext e20).ext hy31).chg q36 (by first | assumption | omega)).chg q37 (by first | assumption | omega)).ext hy76) rfl rfl ?_
    exact WL_nil ⟨(Ext.refl _), rfl⟩
   apply AnyR_rel (RelP (pAgg [pEq _, pNo w37.heap.size 83 _, pEq _])) [96, 97] rfl (RelP.mono (pAgg_mono (PsM.cons pEq_mono (PsM.cons pNo_mono (PsM.cons pEq_mono PsM.nil))))) (by kernel_rfl)
   · --
    intro y77 hy77
    have zy77 := hy77.size
    refine AllV_v ?_
    refine AllV_v ?_
    refine AllV_nil ?_
    refine O_call enters17 rfl rfl rfl (dneg_c rfl ((((((((((((((((((((hqX.ext e5).ext e6).chgBk (b5.ext e6) (by decide) q7).chgBk (b6.chg q7 (by first | assumption | omega)) (by decide) q8).ext e9).ext e10).chgBk b10 (by decide) q11).ext e12).ext e13).chgBk b13 (by decide) q14).ext e15).ext e16).chgBk b16 (by decide) q17).ext e18).ext e19).ext e20).ext hy31).chgBk b34 (by decide) q36).chgBk (b35.chg q36 (by first | assumption | omega)) (by decide) q37).ext hy77).nl (by (try simp only [lens]); omega)) (fun v78 w78 e78 h78 => ?_)
    have z78 := e78.size
    try simp only [val_dig] at h78
    obtain ⟨q78, rfl, hq78⟩ := h78
    exact WL_nil ⟨e78, _, rfl, ⟨_, rfl, (AllP.cons rfl (AllP.cons (hq78.mono (by omega)) (AllP.cons rfl AllP.nil)))⟩⟩
   apply AnyR_val [96, 5] rfl (by kernel_rfl)
   · --
    intro y79 hy79
    have zy79 := hy79.size
    refine AllV_v ?_
    refine AllV_nil ?_
    refine O_loadA (vs := [_, _, _]) S26 rfl rfl rfl (((((((((((((((((b7.chg q8 (by first | assumption | omega)).ext e9).ext e10).chg q11 (by first | assumption | omega)).ext e12).ext e13).chg q14 (by first | assumption | omega)).ext e15).ext e16).chg q17 (by first | assumption | omega)).ext e18).ext e19).ext e20).ext hy31).chg q36 (by first | assumption | omega)).chg q37 (by first | assumption | omega)).ext hy79) rfl rfl ?_
    exact WL_nil ⟨(Ext.refl _), rfl⟩
   apply AnyR_rel (RelP (pAgg [pEq _, pNo w37.heap.size 83 _, pEq _])) [96, 99] rfl (RelP.mono (pAgg_mono (PsM.cons pEq_mono (PsM.cons pNo_mono (PsM.cons pEq_mono PsM.nil))))) (by kernel_rfl)
   · --
    intro y80 hy80
    have zy80 := hy80.size
    refine AllV_v ?_
    refine AllV_v ?_
    refine AllV_nil ?_
    refine O_call enters18 rfl rfl rfl (rdneg_c rfl ((((((((((((((((((((hqX.ext e5).ext e6).chgBk (b5.ext e6) (by decide) q7).chgBk (b6.chg q7 (by first | assumption | omega)) (by decide) q8).ext e9).ext e10).chgBk b10 (by decide) q11).ext e12).ext e13).chgBk b13 (by decide) q14).ext e15).ext e16).chgBk b16 (by decide) q17).ext e18).ext e19).ext e20).ext hy31).chgBk b34 (by decide) q36).chgBk (b35.chg q36 (by first | assumption | omega)) (by decide) q37).ext hy80).nl (by (try simp only [lens]); omega)) (fun v81 w81 e81 h81 => ?_)
    have z81 := e81.size
    try simp only [val_dig] at h81
    obtain ⟨q81, rfl, hq81⟩ := h81
    exact WL_nil ⟨e81, _, rfl, ⟨_, rfl, (AllP.cons rfl (AllP.cons (hq81.mono (by omega)) (AllP.cons rfl AllP.nil)))⟩⟩
   apply AnyR_val [96, 98, 100] rfl (by kernel_rfl)
   · --
    intro y82 hy82
    have zy82 := hy82.size
    refine AllV_v ?_
    refine AllV_r fun a83 b83 v83 la83 lb83 lc83 h83 ap83 => ?_
    clear ap83
    obtain ⟨_, rfl, v83_0, _, rfl, rfl, v83_1, _, rfl, h83_1, v83_2, _, rfl, rfl, rfl⟩ := h83
    refine AllV_r fun a84 b84 v84 la84 lb84 lc84 h84 ap84 => ?_
    clear ap84
    obtain ⟨_, rfl, v84_0, _, rfl, rfl, v84_1, _, rfl, h84_1, v84_2, _, rfl, rfl, rfl⟩ := h84
    refine AllV_nil ?_
    refine O_call enters16 rfl rfl rfl (rdsame_c rfl h83_1.nl h84_1.nl (by (try simp only [lens]); omega) (by (try simp only [lens]); omega) rfl rfl) (fun v85 w85 e85 h85 => ?_)
    have z85 := e85.size
    obtain rfl := h85
    exact WL_nil ⟨e85, rfl⟩
   apply AnyR_val [96, 101] rfl (by kernel_rfl)
   · --
    intro y86 hy86
    have zy86 := hy86.size
    refine AllV_v ?_
    refine AllV_v ?_
    refine AllV_nil ?_
    refine O_pickT rfl rfl rfl rfl ?_
    exact WL_nil ⟨(Ext.refl _), rfl⟩
   refine AnyR_nil fun y87 hy87 => ?_
   have zy87 := hy87.size
   refine AllV_v ?_
   refine AllV_r fun a88 b88 v88 la88 lb88 lc88 h88 ap88 => ?_
   clear ap88
   obtain ⟨_, rfl, v88_0, _, rfl, rfl, v88_1, _, rfl, h88_1, v88_2, _, rfl, h88_2, rfl⟩ := h88
   refine AllV_v ?_
   refine AllV_v ?_
   refine AllV_r fun a89 b89 v89 la89 lb89 lc89 h89 ap89 => ?_
   clear ap89
   obtain ⟨_, rfl, v89_0, _, rfl, rfl, v89_1, _, rfl, h89_1, v89_2, _, rfl, h89_2, rfl⟩ := h89
   refine AllV_v ?_
   refine AllV_v ?_
   refine AllV_v ?_
   refine AllV_r fun a90 b90 v90 la90 lb90 lc90 h90 ap90 => ?_
   clear ap90
   obtain ⟨_, rfl, v90_0, _, rfl, rfl, v90_1, _, rfl, h90_1, v90_2, _, rfl, h90_2, rfl⟩ := h90
   refine AllV_v ?_
   refine AllV_v ?_
   refine AllV_r fun a91 b91 v91 la91 lb91 lc91 h91 ap91 => ?_
   clear ap91
   obtain ⟨_, rfl, v91_0, _, rfl, rfl, v91_1, _, rfl, h91_1, v91_2, _, rfl, h91_2, rfl⟩ := h91
   refine AllV_v ?_
   refine AllV_v ?_
   refine AllV_v ?_
   refine AllV_v ?_
   refine AllV_r fun a92 b92 v92 la92 lb92 lc92 h92 ap92 => ?_
   clear ap92
   obtain ⟨_, rfl, v92_0, _, rfl, rfl, v92_1, _, rfl, h92_1, v92_2, _, rfl, h92_2, rfl⟩ := h92
   refine AllV_v ?_
   refine AllV_v ?_
   refine AllV_r fun a93 b93 v93 la93 lb93 lc93 h93 ap93 => ?_
   clear ap93
   obtain ⟨_, rfl, v93_0, _, rfl, rfl, v93_1, _, rfl, h93_1, v93_2, _, rfl, h93_2, rfl⟩ := h93
   refine AllV_v ?_
   refine AllV_v ?_
   refine AllV_v ?_
   refine AllV_v ?_
   refine AllV_r fun a94 b94 v94 la94 lb94 lc94 h94 ap94 => ?_
   clear ap94
   obtain ⟨_, rfl, v94_0, _, rfl, rfl, v94_1, _, rfl, h94_1, v94_2, _, rfl, rfl, rfl⟩ := h94
   refine AllV_v ?_
   refine AllV_r fun a95 b95 v95 la95 lb95 lc95 h95 ap95 => ?_
   clear ap95
   obtain ⟨_, rfl, v95_0, _, rfl, rfl, v95_1, _, rfl, h95_1, v95_2, _, rfl, rfl, rfl⟩ := h95
   refine AllV_v ?_
   refine AllV_v ?_
   refine AllV_nil ?_
   refine O_assign rfl rfl rfl ?_
   refine WL_end [(4, _)] ⟨rfl, trivial⟩ ?_
   refine WP_ret ?_
   refine ret1 Tryz.results3 rfl ?_
   exact ⟨_, rfl, (e37.trans hy87), rfl⟩

end Go.Proofs.YtnfnadhbjdcbnaaGreatDoor
