/-
  Walks.
-/
import Derived.Test.YthbfhljpfkicpaaV5
set_option linter.unusedVariables false
set_option linter.unusedSimpArgs false
set_option maxRecDepth 100000
namespace Go.Proofs.Ythbfhljpfkicpaa
open Go Go.RowKit
set_option maxHeartbeats 4000000 in
theorem law_IntervalMeets {w : World} {vx vy vz vu : Value} {lx ly lz lu : List Nat} {bx by_ bz bu : Bool} {e f g h : Int} (hx : Nl w vx lx) (hy : Nl w vy ly) (hz : Nl w vz lz) (hu : Nl w vu lu) {vp vq : Value} {lp lq : List Nat} {bp : Bool} (hp : Nl w vp lp) (hq : Nl w vq lq) :
    Calls Try.prog 6 #[.agg #[.bool bx, vx, .int .i64 e, .bool by_, vy, .int .i64 f], .agg #[.bool bz, vz, .int .i64 g, .bool bu, vu, .int .i64 h], .agg #[.bool bp, vp, vq]] w (Ret w fun r _ => r = .bool true) := by
  refine enter (args := [_, _, _]) Try.func6 rfl Try.ntmps6 rfl ?_
  refine WP_seq ?_
  refine WP_region ?_
  refine O_box _ rfl rfl rfl rfl (fun g1 w1 b1 e1 gl1 gh1 => ?_)
  have z1 := e1.size
  refine O_box _ rfl rfl rfl rfl (fun g2 w2 b2 e2 gl2 gh2 => ?_)
  have z2 := e2.size
  refine O_box _ rfl rfl rfl rfl (fun g3 w3 b3 e3 gl3 gh3 => ?_)
  have z3 := e3.size
  refine O_assign rfl rfl rfl ?_
  refine WL_end [(3, _), (4, _), (5, _)] ⟨rfl, rfl, rfl, trivial⟩ ?_
  refine WP_seq ?_
  refine WP_seq ?_
  refine WP_region ?_
  refine O_call enters7 rfl rfl rfl (awake10_c) (fun v4 w4 e4 h4 => ?_)
  have z4 := e4.size
  obtain rfl := h4
  refine O_not rfl rfl rfl rfl ?_
  refine WL_end [(3, _), (4, _), (5, _), (19, _)] ⟨rfl, rfl, rfl, rfl, trivial⟩ ?_
  refine WP_condF rfl ?_
  refine WP_skip ?_
  refine WP_seq ?_
  refine WP_region ?_
  refine O_loadA (vs := [_, _, _, _, _, _]) S28 rfl rfl rfl (((b1.ext e2).ext e3).ext e4) rfl rfl ?_
  refine O_loadA (vs := [_, _, _, _, _, _]) S28 rfl rfl rfl ((b2.ext e3).ext e4) rfl rfl ?_
  refine O_call enters8 rfl rfl rfl (two10_c (hx.ext (((e1.trans e2).trans e3).trans e4)) (hy.ext (((e1.trans e2).trans e3).trans e4)) (hz.ext (((e1.trans e2).trans e3).trans e4)) (hu.ext (((e1.trans e2).trans e3).trans e4))) (fun v5 w5 e5 h5 => ?_)
  have z5 := e5.size
  try simp only [val_dig] at h5
  obtain ⟨X, E, Y, F, Z, G, U, H, qA, sA, tA, vA, bA, rfl, hqA, hsA, htA, hvA, ⟨hX, hY, hXY, hE1, hE2, hF1, hF2, hlX, hlY⟩, ⟨hZ, hU, hZU, hG1, hG2, hH1, hH2, hlZ, hlU⟩⟩ := h5
  refine O_move rfl rfl rfl ?_
  refine O_extract rfl rfl rfl rfl ?_
  refine O_extract rfl rfl rfl rfl ?_
  refine O_extract rfl rfl rfl rfl ?_
  refine O_alloc S28 rfl rfl (fun g6 w6 b6 e6 gl6 gh6 => ?_)
  have z6 := e6.size
  refine O_alloc S28 rfl rfl (fun g7 w7 b7 e7 gl7 gh7 => ?_)
  have z7 := e7.size
  refine O_storeA (cs' := [_, _, _, _, _, _]) S28 rfl rfl rfl (b6.ext e7) rfl rfl (one_cons rfl (one_cons (((hqA.ext e6).ext e7).nl).one (one_cons rfl (one_cons rfl (one_cons (((hsA.ext e6).ext e7).nl).one (one_cons rfl one_nil)))))) rfl (fun w8 b8 q8 => ?_)
  have z8 := Nat.le_of_eq q8.size.symm
  have e8 : Ext w w8 := q8.ext ((((((e1.trans e2).trans e3).trans e4).trans e5).trans e6).trans e7) (by omega)
  refine O_storeA (cs' := [_, _, _, _, _, _]) S28 rfl rfl rfl (b7.chg q8 (by first | assumption | omega)) rfl rfl (one_cons rfl (one_cons ((((htA.ext e6).ext e7).chgBk (b6.ext e7) (by decide) q8).nl).one (one_cons rfl (one_cons rfl (one_cons ((((hvA.ext e6).ext e7).chgBk (b6.ext e7) (by decide) q8).nl).one (one_cons rfl one_nil)))))) rfl (fun w9 b9 q9 => ?_)
  have z9 := Nat.le_of_eq q9.size.symm
  have e9 : Ext w w9 := q9.ext e8 (by omega)
  refine O_assign rfl rfl rfl ?_
  refine WL_end [(5, _), (7, _), (8, _), (9, _)] ⟨rfl, rfl, rfl, rfl, trivial⟩ ?_
  refine WP_seq ?_
  refine WP_region ?_
  refine O_loadA (vs := [_, _, _]) S48 rfl rfl rfl ((((((b3.ext e4).ext e5).ext e6).ext e7).chg q8 (by first | assumption | omega)).chg q9 (by first | assumption | omega)) rfl rfl ?_
  refine O_call enters22 rfl rfl rfl (mrat_c (n := 5) (hp.ext e9) (hq.ext e9) (by decide) (by decide)) (fun v10 w10 e10 h10 => ?_)
  have z10 := e10.size
  try simp only [val_dig] at h10
  obtain ⟨P, Q, nR, dR, bR, rfl, hnR, hdR, hbR, hlP, hlQ⟩ := h10
  refine O_move rfl rfl rfl ?_
  refine O_extract rfl rfl rfl rfl ?_
  refine O_extract rfl rfl rfl rfl ?_
  refine O_alloc S48 rfl rfl (fun g11 w11 b11 e11 gl11 gh11 => ?_)
  have z11 := e11.size
  refine O_storeA (cs' := [_, _, _]) S48 rfl rfl rfl b11 rfl rfl (one_cons rfl (one_cons ((hnR.ext e11).nl).one (one_cons ((hdR.ext e11).nl).one one_nil))) rfl (fun w12 b12 q12 => ?_)
  have z12 := Nat.le_of_eq q12.size.symm
  have e12 : Ext w w12 := q12.ext ((e9.trans e10).trans e11) (by omega)
  refine O_assign rfl rfl rfl ?_
  refine WL_end [(7, _), (8, _), (9, _), (10, _), (11, _)] ⟨rfl, rfl, rfl, rfl, rfl, trivial⟩ ?_
  refine WP_seq ?_
  refine WP_seq ?_
  refine WP_region ?_
  refine O_move rfl rfl rfl ?_
  refine O_not rfl rfl rfl rfl ?_
  refine O_move rfl rfl rfl ?_
  refine WL_bool 34 rfl (fun g34 => ?_) (fun g34 => ?_)
  · --
    refine O_skip rfl rfl ?_
    refine O_skip rfl rfl ?_
    refine O_pickT rfl rfl rfl rfl ?_
    refine WL_end [(7, _), (8, _), (10, _), (37, _)] ⟨rfl, rfl, rfl, rfl, trivial⟩ ?_
    refine WP_condT rfl ?_
    refine WP_seq ?_
    refine WP_region ?_
    refine O_assign rfl rfl rfl ?_
    refine WL_end [(6, _)] ⟨rfl, trivial⟩ ?_
    refine WP_ret ?_
    refine ret1 Try.results6 rfl ?_
    exact ⟨_, rfl, e12, rfl⟩
  · --
    refine O_move rfl rfl rfl ?_
    refine O_not rfl rfl rfl rfl ?_
    refine O_pickF rfl rfl rfl rfl ?_
    refine WL_end [(7, _), (8, _), (10, _), (37, _)] ⟨rfl, rfl, rfl, rfl, trivial⟩ ?_
    refine WP_cond rfl (fun c37 => ?_) (fun c37 => ?_)
    · --
      refine WP_seq ?_
      refine WP_region ?_
      refine O_assign rfl rfl rfl ?_
      refine WL_end [(6, _)] ⟨rfl, trivial⟩ ?_
      refine WP_ret ?_
      refine ret1 Try.results6 rfl ?_
      exact ⟨_, rfl, e12, rfl⟩
    · --
      refine WP_skip ?_
      refine WP_seq ?_
      have hQ0 : 0 < Q := (hbR (by simpa using c37)).1
      have hmc := meet_cmp hX hY hZ hU hXY hZU
      have hd1 := dval_dg hX hZ
      have hd2 := dval_dl hY hU
      have hd3 := dval_dl hX hZ
      have hd4 := dval_dg hY hU
      have hlP9 : (dig P.natAbs).length ≤ 20000 := by omega
      have hlQ9 : (dig Q).length ≤ 20000 := by omega
      by_cases ho : dcmp (dgx X E Z G) (dge X E Z G) (dlx Y F U H) (dle Y F U H) ≤ 0
      · have hmh := meet_has (p := P) (q := Q) hX hY hZ hU
        refine WP_region ?_
        refine O_loadA (vs := [_, _, _, _, _, _]) S28 rfl rfl rfl ((((b8.chg q9 (by first | assumption | omega)).ext e10).ext e11).chg q12 (by first | assumption | omega)) rfl rfl ?_
        refine O_loadA (vs := [_, _, _, _, _, _]) S28 rfl rfl rfl (((b9.ext e10).ext e11).chg q12 (by first | assumption | omega)) rfl rfl ?_
        refine O_call enters28 rfl rfl rfl (meet_T rfl ((((((((hqA.ext e6).ext e7).chgBk (b6.ext e7) (by decide) q8).chgBk (b7.chg q8 (by first | assumption | omega)) (by decide) q9).ext e10).ext e11).chgBk b11 (by decide) q12).mono (Nat.zero_le _)) rfl ((((((((hsA.ext e6).ext e7).chgBk (b6.ext e7) (by decide) q8).chgBk (b7.chg q8 (by first | assumption | omega)) (by decide) q9).ext e10).ext e11).chgBk b11 (by decide) q12).mono (Nat.zero_le _)) (by first | with_reducible assumption | exact dval_dman _ _ | exact dval_zero | exact dval_dg (by assumption) (by assumption) | exact dval_dl (by assumption) (by assumption)) (by first | with_reducible assumption | exact dval_dman _ _ | exact dval_zero | exact dval_dg (by assumption) (by assumption) | exact dval_dl (by assumption) (by assumption)) rfl ((((((((htA.ext e6).ext e7).chgBk (b6.ext e7) (by decide) q8).chgBk (b7.chg q8 (by first | assumption | omega)) (by decide) q9).ext e10).ext e11).chgBk b11 (by decide) q12).mono (Nat.zero_le _)) rfl ((((((((hvA.ext e6).ext e7).chgBk (b6.ext e7) (by decide) q8).chgBk (b7.chg q8 (by first | assumption | omega)) (by decide) q9).ext e10).ext e11).chgBk b11 (by decide) q12).mono (Nat.zero_le _)) (by first | with_reducible assumption | exact dval_dman _ _ | exact dval_zero | exact dval_dg (by assumption) (by assumption) | exact dval_dl (by assumption) (by assumption)) (by first | with_reducible assumption | exact dval_dman _ _ | exact dval_zero | exact dval_dg (by assumption) (by assumption) | exact dval_dl (by assumption) (by assumption)) ho) (fun v13 w13 e13 h13 => ?_)
        have z13 := e13.size
        try simp only [val_dig] at h13
        obtain ⟨mq13, ms13, rfl, hmq13, hms13⟩ := h13
        refine O_move rfl rfl rfl ?_
        refine O_extract rfl rfl rfl rfl ?_
        refine O_extract rfl rfl rfl rfl ?_
        refine O_alloc S28 rfl rfl (fun g14 w14 b14 e14 gl14 gh14 => ?_)
        have z14 := e14.size
        refine O_storeA (cs' := [_, _, _, _, _, _]) S28 rfl rfl rfl b14 rfl rfl (one_cons rfl (one_cons ((hmq13.ext e14).nl).one (one_cons rfl (one_cons rfl (one_cons ((hms13.ext e14).nl).one (one_cons rfl one_nil)))))) rfl (fun w15 b15 q15 => ?_)
        have z15 := Nat.le_of_eq q15.size.symm
        have e15 : Ext w w15 := q15.ext ((e12.trans e13).trans e14) (by omega)
        refine O_assign rfl rfl rfl ?_
        refine WL_end [(7, _), (8, _), (10, _), (12, _), (13, _)] ⟨rfl, rfl, rfl, rfl, rfl, trivial⟩ ?_
        refine WP_seq ?_
        refine WP_region ?_
        refine O_loadA (vs := [_, _, _, _, _, _]) S28 rfl rfl rfl (((((((b8.chg q9 (by first | assumption | omega)).ext e10).ext e11).chg q12 (by first | assumption | omega)).ext e13).ext e14).chg q15 (by first | assumption | omega)) rfl rfl ?_
        refine O_loadA (vs := [_, _, _, _, _, _]) S28 rfl rfl rfl ((((((b9.ext e10).ext e11).chg q12 (by first | assumption | omega)).ext e13).ext e14).chg q15 (by first | assumption | omega)) rfl rfl ?_
        refine O_call enters29 rfl rfl rfl (rmeet_T rfl (((((((((((hqA.ext e6).ext e7).chgBk (b6.ext e7) (by decide) q8).chgBk (b7.chg q8 (by first | assumption | omega)) (by decide) q9).ext e10).ext e11).chgBk b11 (by decide) q12).ext e13).ext e14).chgBk b14 (by decide) q15).mono (Nat.zero_le _)) rfl (((((((((((hsA.ext e6).ext e7).chgBk (b6.ext e7) (by decide) q8).chgBk (b7.chg q8 (by first | assumption | omega)) (by decide) q9).ext e10).ext e11).chgBk b11 (by decide) q12).ext e13).ext e14).chgBk b14 (by decide) q15).mono (Nat.zero_le _)) (by first | with_reducible assumption | exact dval_dman _ _ | exact dval_zero | exact dval_dg (by assumption) (by assumption) | exact dval_dl (by assumption) (by assumption)) (by first | with_reducible assumption | exact dval_dman _ _ | exact dval_zero | exact dval_dg (by assumption) (by assumption) | exact dval_dl (by assumption) (by assumption)) rfl (((((((((((htA.ext e6).ext e7).chgBk (b6.ext e7) (by decide) q8).chgBk (b7.chg q8 (by first | assumption | omega)) (by decide) q9).ext e10).ext e11).chgBk b11 (by decide) q12).ext e13).ext e14).chgBk b14 (by decide) q15).mono (Nat.zero_le _)) rfl (((((((((((hvA.ext e6).ext e7).chgBk (b6.ext e7) (by decide) q8).chgBk (b7.chg q8 (by first | assumption | omega)) (by decide) q9).ext e10).ext e11).chgBk b11 (by decide) q12).ext e13).ext e14).chgBk b14 (by decide) q15).mono (Nat.zero_le _)) (by first | with_reducible assumption | exact dval_dman _ _ | exact dval_zero | exact dval_dg (by assumption) (by assumption) | exact dval_dl (by assumption) (by assumption)) (by first | with_reducible assumption | exact dval_dman _ _ | exact dval_zero | exact dval_dg (by assumption) (by assumption) | exact dval_dl (by assumption) (by assumption)) ho) (fun v16 w16 e16 h16 => ?_)
        have z16 := e16.size
        try simp only [val_dig] at h16
        obtain ⟨mq16, ms16, rfl, hmq16, hms16⟩ := h16
        refine O_move rfl rfl rfl ?_
        refine O_extract rfl rfl rfl rfl ?_
        refine O_extract rfl rfl rfl rfl ?_
        refine O_alloc S28 rfl rfl (fun g17 w17 b17 e17 gl17 gh17 => ?_)
        have z17 := e17.size
        refine O_storeA (cs' := [_, _, _, _, _, _]) S28 rfl rfl rfl b17 rfl rfl (one_cons rfl (one_cons ((hmq16.ext e17).nl).one (one_cons rfl (one_cons rfl (one_cons ((hms16.ext e17).nl).one (one_cons rfl one_nil)))))) rfl (fun w18 b18 q18 => ?_)
        have z18 := Nat.le_of_eq q18.size.symm
        have e18 : Ext w w18 := q18.ext ((e15.trans e16).trans e17) (by omega)
        refine O_assign rfl rfl rfl ?_
        refine WL_end [(7, _), (8, _), (10, _), (12, _), (13, _), (14, _), (15, _)] ⟨rfl, rfl, rfl, rfl, rfl, rfl, rfl, trivial⟩ ?_
        refine WP_seq ?_
        refine WP_region ?_
        refine O_loadA (vs := [_, _, _, _, _, _]) S28 rfl rfl rfl ((((((((((b8.chg q9 (by first | assumption | omega)).ext e10).ext e11).chg q12 (by first | assumption | omega)).ext e13).ext e14).chg q15 (by first | assumption | omega)).ext e16).ext e17).chg q18 (by first | assumption | omega)) rfl rfl ?_
        refine O_loadA (vs := [_, _, _, _, _, _]) S28 rfl rfl rfl (((((((((b9.ext e10).ext e11).chg q12 (by first | assumption | omega)).ext e13).ext e14).chg q15 (by first | assumption | omega)).ext e16).ext e17).chg q18 (by first | assumption | omega)) rfl rfl ?_
        refine O_call enters30 rfl rfl rfl (hull_c rfl ((((((((((((((hqA.ext e6).ext e7).chgBk (b6.ext e7) (by decide) q8).chgBk (b7.chg q8 (by first | assumption | omega)) (by decide) q9).ext e10).ext e11).chgBk b11 (by decide) q12).ext e13).ext e14).chgBk b14 (by decide) q15).ext e16).ext e17).chgBk b17 (by decide) q18).mono (Nat.zero_le _)) rfl ((((((((((((((hsA.ext e6).ext e7).chgBk (b6.ext e7) (by decide) q8).chgBk (b7.chg q8 (by first | assumption | omega)) (by decide) q9).ext e10).ext e11).chgBk b11 (by decide) q12).ext e13).ext e14).chgBk b14 (by decide) q15).ext e16).ext e17).chgBk b17 (by decide) q18).mono (Nat.zero_le _)) (by first | with_reducible assumption | exact dval_dman _ _ | exact dval_zero | exact dval_dg (by assumption) (by assumption) | exact dval_dl (by assumption) (by assumption)) (by first | with_reducible assumption | exact dval_dman _ _ | exact dval_zero | exact dval_dg (by assumption) (by assumption) | exact dval_dl (by assumption) (by assumption)) rfl ((((((((((((((htA.ext e6).ext e7).chgBk (b6.ext e7) (by decide) q8).chgBk (b7.chg q8 (by first | assumption | omega)) (by decide) q9).ext e10).ext e11).chgBk b11 (by decide) q12).ext e13).ext e14).chgBk b14 (by decide) q15).ext e16).ext e17).chgBk b17 (by decide) q18).mono (Nat.zero_le _)) rfl ((((((((((((((hvA.ext e6).ext e7).chgBk (b6.ext e7) (by decide) q8).chgBk (b7.chg q8 (by first | assumption | omega)) (by decide) q9).ext e10).ext e11).chgBk b11 (by decide) q12).ext e13).ext e14).chgBk b14 (by decide) q15).ext e16).ext e17).chgBk b17 (by decide) q18).mono (Nat.zero_le _)) (by first | with_reducible assumption | exact dval_dman _ _ | exact dval_zero | exact dval_dg (by assumption) (by assumption) | exact dval_dl (by assumption) (by assumption)) (by first | with_reducible assumption | exact dval_dman _ _ | exact dval_zero | exact dval_dg (by assumption) (by assumption) | exact dval_dl (by assumption) (by assumption))) (fun v19 w19 e19 h19 => ?_)
        have z19 := e19.size
        try simp only [val_dig] at h19
        obtain ⟨mq19, ms19, rfl, hmq19, hms19⟩ := h19
        refine O_alloc S28 rfl rfl (fun g20 w20 b20 e20 gl20 gh20 => ?_)
        have z20 := e20.size
        refine O_storeA (cs' := [_, _, _, _, _, _]) S28 rfl rfl rfl b20 rfl rfl (one_cons rfl (one_cons ((hmq19.ext e20).nl).one (one_cons rfl (one_cons rfl (one_cons ((hms19.ext e20).nl).one (one_cons rfl one_nil)))))) rfl (fun w21 b21 q21 => ?_)
        have z21 := Nat.le_of_eq q21.size.symm
        have e21 : Ext w w21 := q21.ext ((e18.trans e19).trans e20) (by omega)
        refine WL_end [(7, _), (8, _), (10, _), (12, _), (13, _), (14, _), (15, _), (16, _)] ⟨rfl, rfl, rfl, rfl, rfl, rfl, rfl, rfl, trivial⟩ ?_
        refine WP_seq ?_
        refine WP_seq ?_
        refine WP_sub [(7, _), (8, _), (10, _), (12, _), (13, _), (14, _), (15, _), (16, _)] ⟨rfl, rfl, rfl, rfl, rfl, rfl, rfl, rfl, trivial⟩ ?_
        refine WP_anyR 23 [7, 8, 10, 12, 13, 14, 15, 16] mixed rfl (by kernel_rfl) ?_
        apply AnyR_val [13] rfl (by kernel_rfl)
        · --
          intro y22 hy22
          have zy22 := hy22.size
          refine AllV_nil ?_
          refine O_move rfl rfl rfl ?_
          exact WL_nil ⟨(Ext.refl _), rfl⟩
        apply AnyR_val [15] rfl (by kernel_rfl)
        · --
          intro y23 hy23
          have zy23 := hy23.size
          refine AllV_nil ?_
          refine O_move rfl rfl rfl ?_
          exact WL_nil ⟨(Ext.refl _), rfl⟩
        apply AnyR_val [53, 54] rfl (by kernel_rfl)
        · --
          intro y24 hy24
          have zy24 := hy24.size
          refine AllV_v ?_
          refine AllV_v ?_
          refine AllV_nil ?_
          refine O_bneq Try.underlying4 rfl rfl rfl rfl rfl ?_
          exact WL_nil ⟨(Ext.refl _), rfl⟩
        apply AnyR_val [55] rfl (by kernel_rfl)
        · --
          intro y25 hy25
          have zy25 := hy25.size
          refine AllV_v ?_
          refine AllV_nil ?_
          refine O_move rfl rfl rfl ?_
          exact WL_nil ⟨(Ext.refl _), rfl⟩
        apply AnyR_val [56, 12] rfl (by kernel_rfl)
        · --
          intro y26 hy26
          have zy26 := hy26.size
          refine AllV_v ?_
          refine AllV_nil ?_
          refine O_loadA (vs := [_, _, _, _, _, _]) S28 rfl rfl rfl (((((((b15.ext e16).ext e17).chg q18 (by first | assumption | omega)).ext e19).ext e20).chg q21 (by first | assumption | omega)).ext hy26) rfl rfl ?_
          exact WL_nil ⟨(Ext.refl _), rfl⟩
        apply AnyR_val [56, 14] rfl (by kernel_rfl)
        · --
          intro y27 hy27
          have zy27 := hy27.size
          refine AllV_v ?_
          refine AllV_nil ?_
          refine O_loadA (vs := [_, _, _, _, _, _]) S28 rfl rfl rfl ((((b18.ext e19).ext e20).chg q21 (by first | assumption | omega)).ext hy27) rfl rfl ?_
          exact WL_nil ⟨(Ext.refl _), rfl⟩
        apply AnyR_val [56, 57, 58] rfl (by kernel_rfl)
        · --
          intro y28 hy28
          have zy28 := hy28.size
          refine AllV_v ?_
          refine AllV_v ?_
          refine AllV_v ?_
          refine AllV_nil ?_
          refine O_call enters20 rfl rfl rfl (rivsameT_c rfl (((((((((hmq13.ext e14).chgBk b14 (by decide) q15).ext e16).ext e17).chgBk b17 (by decide) q18).ext e19).ext e20).chgBk b20 (by decide) q21).ext hy28).nl rfl (((((((((hms13.ext e14).chgBk b14 (by decide) q15).ext e16).ext e17).chgBk b17 (by decide) q18).ext e19).ext e20).chgBk b20 (by decide) q21).ext hy28).nl (by first | with_reducible assumption | exact dval_dman _ _ | exact dval_zero | exact dval_dg (by assumption) (by assumption) | exact dval_dl (by assumption) (by assumption)) (by first | with_reducible assumption | exact dval_dman _ _ | exact dval_zero | exact dval_dg (by assumption) (by assumption) | exact dval_dl (by assumption) (by assumption)) rfl ((((((hmq16.ext e17).chgBk b17 (by decide) q18).ext e19).ext e20).chgBk b20 (by decide) q21).ext hy28).nl rfl ((((((hms16.ext e17).chgBk b17 (by decide) q18).ext e19).ext e20).chgBk b20 (by decide) q21).ext hy28).nl (by first | with_reducible assumption | exact dval_dman _ _ | exact dval_zero | exact dval_dg (by assumption) (by assumption) | exact dval_dl (by assumption) (by assumption)) (by first | with_reducible assumption | exact dval_dman _ _ | exact dval_zero | exact dval_dg (by assumption) (by assumption) | exact dval_dl (by assumption) (by assumption)) samev_self) (fun v29 w29 e29 h29 => ?_)
          have z29 := e29.size
          obtain rfl := h29
          exact WL_nil ⟨e29, rfl⟩
        apply AnyR_val [56, 59] rfl (by kernel_rfl)
        · --
          intro y30 hy30
          have zy30 := hy30.size
          refine AllV_v ?_
          refine AllV_v ?_
          refine AllV_nil ?_
          refine O_not rfl rfl rfl rfl ?_
          exact WL_nil ⟨(Ext.refl _), rfl⟩
        apply AnyR_val [56, 60] rfl (by kernel_rfl)
        · --
          intro y31 hy31
          have zy31 := hy31.size
          refine AllV_v ?_
          refine AllV_v ?_
          refine AllV_nil ?_
          refine O_pickF rfl rfl rfl rfl ?_
          exact WL_nil ⟨(Ext.refl _), rfl⟩
        apply AnyR_val [61] rfl (by kernel_rfl)
        · --
          intro y32 hy32
          have zy32 := hy32.size
          refine AllV_v ?_
          refine AllV_nil ?_
          refine O_move rfl rfl rfl ?_
          exact WL_nil ⟨(Ext.refl _), rfl⟩
        apply AnyR_val [62, 16] rfl (by kernel_rfl)
        · --
          intro y33 hy33
          have zy33 := hy33.size
          refine AllV_v ?_
          refine AllV_nil ?_
          refine O_loadA (vs := [_, _, _, _, _, _]) S28 rfl rfl rfl (b21.ext hy33) rfl rfl ?_
          exact WL_nil ⟨(Ext.refl _), rfl⟩
        apply AnyR_val [62, 7] rfl (by kernel_rfl)
        · --
          intro y34 hy34
          have zy34 := hy34.size
          refine AllV_v ?_
          refine AllV_nil ?_
          refine O_loadA (vs := [_, _, _, _, _, _]) S28 rfl rfl rfl ((((((((((((((b8.chg q9 (by first | assumption | omega)).ext e10).ext e11).chg q12 (by first | assumption | omega)).ext e13).ext e14).chg q15 (by first | assumption | omega)).ext e16).ext e17).chg q18 (by first | assumption | omega)).ext e19).ext e20).chg q21 (by first | assumption | omega)).ext hy34) rfl rfl ?_
          exact WL_nil ⟨(Ext.refl _), rfl⟩
        apply AnyR_val [62, 8] rfl (by kernel_rfl)
        · --
          intro y35 hy35
          have zy35 := hy35.size
          refine AllV_v ?_
          refine AllV_nil ?_
          refine O_loadA (vs := [_, _, _, _, _, _]) S28 rfl rfl rfl (((((((((((((b9.ext e10).ext e11).chg q12 (by first | assumption | omega)).ext e13).ext e14).chg q15 (by first | assumption | omega)).ext e16).ext e17).chg q18 (by first | assumption | omega)).ext e19).ext e20).chg q21 (by first | assumption | omega)).ext hy35) rfl rfl ?_
          exact WL_nil ⟨(Ext.refl _), rfl⟩
        apply AnyR_rel (RelP (pAgg [pEq _, pNo 0 93 _, pEq _, pEq _, pNo 0 93 _, pEq _])) [62, 64, 65] rfl (RelP.mono (pAgg_mono (PsM.cons pEq_mono (PsM.cons pNo_mono (PsM.cons pEq_mono (PsM.cons pEq_mono (PsM.cons pNo_mono (PsM.cons pEq_mono PsM.nil)))))))) (by kernel_rfl)
        · --
          intro y36 hy36
          have zy36 := hy36.size
          refine AllV_v ?_
          refine AllV_v ?_
          refine AllV_v ?_
          refine AllV_nil ?_
          refine O_call enters31 rfl rfl rfl (rhull_c rfl ((((((((((((((((((hqA.ext e6).ext e7).chgBk (b6.ext e7) (by decide) q8).chgBk (b7.chg q8 (by first | assumption | omega)) (by decide) q9).ext e10).ext e11).chgBk b11 (by decide) q12).ext e13).ext e14).chgBk b14 (by decide) q15).ext e16).ext e17).chgBk b17 (by decide) q18).ext e19).ext e20).chgBk b20 (by decide) q21).ext hy36).mono (Nat.zero_le _)) rfl ((((((((((((((((((hsA.ext e6).ext e7).chgBk (b6.ext e7) (by decide) q8).chgBk (b7.chg q8 (by first | assumption | omega)) (by decide) q9).ext e10).ext e11).chgBk b11 (by decide) q12).ext e13).ext e14).chgBk b14 (by decide) q15).ext e16).ext e17).chgBk b17 (by decide) q18).ext e19).ext e20).chgBk b20 (by decide) q21).ext hy36).mono (Nat.zero_le _)) (by first | with_reducible assumption | exact dval_dman _ _ | exact dval_zero | exact dval_dg (by assumption) (by assumption) | exact dval_dl (by assumption) (by assumption)) (by first | with_reducible assumption | exact dval_dman _ _ | exact dval_zero | exact dval_dg (by assumption) (by assumption) | exact dval_dl (by assumption) (by assumption)) rfl ((((((((((((((((((htA.ext e6).ext e7).chgBk (b6.ext e7) (by decide) q8).chgBk (b7.chg q8 (by first | assumption | omega)) (by decide) q9).ext e10).ext e11).chgBk b11 (by decide) q12).ext e13).ext e14).chgBk b14 (by decide) q15).ext e16).ext e17).chgBk b17 (by decide) q18).ext e19).ext e20).chgBk b20 (by decide) q21).ext hy36).mono (Nat.zero_le _)) rfl ((((((((((((((((((hvA.ext e6).ext e7).chgBk (b6.ext e7) (by decide) q8).chgBk (b7.chg q8 (by first | assumption | omega)) (by decide) q9).ext e10).ext e11).chgBk b11 (by decide) q12).ext e13).ext e14).chgBk b14 (by decide) q15).ext e16).ext e17).chgBk b17 (by decide) q18).ext e19).ext e20).chgBk b20 (by decide) q21).ext hy36).mono (Nat.zero_le _)) (by first | with_reducible assumption | exact dval_dman _ _ | exact dval_zero | exact dval_dg (by assumption) (by assumption) | exact dval_dl (by assumption) (by assumption)) (by first | with_reducible assumption | exact dval_dman _ _ | exact dval_zero | exact dval_dg (by assumption) (by assumption) | exact dval_dl (by assumption) (by assumption))) (fun v37 w37 e37 h37 => ?_)
          have z37 := e37.size
          try simp only [val_dig] at h37
          obtain ⟨mq37, ms37, rfl, hmq37, hms37⟩ := h37
          exact WL_nil ⟨e37, _, rfl, ⟨_, rfl, (AllP.cons rfl (AllP.cons (hmq37.mono (Nat.zero_le _)) (AllP.cons rfl (AllP.cons rfl (AllP.cons (hms37.mono (Nat.zero_le _)) (AllP.cons rfl AllP.nil))))))⟩⟩
        apply AnyR_val [62, 63, 66] rfl (by kernel_rfl)
        · --
          intro y38 hy38
          have zy38 := hy38.size
          refine AllV_v ?_
          refine AllV_v ?_
          refine AllV_r fun a39 b39 v39 la39 lb39 lc39 h39 ap39 => ?_
          clear ap39
          obtain ⟨_, rfl, v39_0, _, rfl, rfl, v39_1, _, rfl, h39_1, v39_2, _, rfl, rfl, v39_3, _, rfl, rfl, v39_4, _, rfl, h39_4, v39_5, _, rfl, rfl, rfl⟩ := h39
          refine AllV_nil ?_
          refine O_call enters20 rfl rfl rfl (rivsameT_c rfl (((hmq19.ext e20).chgBk b20 (by decide) q21).ext hy38).nl rfl (((hms19.ext e20).chgBk b20 (by decide) q21).ext hy38).nl (by first | with_reducible assumption | exact dval_dman _ _ | exact dval_zero | exact dval_dg (by assumption) (by assumption) | exact dval_dl (by assumption) (by assumption)) (by first | with_reducible assumption | exact dval_dman _ _ | exact dval_zero | exact dval_dg (by assumption) (by assumption) | exact dval_dl (by assumption) (by assumption)) rfl h39_1.nl rfl h39_4.nl (by first | with_reducible assumption | exact dval_dman _ _ | exact dval_zero | exact dval_dg (by assumption) (by assumption) | exact dval_dl (by assumption) (by assumption)) (by first | with_reducible assumption | exact dval_dman _ _ | exact dval_zero | exact dval_dg (by assumption) (by assumption) | exact dval_dl (by assumption) (by assumption)) samev_self) (fun v40 w40 e40 h40 => ?_)
          have z40 := e40.size
          obtain rfl := h40
          exact WL_nil ⟨e40, rfl⟩
        apply AnyR_val [62, 67] rfl (by kernel_rfl)
        · --
          intro y41 hy41
          have zy41 := hy41.size
          refine AllV_v ?_
          refine AllV_v ?_
          refine AllV_nil ?_
          refine O_not rfl rfl rfl rfl ?_
          exact WL_nil ⟨(Ext.refl _), rfl⟩
        apply AnyR_val [62, 68] rfl (by kernel_rfl)
        · --
          intro y42 hy42
          have zy42 := hy42.size
          refine AllV_v ?_
          refine AllV_v ?_
          refine AllV_nil ?_
          refine O_pickF rfl rfl rfl rfl ?_
          exact WL_nil ⟨(Ext.refl _), rfl⟩
        apply AnyR_val [69] rfl (by kernel_rfl)
        · --
          intro y43 hy43
          have zy43 := hy43.size
          refine AllV_v ?_
          refine AllV_nil ?_
          refine O_move rfl rfl rfl ?_
          exact WL_nil ⟨(Ext.refl _), rfl⟩
        apply AnyR_val [70, 13] rfl (by kernel_rfl)
        · --
          intro y44 hy44
          have zy44 := hy44.size
          refine AllV_v ?_
          refine AllV_nil ?_
          refine O_move rfl rfl rfl ?_
          exact WL_nil ⟨(Ext.refl _), rfl⟩
        apply AnyR_val [70, 7] rfl (by kernel_rfl)
        · --
          intro y45 hy45
          have zy45 := hy45.size
          refine AllV_v ?_
          refine AllV_nil ?_
          refine O_loadA (vs := [_, _, _, _, _, _]) S28 rfl rfl rfl ((((((((((((((b8.chg q9 (by first | assumption | omega)).ext e10).ext e11).chg q12 (by first | assumption | omega)).ext e13).ext e14).chg q15 (by first | assumption | omega)).ext e16).ext e17).chg q18 (by first | assumption | omega)).ext e19).ext e20).chg q21 (by first | assumption | omega)).ext hy45) rfl rfl ?_
          exact WL_nil ⟨(Ext.refl _), rfl⟩
        apply AnyR_val [70, 8] rfl (by kernel_rfl)
        · --
          intro y46 hy46
          have zy46 := hy46.size
          refine AllV_v ?_
          refine AllV_nil ?_
          refine O_loadA (vs := [_, _, _, _, _, _]) S28 rfl rfl rfl (((((((((((((b9.ext e10).ext e11).chg q12 (by first | assumption | omega)).ext e13).ext e14).chg q15 (by first | assumption | omega)).ext e16).ext e17).chg q18 (by first | assumption | omega)).ext e19).ext e20).chg q21 (by first | assumption | omega)).ext hy46) rfl rfl ?_
          exact WL_nil ⟨(Ext.refl _), rfl⟩
        apply AnyR_val [70, 72, 73] rfl (by kernel_rfl)
        · --
          intro y47 hy47
          have zy47 := hy47.size
          refine AllV_v ?_
          refine AllV_v ?_
          refine AllV_v ?_
          refine AllV_nil ?_
          refine O_call enters11 rfl rfl rfl (ivcmp_c rfl (((((((((((((((((hqA.ext e6).ext e7).chgBk (b6.ext e7) (by decide) q8).chgBk (b7.chg q8 (by first | assumption | omega)) (by decide) q9).ext e10).ext e11).chgBk b11 (by decide) q12).ext e13).ext e14).chgBk b14 (by decide) q15).ext e16).ext e17).chgBk b17 (by decide) q18).ext e19).ext e20).chgBk b20 (by decide) q21).ext hy47).nl rfl (((((((((((((((((hsA.ext e6).ext e7).chgBk (b6.ext e7) (by decide) q8).chgBk (b7.chg q8 (by first | assumption | omega)) (by decide) q9).ext e10).ext e11).chgBk b11 (by decide) q12).ext e13).ext e14).chgBk b14 (by decide) q15).ext e16).ext e17).chgBk b17 (by decide) q18).ext e19).ext e20).chgBk b20 (by decide) q21).ext hy47).nl (by first | with_reducible assumption | exact dval_dman _ _ | exact dval_zero) (by first | with_reducible assumption | exact dval_dman _ _ | exact dval_zero) rfl (((((((((((((((((htA.ext e6).ext e7).chgBk (b6.ext e7) (by decide) q8).chgBk (b7.chg q8 (by first | assumption | omega)) (by decide) q9).ext e10).ext e11).chgBk b11 (by decide) q12).ext e13).ext e14).chgBk b14 (by decide) q15).ext e16).ext e17).chgBk b17 (by decide) q18).ext e19).ext e20).chgBk b20 (by decide) q21).ext hy47).nl rfl (((((((((((((((((hvA.ext e6).ext e7).chgBk (b6.ext e7) (by decide) q8).chgBk (b7.chg q8 (by first | assumption | omega)) (by decide) q9).ext e10).ext e11).chgBk b11 (by decide) q12).ext e13).ext e14).chgBk b14 (by decide) q15).ext e16).ext e17).chgBk b17 (by decide) q18).ext e19).ext e20).chgBk b20 (by decide) q21).ext hy47).nl (by first | with_reducible assumption | exact dval_dman _ _ | exact dval_zero) (by first | with_reducible assumption | exact dval_dman _ _ | exact dval_zero)) (fun v48 w48 e48 h48 => ?_)
          have z48 := e48.size
          obtain rfl := h48
          exact WL_nil ⟨e48, rfl⟩
        apply AnyR_val [70, 74] rfl (by kernel_rfl)
        · --
          intro y49 hy49
          have zy49 := hy49.size
          refine AllV_v ?_
          refine AllV_v ?_
          refine AllV_nil ?_
          refine O_eql (t := true) rfl rfl rfl rfl (decide_eq_true (hmc.2 ho)) ?_
          exact WL_nil ⟨(Ext.refl _), rfl⟩
        refine AnyR_nil fun y50 hy50 => ?_
        have zy50 := hy50.size
        refine AllV_v ?_
        refine AllV_v ?_
        refine AllV_v ?_
        refine AllV_v ?_
        refine AllV_v ?_
        refine AllV_v ?_
        refine AllV_v ?_
        refine AllV_v ?_
        refine AllV_v ?_
        refine AllV_v ?_
        refine AllV_v ?_
        refine AllV_v ?_
        refine AllV_v ?_
        refine AllV_r fun a51 b51 v51 la51 lb51 lc51 h51 ap51 => ?_
        clear ap51
        obtain ⟨_, rfl, v51_0, _, rfl, rfl, v51_1, _, rfl, h51_1, v51_2, _, rfl, rfl, v51_3, _, rfl, rfl, v51_4, _, rfl, h51_4, v51_5, _, rfl, rfl, rfl⟩ := h51
        refine AllV_v ?_
        refine AllV_v ?_
        refine AllV_v ?_
        refine AllV_v ?_
        refine AllV_v ?_
        refine AllV_v ?_
        refine AllV_v ?_
        refine AllV_v ?_
        refine AllV_v ?_
        refine AllV_nil ?_
        refine O_bneq Try.underlying4 rfl rfl rfl rfl rfl ?_
        refine O_pickF rfl rfl rfl rfl ?_
        refine WL_end [(7, _), (8, _), (10, _), (12, _), (13, _), (16, _), (77, _)] ⟨rfl, rfl, rfl, rfl, rfl, rfl, rfl, trivial⟩ ?_
        refine WP_condF rfl ?_
        refine WP_skip ?_
        refine WP_seq ?_
        refine WP_region ?_
        refine O_loadA (vs := [_, _, _, _, _, _]) S28 rfl rfl rfl ((((((((((((((b8.chg q9 (by first | assumption | omega)).ext e10).ext e11).chg q12 (by first | assumption | omega)).ext e13).ext e14).chg q15 (by first | assumption | omega)).ext e16).ext e17).chg q18 (by first | assumption | omega)).ext e19).ext e20).chg q21 (by first | assumption | omega)).ext hy50) rfl rfl ?_
        refine O_loadA (vs := [_, _, _]) S48 rfl rfl rfl ((((((((((b12.ext e13).ext e14).chg q15 (by first | assumption | omega)).ext e16).ext e17).chg q18 (by first | assumption | omega)).ext e19).ext e20).chg q21 (by first | assumption | omega)).ext hy50) rfl rfl ?_
        refine O_call enters23 rfl rfl rfl (ivhas_c rfl (((((((((((((((((hqA.ext e6).ext e7).chgBk (b6.ext e7) (by decide) q8).chgBk (b7.chg q8 (by first | assumption | omega)) (by decide) q9).ext e10).ext e11).chgBk b11 (by decide) q12).ext e13).ext e14).chgBk b14 (by decide) q15).ext e16).ext e17).chgBk b17 (by decide) q18).ext e19).ext e20).chgBk b20 (by decide) q21).ext hy50).nl rfl (((((((((((((((((hsA.ext e6).ext e7).chgBk (b6.ext e7) (by decide) q8).chgBk (b7.chg q8 (by first | assumption | omega)) (by decide) q9).ext e10).ext e11).chgBk b11 (by decide) q12).ext e13).ext e14).chgBk b14 (by decide) q15).ext e16).ext e17).chgBk b17 (by decide) q18).ext e19).ext e20).chgBk b20 (by decide) q21).ext hy50).nl (by first | with_reducible assumption | exact dval_dman _ _ | exact dval_zero | exact dval_dg (by assumption) (by assumption) | exact dval_dl (by assumption) (by assumption)) (by first | with_reducible assumption | exact dval_dman _ _ | exact dval_zero | exact dval_dg (by assumption) (by assumption) | exact dval_dl (by assumption) (by assumption)) rfl ((((((((((((hnR.ext e11).chgBk b11 (by decide) q12).ext e13).ext e14).chgBk b14 (by decide) q15).ext e16).ext e17).chgBk b17 (by decide) q18).ext e19).ext e20).chgBk b20 (by decide) q21).ext hy50).nl ((((((((((((hdR.ext e11).chgBk b11 (by decide) q12).ext e13).ext e14).chgBk b14 (by decide) q15).ext e16).ext e17).chgBk b17 (by decide) q18).ext e19).ext e20).chgBk b20 (by decide) q21).ext hy50).nl (by first | with_reducible assumption | omega) (by first | with_reducible assumption | omega)) (fun v52 w52 e52 h52 => ?_)
        have z52 := e52.size
        obtain rfl := h52
        refine O_move rfl rfl rfl ?_
        refine WL_bool 81 rfl (fun g81 => ?_) (fun g81 => ?_)
        · --
          refine O_loadA (vs := [_, _, _, _, _, _]) S28 rfl rfl rfl ((((((((((((((b9.ext e10).ext e11).chg q12 (by first | assumption | omega)).ext e13).ext e14).chg q15 (by first | assumption | omega)).ext e16).ext e17).chg q18 (by first | assumption | omega)).ext e19).ext e20).chg q21 (by first | assumption | omega)).ext hy50).ext e52) rfl rfl ?_
          refine O_loadA (vs := [_, _, _]) S48 rfl rfl rfl (((((((((((b12.ext e13).ext e14).chg q15 (by first | assumption | omega)).ext e16).ext e17).chg q18 (by first | assumption | omega)).ext e19).ext e20).chg q21 (by first | assumption | omega)).ext hy50).ext e52) rfl rfl ?_
          refine O_call enters23 rfl rfl rfl (ivhas_c rfl ((((((((((((((((((htA.ext e6).ext e7).chgBk (b6.ext e7) (by decide) q8).chgBk (b7.chg q8 (by first | assumption | omega)) (by decide) q9).ext e10).ext e11).chgBk b11 (by decide) q12).ext e13).ext e14).chgBk b14 (by decide) q15).ext e16).ext e17).chgBk b17 (by decide) q18).ext e19).ext e20).chgBk b20 (by decide) q21).ext hy50).ext e52).nl rfl ((((((((((((((((((hvA.ext e6).ext e7).chgBk (b6.ext e7) (by decide) q8).chgBk (b7.chg q8 (by first | assumption | omega)) (by decide) q9).ext e10).ext e11).chgBk b11 (by decide) q12).ext e13).ext e14).chgBk b14 (by decide) q15).ext e16).ext e17).chgBk b17 (by decide) q18).ext e19).ext e20).chgBk b20 (by decide) q21).ext hy50).ext e52).nl (by first | with_reducible assumption | exact dval_dman _ _ | exact dval_zero | exact dval_dg (by assumption) (by assumption) | exact dval_dl (by assumption) (by assumption)) (by first | with_reducible assumption | exact dval_dman _ _ | exact dval_zero | exact dval_dg (by assumption) (by assumption) | exact dval_dl (by assumption) (by assumption)) rfl (((((((((((((hnR.ext e11).chgBk b11 (by decide) q12).ext e13).ext e14).chgBk b14 (by decide) q15).ext e16).ext e17).chgBk b17 (by decide) q18).ext e19).ext e20).chgBk b20 (by decide) q21).ext hy50).ext e52).nl (((((((((((((hdR.ext e11).chgBk b11 (by decide) q12).ext e13).ext e14).chgBk b14 (by decide) q15).ext e16).ext e17).chgBk b17 (by decide) q18).ext e19).ext e20).chgBk b20 (by decide) q21).ext hy50).ext e52).nl (by first | with_reducible assumption | omega) (by first | with_reducible assumption | omega)) (fun v53 w53 e53 h53 => ?_)
          have z53 := e53.size
          obtain rfl := h53
          refine O_pickT rfl rfl rfl rfl ?_
          refine O_assign rfl rfl rfl ?_
          refine WL_end [(7, _), (8, _), (10, _), (12, _), (13, _), (16, _), (17, _)] ⟨rfl, rfl, rfl, rfl, rfl, rfl, rfl, trivial⟩ ?_
          refine WP_seq ?_
          refine WP_region ?_
          refine O_move rfl rfl rfl ?_
          refine O_move rfl rfl rfl ?_
          refine O_move rfl rfl rfl ?_
          refine O_loadA (vs := [_, _, _, _, _, _]) S28 rfl rfl rfl (((((((((b15.ext e16).ext e17).chg q18 (by first | assumption | omega)).ext e19).ext e20).chg q21 (by first | assumption | omega)).ext hy50).ext e52).ext e53) rfl rfl ?_
          refine O_loadA (vs := [_, _, _]) S48 rfl rfl rfl ((((((((((((b12.ext e13).ext e14).chg q15 (by first | assumption | omega)).ext e16).ext e17).chg q18 (by first | assumption | omega)).ext e19).ext e20).chg q21 (by first | assumption | omega)).ext hy50).ext e52).ext e53) rfl rfl ?_
          refine O_call enters23 rfl rfl rfl (ivhas_c rfl (((((((((((hmq13.ext e14).chgBk b14 (by decide) q15).ext e16).ext e17).chgBk b17 (by decide) q18).ext e19).ext e20).chgBk b20 (by decide) q21).ext hy50).ext e52).ext e53).nl rfl (((((((((((hms13.ext e14).chgBk b14 (by decide) q15).ext e16).ext e17).chgBk b17 (by decide) q18).ext e19).ext e20).chgBk b20 (by decide) q21).ext hy50).ext e52).ext e53).nl (by first | with_reducible assumption | exact dval_dman _ _ | exact dval_zero | exact dval_dg (by assumption) (by assumption) | exact dval_dl (by assumption) (by assumption)) (by first | with_reducible assumption | exact dval_dman _ _ | exact dval_zero | exact dval_dg (by assumption) (by assumption) | exact dval_dl (by assumption) (by assumption)) rfl ((((((((((((((hnR.ext e11).chgBk b11 (by decide) q12).ext e13).ext e14).chgBk b14 (by decide) q15).ext e16).ext e17).chgBk b17 (by decide) q18).ext e19).ext e20).chgBk b20 (by decide) q21).ext hy50).ext e52).ext e53).nl ((((((((((((((hdR.ext e11).chgBk b11 (by decide) q12).ext e13).ext e14).chgBk b14 (by decide) q15).ext e16).ext e17).chgBk b17 (by decide) q18).ext e19).ext e20).chgBk b20 (by decide) q21).ext hy50).ext e52).ext e53).nl (by first | with_reducible assumption | omega) (by first | with_reducible assumption | omega)) (fun v54 w54 e54 h54 => ?_)
          have z54 := e54.size
          obtain rfl := h54
          refine O_pickT rfl rfl rfl rfl ?_
          refine O_beql Try.underlying4 (t := true) rfl rfl rfl rfl (by simp [hmh, g81]) ?_
          refine O_move rfl rfl rfl ?_
          refine O_loadA (vs := [_, _, _, _, _, _]) S28 rfl rfl rfl (((((((((((((((((b8.chg q9 (by first | assumption | omega)).ext e10).ext e11).chg q12 (by first | assumption | omega)).ext e13).ext e14).chg q15 (by first | assumption | omega)).ext e16).ext e17).chg q18 (by first | assumption | omega)).ext e19).ext e20).chg q21 (by first | assumption | omega)).ext hy50).ext e52).ext e53).ext e54) rfl rfl ?_
          refine O_loadA (vs := [_, _, _, _, _, _]) S28 rfl rfl rfl ((((b21.ext hy50).ext e52).ext e53).ext e54) rfl rfl ?_
          refine O_call enters25 rfl rfl rfl (ivwithinT_c rfl ((((((((((((((((((((hqA.ext e6).ext e7).chgBk (b6.ext e7) (by decide) q8).chgBk (b7.chg q8 (by first | assumption | omega)) (by decide) q9).ext e10).ext e11).chgBk b11 (by decide) q12).ext e13).ext e14).chgBk b14 (by decide) q15).ext e16).ext e17).chgBk b17 (by decide) q18).ext e19).ext e20).chgBk b20 (by decide) q21).ext hy50).ext e52).ext e53).ext e54).nl rfl ((((((((((((((((((((hsA.ext e6).ext e7).chgBk (b6.ext e7) (by decide) q8).chgBk (b7.chg q8 (by first | assumption | omega)) (by decide) q9).ext e10).ext e11).chgBk b11 (by decide) q12).ext e13).ext e14).chgBk b14 (by decide) q15).ext e16).ext e17).chgBk b17 (by decide) q18).ext e19).ext e20).chgBk b20 (by decide) q21).ext hy50).ext e52).ext e53).ext e54).nl (by first | with_reducible assumption | exact dval_dman _ _ | exact dval_zero | exact dval_dg (by assumption) (by assumption) | exact dval_dl (by assumption) (by assumption)) (by first | with_reducible assumption | exact dval_dman _ _ | exact dval_zero | exact dval_dg (by assumption) (by assumption) | exact dval_dl (by assumption) (by assumption)) rfl ((((((hmq19.ext e20).chgBk b20 (by decide) q21).ext hy50).ext e52).ext e53).ext e54).nl rfl ((((((hms19.ext e20).chgBk b20 (by decide) q21).ext hy50).ext e52).ext e53).ext e54).nl (by first | with_reducible assumption | exact dval_dman _ _ | exact dval_zero | exact dval_dg (by assumption) (by assumption) | exact dval_dl (by assumption) (by assumption)) (by first | with_reducible assumption | exact dval_dman _ _ | exact dval_zero | exact dval_dg (by assumption) (by assumption) | exact dval_dl (by assumption) (by assumption)) (hull_left hX hY hZ hU)) (fun v55 w55 e55 h55 => ?_)
          have z55 := e55.size
          obtain rfl := h55
          refine O_pickT rfl rfl rfl rfl ?_
          refine O_move rfl rfl rfl ?_
          refine O_loadA (vs := [_, _, _, _, _, _]) S28 rfl rfl rfl (((((((((((((((((b9.ext e10).ext e11).chg q12 (by first | assumption | omega)).ext e13).ext e14).chg q15 (by first | assumption | omega)).ext e16).ext e17).chg q18 (by first | assumption | omega)).ext e19).ext e20).chg q21 (by first | assumption | omega)).ext hy50).ext e52).ext e53).ext e54).ext e55) rfl rfl ?_
          refine O_loadA (vs := [_, _, _, _, _, _]) S28 rfl rfl rfl (((((b21.ext hy50).ext e52).ext e53).ext e54).ext e55) rfl rfl ?_
          refine O_call enters25 rfl rfl rfl (ivwithinT_c rfl (((((((((((((((((((((htA.ext e6).ext e7).chgBk (b6.ext e7) (by decide) q8).chgBk (b7.chg q8 (by first | assumption | omega)) (by decide) q9).ext e10).ext e11).chgBk b11 (by decide) q12).ext e13).ext e14).chgBk b14 (by decide) q15).ext e16).ext e17).chgBk b17 (by decide) q18).ext e19).ext e20).chgBk b20 (by decide) q21).ext hy50).ext e52).ext e53).ext e54).ext e55).nl rfl (((((((((((((((((((((hvA.ext e6).ext e7).chgBk (b6.ext e7) (by decide) q8).chgBk (b7.chg q8 (by first | assumption | omega)) (by decide) q9).ext e10).ext e11).chgBk b11 (by decide) q12).ext e13).ext e14).chgBk b14 (by decide) q15).ext e16).ext e17).chgBk b17 (by decide) q18).ext e19).ext e20).chgBk b20 (by decide) q21).ext hy50).ext e52).ext e53).ext e54).ext e55).nl (by first | with_reducible assumption | exact dval_dman _ _ | exact dval_zero | exact dval_dg (by assumption) (by assumption) | exact dval_dl (by assumption) (by assumption)) (by first | with_reducible assumption | exact dval_dman _ _ | exact dval_zero | exact dval_dg (by assumption) (by assumption) | exact dval_dl (by assumption) (by assumption)) rfl (((((((hmq19.ext e20).chgBk b20 (by decide) q21).ext hy50).ext e52).ext e53).ext e54).ext e55).nl rfl (((((((hms19.ext e20).chgBk b20 (by decide) q21).ext hy50).ext e52).ext e53).ext e54).ext e55).nl (by first | with_reducible assumption | exact dval_dman _ _ | exact dval_zero | exact dval_dg (by assumption) (by assumption) | exact dval_dl (by assumption) (by assumption)) (by first | with_reducible assumption | exact dval_dman _ _ | exact dval_zero | exact dval_dg (by assumption) (by assumption) | exact dval_dl (by assumption) (by assumption)) (hull_right hX hY hZ hU)) (fun v56 w56 e56 h56 => ?_)
          have z56 := e56.size
          obtain rfl := h56
          refine O_pickT rfl rfl rfl rfl ?_
          refine O_assign rfl rfl rfl ?_
          refine WL_end [(6, _)] ⟨rfl, trivial⟩ ?_
          refine WP_ret ?_
          refine ret1 Try.results6 rfl ?_
          exact ⟨_, rfl, ((((((e21.trans hy50).trans e52).trans e53).trans e54).trans e55).trans e56), rfl⟩
        · --
          refine O_skip rfl rfl ?_
          refine O_skip rfl rfl ?_
          refine O_skip rfl rfl ?_
          refine O_pickF rfl rfl rfl rfl ?_
          refine O_assign rfl rfl rfl ?_
          refine WL_end [(7, _), (8, _), (10, _), (12, _), (13, _), (16, _), (17, _)] ⟨rfl, rfl, rfl, rfl, rfl, rfl, rfl, trivial⟩ ?_
          refine WP_seq ?_
          refine WP_region ?_
          refine O_move rfl rfl rfl ?_
          refine O_move rfl rfl rfl ?_
          refine O_move rfl rfl rfl ?_
          refine O_loadA (vs := [_, _, _, _, _, _]) S28 rfl rfl rfl ((((((((b15.ext e16).ext e17).chg q18 (by first | assumption | omega)).ext e19).ext e20).chg q21 (by first | assumption | omega)).ext hy50).ext e52) rfl rfl ?_
          refine O_loadA (vs := [_, _, _]) S48 rfl rfl rfl (((((((((((b12.ext e13).ext e14).chg q15 (by first | assumption | omega)).ext e16).ext e17).chg q18 (by first | assumption | omega)).ext e19).ext e20).chg q21 (by first | assumption | omega)).ext hy50).ext e52) rfl rfl ?_
          refine O_call enters23 rfl rfl rfl (ivhas_c rfl ((((((((((hmq13.ext e14).chgBk b14 (by decide) q15).ext e16).ext e17).chgBk b17 (by decide) q18).ext e19).ext e20).chgBk b20 (by decide) q21).ext hy50).ext e52).nl rfl ((((((((((hms13.ext e14).chgBk b14 (by decide) q15).ext e16).ext e17).chgBk b17 (by decide) q18).ext e19).ext e20).chgBk b20 (by decide) q21).ext hy50).ext e52).nl (by first | with_reducible assumption | exact dval_dman _ _ | exact dval_zero | exact dval_dg (by assumption) (by assumption) | exact dval_dl (by assumption) (by assumption)) (by first | with_reducible assumption | exact dval_dman _ _ | exact dval_zero | exact dval_dg (by assumption) (by assumption) | exact dval_dl (by assumption) (by assumption)) rfl (((((((((((((hnR.ext e11).chgBk b11 (by decide) q12).ext e13).ext e14).chgBk b14 (by decide) q15).ext e16).ext e17).chgBk b17 (by decide) q18).ext e19).ext e20).chgBk b20 (by decide) q21).ext hy50).ext e52).nl (((((((((((((hdR.ext e11).chgBk b11 (by decide) q12).ext e13).ext e14).chgBk b14 (by decide) q15).ext e16).ext e17).chgBk b17 (by decide) q18).ext e19).ext e20).chgBk b20 (by decide) q21).ext hy50).ext e52).nl (by first | with_reducible assumption | omega) (by first | with_reducible assumption | omega)) (fun v57 w57 e57 h57 => ?_)
          have z57 := e57.size
          obtain rfl := h57
          refine O_pickT rfl rfl rfl rfl ?_
          refine O_beql Try.underlying4 (t := true) rfl rfl rfl rfl (by simp [hmh, g81]) ?_
          refine O_move rfl rfl rfl ?_
          refine O_loadA (vs := [_, _, _, _, _, _]) S28 rfl rfl rfl ((((((((((((((((b8.chg q9 (by first | assumption | omega)).ext e10).ext e11).chg q12 (by first | assumption | omega)).ext e13).ext e14).chg q15 (by first | assumption | omega)).ext e16).ext e17).chg q18 (by first | assumption | omega)).ext e19).ext e20).chg q21 (by first | assumption | omega)).ext hy50).ext e52).ext e57) rfl rfl ?_
          refine O_loadA (vs := [_, _, _, _, _, _]) S28 rfl rfl rfl (((b21.ext hy50).ext e52).ext e57) rfl rfl ?_
          refine O_call enters25 rfl rfl rfl (ivwithinT_c rfl (((((((((((((((((((hqA.ext e6).ext e7).chgBk (b6.ext e7) (by decide) q8).chgBk (b7.chg q8 (by first | assumption | omega)) (by decide) q9).ext e10).ext e11).chgBk b11 (by decide) q12).ext e13).ext e14).chgBk b14 (by decide) q15).ext e16).ext e17).chgBk b17 (by decide) q18).ext e19).ext e20).chgBk b20 (by decide) q21).ext hy50).ext e52).ext e57).nl rfl (((((((((((((((((((hsA.ext e6).ext e7).chgBk (b6.ext e7) (by decide) q8).chgBk (b7.chg q8 (by first | assumption | omega)) (by decide) q9).ext e10).ext e11).chgBk b11 (by decide) q12).ext e13).ext e14).chgBk b14 (by decide) q15).ext e16).ext e17).chgBk b17 (by decide) q18).ext e19).ext e20).chgBk b20 (by decide) q21).ext hy50).ext e52).ext e57).nl (by first | with_reducible assumption | exact dval_dman _ _ | exact dval_zero | exact dval_dg (by assumption) (by assumption) | exact dval_dl (by assumption) (by assumption)) (by first | with_reducible assumption | exact dval_dman _ _ | exact dval_zero | exact dval_dg (by assumption) (by assumption) | exact dval_dl (by assumption) (by assumption)) rfl (((((hmq19.ext e20).chgBk b20 (by decide) q21).ext hy50).ext e52).ext e57).nl rfl (((((hms19.ext e20).chgBk b20 (by decide) q21).ext hy50).ext e52).ext e57).nl (by first | with_reducible assumption | exact dval_dman _ _ | exact dval_zero | exact dval_dg (by assumption) (by assumption) | exact dval_dl (by assumption) (by assumption)) (by first | with_reducible assumption | exact dval_dman _ _ | exact dval_zero | exact dval_dg (by assumption) (by assumption) | exact dval_dl (by assumption) (by assumption)) (hull_left hX hY hZ hU)) (fun v58 w58 e58 h58 => ?_)
          have z58 := e58.size
          obtain rfl := h58
          refine O_pickT rfl rfl rfl rfl ?_
          refine O_move rfl rfl rfl ?_
          refine O_loadA (vs := [_, _, _, _, _, _]) S28 rfl rfl rfl ((((((((((((((((b9.ext e10).ext e11).chg q12 (by first | assumption | omega)).ext e13).ext e14).chg q15 (by first | assumption | omega)).ext e16).ext e17).chg q18 (by first | assumption | omega)).ext e19).ext e20).chg q21 (by first | assumption | omega)).ext hy50).ext e52).ext e57).ext e58) rfl rfl ?_
          refine O_loadA (vs := [_, _, _, _, _, _]) S28 rfl rfl rfl ((((b21.ext hy50).ext e52).ext e57).ext e58) rfl rfl ?_
          refine O_call enters25 rfl rfl rfl (ivwithinT_c rfl ((((((((((((((((((((htA.ext e6).ext e7).chgBk (b6.ext e7) (by decide) q8).chgBk (b7.chg q8 (by first | assumption | omega)) (by decide) q9).ext e10).ext e11).chgBk b11 (by decide) q12).ext e13).ext e14).chgBk b14 (by decide) q15).ext e16).ext e17).chgBk b17 (by decide) q18).ext e19).ext e20).chgBk b20 (by decide) q21).ext hy50).ext e52).ext e57).ext e58).nl rfl ((((((((((((((((((((hvA.ext e6).ext e7).chgBk (b6.ext e7) (by decide) q8).chgBk (b7.chg q8 (by first | assumption | omega)) (by decide) q9).ext e10).ext e11).chgBk b11 (by decide) q12).ext e13).ext e14).chgBk b14 (by decide) q15).ext e16).ext e17).chgBk b17 (by decide) q18).ext e19).ext e20).chgBk b20 (by decide) q21).ext hy50).ext e52).ext e57).ext e58).nl (by first | with_reducible assumption | exact dval_dman _ _ | exact dval_zero | exact dval_dg (by assumption) (by assumption) | exact dval_dl (by assumption) (by assumption)) (by first | with_reducible assumption | exact dval_dman _ _ | exact dval_zero | exact dval_dg (by assumption) (by assumption) | exact dval_dl (by assumption) (by assumption)) rfl ((((((hmq19.ext e20).chgBk b20 (by decide) q21).ext hy50).ext e52).ext e57).ext e58).nl rfl ((((((hms19.ext e20).chgBk b20 (by decide) q21).ext hy50).ext e52).ext e57).ext e58).nl (by first | with_reducible assumption | exact dval_dman _ _ | exact dval_zero | exact dval_dg (by assumption) (by assumption) | exact dval_dl (by assumption) (by assumption)) (by first | with_reducible assumption | exact dval_dman _ _ | exact dval_zero | exact dval_dg (by assumption) (by assumption) | exact dval_dl (by assumption) (by assumption)) (hull_right hX hY hZ hU)) (fun v59 w59 e59 h59 => ?_)
          have z59 := e59.size
          obtain rfl := h59
          refine O_pickT rfl rfl rfl rfl ?_
          refine O_assign rfl rfl rfl ?_
          refine WL_end [(6, _)] ⟨rfl, trivial⟩ ?_
          refine WP_ret ?_
          refine ret1 Try.results6 rfl ?_
          exact ⟨_, rfl, (((((e21.trans hy50).trans e52).trans e57).trans e58).trans e59), rfl⟩
      · have hmh := meet_not (p := P) (q := Q) hX hY hZ hU hXY hZU ho hQ0
        refine WP_region ?_
        refine O_loadA (vs := [_, _, _, _, _, _]) S28 rfl rfl rfl ((((b8.chg q9 (by first | assumption | omega)).ext e10).ext e11).chg q12 (by first | assumption | omega)) rfl rfl ?_
        refine O_loadA (vs := [_, _, _, _, _, _]) S28 rfl rfl rfl (((b9.ext e10).ext e11).chg q12 (by first | assumption | omega)) rfl rfl ?_
        refine O_call enters28 rfl rfl rfl (meet_F rfl ((((((((hqA.ext e6).ext e7).chgBk (b6.ext e7) (by decide) q8).chgBk (b7.chg q8 (by first | assumption | omega)) (by decide) q9).ext e10).ext e11).chgBk b11 (by decide) q12).mono (Nat.zero_le _)) rfl ((((((((hsA.ext e6).ext e7).chgBk (b6.ext e7) (by decide) q8).chgBk (b7.chg q8 (by first | assumption | omega)) (by decide) q9).ext e10).ext e11).chgBk b11 (by decide) q12).mono (Nat.zero_le _)) (by first | with_reducible assumption | exact dval_dman _ _ | exact dval_zero | exact dval_dg (by assumption) (by assumption) | exact dval_dl (by assumption) (by assumption)) (by first | with_reducible assumption | exact dval_dman _ _ | exact dval_zero | exact dval_dg (by assumption) (by assumption) | exact dval_dl (by assumption) (by assumption)) rfl ((((((((htA.ext e6).ext e7).chgBk (b6.ext e7) (by decide) q8).chgBk (b7.chg q8 (by first | assumption | omega)) (by decide) q9).ext e10).ext e11).chgBk b11 (by decide) q12).mono (Nat.zero_le _)) rfl ((((((((hvA.ext e6).ext e7).chgBk (b6.ext e7) (by decide) q8).chgBk (b7.chg q8 (by first | assumption | omega)) (by decide) q9).ext e10).ext e11).chgBk b11 (by decide) q12).mono (Nat.zero_le _)) (by first | with_reducible assumption | exact dval_dman _ _ | exact dval_zero | exact dval_dg (by assumption) (by assumption) | exact dval_dl (by assumption) (by assumption)) (by first | with_reducible assumption | exact dval_dman _ _ | exact dval_zero | exact dval_dg (by assumption) (by assumption) | exact dval_dl (by assumption) (by assumption)) ho) (fun v60 w60 e60 h60 => ?_)
        have z60 := e60.size
        try simp only [val_dig] at h60
        obtain rfl := h60
        refine O_move rfl rfl rfl ?_
        refine O_extract rfl rfl rfl rfl ?_
        refine O_extract rfl rfl rfl rfl ?_
        refine O_alloc S28 rfl rfl (fun g61 w61 b61 e61 gl61 gh61 => ?_)
        have z61 := e61.size
        refine O_storeA (cs' := [_, _, _, _, _, _]) S28 rfl rfl rfl b61 rfl rfl (one_cons rfl (one_cons rfl (one_cons rfl (one_cons rfl (one_cons rfl (one_cons rfl one_nil)))))) rfl (fun w62 b62 q62 => ?_)
        have z62 := Nat.le_of_eq q62.size.symm
        have e62 : Ext w w62 := q62.ext ((e12.trans e60).trans e61) (by omega)
        refine O_assign rfl rfl rfl ?_
        refine WL_end [(7, _), (8, _), (10, _), (12, _), (13, _)] ⟨rfl, rfl, rfl, rfl, rfl, trivial⟩ ?_
        refine WP_seq ?_
        refine WP_region ?_
        refine O_loadA (vs := [_, _, _, _, _, _]) S28 rfl rfl rfl (((((((b8.chg q9 (by first | assumption | omega)).ext e10).ext e11).chg q12 (by first | assumption | omega)).ext e60).ext e61).chg q62 (by first | assumption | omega)) rfl rfl ?_
        refine O_loadA (vs := [_, _, _, _, _, _]) S28 rfl rfl rfl ((((((b9.ext e10).ext e11).chg q12 (by first | assumption | omega)).ext e60).ext e61).chg q62 (by first | assumption | omega)) rfl rfl ?_
        refine O_call enters29 rfl rfl rfl (rmeet_F rfl (((((((((((hqA.ext e6).ext e7).chgBk (b6.ext e7) (by decide) q8).chgBk (b7.chg q8 (by first | assumption | omega)) (by decide) q9).ext e10).ext e11).chgBk b11 (by decide) q12).ext e60).ext e61).chgBk b61 (by decide) q62).mono (Nat.zero_le _)) rfl (((((((((((hsA.ext e6).ext e7).chgBk (b6.ext e7) (by decide) q8).chgBk (b7.chg q8 (by first | assumption | omega)) (by decide) q9).ext e10).ext e11).chgBk b11 (by decide) q12).ext e60).ext e61).chgBk b61 (by decide) q62).mono (Nat.zero_le _)) (by first | with_reducible assumption | exact dval_dman _ _ | exact dval_zero | exact dval_dg (by assumption) (by assumption) | exact dval_dl (by assumption) (by assumption)) (by first | with_reducible assumption | exact dval_dman _ _ | exact dval_zero | exact dval_dg (by assumption) (by assumption) | exact dval_dl (by assumption) (by assumption)) rfl (((((((((((htA.ext e6).ext e7).chgBk (b6.ext e7) (by decide) q8).chgBk (b7.chg q8 (by first | assumption | omega)) (by decide) q9).ext e10).ext e11).chgBk b11 (by decide) q12).ext e60).ext e61).chgBk b61 (by decide) q62).mono (Nat.zero_le _)) rfl (((((((((((hvA.ext e6).ext e7).chgBk (b6.ext e7) (by decide) q8).chgBk (b7.chg q8 (by first | assumption | omega)) (by decide) q9).ext e10).ext e11).chgBk b11 (by decide) q12).ext e60).ext e61).chgBk b61 (by decide) q62).mono (Nat.zero_le _)) (by first | with_reducible assumption | exact dval_dman _ _ | exact dval_zero | exact dval_dg (by assumption) (by assumption) | exact dval_dl (by assumption) (by assumption)) (by first | with_reducible assumption | exact dval_dman _ _ | exact dval_zero | exact dval_dg (by assumption) (by assumption) | exact dval_dl (by assumption) (by assumption)) ho) (fun v63 w63 e63 h63 => ?_)
        have z63 := e63.size
        try simp only [val_dig] at h63
        obtain rfl := h63
        refine O_move rfl rfl rfl ?_
        refine O_extract rfl rfl rfl rfl ?_
        refine O_extract rfl rfl rfl rfl ?_
        refine O_alloc S28 rfl rfl (fun g64 w64 b64 e64 gl64 gh64 => ?_)
        have z64 := e64.size
        refine O_storeA (cs' := [_, _, _, _, _, _]) S28 rfl rfl rfl b64 rfl rfl (one_cons rfl (one_cons rfl (one_cons rfl (one_cons rfl (one_cons rfl (one_cons rfl one_nil)))))) rfl (fun w65 b65 q65 => ?_)
        have z65 := Nat.le_of_eq q65.size.symm
        have e65 : Ext w w65 := q65.ext ((e62.trans e63).trans e64) (by omega)
        refine O_assign rfl rfl rfl ?_
        refine WL_end [(7, _), (8, _), (10, _), (12, _), (13, _), (14, _), (15, _)] ⟨rfl, rfl, rfl, rfl, rfl, rfl, rfl, trivial⟩ ?_
        refine WP_seq ?_
        refine WP_region ?_
        refine O_loadA (vs := [_, _, _, _, _, _]) S28 rfl rfl rfl ((((((((((b8.chg q9 (by first | assumption | omega)).ext e10).ext e11).chg q12 (by first | assumption | omega)).ext e60).ext e61).chg q62 (by first | assumption | omega)).ext e63).ext e64).chg q65 (by first | assumption | omega)) rfl rfl ?_
        refine O_loadA (vs := [_, _, _, _, _, _]) S28 rfl rfl rfl (((((((((b9.ext e10).ext e11).chg q12 (by first | assumption | omega)).ext e60).ext e61).chg q62 (by first | assumption | omega)).ext e63).ext e64).chg q65 (by first | assumption | omega)) rfl rfl ?_
        refine O_call enters30 rfl rfl rfl (hull_c rfl ((((((((((((((hqA.ext e6).ext e7).chgBk (b6.ext e7) (by decide) q8).chgBk (b7.chg q8 (by first | assumption | omega)) (by decide) q9).ext e10).ext e11).chgBk b11 (by decide) q12).ext e60).ext e61).chgBk b61 (by decide) q62).ext e63).ext e64).chgBk b64 (by decide) q65).mono (Nat.zero_le _)) rfl ((((((((((((((hsA.ext e6).ext e7).chgBk (b6.ext e7) (by decide) q8).chgBk (b7.chg q8 (by first | assumption | omega)) (by decide) q9).ext e10).ext e11).chgBk b11 (by decide) q12).ext e60).ext e61).chgBk b61 (by decide) q62).ext e63).ext e64).chgBk b64 (by decide) q65).mono (Nat.zero_le _)) (by first | with_reducible assumption | exact dval_dman _ _ | exact dval_zero | exact dval_dg (by assumption) (by assumption) | exact dval_dl (by assumption) (by assumption)) (by first | with_reducible assumption | exact dval_dman _ _ | exact dval_zero | exact dval_dg (by assumption) (by assumption) | exact dval_dl (by assumption) (by assumption)) rfl ((((((((((((((htA.ext e6).ext e7).chgBk (b6.ext e7) (by decide) q8).chgBk (b7.chg q8 (by first | assumption | omega)) (by decide) q9).ext e10).ext e11).chgBk b11 (by decide) q12).ext e60).ext e61).chgBk b61 (by decide) q62).ext e63).ext e64).chgBk b64 (by decide) q65).mono (Nat.zero_le _)) rfl ((((((((((((((hvA.ext e6).ext e7).chgBk (b6.ext e7) (by decide) q8).chgBk (b7.chg q8 (by first | assumption | omega)) (by decide) q9).ext e10).ext e11).chgBk b11 (by decide) q12).ext e60).ext e61).chgBk b61 (by decide) q62).ext e63).ext e64).chgBk b64 (by decide) q65).mono (Nat.zero_le _)) (by first | with_reducible assumption | exact dval_dman _ _ | exact dval_zero | exact dval_dg (by assumption) (by assumption) | exact dval_dl (by assumption) (by assumption)) (by first | with_reducible assumption | exact dval_dman _ _ | exact dval_zero | exact dval_dg (by assumption) (by assumption) | exact dval_dl (by assumption) (by assumption))) (fun v66 w66 e66 h66 => ?_)
        have z66 := e66.size
        try simp only [val_dig] at h66
        obtain ⟨mq66, ms66, rfl, hmq66, hms66⟩ := h66
        refine O_alloc S28 rfl rfl (fun g67 w67 b67 e67 gl67 gh67 => ?_)
        have z67 := e67.size
        refine O_storeA (cs' := [_, _, _, _, _, _]) S28 rfl rfl rfl b67 rfl rfl (one_cons rfl (one_cons ((hmq66.ext e67).nl).one (one_cons rfl (one_cons rfl (one_cons ((hms66.ext e67).nl).one (one_cons rfl one_nil)))))) rfl (fun w68 b68 q68 => ?_)
        have z68 := Nat.le_of_eq q68.size.symm
        have e68 : Ext w w68 := q68.ext ((e65.trans e66).trans e67) (by omega)
        refine WL_end [(7, _), (8, _), (10, _), (12, _), (13, _), (14, _), (15, _), (16, _)] ⟨rfl, rfl, rfl, rfl, rfl, rfl, rfl, rfl, trivial⟩ ?_
        refine WP_seq ?_
        refine WP_seq ?_
        refine WP_sub [(7, _), (8, _), (10, _), (12, _), (13, _), (14, _), (15, _), (16, _)] ⟨rfl, rfl, rfl, rfl, rfl, rfl, rfl, rfl, trivial⟩ ?_
        refine WP_anyR 23 [7, 8, 10, 12, 13, 14, 15, 16] mixed rfl (by kernel_rfl) ?_
        apply AnyR_val [13] rfl (by kernel_rfl)
        · --
          intro y69 hy69
          have zy69 := hy69.size
          refine AllV_nil ?_
          refine O_move rfl rfl rfl ?_
          exact WL_nil ⟨(Ext.refl _), rfl⟩
        apply AnyR_val [15] rfl (by kernel_rfl)
        · --
          intro y70 hy70
          have zy70 := hy70.size
          refine AllV_nil ?_
          refine O_move rfl rfl rfl ?_
          exact WL_nil ⟨(Ext.refl _), rfl⟩
        apply AnyR_val [53, 54] rfl (by kernel_rfl)
        · --
          intro y71 hy71
          have zy71 := hy71.size
          refine AllV_v ?_
          refine AllV_v ?_
          refine AllV_nil ?_
          refine O_bneq Try.underlying4 rfl rfl rfl rfl rfl ?_
          exact WL_nil ⟨(Ext.refl _), rfl⟩
        apply AnyR_val [55] rfl (by kernel_rfl)
        · --
          intro y72 hy72
          have zy72 := hy72.size
          refine AllV_v ?_
          refine AllV_nil ?_
          refine O_move rfl rfl rfl ?_
          exact WL_nil ⟨(Ext.refl _), rfl⟩
        apply AnyR_val [56, 12] rfl (by kernel_rfl)
        · --
          intro y73 hy73
          have zy73 := hy73.size
          refine AllV_v ?_
          refine AllV_nil ?_
          refine O_loadA (vs := [_, _, _, _, _, _]) S28 rfl rfl rfl (((((((b62.ext e63).ext e64).chg q65 (by first | assumption | omega)).ext e66).ext e67).chg q68 (by first | assumption | omega)).ext hy73) rfl rfl ?_
          exact WL_nil ⟨(Ext.refl _), rfl⟩
        apply AnyR_val [56, 14] rfl (by kernel_rfl)
        · --
          intro y74 hy74
          have zy74 := hy74.size
          refine AllV_v ?_
          refine AllV_nil ?_
          refine O_loadA (vs := [_, _, _, _, _, _]) S28 rfl rfl rfl ((((b65.ext e66).ext e67).chg q68 (by first | assumption | omega)).ext hy74) rfl rfl ?_
          exact WL_nil ⟨(Ext.refl _), rfl⟩
        apply AnyR_val [56, 57, 58] rfl (by kernel_rfl)
        · --
          intro y75 hy75
          have zy75 := hy75.size
          refine AllV_v ?_
          refine AllV_v ?_
          refine AllV_v ?_
          refine AllV_nil ?_
          refine O_call enters20 rfl rfl rfl (rivsameT_z) (fun v76 w76 e76 h76 => ?_)
          have z76 := e76.size
          obtain rfl := h76
          exact WL_nil ⟨e76, rfl⟩
        apply AnyR_val [56, 59] rfl (by kernel_rfl)
        · --
          intro y77 hy77
          have zy77 := hy77.size
          refine AllV_v ?_
          refine AllV_v ?_
          refine AllV_nil ?_
          refine O_not rfl rfl rfl rfl ?_
          exact WL_nil ⟨(Ext.refl _), rfl⟩
        apply AnyR_val [56, 60] rfl (by kernel_rfl)
        · --
          intro y78 hy78
          have zy78 := hy78.size
          refine AllV_v ?_
          refine AllV_v ?_
          refine AllV_nil ?_
          refine O_pickF rfl rfl rfl rfl ?_
          exact WL_nil ⟨(Ext.refl _), rfl⟩
        apply AnyR_val [61] rfl (by kernel_rfl)
        · --
          intro y79 hy79
          have zy79 := hy79.size
          refine AllV_v ?_
          refine AllV_nil ?_
          refine O_move rfl rfl rfl ?_
          exact WL_nil ⟨(Ext.refl _), rfl⟩
        apply AnyR_val [62, 16] rfl (by kernel_rfl)
        · --
          intro y80 hy80
          have zy80 := hy80.size
          refine AllV_v ?_
          refine AllV_nil ?_
          refine O_loadA (vs := [_, _, _, _, _, _]) S28 rfl rfl rfl (b68.ext hy80) rfl rfl ?_
          exact WL_nil ⟨(Ext.refl _), rfl⟩
        apply AnyR_val [62, 7] rfl (by kernel_rfl)
        · --
          intro y81 hy81
          have zy81 := hy81.size
          refine AllV_v ?_
          refine AllV_nil ?_
          refine O_loadA (vs := [_, _, _, _, _, _]) S28 rfl rfl rfl ((((((((((((((b8.chg q9 (by first | assumption | omega)).ext e10).ext e11).chg q12 (by first | assumption | omega)).ext e60).ext e61).chg q62 (by first | assumption | omega)).ext e63).ext e64).chg q65 (by first | assumption | omega)).ext e66).ext e67).chg q68 (by first | assumption | omega)).ext hy81) rfl rfl ?_
          exact WL_nil ⟨(Ext.refl _), rfl⟩
        apply AnyR_val [62, 8] rfl (by kernel_rfl)
        · --
          intro y82 hy82
          have zy82 := hy82.size
          refine AllV_v ?_
          refine AllV_nil ?_
          refine O_loadA (vs := [_, _, _, _, _, _]) S28 rfl rfl rfl (((((((((((((b9.ext e10).ext e11).chg q12 (by first | assumption | omega)).ext e60).ext e61).chg q62 (by first | assumption | omega)).ext e63).ext e64).chg q65 (by first | assumption | omega)).ext e66).ext e67).chg q68 (by first | assumption | omega)).ext hy82) rfl rfl ?_
          exact WL_nil ⟨(Ext.refl _), rfl⟩
        apply AnyR_rel (RelP (pAgg [pEq _, pNo 0 93 _, pEq _, pEq _, pNo 0 93 _, pEq _])) [62, 64, 65] rfl (RelP.mono (pAgg_mono (PsM.cons pEq_mono (PsM.cons pNo_mono (PsM.cons pEq_mono (PsM.cons pEq_mono (PsM.cons pNo_mono (PsM.cons pEq_mono PsM.nil)))))))) (by kernel_rfl)
        · --
          intro y83 hy83
          have zy83 := hy83.size
          refine AllV_v ?_
          refine AllV_v ?_
          refine AllV_v ?_
          refine AllV_nil ?_
          refine O_call enters31 rfl rfl rfl (rhull_c rfl ((((((((((((((((((hqA.ext e6).ext e7).chgBk (b6.ext e7) (by decide) q8).chgBk (b7.chg q8 (by first | assumption | omega)) (by decide) q9).ext e10).ext e11).chgBk b11 (by decide) q12).ext e60).ext e61).chgBk b61 (by decide) q62).ext e63).ext e64).chgBk b64 (by decide) q65).ext e66).ext e67).chgBk b67 (by decide) q68).ext hy83).mono (Nat.zero_le _)) rfl ((((((((((((((((((hsA.ext e6).ext e7).chgBk (b6.ext e7) (by decide) q8).chgBk (b7.chg q8 (by first | assumption | omega)) (by decide) q9).ext e10).ext e11).chgBk b11 (by decide) q12).ext e60).ext e61).chgBk b61 (by decide) q62).ext e63).ext e64).chgBk b64 (by decide) q65).ext e66).ext e67).chgBk b67 (by decide) q68).ext hy83).mono (Nat.zero_le _)) (by first | with_reducible assumption | exact dval_dman _ _ | exact dval_zero | exact dval_dg (by assumption) (by assumption) | exact dval_dl (by assumption) (by assumption)) (by first | with_reducible assumption | exact dval_dman _ _ | exact dval_zero | exact dval_dg (by assumption) (by assumption) | exact dval_dl (by assumption) (by assumption)) rfl ((((((((((((((((((htA.ext e6).ext e7).chgBk (b6.ext e7) (by decide) q8).chgBk (b7.chg q8 (by first | assumption | omega)) (by decide) q9).ext e10).ext e11).chgBk b11 (by decide) q12).ext e60).ext e61).chgBk b61 (by decide) q62).ext e63).ext e64).chgBk b64 (by decide) q65).ext e66).ext e67).chgBk b67 (by decide) q68).ext hy83).mono (Nat.zero_le _)) rfl ((((((((((((((((((hvA.ext e6).ext e7).chgBk (b6.ext e7) (by decide) q8).chgBk (b7.chg q8 (by first | assumption | omega)) (by decide) q9).ext e10).ext e11).chgBk b11 (by decide) q12).ext e60).ext e61).chgBk b61 (by decide) q62).ext e63).ext e64).chgBk b64 (by decide) q65).ext e66).ext e67).chgBk b67 (by decide) q68).ext hy83).mono (Nat.zero_le _)) (by first | with_reducible assumption | exact dval_dman _ _ | exact dval_zero | exact dval_dg (by assumption) (by assumption) | exact dval_dl (by assumption) (by assumption)) (by first | with_reducible assumption | exact dval_dman _ _ | exact dval_zero | exact dval_dg (by assumption) (by assumption) | exact dval_dl (by assumption) (by assumption))) (fun v84 w84 e84 h84 => ?_)
          have z84 := e84.size
          try simp only [val_dig] at h84
          obtain ⟨mq84, ms84, rfl, hmq84, hms84⟩ := h84
          exact WL_nil ⟨e84, _, rfl, ⟨_, rfl, (AllP.cons rfl (AllP.cons (hmq84.mono (Nat.zero_le _)) (AllP.cons rfl (AllP.cons rfl (AllP.cons (hms84.mono (Nat.zero_le _)) (AllP.cons rfl AllP.nil))))))⟩⟩
        apply AnyR_val [62, 63, 66] rfl (by kernel_rfl)
        · --
          intro y85 hy85
          have zy85 := hy85.size
          refine AllV_v ?_
          refine AllV_v ?_
          refine AllV_r fun a86 b86 v86 la86 lb86 lc86 h86 ap86 => ?_
          clear ap86
          obtain ⟨_, rfl, v86_0, _, rfl, rfl, v86_1, _, rfl, h86_1, v86_2, _, rfl, rfl, v86_3, _, rfl, rfl, v86_4, _, rfl, h86_4, v86_5, _, rfl, rfl, rfl⟩ := h86
          refine AllV_nil ?_
          refine O_call enters20 rfl rfl rfl (rivsameT_c rfl (((hmq66.ext e67).chgBk b67 (by decide) q68).ext hy85).nl rfl (((hms66.ext e67).chgBk b67 (by decide) q68).ext hy85).nl (by first | with_reducible assumption | exact dval_dman _ _ | exact dval_zero | exact dval_dg (by assumption) (by assumption) | exact dval_dl (by assumption) (by assumption)) (by first | with_reducible assumption | exact dval_dman _ _ | exact dval_zero | exact dval_dg (by assumption) (by assumption) | exact dval_dl (by assumption) (by assumption)) rfl h86_1.nl rfl h86_4.nl (by first | with_reducible assumption | exact dval_dman _ _ | exact dval_zero | exact dval_dg (by assumption) (by assumption) | exact dval_dl (by assumption) (by assumption)) (by first | with_reducible assumption | exact dval_dman _ _ | exact dval_zero | exact dval_dg (by assumption) (by assumption) | exact dval_dl (by assumption) (by assumption)) samev_self) (fun v87 w87 e87 h87 => ?_)
          have z87 := e87.size
          obtain rfl := h87
          exact WL_nil ⟨e87, rfl⟩
        apply AnyR_val [62, 67] rfl (by kernel_rfl)
        · --
          intro y88 hy88
          have zy88 := hy88.size
          refine AllV_v ?_
          refine AllV_v ?_
          refine AllV_nil ?_
          refine O_not rfl rfl rfl rfl ?_
          exact WL_nil ⟨(Ext.refl _), rfl⟩
        apply AnyR_val [62, 68] rfl (by kernel_rfl)
        · --
          intro y89 hy89
          have zy89 := hy89.size
          refine AllV_v ?_
          refine AllV_v ?_
          refine AllV_nil ?_
          refine O_pickF rfl rfl rfl rfl ?_
          exact WL_nil ⟨(Ext.refl _), rfl⟩
        apply AnyR_val [69] rfl (by kernel_rfl)
        · --
          intro y90 hy90
          have zy90 := hy90.size
          refine AllV_v ?_
          refine AllV_nil ?_
          refine O_move rfl rfl rfl ?_
          exact WL_nil ⟨(Ext.refl _), rfl⟩
        apply AnyR_val [70, 13] rfl (by kernel_rfl)
        · --
          intro y91 hy91
          have zy91 := hy91.size
          refine AllV_v ?_
          refine AllV_nil ?_
          refine O_move rfl rfl rfl ?_
          exact WL_nil ⟨(Ext.refl _), rfl⟩
        apply AnyR_val [70, 7] rfl (by kernel_rfl)
        · --
          intro y92 hy92
          have zy92 := hy92.size
          refine AllV_v ?_
          refine AllV_nil ?_
          refine O_loadA (vs := [_, _, _, _, _, _]) S28 rfl rfl rfl ((((((((((((((b8.chg q9 (by first | assumption | omega)).ext e10).ext e11).chg q12 (by first | assumption | omega)).ext e60).ext e61).chg q62 (by first | assumption | omega)).ext e63).ext e64).chg q65 (by first | assumption | omega)).ext e66).ext e67).chg q68 (by first | assumption | omega)).ext hy92) rfl rfl ?_
          exact WL_nil ⟨(Ext.refl _), rfl⟩
        apply AnyR_val [70, 8] rfl (by kernel_rfl)
        · --
          intro y93 hy93
          have zy93 := hy93.size
          refine AllV_v ?_
          refine AllV_nil ?_
          refine O_loadA (vs := [_, _, _, _, _, _]) S28 rfl rfl rfl (((((((((((((b9.ext e10).ext e11).chg q12 (by first | assumption | omega)).ext e60).ext e61).chg q62 (by first | assumption | omega)).ext e63).ext e64).chg q65 (by first | assumption | omega)).ext e66).ext e67).chg q68 (by first | assumption | omega)).ext hy93) rfl rfl ?_
          exact WL_nil ⟨(Ext.refl _), rfl⟩
        apply AnyR_val [70, 72, 73] rfl (by kernel_rfl)
        · --
          intro y94 hy94
          have zy94 := hy94.size
          refine AllV_v ?_
          refine AllV_v ?_
          refine AllV_v ?_
          refine AllV_nil ?_
          refine O_call enters11 rfl rfl rfl (ivcmp_c rfl (((((((((((((((((hqA.ext e6).ext e7).chgBk (b6.ext e7) (by decide) q8).chgBk (b7.chg q8 (by first | assumption | omega)) (by decide) q9).ext e10).ext e11).chgBk b11 (by decide) q12).ext e60).ext e61).chgBk b61 (by decide) q62).ext e63).ext e64).chgBk b64 (by decide) q65).ext e66).ext e67).chgBk b67 (by decide) q68).ext hy94).nl rfl (((((((((((((((((hsA.ext e6).ext e7).chgBk (b6.ext e7) (by decide) q8).chgBk (b7.chg q8 (by first | assumption | omega)) (by decide) q9).ext e10).ext e11).chgBk b11 (by decide) q12).ext e60).ext e61).chgBk b61 (by decide) q62).ext e63).ext e64).chgBk b64 (by decide) q65).ext e66).ext e67).chgBk b67 (by decide) q68).ext hy94).nl (by first | with_reducible assumption | exact dval_dman _ _ | exact dval_zero) (by first | with_reducible assumption | exact dval_dman _ _ | exact dval_zero) rfl (((((((((((((((((htA.ext e6).ext e7).chgBk (b6.ext e7) (by decide) q8).chgBk (b7.chg q8 (by first | assumption | omega)) (by decide) q9).ext e10).ext e11).chgBk b11 (by decide) q12).ext e60).ext e61).chgBk b61 (by decide) q62).ext e63).ext e64).chgBk b64 (by decide) q65).ext e66).ext e67).chgBk b67 (by decide) q68).ext hy94).nl rfl (((((((((((((((((hvA.ext e6).ext e7).chgBk (b6.ext e7) (by decide) q8).chgBk (b7.chg q8 (by first | assumption | omega)) (by decide) q9).ext e10).ext e11).chgBk b11 (by decide) q12).ext e60).ext e61).chgBk b61 (by decide) q62).ext e63).ext e64).chgBk b64 (by decide) q65).ext e66).ext e67).chgBk b67 (by decide) q68).ext hy94).nl (by first | with_reducible assumption | exact dval_dman _ _ | exact dval_zero) (by first | with_reducible assumption | exact dval_dman _ _ | exact dval_zero)) (fun v95 w95 e95 h95 => ?_)
          have z95 := e95.size
          obtain rfl := h95
          exact WL_nil ⟨e95, rfl⟩
        apply AnyR_val [70, 74] rfl (by kernel_rfl)
        · --
          intro y96 hy96
          have zy96 := hy96.size
          refine AllV_v ?_
          refine AllV_v ?_
          refine AllV_nil ?_
          refine O_eql (t := false) rfl rfl rfl rfl (decide_eq_false (fun k => ho (hmc.1 k))) ?_
          exact WL_nil ⟨(Ext.refl _), rfl⟩
        refine AnyR_nil fun y97 hy97 => ?_
        have zy97 := hy97.size
        refine AllV_v ?_
        refine AllV_v ?_
        refine AllV_v ?_
        refine AllV_v ?_
        refine AllV_v ?_
        refine AllV_v ?_
        refine AllV_v ?_
        refine AllV_v ?_
        refine AllV_v ?_
        refine AllV_v ?_
        refine AllV_v ?_
        refine AllV_v ?_
        refine AllV_v ?_
        refine AllV_r fun a98 b98 v98 la98 lb98 lc98 h98 ap98 => ?_
        clear ap98
        obtain ⟨_, rfl, v98_0, _, rfl, rfl, v98_1, _, rfl, h98_1, v98_2, _, rfl, rfl, v98_3, _, rfl, rfl, v98_4, _, rfl, h98_4, v98_5, _, rfl, rfl, rfl⟩ := h98
        refine AllV_v ?_
        refine AllV_v ?_
        refine AllV_v ?_
        refine AllV_v ?_
        refine AllV_v ?_
        refine AllV_v ?_
        refine AllV_v ?_
        refine AllV_v ?_
        refine AllV_v ?_
        refine AllV_nil ?_
        refine O_bneq Try.underlying4 rfl rfl rfl rfl rfl ?_
        refine O_pickF rfl rfl rfl rfl ?_
        refine WL_end [(7, _), (8, _), (10, _), (12, _), (13, _), (16, _), (77, _)] ⟨rfl, rfl, rfl, rfl, rfl, rfl, rfl, trivial⟩ ?_
        refine WP_condF rfl ?_
        refine WP_skip ?_
        refine WP_seq ?_
        refine WP_region ?_
        refine O_loadA (vs := [_, _, _, _, _, _]) S28 rfl rfl rfl ((((((((((((((b8.chg q9 (by first | assumption | omega)).ext e10).ext e11).chg q12 (by first | assumption | omega)).ext e60).ext e61).chg q62 (by first | assumption | omega)).ext e63).ext e64).chg q65 (by first | assumption | omega)).ext e66).ext e67).chg q68 (by first | assumption | omega)).ext hy97) rfl rfl ?_
        refine O_loadA (vs := [_, _, _]) S48 rfl rfl rfl ((((((((((b12.ext e60).ext e61).chg q62 (by first | assumption | omega)).ext e63).ext e64).chg q65 (by first | assumption | omega)).ext e66).ext e67).chg q68 (by first | assumption | omega)).ext hy97) rfl rfl ?_
        refine O_call enters23 rfl rfl rfl (ivhas_c rfl (((((((((((((((((hqA.ext e6).ext e7).chgBk (b6.ext e7) (by decide) q8).chgBk (b7.chg q8 (by first | assumption | omega)) (by decide) q9).ext e10).ext e11).chgBk b11 (by decide) q12).ext e60).ext e61).chgBk b61 (by decide) q62).ext e63).ext e64).chgBk b64 (by decide) q65).ext e66).ext e67).chgBk b67 (by decide) q68).ext hy97).nl rfl (((((((((((((((((hsA.ext e6).ext e7).chgBk (b6.ext e7) (by decide) q8).chgBk (b7.chg q8 (by first | assumption | omega)) (by decide) q9).ext e10).ext e11).chgBk b11 (by decide) q12).ext e60).ext e61).chgBk b61 (by decide) q62).ext e63).ext e64).chgBk b64 (by decide) q65).ext e66).ext e67).chgBk b67 (by decide) q68).ext hy97).nl (by first | with_reducible assumption | exact dval_dman _ _ | exact dval_zero | exact dval_dg (by assumption) (by assumption) | exact dval_dl (by assumption) (by assumption)) (by first | with_reducible assumption | exact dval_dman _ _ | exact dval_zero | exact dval_dg (by assumption) (by assumption) | exact dval_dl (by assumption) (by assumption)) rfl ((((((((((((hnR.ext e11).chgBk b11 (by decide) q12).ext e60).ext e61).chgBk b61 (by decide) q62).ext e63).ext e64).chgBk b64 (by decide) q65).ext e66).ext e67).chgBk b67 (by decide) q68).ext hy97).nl ((((((((((((hdR.ext e11).chgBk b11 (by decide) q12).ext e60).ext e61).chgBk b61 (by decide) q62).ext e63).ext e64).chgBk b64 (by decide) q65).ext e66).ext e67).chgBk b67 (by decide) q68).ext hy97).nl (by first | with_reducible assumption | omega) (by first | with_reducible assumption | omega)) (fun v99 w99 e99 h99 => ?_)
        have z99 := e99.size
        obtain rfl := h99
        refine O_move rfl rfl rfl ?_
        refine WL_bool 81 rfl (fun g81 => ?_) (fun g81 => ?_)
        · --
          refine O_loadA (vs := [_, _, _, _, _, _]) S28 rfl rfl rfl ((((((((((((((b9.ext e10).ext e11).chg q12 (by first | assumption | omega)).ext e60).ext e61).chg q62 (by first | assumption | omega)).ext e63).ext e64).chg q65 (by first | assumption | omega)).ext e66).ext e67).chg q68 (by first | assumption | omega)).ext hy97).ext e99) rfl rfl ?_
          refine O_loadA (vs := [_, _, _]) S48 rfl rfl rfl (((((((((((b12.ext e60).ext e61).chg q62 (by first | assumption | omega)).ext e63).ext e64).chg q65 (by first | assumption | omega)).ext e66).ext e67).chg q68 (by first | assumption | omega)).ext hy97).ext e99) rfl rfl ?_
          refine O_call enters23 rfl rfl rfl (ivhas_c rfl ((((((((((((((((((htA.ext e6).ext e7).chgBk (b6.ext e7) (by decide) q8).chgBk (b7.chg q8 (by first | assumption | omega)) (by decide) q9).ext e10).ext e11).chgBk b11 (by decide) q12).ext e60).ext e61).chgBk b61 (by decide) q62).ext e63).ext e64).chgBk b64 (by decide) q65).ext e66).ext e67).chgBk b67 (by decide) q68).ext hy97).ext e99).nl rfl ((((((((((((((((((hvA.ext e6).ext e7).chgBk (b6.ext e7) (by decide) q8).chgBk (b7.chg q8 (by first | assumption | omega)) (by decide) q9).ext e10).ext e11).chgBk b11 (by decide) q12).ext e60).ext e61).chgBk b61 (by decide) q62).ext e63).ext e64).chgBk b64 (by decide) q65).ext e66).ext e67).chgBk b67 (by decide) q68).ext hy97).ext e99).nl (by first | with_reducible assumption | exact dval_dman _ _ | exact dval_zero | exact dval_dg (by assumption) (by assumption) | exact dval_dl (by assumption) (by assumption)) (by first | with_reducible assumption | exact dval_dman _ _ | exact dval_zero | exact dval_dg (by assumption) (by assumption) | exact dval_dl (by assumption) (by assumption)) rfl (((((((((((((hnR.ext e11).chgBk b11 (by decide) q12).ext e60).ext e61).chgBk b61 (by decide) q62).ext e63).ext e64).chgBk b64 (by decide) q65).ext e66).ext e67).chgBk b67 (by decide) q68).ext hy97).ext e99).nl (((((((((((((hdR.ext e11).chgBk b11 (by decide) q12).ext e60).ext e61).chgBk b61 (by decide) q62).ext e63).ext e64).chgBk b64 (by decide) q65).ext e66).ext e67).chgBk b67 (by decide) q68).ext hy97).ext e99).nl (by first | with_reducible assumption | omega) (by first | with_reducible assumption | omega)) (fun v100 w100 e100 h100 => ?_)
          have z100 := e100.size
          obtain rfl := h100
          refine O_pickT rfl rfl rfl rfl ?_
          refine O_assign rfl rfl rfl ?_
          refine WL_end [(7, _), (8, _), (10, _), (12, _), (13, _), (16, _), (17, _)] ⟨rfl, rfl, rfl, rfl, rfl, rfl, rfl, trivial⟩ ?_
          refine WP_seq ?_
          refine WP_region ?_
          refine O_move rfl rfl rfl ?_
          refine O_move rfl rfl rfl ?_
          refine O_move rfl rfl rfl ?_
          refine O_skip rfl rfl ?_
          refine O_skip rfl rfl ?_
          refine O_skip rfl rfl ?_
          refine O_pickF rfl rfl rfl rfl ?_
          refine O_beql Try.underlying4 (t := true) rfl rfl rfl rfl (by revert hmh; rw [g81]; simp) ?_
          refine O_move rfl rfl rfl ?_
          refine O_loadA (vs := [_, _, _, _, _, _]) S28 rfl rfl rfl ((((((((((((((((b8.chg q9 (by first | assumption | omega)).ext e10).ext e11).chg q12 (by first | assumption | omega)).ext e60).ext e61).chg q62 (by first | assumption | omega)).ext e63).ext e64).chg q65 (by first | assumption | omega)).ext e66).ext e67).chg q68 (by first | assumption | omega)).ext hy97).ext e99).ext e100) rfl rfl ?_
          refine O_loadA (vs := [_, _, _, _, _, _]) S28 rfl rfl rfl (((b68.ext hy97).ext e99).ext e100) rfl rfl ?_
          refine O_call enters25 rfl rfl rfl (ivwithinT_c rfl (((((((((((((((((((hqA.ext e6).ext e7).chgBk (b6.ext e7) (by decide) q8).chgBk (b7.chg q8 (by first | assumption | omega)) (by decide) q9).ext e10).ext e11).chgBk b11 (by decide) q12).ext e60).ext e61).chgBk b61 (by decide) q62).ext e63).ext e64).chgBk b64 (by decide) q65).ext e66).ext e67).chgBk b67 (by decide) q68).ext hy97).ext e99).ext e100).nl rfl (((((((((((((((((((hsA.ext e6).ext e7).chgBk (b6.ext e7) (by decide) q8).chgBk (b7.chg q8 (by first | assumption | omega)) (by decide) q9).ext e10).ext e11).chgBk b11 (by decide) q12).ext e60).ext e61).chgBk b61 (by decide) q62).ext e63).ext e64).chgBk b64 (by decide) q65).ext e66).ext e67).chgBk b67 (by decide) q68).ext hy97).ext e99).ext e100).nl (by first | with_reducible assumption | exact dval_dman _ _ | exact dval_zero | exact dval_dg (by assumption) (by assumption) | exact dval_dl (by assumption) (by assumption)) (by first | with_reducible assumption | exact dval_dman _ _ | exact dval_zero | exact dval_dg (by assumption) (by assumption) | exact dval_dl (by assumption) (by assumption)) rfl (((((hmq66.ext e67).chgBk b67 (by decide) q68).ext hy97).ext e99).ext e100).nl rfl (((((hms66.ext e67).chgBk b67 (by decide) q68).ext hy97).ext e99).ext e100).nl (by first | with_reducible assumption | exact dval_dman _ _ | exact dval_zero | exact dval_dg (by assumption) (by assumption) | exact dval_dl (by assumption) (by assumption)) (by first | with_reducible assumption | exact dval_dman _ _ | exact dval_zero | exact dval_dg (by assumption) (by assumption) | exact dval_dl (by assumption) (by assumption)) (hull_left hX hY hZ hU)) (fun v101 w101 e101 h101 => ?_)
          have z101 := e101.size
          obtain rfl := h101
          refine O_pickT rfl rfl rfl rfl ?_
          refine O_move rfl rfl rfl ?_
          refine O_loadA (vs := [_, _, _, _, _, _]) S28 rfl rfl rfl ((((((((((((((((b9.ext e10).ext e11).chg q12 (by first | assumption | omega)).ext e60).ext e61).chg q62 (by first | assumption | omega)).ext e63).ext e64).chg q65 (by first | assumption | omega)).ext e66).ext e67).chg q68 (by first | assumption | omega)).ext hy97).ext e99).ext e100).ext e101) rfl rfl ?_
          refine O_loadA (vs := [_, _, _, _, _, _]) S28 rfl rfl rfl ((((b68.ext hy97).ext e99).ext e100).ext e101) rfl rfl ?_
          refine O_call enters25 rfl rfl rfl (ivwithinT_c rfl ((((((((((((((((((((htA.ext e6).ext e7).chgBk (b6.ext e7) (by decide) q8).chgBk (b7.chg q8 (by first | assumption | omega)) (by decide) q9).ext e10).ext e11).chgBk b11 (by decide) q12).ext e60).ext e61).chgBk b61 (by decide) q62).ext e63).ext e64).chgBk b64 (by decide) q65).ext e66).ext e67).chgBk b67 (by decide) q68).ext hy97).ext e99).ext e100).ext e101).nl rfl ((((((((((((((((((((hvA.ext e6).ext e7).chgBk (b6.ext e7) (by decide) q8).chgBk (b7.chg q8 (by first | assumption | omega)) (by decide) q9).ext e10).ext e11).chgBk b11 (by decide) q12).ext e60).ext e61).chgBk b61 (by decide) q62).ext e63).ext e64).chgBk b64 (by decide) q65).ext e66).ext e67).chgBk b67 (by decide) q68).ext hy97).ext e99).ext e100).ext e101).nl (by first | with_reducible assumption | exact dval_dman _ _ | exact dval_zero | exact dval_dg (by assumption) (by assumption) | exact dval_dl (by assumption) (by assumption)) (by first | with_reducible assumption | exact dval_dman _ _ | exact dval_zero | exact dval_dg (by assumption) (by assumption) | exact dval_dl (by assumption) (by assumption)) rfl ((((((hmq66.ext e67).chgBk b67 (by decide) q68).ext hy97).ext e99).ext e100).ext e101).nl rfl ((((((hms66.ext e67).chgBk b67 (by decide) q68).ext hy97).ext e99).ext e100).ext e101).nl (by first | with_reducible assumption | exact dval_dman _ _ | exact dval_zero | exact dval_dg (by assumption) (by assumption) | exact dval_dl (by assumption) (by assumption)) (by first | with_reducible assumption | exact dval_dman _ _ | exact dval_zero | exact dval_dg (by assumption) (by assumption) | exact dval_dl (by assumption) (by assumption)) (hull_right hX hY hZ hU)) (fun v102 w102 e102 h102 => ?_)
          have z102 := e102.size
          obtain rfl := h102
          refine O_pickT rfl rfl rfl rfl ?_
          refine O_assign rfl rfl rfl ?_
          refine WL_end [(6, _)] ⟨rfl, trivial⟩ ?_
          refine WP_ret ?_
          refine ret1 Try.results6 rfl ?_
          exact ⟨_, rfl, (((((e68.trans hy97).trans e99).trans e100).trans e101).trans e102), rfl⟩
        · --
          refine O_skip rfl rfl ?_
          refine O_skip rfl rfl ?_
          refine O_skip rfl rfl ?_
          refine O_pickF rfl rfl rfl rfl ?_
          refine O_assign rfl rfl rfl ?_
          refine WL_end [(7, _), (8, _), (10, _), (12, _), (13, _), (16, _), (17, _)] ⟨rfl, rfl, rfl, rfl, rfl, rfl, rfl, trivial⟩ ?_
          refine WP_seq ?_
          refine WP_region ?_
          refine O_move rfl rfl rfl ?_
          refine O_move rfl rfl rfl ?_
          refine O_move rfl rfl rfl ?_
          refine O_skip rfl rfl ?_
          refine O_skip rfl rfl ?_
          refine O_skip rfl rfl ?_
          refine O_pickF rfl rfl rfl rfl ?_
          refine O_beql Try.underlying4 (t := true) rfl rfl rfl rfl (by revert hmh; rw [g81]; simp) ?_
          refine O_move rfl rfl rfl ?_
          refine O_loadA (vs := [_, _, _, _, _, _]) S28 rfl rfl rfl (((((((((((((((b8.chg q9 (by first | assumption | omega)).ext e10).ext e11).chg q12 (by first | assumption | omega)).ext e60).ext e61).chg q62 (by first | assumption | omega)).ext e63).ext e64).chg q65 (by first | assumption | omega)).ext e66).ext e67).chg q68 (by first | assumption | omega)).ext hy97).ext e99) rfl rfl ?_
          refine O_loadA (vs := [_, _, _, _, _, _]) S28 rfl rfl rfl ((b68.ext hy97).ext e99) rfl rfl ?_
          refine O_call enters25 rfl rfl rfl (ivwithinT_c rfl ((((((((((((((((((hqA.ext e6).ext e7).chgBk (b6.ext e7) (by decide) q8).chgBk (b7.chg q8 (by first | assumption | omega)) (by decide) q9).ext e10).ext e11).chgBk b11 (by decide) q12).ext e60).ext e61).chgBk b61 (by decide) q62).ext e63).ext e64).chgBk b64 (by decide) q65).ext e66).ext e67).chgBk b67 (by decide) q68).ext hy97).ext e99).nl rfl ((((((((((((((((((hsA.ext e6).ext e7).chgBk (b6.ext e7) (by decide) q8).chgBk (b7.chg q8 (by first | assumption | omega)) (by decide) q9).ext e10).ext e11).chgBk b11 (by decide) q12).ext e60).ext e61).chgBk b61 (by decide) q62).ext e63).ext e64).chgBk b64 (by decide) q65).ext e66).ext e67).chgBk b67 (by decide) q68).ext hy97).ext e99).nl (by first | with_reducible assumption | exact dval_dman _ _ | exact dval_zero | exact dval_dg (by assumption) (by assumption) | exact dval_dl (by assumption) (by assumption)) (by first | with_reducible assumption | exact dval_dman _ _ | exact dval_zero | exact dval_dg (by assumption) (by assumption) | exact dval_dl (by assumption) (by assumption)) rfl ((((hmq66.ext e67).chgBk b67 (by decide) q68).ext hy97).ext e99).nl rfl ((((hms66.ext e67).chgBk b67 (by decide) q68).ext hy97).ext e99).nl (by first | with_reducible assumption | exact dval_dman _ _ | exact dval_zero | exact dval_dg (by assumption) (by assumption) | exact dval_dl (by assumption) (by assumption)) (by first | with_reducible assumption | exact dval_dman _ _ | exact dval_zero | exact dval_dg (by assumption) (by assumption) | exact dval_dl (by assumption) (by assumption)) (hull_left hX hY hZ hU)) (fun v103 w103 e103 h103 => ?_)
          have z103 := e103.size
          obtain rfl := h103
          refine O_pickT rfl rfl rfl rfl ?_
          refine O_move rfl rfl rfl ?_
          refine O_loadA (vs := [_, _, _, _, _, _]) S28 rfl rfl rfl (((((((((((((((b9.ext e10).ext e11).chg q12 (by first | assumption | omega)).ext e60).ext e61).chg q62 (by first | assumption | omega)).ext e63).ext e64).chg q65 (by first | assumption | omega)).ext e66).ext e67).chg q68 (by first | assumption | omega)).ext hy97).ext e99).ext e103) rfl rfl ?_
          refine O_loadA (vs := [_, _, _, _, _, _]) S28 rfl rfl rfl (((b68.ext hy97).ext e99).ext e103) rfl rfl ?_
          refine O_call enters25 rfl rfl rfl (ivwithinT_c rfl (((((((((((((((((((htA.ext e6).ext e7).chgBk (b6.ext e7) (by decide) q8).chgBk (b7.chg q8 (by first | assumption | omega)) (by decide) q9).ext e10).ext e11).chgBk b11 (by decide) q12).ext e60).ext e61).chgBk b61 (by decide) q62).ext e63).ext e64).chgBk b64 (by decide) q65).ext e66).ext e67).chgBk b67 (by decide) q68).ext hy97).ext e99).ext e103).nl rfl (((((((((((((((((((hvA.ext e6).ext e7).chgBk (b6.ext e7) (by decide) q8).chgBk (b7.chg q8 (by first | assumption | omega)) (by decide) q9).ext e10).ext e11).chgBk b11 (by decide) q12).ext e60).ext e61).chgBk b61 (by decide) q62).ext e63).ext e64).chgBk b64 (by decide) q65).ext e66).ext e67).chgBk b67 (by decide) q68).ext hy97).ext e99).ext e103).nl (by first | with_reducible assumption | exact dval_dman _ _ | exact dval_zero | exact dval_dg (by assumption) (by assumption) | exact dval_dl (by assumption) (by assumption)) (by first | with_reducible assumption | exact dval_dman _ _ | exact dval_zero | exact dval_dg (by assumption) (by assumption) | exact dval_dl (by assumption) (by assumption)) rfl (((((hmq66.ext e67).chgBk b67 (by decide) q68).ext hy97).ext e99).ext e103).nl rfl (((((hms66.ext e67).chgBk b67 (by decide) q68).ext hy97).ext e99).ext e103).nl (by first | with_reducible assumption | exact dval_dman _ _ | exact dval_zero | exact dval_dg (by assumption) (by assumption) | exact dval_dl (by assumption) (by assumption)) (by first | with_reducible assumption | exact dval_dman _ _ | exact dval_zero | exact dval_dg (by assumption) (by assumption) | exact dval_dl (by assumption) (by assumption)) (hull_right hX hY hZ hU)) (fun v104 w104 e104 h104 => ?_)
          have z104 := e104.size
          obtain rfl := h104
          refine O_pickT rfl rfl rfl rfl ?_
          refine O_assign rfl rfl rfl ?_
          refine WL_end [(6, _)] ⟨rfl, trivial⟩ ?_
          refine WP_ret ?_
          refine ret1 Try.results6 rfl ?_
          exact ⟨_, rfl, ((((e68.trans hy97).trans e99).trans e103).trans e104), rfl⟩

end Go.Proofs.Ythbfhljpfkicpaa
