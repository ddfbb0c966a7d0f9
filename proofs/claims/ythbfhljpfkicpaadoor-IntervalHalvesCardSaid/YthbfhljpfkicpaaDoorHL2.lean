/-
  Walks.
-/
import Derived.Test.YthbfhljpfkicpaaDoorH1
set_option linter.unusedVariables false
set_option linter.unusedSimpArgs false
set_option maxRecDepth 100000
namespace Go.Proofs.YthbfhljpfkicpaaDoor
open Go Go.RowKit
set_option maxHeartbeats 8000000 in
theorem law_IntervalHalves {w : World} {vx vy : Value} {lx ly : List Nat} {bx by_ : Bool} {e f : Int} (hx : Nl w vx lx) (hy : Nl w vy ly) (hT : Tab w) :
    Calls Tryd.prog 10 #[.agg #[.bool bx, vx, .int .i64 e, .bool by_, vy, .int .i64 f]] w (Ret w fun r _ => r = .bool true) := by
 refine enter (args := [_]) Tryd.func10 rfl Tryd.ntmps10 rfl ?_
 refine WP_seq ?_
 refine WP_region ?_
 refine O_box _ rfl rfl rfl rfl (fun g1 w1 b1 e1 gl1 gh1 => ?_)
 have z1 := e1.size
 refine O_assign rfl rfl rfl ?_
 refine WL_end [(1, _)] ⟨rfl, trivial⟩ ?_
 refine WP_seq ?_
 refine WP_seq ?_
 refine WP_region ?_
 refine O_call enters37 rfl rfl rfl (awake10_c) (fun v2 w2 e2 h2 => ?_)
 have z2 := e2.size
 obtain rfl := h2
 refine O_not rfl rfl rfl rfl ?_
 refine WL_end [(1, _), (18, _)] ⟨rfl, rfl, trivial⟩ ?_
 refine WP_condF rfl ?_
 refine WP_skip ?_
 refine WP_seq ?_
 refine WP_region ?_
 refine O_loadA (vs := [_, _, _, _, _, _]) S53 rfl rfl rfl (b1.ext e2) rfl rfl ?_
 refine O_call enters38 rfl rfl rfl (mint10_c (n := 5) (m := 60) (hx.ext (e1.trans e2)) (hy.ext (e1.trans e2)) (by decide)) (fun v3 w3 e3 h3 => ?_)
 have z3 := e3.size
 try simp only [val_dig] at h3
 obtain ⟨xA, eA, yA, fA, qA, sA, bA, rfl, hqA, hsA, hvA, huA, hcA, hkA, hjA, hmA, hnA, hlA, hoA⟩ := h3
 refine O_move rfl rfl rfl ?_
 refine O_extract rfl rfl rfl rfl ?_
 refine O_extract rfl rfl rfl rfl ?_
 refine O_alloc S53 rfl rfl (fun g4 w4 b4 e4 gl4 gh4 => ?_)
 have z4 := e4.size
 refine O_storeA (cs' := [_, _, _, _, _, _]) S53 rfl rfl rfl b4 rfl rfl (one_cons rfl (one_cons ((hqA.ext e4).nl).one (one_cons rfl (one_cons rfl (one_cons ((hsA.ext e4).nl).one (one_cons rfl one_nil)))))) rfl (fun w5 b5 q5 => ?_)
 have z5 := Nat.le_of_eq q5.size.symm
 have e5 : Ext w w5 := q5.ext (((e1.trans e2).trans e3).trans e4) (by omega)
 refine O_assign rfl rfl rfl ?_
 refine WL_end [(3, _), (4, _)] ⟨rfl, rfl, trivial⟩ ?_
 refine WP_seq ?_
 refine WP_seq ?_
 refine WP_region ?_
 refine O_move rfl rfl rfl ?_
 refine O_not rfl rfl rfl rfl ?_
 refine WL_end [(3, _), (25, _)] ⟨rfl, rfl, trivial⟩ ?_
 refine WP_cond rfl (fun c25 => ?_) (fun c25 => ?_)
 · --
  refine WP_seq ?_
  refine WP_region ?_
  refine O_assign rfl rfl rfl ?_
  refine WL_end [(2, _)] ⟨rfl, trivial⟩ ?_
  refine WP_ret ?_
  refine ret1 Tryd.results10 rfl ?_
  exact ⟨_, rfl, e5, rfl⟩
 · --
  refine WP_skip ?_
  refine WP_seq ?_
  have hrx := dval_range hvA
  have hry := dval_range huA
  have hsl := dsum_len (x := xA) (e := eA) (y := yA) (f := fA) (a := 5) (m := 320) hlA hoA (by omega) (by omega)
  obtain ⟨hcm, hvm, g1, g2, hlm⟩ := dcode_small (x := dsum xA eA yA fA) (e := min eA fA) (a := 17) (m := 220) (Nat.le_trans hsl (by decide)) (by omega) (by omega) (by decide)
  obtain ⟨hcm2, hvn, g3, g4, hln⟩ := dcode_small (x := dman (dsum xA eA yA fA) (min eA fA)) (e := dexp (dsum xA eA yA fA) (min eA fA) + -1) (a := 17) (m := 900) hlm (by omega) (by omega) (by decide)
  have hs1 := sw_sum hvA huA hcm
  have hs2 := sw_half (by omega) hcm2
  have hle := (dcmp_le_iff hvA huA).1 hcA
  have ho1 : dcmp xA eA (dman (dman (dsum xA eA yA fA) (min eA fA)) (dexp (dsum xA eA yA fA) (min eA fA) + -1)) (dexp (dman (dsum xA eA yA fA) (min eA fA)) (dexp (dsum xA eA yA fA) (min eA fA) + -1)) ≤ 0 := (dcmp_le_iff hvA hvn).2 (by omega)
  have ho2 : dcmp (dman (dman (dsum xA eA yA fA) (min eA fA)) (dexp (dsum xA eA yA fA) (min eA fA) + -1)) (dexp (dman (dsum xA eA yA fA) (min eA fA)) (dexp (dsum xA eA yA fA) (min eA fA) + -1)) yA fA ≤ 0 := (dcmp_le_iff hvn huA).2 (by omega)
  have hself : dcmp (dman (dman (dsum xA eA yA fA) (min eA fA)) (dexp (dsum xA eA yA fA) (min eA fA) + -1)) (dexp (dman (dsum xA eA yA fA) (min eA fA)) (dexp (dsum xA eA yA fA) (min eA fA) + -1)) (dman (dman (dsum xA eA yA fA) (min eA fA)) (dexp (dsum xA eA yA fA) (min eA fA) + -1)) (dexp (dman (dsum xA eA yA fA) (min eA fA)) (dexp (dsum xA eA yA fA) (min eA fA) + -1)) ≤ 0 := (dcmp_le_iff hvn hvn).2 (Int.le_refl _)
  obtain ⟨a1, a2⟩ := dgx_le hvA hvn ho1
  obtain ⟨a3, a4⟩ := dlx_le ho2
  obtain ⟨a5, a6⟩ := dlx_le ho1
  obtain ⟨a7, a8⟩ := dgx_le hvn huA ho2
  have hwl1 := dsum_len (x := (dman (dman (dsum xA eA yA fA) (min eA fA)) (dexp (dsum xA eA yA fA) (min eA fA) + -1))) (e := (dexp (dman (dsum xA eA yA fA) (min eA fA)) (dexp (dsum xA eA yA fA) (min eA fA) + -1))) (y := -xA) (f := eA) (a := 17) (m := 1900) hln (neg_len (Nat.le_trans hlA (by decide))) (by omega) (by omega)
  have hwl2 := dsum_len (x := yA) (e := fA) (y := -(dman (dman (dsum xA eA yA fA) (min eA fA)) (dexp (dsum xA eA yA fA) (min eA fA) + -1))) (f := (dexp (dman (dsum xA eA yA fA) (min eA fA)) (dexp (dsum xA eA yA fA) (min eA fA) + -1))) (a := 17) (m := 1900) (Nat.le_trans hoA (by decide)) (neg_len hln) (by omega) (by omega)
  obtain ⟨hcw1, hvw1, -, -, hlw1⟩ := dcode_small (x := dsum (dman (dman (dsum xA eA yA fA) (min eA fA)) (dexp (dsum xA eA yA fA) (min eA fA) + -1)) (dexp (dman (dsum xA eA yA fA) (min eA fA)) (dexp (dsum xA eA yA fA) (min eA fA) + -1)) (-xA) eA) (e := min (dexp (dman (dsum xA eA yA fA) (min eA fA)) (dexp (dsum xA eA yA fA) (min eA fA) + -1)) eA) (a := 90) (m := 1500) (Nat.le_trans hwl1 (by decide)) (by omega) (by omega) (by decide)
  obtain ⟨hcw2, hvw2, -, -, hlw2⟩ := dcode_small (x := dsum yA fA (-(dman (dman (dsum xA eA yA fA) (min eA fA)) (dexp (dsum xA eA yA fA) (min eA fA) + -1))) (dexp (dman (dsum xA eA yA fA) (min eA fA)) (dexp (dsum xA eA yA fA) (min eA fA) + -1))) (e := min fA (dexp (dman (dsum xA eA yA fA) (min eA fA)) (dexp (dsum xA eA yA fA) (min eA fA) + -1))) (a := 90) (m := 1500) (Nat.le_trans hwl2 (by decide)) (by omega) (by omega) (by decide)
  have hw1 := sw_sum hvn ((dval_neg xA eA).trans hvA) hcw1
  have hw2 := sw_sum huA ((dval_neg (dman (dman (dsum xA eA yA fA) (min eA fA)) (dexp (dsum xA eA yA fA) (min eA fA) + -1)) (dexp (dman (dsum xA eA yA fA) (min eA fA)) (dexp (dsum xA eA yA fA) (min eA fA) + -1))).trans hvn) hcw2
  rw [sw_neg] at hw1 hw2
  obtain ⟨b1, b2⟩ := dval_same hvw2 hvw1 (dval_K hvw2) (dval_K hvw1) (show sw _ _ = sw _ _ by omega)
  obtain ⟨n1, m1⟩ := rat_lens (a := 90) hvw1 hlw1
  have x9 := dval_range hvw1
  · --
   skip
   refine WP_region ?_
   refine O_loadA (vs := [_, _, _, _, _, _]) S53 rfl rfl rfl b5 rfl rfl ?_
   refine O_call enters44 rfl rfl rfl (ivmid_c rfl ((hqA.ext e4).chgBk b4 (by decide) q5).nl rfl ((hsA.ext e4).chgBk b4 (by decide) q5).nl (by first | with_reducible assumption | exact dval_dman _ _ | exact dval_zero | exact dval_dg (by assumption) (by assumption) | exact dval_dl (by assumption) (by assumption)) (by first | with_reducible assumption | exact dval_dman _ _ | exact dval_zero | exact dval_dg (by assumption) (by assumption) | exact dval_dl (by assumption) (by assumption)) (by with_reducible assumption) (by with_reducible assumption) (hT.ext e5)) (fun v6 w6 e6 h6 => ?_)
   have z6 := e6.size
   try simp only [val_dig] at h6
   obtain ⟨q6, rfl, hq6⟩ := h6
   refine O_move rfl rfl rfl ?_
   refine O_extract rfl rfl rfl rfl ?_
   refine O_extract rfl rfl rfl rfl ?_
   refine O_alloc S26 rfl rfl (fun g7 w7 b7 e7 gl7 gh7 => ?_)
   have z7 := e7.size
   refine O_storeA (cs' := [_, _, _]) S26 rfl rfl rfl b7 rfl rfl (one_cons rfl (one_cons ((hq6.ext e7).nl).one (one_cons rfl one_nil))) rfl (fun w8 b8 q8 => ?_)
   have z8 := Nat.le_of_eq q8.size.symm
   have e8 : Ext w w8 := q8.ext ((e5.trans e6).trans e7) (by omega)
   refine O_assign rfl rfl rfl ?_
   refine WL_end [(3, _), (5, _)] ⟨rfl, rfl, trivial⟩ ?_
   refine WP_seq ?_
   refine WP_region ?_
   refine O_field F53_0 rfl rfl rfl ?_
   refine O_loadA (vs := [_, _, _]) S26 rfl rfl rfl (((b5.ext e6).ext e7).chg q8 (by first | assumption | omega)) rfl rfl ?_
   refine O_loadA (vs := [_, _, _]) S26 rfl rfl rfl b8 rfl rfl ?_
   refine O_call enters48 rfl rfl rfl (imake_T rfl (((((hqA.ext e4).chgBk b4 (by decide) q5).ext e6).ext e7).chgBk b7 (by decide) q8).nl rfl ((hq6.ext e7).chgBk b7 (by decide) q8).nl (by first | with_reducible assumption | exact dval_dman _ _ | exact dval_zero | exact dval_dg (by assumption) (by assumption) | exact dval_dl (by assumption) (by assumption)) (by first | with_reducible assumption | exact dval_dman _ _ | exact dval_zero | exact dval_dg (by assumption) (by assumption) | exact dval_dl (by assumption) (by assumption)) ho1) (fun v9 w9 e9 h9 => ?_)
   have z9 := e9.size
   try simp only [val_dig] at h9
   obtain ⟨mq9, ms9, rfl, hmq9, hms9⟩ := h9
   refine O_move rfl rfl rfl ?_
   refine O_extract rfl rfl rfl rfl ?_
   refine O_extract rfl rfl rfl rfl ?_
   refine O_alloc S53 rfl rfl (fun g10 w10 b10 e10 gl10 gh10 => ?_)
   have z10 := e10.size
   refine O_storeA (cs' := [_, _, _, _, _, _]) S53 rfl rfl rfl b10 rfl rfl (one_cons rfl (one_cons ((hmq9.ext e10).nl).one (one_cons rfl (one_cons rfl (one_cons ((hms9.ext e10).nl).one (one_cons rfl one_nil)))))) rfl (fun w11 b11 q11 => ?_)
   have z11 := Nat.le_of_eq q11.size.symm
   have e11 : Ext w w11 := q11.ext ((e8.trans e9).trans e10) (by omega)
   refine O_assign rfl rfl rfl ?_
   refine WL_end [(3, _), (5, _), (7, _), (8, _)] ⟨rfl, rfl, rfl, rfl, trivial⟩ ?_
   refine WP_seq ?_
   refine WP_region ?_
   refine O_loadA (vs := [_, _, _]) S26 rfl rfl rfl (((b8.ext e9).ext e10).chg q11 (by first | assumption | omega)) rfl rfl ?_
   refine O_field F53_1 rfl rfl rfl ?_
   refine O_loadA (vs := [_, _, _]) S26 rfl rfl rfl ((((((b5.ext e6).ext e7).chg q8 (by first | assumption | omega)).ext e9).ext e10).chg q11 (by first | assumption | omega)) rfl rfl ?_
   refine O_call enters48 rfl rfl rfl (imake_T rfl (((((hq6.ext e7).chgBk b7 (by decide) q8).ext e9).ext e10).chgBk b10 (by decide) q11).nl rfl ((((((((hsA.ext e4).chgBk b4 (by decide) q5).ext e6).ext e7).chgBk b7 (by decide) q8).ext e9).ext e10).chgBk b10 (by decide) q11).nl (by first | with_reducible assumption | exact dval_dman _ _ | exact dval_zero | exact dval_dg (by assumption) (by assumption) | exact dval_dl (by assumption) (by assumption)) (by first | with_reducible assumption | exact dval_dman _ _ | exact dval_zero | exact dval_dg (by assumption) (by assumption) | exact dval_dl (by assumption) (by assumption)) ho2) (fun v12 w12 e12 h12 => ?_)
   have z12 := e12.size
   try simp only [val_dig] at h12
   obtain ⟨mq12, ms12, rfl, hmq12, hms12⟩ := h12
   refine O_move rfl rfl rfl ?_
   refine O_extract rfl rfl rfl rfl ?_
   refine O_extract rfl rfl rfl rfl ?_
   refine O_alloc S53 rfl rfl (fun g13 w13 b13 e13 gl13 gh13 => ?_)
   have z13 := e13.size
   refine O_storeA (cs' := [_, _, _, _, _, _]) S53 rfl rfl rfl b13 rfl rfl (one_cons rfl (one_cons ((hmq12.ext e13).nl).one (one_cons rfl (one_cons rfl (one_cons ((hms12.ext e13).nl).one (one_cons rfl one_nil)))))) rfl (fun w14 b14 q14 => ?_)
   have z14 := Nat.le_of_eq q14.size.symm
   have e14 : Ext w w14 := q14.ext ((e11.trans e12).trans e13) (by omega)
   refine O_assign rfl rfl rfl ?_
   refine WL_end [(3, _), (5, _), (7, _), (8, _), (9, _), (10, _)] ⟨rfl, rfl, rfl, rfl, rfl, rfl, trivial⟩ ?_
   refine WP_seq ?_
   refine WP_seq ?_
   refine WP_region ?_
   refine O_move rfl rfl rfl ?_
   refine O_neq (t := false) rfl rfl rfl rfl (decide_eq_false (by decide)) ?_
   refine O_move rfl rfl rfl ?_
   refine O_move rfl rfl rfl ?_
   refine O_neq (t := false) rfl rfl rfl rfl (decide_eq_false (by decide)) ?_
   refine O_pickF rfl rfl rfl rfl ?_
   refine WL_end [(3, _), (5, _), (7, _), (9, _), (50, _)] ⟨rfl, rfl, rfl, rfl, rfl, trivial⟩ ?_
   refine WP_condF rfl ?_
   refine WP_skip ?_
   refine WP_seq ?_
   refine WP_region ?_
   refine O_loadA (vs := [_, _, _, _, _, _]) S53 rfl rfl rfl (((b11.ext e12).ext e13).chg q14 (by first | assumption | omega)) rfl rfl ?_
   refine O_loadA (vs := [_, _, _, _, _, _]) S53 rfl rfl rfl b14 rfl rfl ?_
   refine O_call enters49 rfl rfl rfl (meet_T rfl ((((((hmq9.ext e10).chgBk b10 (by decide) q11).ext e12).ext e13).chgBk b13 (by decide) q14).mono (Nat.zero_le _)) rfl ((((((hms9.ext e10).chgBk b10 (by decide) q11).ext e12).ext e13).chgBk b13 (by decide) q14).mono (Nat.zero_le _)) (by first | with_reducible assumption | exact dval_dman _ _ | exact dval_zero | exact dval_dg (by assumption) (by assumption) | exact dval_dl (by assumption) (by assumption)) (by first | with_reducible assumption | exact dval_dman _ _ | exact dval_zero | exact dval_dg (by assumption) (by assumption) | exact dval_dl (by assumption) (by assumption)) rfl (((hmq12.ext e13).chgBk b13 (by decide) q14).mono (Nat.zero_le _)) rfl (((hms12.ext e13).chgBk b13 (by decide) q14).mono (Nat.zero_le _)) (by first | with_reducible assumption | exact dval_dman _ _ | exact dval_zero | exact dval_dg (by assumption) (by assumption) | exact dval_dl (by assumption) (by assumption)) (by first | with_reducible assumption | exact dval_dman _ _ | exact dval_zero | exact dval_dg (by assumption) (by assumption) | exact dval_dl (by assumption) (by assumption)) (by rw [a1, a2, a3, a4]; exact hself)) (fun v15 w15 e15 h15 => ?_)
   have z15 := e15.size
   try simp only [val_dig] at h15
   obtain ⟨mq15, ms15, rfl, hmq15, hms15⟩ := h15
   rw [a1] at hmq15
   rw [a3] at hms15
   rw [a1, a2, a3, a4]
   refine O_move rfl rfl rfl ?_
   refine O_extract rfl rfl rfl rfl ?_
   refine O_extract rfl rfl rfl rfl ?_
   refine O_alloc S53 rfl rfl (fun g16 w16 b16 e16 gl16 gh16 => ?_)
   have z16 := e16.size
   refine O_storeA (cs' := [_, _, _, _, _, _]) S53 rfl rfl rfl b16 rfl rfl (one_cons rfl (one_cons ((hmq15.ext e16).nl).one (one_cons rfl (one_cons rfl (one_cons ((hms15.ext e16).nl).one (one_cons rfl one_nil)))))) rfl (fun w17 b17 q17 => ?_)
   have z17 := Nat.le_of_eq q17.size.symm
   have e17 : Ext w w17 := q17.ext ((e14.trans e15).trans e16) (by omega)
   refine O_assign rfl rfl rfl ?_
   refine WL_end [(3, _), (5, _), (7, _), (9, _), (11, _), (12, _)] ⟨rfl, rfl, rfl, rfl, rfl, rfl, trivial⟩ ?_
   refine WP_seq ?_
   refine WP_region ?_
   refine O_loadA (vs := [_, _, _, _, _, _]) S53 rfl rfl rfl ((((((b11.ext e12).ext e13).chg q14 (by first | assumption | omega)).ext e15).ext e16).chg q17 (by first | assumption | omega)) rfl rfl ?_
   refine O_call enters43 rfl rfl rfl (ivwidth_c rfl ((((((((hmq9.ext e10).chgBk b10 (by decide) q11).ext e12).ext e13).chgBk b13 (by decide) q14).ext e15).ext e16).chgBk b16 (by decide) q17).nl rfl ((((((((hms9.ext e10).chgBk b10 (by decide) q11).ext e12).ext e13).chgBk b13 (by decide) q14).ext e15).ext e16).chgBk b16 (by decide) q17).nl (by first | with_reducible assumption | exact dval_dman _ _ | exact dval_zero | exact dval_dg (by assumption) (by assumption) | exact dval_dl (by assumption) (by assumption)) (by first | with_reducible assumption | exact dval_dman _ _ | exact dval_zero | exact dval_dg (by assumption) (by assumption) | exact dval_dl (by assumption) (by assumption)) (by with_reducible assumption) (hT.ext e17)) (fun v18 w18 e18 h18 => ?_)
   have z18 := e18.size
   try simp only [val_dig] at h18
   obtain ⟨q18, rfl, hq18⟩ := h18
   refine O_move rfl rfl rfl ?_
   refine O_extract rfl rfl rfl rfl ?_
   refine O_extract rfl rfl rfl rfl ?_
   refine O_alloc S26 rfl rfl (fun g19 w19 b19 e19 gl19 gh19 => ?_)
   have z19 := e19.size
   refine O_storeA (cs' := [_, _, _]) S26 rfl rfl rfl b19 rfl rfl (one_cons rfl (one_cons ((hq18.ext e19).nl).one (one_cons rfl one_nil))) rfl (fun w20 b20 q20 => ?_)
   have z20 := Nat.le_of_eq q20.size.symm
   have e20 : Ext w w20 := q20.ext ((e17.trans e18).trans e19) (by omega)
   refine O_assign rfl rfl rfl ?_
   refine WL_end [(3, _), (5, _), (7, _), (9, _), (11, _), (12, _), (13, _)] ⟨rfl, rfl, rfl, rfl, rfl, rfl, rfl, trivial⟩ ?_
   refine WP_seq ?_
   refine WP_region ?_
   refine O_loadA (vs := [_, _, _, _, _, _]) S53 rfl rfl rfl ((((((b14.ext e15).ext e16).chg q17 (by first | assumption | omega)).ext e18).ext e19).chg q20 (by first | assumption | omega)) rfl rfl ?_
   refine O_call enters43 rfl rfl rfl (ivwidth_c rfl ((((((((hmq12.ext e13).chgBk b13 (by decide) q14).ext e15).ext e16).chgBk b16 (by decide) q17).ext e18).ext e19).chgBk b19 (by decide) q20).nl rfl ((((((((hms12.ext e13).chgBk b13 (by decide) q14).ext e15).ext e16).chgBk b16 (by decide) q17).ext e18).ext e19).chgBk b19 (by decide) q20).nl (by first | with_reducible assumption | exact dval_dman _ _ | exact dval_zero | exact dval_dg (by assumption) (by assumption) | exact dval_dl (by assumption) (by assumption)) (by first | with_reducible assumption | exact dval_dman _ _ | exact dval_zero | exact dval_dg (by assumption) (by assumption) | exact dval_dl (by assumption) (by assumption)) (by with_reducible assumption) (hT.ext e20)) (fun v21 w21 e21 h21 => ?_)
   have z21 := e21.size
   try simp only [val_dig] at h21
   obtain ⟨q21, rfl, hq21⟩ := h21
   rw [b1] at hq21
   rw [b1, b2]
   refine O_move rfl rfl rfl ?_
   refine O_extract rfl rfl rfl rfl ?_
   refine O_extract rfl rfl rfl rfl ?_
   refine O_alloc S26 rfl rfl (fun g22 w22 b22 e22 gl22 gh22 => ?_)
   have z22 := e22.size
   refine O_storeA (cs' := [_, _, _]) S26 rfl rfl rfl b22 rfl rfl (one_cons rfl (one_cons ((hq21.ext e22).nl).one (one_cons rfl one_nil))) rfl (fun w23 b23 q23 => ?_)
   have z23 := Nat.le_of_eq q23.size.symm
   have e23 : Ext w w23 := q23.ext ((e20.trans e21).trans e22) (by omega)
   refine O_assign rfl rfl rfl ?_
   refine WL_end [(3, _), (5, _), (7, _), (9, _), (11, _), (12, _), (13, _), (15, _)] ⟨rfl, rfl, rfl, rfl, rfl, rfl, rfl, rfl, trivial⟩ ?_
   refine WP_seq ?_
   refine WP_sub [(3, _), (5, _), (7, _), (9, _), (11, _), (12, _), (13, _), (15, _)] ⟨rfl, rfl, rfl, rfl, rfl, rfl, rfl, rfl, trivial⟩ ?_
   refine WP_anyR 18 [3, 5, 7, 9, 11, 12, 13, 15] mixed rfl (by kernel_rfl) ?_
   apply AnyR_val [12] rfl (by kernel_rfl)
   · --
    intro y24 hy24
    have zy24 := hy24.size
    refine AllV_nil ?_
    refine O_move rfl rfl rfl ?_
    exact WL_nil ⟨(Ext.refl _), rfl⟩
   apply AnyR_val [67] rfl (by kernel_rfl)
   · --
    intro y25 hy25
    have zy25 := hy25.size
    refine AllV_v ?_
    refine AllV_nil ?_
    refine O_move rfl rfl rfl ?_
    exact WL_nil ⟨(Ext.refl _), rfl⟩
   apply AnyR_val [68, 11] rfl (by kernel_rfl)
   · --
    intro y26 hy26
    have zy26 := hy26.size
    refine AllV_v ?_
    refine AllV_nil ?_
    refine O_loadA (vs := [_, _, _, _, _, _]) S53 rfl rfl rfl (((((((b17.ext e18).ext e19).chg q20 (by first | assumption | omega)).ext e21).ext e22).chg q23 (by first | assumption | omega)).ext hy26) rfl rfl ?_
    exact WL_nil ⟨(Ext.refl _), rfl⟩
   apply AnyR_val [68, 5] rfl (by kernel_rfl)
   · --
    intro y27 hy27
    have zy27 := hy27.size
    refine AllV_v ?_
    refine AllV_nil ?_
    refine O_loadA (vs := [_, _, _]) S26 rfl rfl rfl ((((((((((((((((b8.ext e9).ext e10).chg q11 (by first | assumption | omega)).ext e12).ext e13).chg q14 (by first | assumption | omega)).ext e15).ext e16).chg q17 (by first | assumption | omega)).ext e18).ext e19).chg q20 (by first | assumption | omega)).ext e21).ext e22).chg q23 (by first | assumption | omega)).ext hy27) rfl rfl ?_
    exact WL_nil ⟨(Ext.refl _), rfl⟩
   apply AnyR_rel (RelP (pAgg [pEq _, pNo w23.heap.size 111 _, pEq _, pEq _, pNo w23.heap.size 111 _, pEq _])) [68, 70] rfl (RelP.mono (pAgg_mono (PsM.cons pEq_mono (PsM.cons pNo_mono (PsM.cons pEq_mono (PsM.cons pEq_mono (PsM.cons pNo_mono (PsM.cons pEq_mono PsM.nil)))))))) (by kernel_rfl)
   · --
    intro y28 hy28
    have zy28 := hy28.size
    refine AllV_v ?_
    refine AllV_v ?_
    refine AllV_nil ?_
    refine O_call enters51 rfl rfl rfl (point_c rfl ((((((((((((((((((hq6.ext e7).chgBk b7 (by decide) q8).ext e9).ext e10).chgBk b10 (by decide) q11).ext e12).ext e13).chgBk b13 (by decide) q14).ext e15).ext e16).chgBk b16 (by decide) q17).ext e18).ext e19).chgBk b19 (by decide) q20).ext e21).ext e22).chgBk b22 (by decide) q23).ext hy28).nl (by first | with_reducible assumption | exact dval_dman _ _ | exact dval_zero | exact dval_dg (by assumption) (by assumption) | exact dval_dl (by assumption) (by assumption))) (fun v29 w29 e29 h29 => ?_)
    have z29 := e29.size
    try simp only [val_dig] at h29
    obtain ⟨mq29, ms29, rfl, hmq29, hms29⟩ := h29
    exact WL_nil ⟨e29, _, rfl, ⟨_, rfl, (AllP.cons rfl (AllP.cons (hmq29.mono (by omega)) (AllP.cons rfl (AllP.cons rfl (AllP.cons (hms29.mono (by omega)) (AllP.cons rfl AllP.nil))))))⟩⟩
   apply AnyR_val [68, 69, 71] rfl (by kernel_rfl)
   · --
    intro y30 hy30
    have zy30 := hy30.size
    refine AllV_v ?_
    refine AllV_v ?_
    refine AllV_r fun a31 b31 v31 la31 lb31 lc31 h31 ap31 => ?_
    clear ap31
    obtain ⟨_, rfl, v31_0, _, rfl, rfl, v31_1, _, rfl, h31_1, v31_2, _, rfl, rfl, v31_3, _, rfl, rfl, v31_4, _, rfl, h31_4, v31_5, _, rfl, rfl, rfl⟩ := h31
    refine AllV_nil ?_
    refine O_call enters50 rfl rfl rfl (ivsameT_c rfl (((((((((hmq15.ext e16).chgBk b16 (by decide) q17).ext e18).ext e19).chgBk b19 (by decide) q20).ext e21).ext e22).chgBk b22 (by decide) q23).ext hy30).nl rfl (((((((((hms15.ext e16).chgBk b16 (by decide) q17).ext e18).ext e19).chgBk b19 (by decide) q20).ext e21).ext e22).chgBk b22 (by decide) q23).ext hy30).nl (by first | with_reducible assumption | exact dval_dman _ _ | exact dval_zero | exact dval_dg (by assumption) (by assumption) | exact dval_dl (by assumption) (by assumption)) (by first | with_reducible assumption | exact dval_dman _ _ | exact dval_zero | exact dval_dg (by assumption) (by assumption) | exact dval_dl (by assumption) (by assumption)) rfl h31_1.nl rfl h31_4.nl (by first | with_reducible assumption | exact dval_dman _ _ | exact dval_zero | exact dval_dg (by assumption) (by assumption) | exact dval_dl (by assumption) (by assumption)) (by first | with_reducible assumption | exact dval_dman _ _ | exact dval_zero | exact dval_dg (by assumption) (by assumption) | exact dval_dl (by assumption) (by assumption)) samev_self) (fun v32 w32 e32 h32 => ?_)
    have z32 := e32.size
    obtain rfl := h32
    exact WL_nil ⟨e32, rfl⟩
   apply AnyR_val [68, 72] rfl (by kernel_rfl)
   · --
    intro y33 hy33
    have zy33 := hy33.size
    refine AllV_v ?_
    refine AllV_v ?_
    refine AllV_nil ?_
    refine O_pickT rfl rfl rfl rfl ?_
    exact WL_nil ⟨(Ext.refl _), rfl⟩
   apply AnyR_val [73] rfl (by kernel_rfl)
   · --
    intro y34 hy34
    have zy34 := hy34.size
    refine AllV_v ?_
    refine AllV_nil ?_
    refine O_move rfl rfl rfl ?_
    exact WL_nil ⟨(Ext.refl _), rfl⟩
   apply AnyR_val [74, 7] rfl (by kernel_rfl)
   · --
    intro y35 hy35
    have zy35 := hy35.size
    refine AllV_v ?_
    refine AllV_nil ?_
    refine O_loadA (vs := [_, _, _, _, _, _]) S53 rfl rfl rfl (((((((((((((b11.ext e12).ext e13).chg q14 (by first | assumption | omega)).ext e15).ext e16).chg q17 (by first | assumption | omega)).ext e18).ext e19).chg q20 (by first | assumption | omega)).ext e21).ext e22).chg q23 (by first | assumption | omega)).ext hy35) rfl rfl ?_
    exact WL_nil ⟨(Ext.refl _), rfl⟩
   apply AnyR_val [74, 9] rfl (by kernel_rfl)
   · --
    intro y36 hy36
    have zy36 := hy36.size
    refine AllV_v ?_
    refine AllV_nil ?_
    refine O_loadA (vs := [_, _, _, _, _, _]) S53 rfl rfl rfl ((((((((((b14.ext e15).ext e16).chg q17 (by first | assumption | omega)).ext e18).ext e19).chg q20 (by first | assumption | omega)).ext e21).ext e22).chg q23 (by first | assumption | omega)).ext hy36) rfl rfl ?_
    exact WL_nil ⟨(Ext.refl _), rfl⟩
   apply AnyR_rel (RelP (pAgg [pEq _, pNo 0 111 _, pEq _, pEq _, pNo 0 111 _, pEq _])) [74, 75, 76] rfl (RelP.mono (pAgg_mono (PsM.cons pEq_mono (PsM.cons pNo_mono (PsM.cons pEq_mono (PsM.cons pEq_mono (PsM.cons pNo_mono (PsM.cons pEq_mono PsM.nil)))))))) (by kernel_rfl)
   · --
    intro y37 hy37
    have zy37 := hy37.size
    refine AllV_v ?_
    refine AllV_v ?_
    refine AllV_v ?_
    refine AllV_nil ?_
    refine O_call enters52 rfl rfl rfl (hull_c rfl ((((((((((((((((hmq9.ext e10).chgBk b10 (by decide) q11).ext e12).ext e13).chgBk b13 (by decide) q14).ext e15).ext e16).chgBk b16 (by decide) q17).ext e18).ext e19).chgBk b19 (by decide) q20).ext e21).ext e22).chgBk b22 (by decide) q23).ext hy37).mono (Nat.zero_le _)) rfl ((((((((((((((((hms9.ext e10).chgBk b10 (by decide) q11).ext e12).ext e13).chgBk b13 (by decide) q14).ext e15).ext e16).chgBk b16 (by decide) q17).ext e18).ext e19).chgBk b19 (by decide) q20).ext e21).ext e22).chgBk b22 (by decide) q23).ext hy37).mono (Nat.zero_le _)) (by first | with_reducible assumption | exact dval_dman _ _ | exact dval_zero | exact dval_dg (by assumption) (by assumption) | exact dval_dl (by assumption) (by assumption)) (by first | with_reducible assumption | exact dval_dman _ _ | exact dval_zero | exact dval_dg (by assumption) (by assumption) | exact dval_dl (by assumption) (by assumption)) rfl (((((((((((((hmq12.ext e13).chgBk b13 (by decide) q14).ext e15).ext e16).chgBk b16 (by decide) q17).ext e18).ext e19).chgBk b19 (by decide) q20).ext e21).ext e22).chgBk b22 (by decide) q23).ext hy37).mono (Nat.zero_le _)) rfl (((((((((((((hms12.ext e13).chgBk b13 (by decide) q14).ext e15).ext e16).chgBk b16 (by decide) q17).ext e18).ext e19).chgBk b19 (by decide) q20).ext e21).ext e22).chgBk b22 (by decide) q23).ext hy37).mono (Nat.zero_le _)) (by first | with_reducible assumption | exact dval_dman _ _ | exact dval_zero | exact dval_dg (by assumption) (by assumption) | exact dval_dl (by assumption) (by assumption)) (by first | with_reducible assumption | exact dval_dman _ _ | exact dval_zero | exact dval_dg (by assumption) (by assumption) | exact dval_dl (by assumption) (by assumption))) (fun v38 w38 e38 h38 => ?_)
    have z38 := e38.size
    try simp only [val_dig] at h38
    obtain ⟨mq38, ms38, rfl, hmq38, hms38⟩ := h38
    rw [a5] at hmq38
    rw [a7] at hms38
    rw [a5, a6, a7, a8]
    exact WL_nil ⟨e38, _, rfl, ⟨_, rfl, (AllP.cons rfl (AllP.cons (hmq38.mono (Nat.zero_le _)) (AllP.cons rfl (AllP.cons rfl (AllP.cons (hms38.mono (Nat.zero_le _)) (AllP.cons rfl AllP.nil))))))⟩⟩
   apply AnyR_val [74, 3] rfl (by kernel_rfl)
   · --
    intro y39 hy39
    have zy39 := hy39.size
    refine AllV_v ?_
    refine AllV_nil ?_
    refine O_loadA (vs := [_, _, _, _, _, _]) S53 rfl rfl rfl (((((((((((((((((((b5.ext e6).ext e7).chg q8 (by first | assumption | omega)).ext e9).ext e10).chg q11 (by first | assumption | omega)).ext e12).ext e13).chg q14 (by first | assumption | omega)).ext e15).ext e16).chg q17 (by first | assumption | omega)).ext e18).ext e19).chg q20 (by first | assumption | omega)).ext e21).ext e22).chg q23 (by first | assumption | omega)).ext hy39) rfl rfl ?_
    exact WL_nil ⟨(Ext.refl _), rfl⟩
   apply AnyR_val [74, 77, 78] rfl (by kernel_rfl)
   · --
    intro y40 hy40
    have zy40 := hy40.size
    refine AllV_v ?_
    refine AllV_r fun a41 b41 v41 la41 lb41 lc41 h41 ap41 => ?_
    clear ap41
    obtain ⟨_, rfl, v41_0, _, rfl, rfl, v41_1, _, rfl, h41_1, v41_2, _, rfl, rfl, v41_3, _, rfl, rfl, v41_4, _, rfl, h41_4, v41_5, _, rfl, rfl, rfl⟩ := h41
    refine AllV_v ?_
    refine AllV_nil ?_
    refine O_call enters50 rfl rfl rfl (ivsameT_c rfl h41_1.nl rfl h41_4.nl (by first | with_reducible assumption | exact dval_dman _ _ | exact dval_zero | exact dval_dg (by assumption) (by assumption) | exact dval_dl (by assumption) (by assumption)) (by first | with_reducible assumption | exact dval_dman _ _ | exact dval_zero | exact dval_dg (by assumption) (by assumption) | exact dval_dl (by assumption) (by assumption)) rfl (((((((((((((((((((((hqA.ext e4).chgBk b4 (by decide) q5).ext e6).ext e7).chgBk b7 (by decide) q8).ext e9).ext e10).chgBk b10 (by decide) q11).ext e12).ext e13).chgBk b13 (by decide) q14).ext e15).ext e16).chgBk b16 (by decide) q17).ext e18).ext e19).chgBk b19 (by decide) q20).ext e21).ext e22).chgBk b22 (by decide) q23).ext hy40).nl rfl (((((((((((((((((((((hsA.ext e4).chgBk b4 (by decide) q5).ext e6).ext e7).chgBk b7 (by decide) q8).ext e9).ext e10).chgBk b10 (by decide) q11).ext e12).ext e13).chgBk b13 (by decide) q14).ext e15).ext e16).chgBk b16 (by decide) q17).ext e18).ext e19).chgBk b19 (by decide) q20).ext e21).ext e22).chgBk b22 (by decide) q23).ext hy40).nl (by first | with_reducible assumption | exact dval_dman _ _ | exact dval_zero | exact dval_dg (by assumption) (by assumption) | exact dval_dl (by assumption) (by assumption)) (by first | with_reducible assumption | exact dval_dman _ _ | exact dval_zero | exact dval_dg (by assumption) (by assumption) | exact dval_dl (by assumption) (by assumption)) samev_self) (fun v42 w42 e42 h42 => ?_)
    have z42 := e42.size
    obtain rfl := h42
    exact WL_nil ⟨e42, rfl⟩
   apply AnyR_val [74, 79] rfl (by kernel_rfl)
   · --
    intro y43 hy43
    have zy43 := hy43.size
    refine AllV_v ?_
    refine AllV_v ?_
    refine AllV_nil ?_
    refine O_pickT rfl rfl rfl rfl ?_
    exact WL_nil ⟨(Ext.refl _), rfl⟩
   apply AnyR_val [80] rfl (by kernel_rfl)
   · --
    intro y44 hy44
    have zy44 := hy44.size
    refine AllV_v ?_
    refine AllV_nil ?_
    refine O_move rfl rfl rfl ?_
    exact WL_nil ⟨(Ext.refl _), rfl⟩
   apply AnyR_val [81, 13] rfl (by kernel_rfl)
   · --
    intro y45 hy45
    have zy45 := hy45.size
    refine AllV_v ?_
    refine AllV_nil ?_
    refine O_loadA (vs := [_, _, _]) S26 rfl rfl rfl ((((b20.ext e21).ext e22).chg q23 (by first | assumption | omega)).ext hy45) rfl rfl ?_
    exact WL_nil ⟨(Ext.refl _), rfl⟩
   apply AnyR_rel (RelP (pAgg [pEq _, pNl _, pNl _])) [81, 82] rfl (RelP.mono (pAgg_mono (PsM.cons pEq_mono (PsM.cons pNl_mono (PsM.cons pNl_mono PsM.nil))))) (by kernel_rfl)
   · --
    intro y46 hy46
    have zy46 := hy46.size
    refine AllV_v ?_
    refine AllV_v ?_
    refine AllV_nil ?_
    refine O_call enters24 rfl rfl rfl (rdrat_c rfl ((((((hq18.ext e19).chgBk b19 (by decide) q20).ext e21).ext e22).chgBk b22 (by decide) q23).ext hy46).nl (by (try simp only [lens]); omega) (by (try simp only [lens]); omega) (by (try simp only [lens]); omega)) (fun v47 w47 e47 h47 => ?_)
    have z47 := e47.size
    try simp only [val_dig] at h47
    obtain ⟨rq47, rs47, rfl, hrq47, hrs47⟩ := h47
    exact WL_nil ⟨e47, _, rfl, ⟨_, rfl, (AllP.cons rfl (AllP.cons hrq47 (AllP.cons hrs47 AllP.nil)))⟩⟩
   apply AnyR_val [81, 15] rfl (by kernel_rfl)
   · --
    intro y48 hy48
    have zy48 := hy48.size
    refine AllV_v ?_
    refine AllV_nil ?_
    refine O_loadA (vs := [_, _, _]) S26 rfl rfl rfl (b23.ext hy48) rfl rfl ?_
    exact WL_nil ⟨(Ext.refl _), rfl⟩
   refine AnyR_nil fun y49 hy49 => ?_
   have zy49 := hy49.size
   refine AllV_v ?_
   refine AllV_v ?_
   refine AllV_v ?_
   refine AllV_v ?_
   refine AllV_r fun a50 b50 v50 la50 lb50 lc50 h50 ap50 => ?_
   clear ap50
   obtain ⟨_, rfl, v50_0, _, rfl, rfl, v50_1, _, rfl, h50_1, v50_2, _, rfl, rfl, v50_3, _, rfl, rfl, v50_4, _, rfl, h50_4, v50_5, _, rfl, rfl, rfl⟩ := h50
   refine AllV_v ?_
   refine AllV_v ?_
   refine AllV_v ?_
   refine AllV_v ?_
   refine AllV_v ?_
   refine AllV_r fun a51 b51 v51 la51 lb51 lc51 h51 ap51 => ?_
   clear ap51
   obtain ⟨_, rfl, v51_0, _, rfl, rfl, v51_1, _, rfl, h51_1, v51_2, _, rfl, rfl, v51_3, _, rfl, rfl, v51_4, _, rfl, h51_4, v51_5, _, rfl, rfl, rfl⟩ := h51
   refine AllV_v ?_
   refine AllV_v ?_
   refine AllV_v ?_
   refine AllV_v ?_
   refine AllV_v ?_
   refine AllV_r fun a52 b52 v52 la52 lb52 lc52 h52 ap52 => ?_
   clear ap52
   obtain ⟨_, rfl, v52_0, _, rfl, rfl, v52_1, _, rfl, h52_1, v52_2, _, rfl, h52_2, rfl⟩ := h52
   refine AllV_v ?_
   refine AllV_nil ?_
   refine O_call enters24 rfl rfl rfl (rdrat_c rfl (((hq21.ext e22).chgBk b22 (by decide) q23).ext hy49).nl (by (try simp only [lens]); omega) (by (try simp only [lens]); omega) (by (try simp only [lens]); omega)) (fun v53 w53 e53 h53 => ?_)
   have z53 := e53.size
   try simp only [val_dig] at h53
   obtain ⟨rq53, rs53, rfl, hrq53, hrs53⟩ := h53
   refine O_call enters53 rfl rfl rfl (rsameR_c rfl (h52_1.ext e53) (h52_2.ext e53) hrq53 hrs53 (by first | with_reducible assumption | omega) (by first | with_reducible assumption | omega)) (fun v54 w54 e54 h54 => ?_)
   have z54 := e54.size
   obtain rfl := h54
   refine O_pickT rfl rfl rfl rfl ?_
   refine O_assign rfl rfl rfl ?_
   refine WL_end [(2, _)] ⟨rfl, trivial⟩ ?_
   refine WP_ret ?_
   refine ret1 Tryd.results10 rfl ?_
   exact ⟨_, rfl, (((e23.trans hy49).trans e53).trans e54), rfl⟩

end Go.Proofs.YthbfhljpfkicpaaDoor
