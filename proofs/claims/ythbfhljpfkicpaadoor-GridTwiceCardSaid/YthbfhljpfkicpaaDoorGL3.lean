/-
  Walks.
-/
import Derived.Test.YthbfhljpfkicpaaDoorG5
set_option linter.unusedVariables false
set_option linter.unusedSimpArgs false
set_option maxRecDepth 100000
namespace Go.Proofs.YthbfhljpfkicpaaDoor
open Go Go.RowKit
theorem scl_made {c f p : Int} (hc : dcode c f = 0) : scl (dman c f) (dexp c f + p) = scl c (f + p) := by
  obtain ⟨k1, k2⟩ := dman_ok hc
  rw [k1, k2]
  by_cases h : c = 0
  · subst h; rw [odn_zero, scl_zero, scl_zero]
  · rw [if_neg h]
    have h1 := scl_shl (odn c) (e := ((tz c.natAbs : Nat) : Int)) (p := f + p) (by omega)
    rw [Int.toNat_natCast, odn_spec] at h1
    rw [h1]; congr 1; omega
theorem cutq_coarse {P : Int} {Q : Nat} {p d : Int} (hQ : Q ≠ 0) (hp : 0 ≤ p) (hd : 0 ≤ d) : scl (cutq P Q (p + d)) (-d) = cutq P Q p := by
  have hQp : (0 : Int) < (Q : Nat) := by omega
  have hp2 := ipow_pos d.toNat
  unfold cutq
  rw [if_neg (by omega), if_neg (by omega), scl_neg (by omega), Int.neg_neg, Int.ediv_ediv, if_neg (by omega), Int.sub_zero,
    show (p + d).toNat = p.toNat + d.toNat from by omega, ipow_add, ← Int.mul_assoc]
  exact Int.mul_ediv_mul_of_pos_left _ _ hp2
theorem dexp_ge {c f : Int} (hc : dcode c f = 0) : dman c f = 0 ∨ f ≤ dexp c f := by
  obtain ⟨k1, k2⟩ := dman_ok hc
  rw [k1, k2]
  by_cases h : c = 0
  · left; rw [h, odn_zero]
  · right; rw [if_neg h]; omega
theorem ongrid_made {c k : Int} (hp : perm k) : ongrid (dman c (-k)) (dexp c (-k)) k := by
  refine ⟨hp, ?_⟩
  by_cases hc : dcode c (-k) = 0
  · exact dexp_ge hc
  · left; exact (dman_bad hc).1
theorem near_made {c k : Int} (hp : perm k) : dcode (ner (dman c (-k)) (dexp c (-k) + k)) (-k) = 0 ∧ dman (ner (dman c (-k)) (dexp c (-k) + k)) (-k) = dman c (-k) ∧ dexp (ner (dman c (-k)) (dexp c (-k) + k)) (-k) = dexp c (-k) := by
  have h1 := ner_on (dval_dman c (-k)) (ongrid_made (c := c) hp)
  have h2 := dval_made (dval_dman c (-k))
  exact ⟨h1.1.trans h2.1, h1.2.1.trans h2.2.1, h1.2.2.trans h2.2.2⟩

set_option maxHeartbeats 4000000 in
theorem law_GridTwice {w : World} {vp vq : Value} {lp lq : List Nat} {bp : Bool} {k1 k2 : Int} (hp : Nl w vp lp) (hq : Nl w vq lq) (hT : Tab w) :
    Calls Tryd.prog 6 #[.agg #[.bool bp, vp, vq], .int .i64 k1, .int .i64 k2] w (Ret w fun r _ => r = .bool true) := by
 refine enter (args := [_, _, _]) Tryd.func6 rfl Tryd.ntmps6 rfl ?_
 refine WP_seq ?_
 refine WP_region ?_
 refine O_box _ rfl rfl rfl rfl (fun g1 w1 b1 e1 gl1 gh1 => ?_)
 have z1 := e1.size
 refine O_assign rfl rfl rfl ?_
 refine WL_end [(1, _), (2, _), (3, _)] ⟨rfl, rfl, rfl, trivial⟩ ?_
 refine WP_seq ?_
 refine WP_seq ?_
 refine WP_region ?_
 refine O_call enters11 rfl rfl rfl (awake9_c (hT.ext e1)) (fun v2 w2 e2 h2 => ?_)
 have z2 := e2.size
 obtain rfl := h2
 refine O_not rfl rfl rfl rfl ?_
 refine WL_end [(1, _), (2, _), (3, _), (18, _)] ⟨rfl, rfl, rfl, rfl, trivial⟩ ?_
 refine WP_condF rfl ?_
 refine WP_skip ?_
 refine WP_seq ?_
 refine WP_region ?_
 refine O_loadA (vs := [_, _, _]) S40 rfl rfl rfl (b1.ext e2) rfl rfl ?_
 refine O_call enters32 rfl rfl rfl (mrat_c (n := 8) (hp.ext (e1.trans e2)) (hq.ext (e1.trans e2)) (by decide) (by decide)) (fun v3 w3 e3 h3 => ?_)
 have z3 := e3.size
 try simp only [val_dig] at h3
 obtain ⟨P, Q, nR, dR, bR, rfl, hnR, hdR, hbR, hlP, hlQ⟩ := h3
 refine O_move rfl rfl rfl ?_
 refine O_extract rfl rfl rfl rfl ?_
 refine O_extract rfl rfl rfl rfl ?_
 refine O_alloc S40 rfl rfl (fun g4 w4 b4 e4 gl4 gh4 => ?_)
 have z4 := e4.size
 refine O_storeA (cs' := [_, _, _]) S40 rfl rfl rfl b4 rfl rfl (one_cons rfl (one_cons ((hnR.ext e4).nl).one (one_cons ((hdR.ext e4).nl).one one_nil))) rfl (fun w5 b5 q5 => ?_)
 have z5 := Nat.le_of_eq q5.size.symm
 have e5 : Ext w w5 := q5.ext (((e1.trans e2).trans e3).trans e4) (by omega)
 refine O_assign rfl rfl rfl ?_
 refine WL_end [(1, _), (2, _), (7, _), (8, _)] ⟨rfl, rfl, rfl, rfl, trivial⟩ ?_
 refine WP_seq ?_
 refine WP_seq ?_
 refine WP_region ?_
 refine O_move rfl rfl rfl ?_
 refine O_not rfl rfl rfl rfl ?_
 refine WL_end [(1, _), (2, _), (7, _), (25, _)] ⟨rfl, rfl, rfl, rfl, trivial⟩ ?_
 refine WP_cond rfl (fun c25 => ?_) (fun c25 => ?_)
 · --
  refine WP_seq ?_
  refine WP_region ?_
  refine O_assign rfl rfl rfl ?_
  refine WL_end [(6, _)] ⟨rfl, trivial⟩ ?_
  refine WP_ret ?_
  refine ret1 Tryd.results6 rfl ?_
  exact ⟨_, rfl, e5, rfl⟩
 · --
  refine WP_skip ?_
  refine WP_seq ?_
  have hq0 : Q ≠ 0 := Nat.ne_of_gt (hbR (by simpa using c25)).1
  obtain ⟨c1, -, -, -, l1⟩ := dcode_small (x := cutq P Q (k1 % 200 + k2 % 100)) (e := -(k1 % 200 + k2 % 100)) (a := 19) (m := 300) (Nat.le_trans (cutq_len (k := (k1 % 200 + k2 % 100)) (m := 300) hlP (by decide) hq0 (by omega)) (by decide)) (by omega) (by omega) (by decide)
  obtain ⟨c2, -, -, -, l2⟩ := dcode_small (x := cutq P Q (k1 % 200)) (e := -(k1 % 200)) (a := 19) (m := 300) (Nat.le_trans (cutq_len (k := k1 % 200) (m := 300) hlP (by decide) hq0 (by omega)) (by decide)) (by omega) (by omega) (by decide)
  have hE : scl (dman (cutq P Q (k1 % 200 + k2 % 100)) (-(k1 % 200 + k2 % 100))) (dexp (cutq P Q (k1 % 200 + k2 % 100)) (-(k1 % 200 + k2 % 100)) + k1 % 200) = cutq P Q (k1 % 200) := by rw [scl_made c1, show -(k1 % 200 + k2 % 100) + k1 % 200 = -(k2 % 100) from by omega]; exact cutq_coarse hq0 (by omega) (by omega)
  obtain ⟨n1, n2, n3⟩ := near_made (c := cutq P Q (k1 % 200)) (k := k1 % 200) (by unfold perm; omega)
  · --
   skip
   refine WP_region ?_
   refine O_move rfl rfl rfl ?_
   refine O_call enters21 rfl rfl rfl (mod_c (by (try simp only [lens]); omega) (by (try simp only [lens]); omega)) (fun v6 w6 e6 h6 => ?_)
   have z6 := e6.size
   obtain rfl := h6
   refine O_assign rfl rfl rfl ?_
   refine WL_end [(1, _), (2, _), (7, _)] ⟨rfl, rfl, rfl, trivial⟩ ?_
   refine WP_seq ?_
   refine WP_region ?_
   refine O_move rfl rfl rfl ?_
   refine O_move rfl rfl rfl ?_
   refine O_call enters21 rfl rfl rfl (mod_c (by (try simp only [lens]); omega) (by (try simp only [lens]); omega)) (fun v7 w7 e7 h7 => ?_)
   have z7 := e7.size
   obtain rfl := h7
   refine O_add rfl rfl rfl rfl (wrap_i64_id (by omega) (by omega)) ?_
   refine O_assign rfl rfl rfl ?_
   refine WL_end [(1, _), (2, _), (7, _)] ⟨rfl, rfl, rfl, trivial⟩ ?_
   refine WP_seq ?_
   refine WP_region ?_
   refine O_loadA (vs := [_, _, _]) S40 rfl rfl rfl ((b5.ext e6).ext e7) rfl rfl ?_
   refine O_move rfl rfl rfl ?_
   refine O_call enters33 rfl rfl rfl (gfloorrat_T rfl ((((hnR.ext e4).chgBk b4 (by decide) q5).ext e6).ext e7).nl ((((hdR.ext e4).chgBk b4 (by decide) q5).ext e6).ext e7).nl (by first | with_reducible assumption | omega) (by first | with_reducible assumption | omega) (by first | with_reducible assumption | omega) (by unfold perm; omega) (hT.ext ((e5.trans e6).trans e7))) (fun v8 w8 e8 h8 => ?_)
   have z8 := e8.size
   try simp only [val_dig] at h8
   obtain ⟨q8, rfl, hq8⟩ := h8
   refine O_move rfl rfl rfl ?_
   refine O_extract rfl rfl rfl rfl ?_
   refine O_extract rfl rfl rfl rfl ?_
   refine O_alloc S26 rfl rfl (fun g9 w9 b9 e9 gl9 gh9 => ?_)
   have z9 := e9.size
   refine O_storeA (cs' := [_, _, _]) S26 rfl rfl rfl b9 rfl rfl (one_cons rfl (one_cons ((hq8.ext e9).nl).one (one_cons rfl one_nil))) rfl (fun w10 b10 q10 => ?_)
   have z10 := Nat.le_of_eq q10.size.symm
   have e10 : Ext w w10 := q10.ext ((((e5.trans e6).trans e7).trans e8).trans e9) (by omega)
   refine O_assign rfl rfl rfl ?_
   refine WL_end [(1, _), (7, _), (9, _), (10, _)] ⟨rfl, rfl, rfl, rfl, trivial⟩ ?_
   refine WP_seq ?_
   refine WP_region ?_
   refine O_loadA (vs := [_, _, _]) S26 rfl rfl rfl b10 rfl rfl ?_
   refine O_move rfl rfl rfl ?_
   refine O_call enters14 rfl rfl rfl (gfloor_T rfl ((hq8.ext e9).chgBk b9 (by decide) q10).nl (by first | with_reducible assumption | exact dval_dman _ _ | exact dval_zero | exact (dval_neg _ _).trans (by assumption) | exact dval_dg (by assumption) (by assumption) | exact dval_dl (by assumption) (by assumption)) (by unfold perm; omega) (hT.ext e10)) (fun v11 w11 e11 h11 => ?_)
   have z11 := e11.size
   try simp only [val_dig] at h11
   obtain ⟨q11, rfl, hq11⟩ := h11
   rw [hE] at hq11 ⊢
   refine O_move rfl rfl rfl ?_
   refine O_extract rfl rfl rfl rfl ?_
   refine O_extract rfl rfl rfl rfl ?_
   refine O_alloc S26 rfl rfl (fun g12 w12 b12 e12 gl12 gh12 => ?_)
   have z12 := e12.size
   refine O_storeA (cs' := [_, _, _]) S26 rfl rfl rfl b12 rfl rfl (one_cons rfl (one_cons ((hq11.ext e12).nl).one (one_cons rfl one_nil))) rfl (fun w13 b13 q13 => ?_)
   have z13 := Nat.le_of_eq q13.size.symm
   have e13 : Ext w w13 := q13.ext ((e10.trans e11).trans e12) (by omega)
   refine O_assign rfl rfl rfl ?_
   refine WL_end [(1, _), (7, _), (10, _), (11, _), (12, _)] ⟨rfl, rfl, rfl, rfl, rfl, trivial⟩ ?_
   refine WP_seq ?_
   refine WP_region ?_
   refine O_loadA (vs := [_, _, _]) S40 rfl rfl rfl ((((((((b5.ext e6).ext e7).ext e8).ext e9).chg q10 (by first | assumption | omega)).ext e11).ext e12).chg q13 (by first | assumption | omega)) rfl rfl ?_
   refine O_move rfl rfl rfl ?_
   refine O_call enters33 rfl rfl rfl (gfloorrat_T rfl ((((((((((hnR.ext e4).chgBk b4 (by decide) q5).ext e6).ext e7).ext e8).ext e9).chgBk b9 (by decide) q10).ext e11).ext e12).chgBk b12 (by decide) q13).nl ((((((((((hdR.ext e4).chgBk b4 (by decide) q5).ext e6).ext e7).ext e8).ext e9).chgBk b9 (by decide) q10).ext e11).ext e12).chgBk b12 (by decide) q13).nl (by first | with_reducible assumption | omega) (by first | with_reducible assumption | omega) (by first | with_reducible assumption | omega) (by unfold perm; omega) (hT.ext e13)) (fun v14 w14 e14 h14 => ?_)
   have z14 := e14.size
   try simp only [val_dig] at h14
   obtain ⟨q14, rfl, hq14⟩ := h14
   refine O_move rfl rfl rfl ?_
   refine O_extract rfl rfl rfl rfl ?_
   refine O_extract rfl rfl rfl rfl ?_
   refine O_alloc S26 rfl rfl (fun g15 w15 b15 e15 gl15 gh15 => ?_)
   have z15 := e15.size
   refine O_storeA (cs' := [_, _, _]) S26 rfl rfl rfl b15 rfl rfl (one_cons rfl (one_cons ((hq14.ext e15).nl).one (one_cons rfl one_nil))) rfl (fun w16 b16 q16 => ?_)
   have z16 := Nat.le_of_eq q16.size.symm
   have e16 : Ext w w16 := q16.ext ((e13.trans e14).trans e15) (by omega)
   refine O_assign rfl rfl rfl ?_
   refine WL_end [(1, _), (10, _), (11, _), (12, _), (13, _), (14, _)] ⟨rfl, rfl, rfl, rfl, rfl, rfl, trivial⟩ ?_
   refine WP_seq ?_
   refine WP_region ?_
   refine O_loadA (vs := [_, _, _]) S26 rfl rfl rfl (((b13.ext e14).ext e15).chg q16 (by first | assumption | omega)) rfl rfl ?_
   refine O_move rfl rfl rfl ?_
   refine O_call enters16 rfl rfl rfl (gnear_T rfl (((((hq11.ext e12).chgBk b12 (by decide) q13).ext e14).ext e15).chgBk b15 (by decide) q16).nl (by first | with_reducible assumption | exact dval_dman _ _ | exact dval_zero | exact (dval_neg _ _).trans (by assumption) | exact dval_dg (by assumption) (by assumption) | exact dval_dl (by assumption) (by assumption)) (by unfold perm; omega) (hT.ext e16)) (fun v17 w17 e17 h17 => ?_)
   have z17 := e17.size
   try simp only [val_dig] at h17
   obtain ⟨q17, rfl, hq17⟩ := h17
   rw [n2] at hq17
   rw [n1, n2, n3]
   refine O_move rfl rfl rfl ?_
   refine O_extract rfl rfl rfl rfl ?_
   refine O_extract rfl rfl rfl rfl ?_
   refine O_alloc S26 rfl rfl (fun g18 w18 b18 e18 gl18 gh18 => ?_)
   have z18 := e18.size
   refine O_storeA (cs' := [_, _, _]) S26 rfl rfl rfl b18 rfl rfl (one_cons rfl (one_cons ((hq17.ext e18).nl).one (one_cons rfl one_nil))) rfl (fun w19 b19 q19 => ?_)
   have z19 := Nat.le_of_eq q19.size.symm
   have e19 : Ext w w19 := q19.ext ((e16.trans e17).trans e18) (by omega)
   refine O_assign rfl rfl rfl ?_
   refine WL_end [(10, _), (11, _), (12, _), (13, _), (14, _), (15, _), (16, _)] ⟨rfl, rfl, rfl, rfl, rfl, rfl, rfl, trivial⟩ ?_
   refine WP_seq ?_
   refine WP_region ?_
   refine O_move rfl rfl rfl ?_
   refine O_eql (t := true) rfl rfl rfl rfl (decide_eq_true c1) ?_
   refine O_move rfl rfl rfl ?_
   refine O_move rfl rfl rfl ?_
   refine O_eql (t := true) rfl rfl rfl rfl (decide_eq_true c2) ?_
   refine O_pickT rfl rfl rfl rfl ?_
   refine O_move rfl rfl rfl ?_
   refine O_move rfl rfl rfl ?_
   refine O_eql (t := true) rfl rfl rfl rfl (decide_eq_true c2) ?_
   refine O_pickT rfl rfl rfl rfl ?_
   refine O_move rfl rfl rfl ?_
   refine O_move rfl rfl rfl ?_
   refine O_eql (t := true) rfl rfl rfl rfl (decide_eq_true rfl) ?_
   refine O_pickT rfl rfl rfl rfl ?_
   refine O_move rfl rfl rfl ?_
   refine O_loadA (vs := [_, _, _]) S26 rfl rfl rfl ((((((b13.ext e14).ext e15).chg q16 (by first | assumption | omega)).ext e17).ext e18).chg q19 (by first | assumption | omega)) rfl rfl ?_
   refine O_loadA (vs := [_, _, _]) S26 rfl rfl rfl (((b16.ext e17).ext e18).chg q19 (by first | assumption | omega)) rfl rfl ?_
   refine O_call enters20 rfl rfl rfl (rdsame_c rfl ((((((((hq11.ext e12).chgBk b12 (by decide) q13).ext e14).ext e15).chgBk b15 (by decide) q16).ext e17).ext e18).chgBk b18 (by decide) q19).nl (((((hq14.ext e15).chgBk b15 (by decide) q16).ext e17).ext e18).chgBk b18 (by decide) q19).nl (by (try simp only [lens]); omega) (by (try simp only [lens]); omega) rfl rfl) (fun v20 w20 e20 h20 => ?_)
   have z20 := e20.size
   obtain rfl := h20
   refine O_pickT rfl rfl rfl rfl ?_
   refine O_move rfl rfl rfl ?_
   refine O_loadA (vs := [_, _, _]) S26 rfl rfl rfl (b19.ext e20) rfl rfl ?_
   refine O_loadA (vs := [_, _, _]) S26 rfl rfl rfl (((((((b13.ext e14).ext e15).chg q16 (by first | assumption | omega)).ext e17).ext e18).chg q19 (by first | assumption | omega)).ext e20) rfl rfl ?_
   refine O_call enters20 rfl rfl rfl (rdsame_c rfl (((hq17.ext e18).chgBk b18 (by decide) q19).ext e20).nl (((((((((hq11.ext e12).chgBk b12 (by decide) q13).ext e14).ext e15).chgBk b15 (by decide) q16).ext e17).ext e18).chgBk b18 (by decide) q19).ext e20).nl (by (try simp only [lens]); omega) (by (try simp only [lens]); omega) rfl rfl) (fun v21 w21 e21 h21 => ?_)
   have z21 := e21.size
   obtain rfl := h21
   refine O_pickT rfl rfl rfl rfl ?_
   refine O_assign rfl rfl rfl ?_
   refine WL_end [(6, _)] ⟨rfl, trivial⟩ ?_
   refine WP_ret ?_
   refine ret1 Tryd.results6 rfl ?_
   exact ⟨_, rfl, ((e19.trans e20).trans e21), rfl⟩

end Go.Proofs.YthbfhljpfkicpaaDoor
