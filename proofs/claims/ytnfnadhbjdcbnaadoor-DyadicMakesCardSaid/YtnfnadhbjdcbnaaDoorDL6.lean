/-
  Walks.
-/
import Derived.Test.YtnfnadhbjdcbnaaDoorD12
set_option linter.unusedVariables false
set_option linter.unusedSimpArgs false
set_option maxRecDepth 100000
namespace Go.Proofs.YtnfnadhbjdcbnaaDoor
open Go Go.RowKit
theorem i64_lo {n : Int} (h : (Lit.int .i64 n).wf = true) : -9223372036854775808 ≤ n := by
  simp [Lit.wf, IntKind.has, IntKind.min, IntKind.max, IntKind.bits, IntKind.signed] at h
  omega
theorem i64_hi {n : Int} (h : (Lit.int .i64 n).wf = true) : n ≤ 9223372036854775807 := by
  simp [Lit.wf, IntKind.has, IntKind.min, IntKind.max, IntKind.bits, IntKind.signed] at h
  omega

set_option maxHeartbeats 4000000 in
theorem law_DM_T {w : World} {vx vy : Value} {lx ly : List Nat} {bx by_ : Bool} {e p zz n : Int} (hx : Nl w vx lx) (hy : Nl w vy ly) (hn1 : -9223372036854775808 ≤ n) (hn2 : n ≤ 9223372036854775807) (hT : Tab w) (h1 : ly.length ≤ 20) :
    Calls Tryd.prog 4 #[.agg #[.bool bx, vx, .int .i64 e], .agg #[.bool by_, vy], .int .i64 p, .int .i64 zz, .int .i64 n] w (Ret w fun r _ => r = .bool true) := by
 obtain ⟨kk, hkk⟩ : ∃ kk : Nat, zz % 100 = (kk : Int) := ⟨(zz % 100).toNat, by omega⟩
 have hkk2 : kk < 100 := by omega
 have hnl := dman_len (e := 0) (dig_i64 hn1 hn2)
 refine enter (args := [_, _, _, _, _]) Tryd.func4 rfl Tryd.ntmps4 rfl ?_
 refine WP_seq ?_
 refine WP_region ?_
 refine O_box _ rfl rfl rfl rfl (fun g1 w1 b1 e1 gl1 gh1 => ?_)
 have z1 := e1.size
 refine O_box _ rfl rfl rfl rfl (fun g2 w2 b2 e2 gl2 gh2 => ?_)
 have z2 := e2.size
 refine O_assign rfl rfl rfl ?_
 refine WL_end [(2, _), (3, _), (4, _), (5, _), (6, _)] ⟨rfl, rfl, rfl, rfl, rfl, trivial⟩ ?_
 refine WP_seq ?_
 refine WP_seq ?_
 refine WP_region ?_
 refine O_call enters9 rfl rfl rfl (awake8_c (hT.ext (e1.trans e2))) (fun v3 w3 e3 h3 => ?_)
 have z3 := e3.size
 obtain rfl := h3
 refine O_not rfl rfl rfl rfl ?_
 refine WL_end [(2, _), (3, _), (4, _), (5, _), (6, _), (20, _)] ⟨rfl, rfl, rfl, rfl, rfl, rfl, trivial⟩ ?_
 refine WP_condF rfl ?_
 refine WP_skip ?_
 refine WP_seq ?_
 refine WP_region ?_
 refine O_loadA (vs := [_, _]) S24 rfl rfl rfl (b2.ext e3) rfl rfl ?_
 refine O_call enters20 rfl rfl rfl (mint_T (hy.ext ((e1.trans e2).trans e3)) (by (try simp only [lens]); omega) (by (try simp only [lens]); omega)) (fun v4 w4 e4 h4 => ?_)
 have z4 := e4.size
 try simp only [val_dig] at h4
 obtain ⟨q4, rfl, hq4⟩ := h4
 have hlX := mk_len (a := 20) by_ hy (by omega)
 generalize mk by_ (val ly) = X at hq4 hlX ⊢
 have hlZ := shl_len' (k := kk) hlX
 refine O_move rfl rfl rfl ?_
 refine O_extract rfl rfl rfl rfl ?_
 refine O_extract rfl rfl rfl rfl ?_
 refine O_alloc S24 rfl rfl (fun g5 w5 b5 e5 gl5 gh5 => ?_)
 have z5 := e5.size
 refine O_storeA (cs' := [_, _]) S24 rfl rfl rfl b5 rfl rfl (one_cons rfl (one_cons ((hq4.ext e5).nl).one one_nil)) rfl (fun w6 b6 q6 => ?_)
 have z6 := Nat.le_of_eq q6.size.symm
 have e6 : Ext w w6 := q6.ext ((((e1.trans e2).trans e3).trans e4).trans e5) (by omega)
 refine O_assign rfl rfl rfl ?_
 refine WL_end [(2, _), (3, _), (4, _), (5, _), (11, _), (12, _)] ⟨rfl, rfl, rfl, rfl, rfl, rfl, trivial⟩ ?_
 refine WP_seq ?_
 refine WP_seq ?_
 refine WP_region ?_
 refine O_move rfl rfl rfl ?_
 refine O_not rfl rfl rfl rfl ?_
 refine O_move rfl rfl rfl ?_
 refine O_field F26_0 rfl rfl rfl ?_
 refine O_field F24_1 rfl rfl rfl ?_
 refine O_loadC Tryd.underlying22 rfl rfl rfl rfl (((((b1.ext e2).ext e3).ext e4).ext e5).chg q6 (by first | assumption | omega)) rfl ?_
 refine N_len T22 rfl rfl rfl (hx.ext e6) ?_
 refine O_gtr rfl rfl rfl rfl rfl ?_
 refine O_pickF rfl rfl rfl rfl ?_
 refine WL_end [(2, _), (3, _), (4, _), (5, _), (11, _), (34, _)] ⟨rfl, rfl, rfl, rfl, rfl, rfl, trivial⟩ ?_
 refine WP_condD rfl (fun c34 => ?_) (fun c34 => ?_)
 · --
  refine WP_seq ?_
  refine WP_region ?_
  refine O_assign rfl rfl rfl ?_
  refine WL_end [(10, _)] ⟨rfl, trivial⟩ ?_
  refine WP_ret ?_
  refine ret1 Tryd.results4 rfl ?_
  exact ⟨_, rfl, e6, rfl⟩
 · --
  refine WP_skip ?_
  refine WP_seq ?_
  refine WP_sub [(2, _), (3, _), (4, _), (5, _), (11, _)] ⟨rfl, rfl, rfl, rfl, rfl, trivial⟩ ?_
  refine WP_anyR 3 [2, 3, 4, 5, 11] mixed rfl (by kernel_rfl) ?_
  apply AnyR_val [11] rfl (by kernel_rfl)
  · --
   intro y7 hy7
   have zy7 := hy7.size
   refine AllV_nil ?_
   refine O_loadA (vs := [_, _]) S24 rfl rfl rfl (b6.ext hy7) rfl rfl ?_
   exact WL_nil ⟨(Ext.refl _), rfl⟩
  apply AnyR_val [3] rfl (by kernel_rfl)
  · --
   intro y8 hy8
   have zy8 := hy8.size
   refine AllV_nil ?_
   refine O_move rfl rfl rfl ?_
   exact WL_nil ⟨(Ext.refl _), rfl⟩
  apply AnyR_val [36] rfl (by kernel_rfl)
  · --
   intro y9 hy9
   have zy9 := hy9.size
   refine AllV_v ?_
   refine AllV_nil ?_
   refine O_call enters12 rfl rfl rfl (mod_c (by (try simp only [lens]); omega) (by (try simp only [lens]); omega)) (fun v10 w10 e10 h10 => ?_)
   have z10 := e10.size
   obtain rfl := h10
   rw [hkk]
   exact WL_nil ⟨e10, rfl⟩
  refine AnyR_nil fun y11 hy11 => ?_
  have zy11 := hy11.size
  refine AllV_v ?_
  refine AllV_v ?_
  refine AllV_v ?_
  refine AllV_nil ?_
  refine O_call enters21 rfl rfl rfl (rishl_c rfl (((hq4.ext e5).chgBk b5 (by decide) q6).ext hy11).nl (by (try simp only [lens]); omega) (by (try simp only [lens]); omega)) (fun v12 w12 e12 h12 => ?_)
  have z12 := e12.size
  try simp only [val_dig] at h12
  obtain ⟨q12, rfl, hq12⟩ := h12
  refine O_storeA (cs' := [_, _]) S24 rfl rfl rfl ((b6.ext hy11).ext e12) rfl rfl (one_cons rfl (one_cons (hq12.nl).one one_nil)) rfl (fun w13 b13 q13 => ?_)
  have z13 := Nat.le_of_eq q13.size.symm
  have e13 : Ext w w13 := q13.ext ((e6.trans hy11).trans e12) (by omega)
  refine WL_end [(2, _), (4, _), (5, _), (11, _)] ⟨rfl, rfl, rfl, rfl, trivial⟩ ?_
  refine WP_seq ?_
  refine WP_seq ?_
  refine WP_region ?_
  refine O_move rfl rfl rfl ?_
  refine O_move rfl rfl rfl ?_
  refine O_call enters12 rfl rfl rfl (mod_c (by (try simp only [lens]); omega) (by (try simp only [lens]); omega)) (fun v14 w14 e14 h14 => ?_)
  have z14 := e14.size
  obtain rfl := h14
  refine O_sub (r := (p % 200 - 100)) rfl rfl rfl rfl (by rw [IntKind.wrap_i64]; omega) ?_
  refine O_move rfl rfl rfl ?_
  refine O_call enters12 rfl rfl rfl (mod_c (by (try simp only [lens]); omega) (by (try simp only [lens]); omega)) (fun v15 w15 e15 h15 => ?_)
  have z15 := e15.size
  obtain rfl := h15
  refine O_sub (r := (65536 - p % 200)) rfl rfl rfl rfl (by rw [IntKind.wrap_i64]; omega) ?_
  refine O_move rfl rfl rfl ?_
  refine O_call enters12 rfl rfl rfl (mod_c (by (try simp only [lens]); omega) (by (try simp only [lens]); omega)) (fun v16 w16 e16 h16 => ?_)
  have z16 := e16.size
  obtain rfl := h16
  refine O_sub (r := (-65536 - p % 120)) rfl rfl rfl rfl (by rw [IntKind.wrap_i64]; omega) ?_
  refine V_lit TDint rfl rfl [Value.int .i64 p, Value.int .i64 (p % 200 - 100), Value.int .i64 (65536 - p % 200), Value.int .i64 131072, Value.int .i64 (-65536 - p % 120)] (by intro u hu; simp only [List.mem_cons, List.mem_nil_iff, or_false] at hu; rcases hu with rfl | rfl | rfl | rfl | rfl <;> rfl) rfl (by decide) (by decide) rfl rfl (fun vt wt ot et => ?_)
  have zt := et.size
  refine V_len TDint rfl rfl rfl ot.sl ?_
  refine O_move rfl rfl rfl ?_
  refine WL_end [(4, _), (5, _), (11, _), (49, _), (50, _), (51, _)] ⟨rfl, rfl, rfl, rfl, rfl, rfl, trivial⟩ ?_
  refine WP_block ?_
  have hXq := (((((hq12.chgBk ((b6.ext hy11).ext e12) (by decide) q13).ext e14).ext e15).ext e16).ext et)
  have hG11 := ((((b13.ext e14).ext e15).ext e16).ext et)
  have hG5 := ((((((((((((b1.ext e2).ext e3).ext e4).ext e5).chg q6 (by first | assumption | omega)).ext hy11).ext e12).chg q13 (by first | assumption | omega)).ext e14).ext e15).ext e16).ext et)
  have hV := (hx.ext ((((e13.trans e14).trans e15).trans e16).trans et))
  replace hT := hT.ext ((((e13.trans e14).trans e15).trans e16).trans et)
  have hall : ∀ (k : Nat) (u : Value), [Value.int .i64 p, Value.int .i64 (p % 200 - 100), Value.int .i64 (65536 - p % 200), Value.int .i64 131072, Value.int .i64 (-65536 - p % 120)][k]? = some u → ∃ z : Int, u = .int .i64 z := by
    intro k u hu
    match k with
    | 0 => simp at hu; subst hu; exact ⟨_, rfl⟩
    | 1 => simp at hu; subst hu; exact ⟨_, rfl⟩
    | 2 => simp at hu; subst hu; exact ⟨_, rfl⟩
    | 3 => simp at hu; subst hu; exact ⟨_, rfl⟩
    | 4 => simp at hu; subst hu; exact ⟨_, rfl⟩
    | k + 5 => simp at hu
  refine WP_loop (S := Nat) (fun j => [(4, .int .i64 n), (5, .pointer (some ⟨g1, 0, none⟩)), (11, .pointer (some ⟨g5, 0, none⟩)), (49, vt), (50, .int .i64 (5 : Nat)), (51, .int .i64 (j : Nat))]) (fun j w' => Ext wt w' ∧ j ≤ 5) (fun j => 5 - j) 0 ⟨rfl, rfl, rfl, rfl, rfl, rfl, trivial⟩ ⟨Ext.refl _, by omega⟩ ?_
  rintro j w9 ⟨hE, hj⟩
  have zE := hE.size
  refine WP_seq ?_
  refine WP_region ?_
  refine O_lss rfl rfl rfl rfl rfl ?_
  refine WL_end [(4, _), (5, _), (11, _), (49, _), (50, _), (51, _), (52, _)] ⟨rfl, rfl, rfl, rfl, rfl, rfl, rfl, trivial⟩ ?_
  refine WP_seq ?_
  refine WP_condD rfl (fun c52 => ?_) (fun c52 => ?_)
  · --
   refine WP_skip ?_
   refine WP_seq ?_
   refine WP_block ?_
   refine WP_seq ?_
   refine WP_region ?_
   refine V_index TDint rfl rfl rfl rfl (ot.sl.ext hE) _ rfl (by simp only [List.length_cons, List.length_nil]; omega) ?_
   obtain ⟨u, hu⟩ : ∃ u, [Value.int .i64 p, Value.int .i64 (p % 200 - 100), Value.int .i64 (65536 - p % 200), Value.int .i64 131072, Value.int .i64 (-65536 - p % 120)][j]? = some u := ⟨_, List.getElem?_eq_getElem (by simp only [List.length_cons, List.length_nil]; omega)⟩
   obtain ⟨z, rfl⟩ := hall j u hu
   refine O_load Tryd.underlying3 rfl rfl rfl rfl ((ot.sl.ext hE).cell hu) ?_
   refine O_assign rfl rfl rfl ?_
   refine WL_end [(4, _), (5, _), (11, _), (14, _), (49, _), (50, _), (51, _)] ⟨rfl, rfl, rfl, rfl, rfl, rfl, rfl, trivial⟩ ?_
   refine WP_seq ?_
   refine WP_region ?_
   refine O_loadA (vs := [_, _]) S24 rfl rfl rfl (hG11.ext hE) rfl rfl ?_
   refine O_move rfl rfl rfl ?_
   refine O_call enters22 rfl rfl rfl (dmake_c rfl (hXq.ext hE).nl (by (try simp only [lens]); omega) (hT.ext hE)) (fun v17 w17 e17 h17 => ?_)
   have z17 := e17.size
   try simp only [val_dig] at h17
   obtain ⟨q17, rfl, hq17⟩ := h17
   refine O_move rfl rfl rfl ?_
   refine O_extract rfl rfl rfl rfl ?_
   refine O_extract rfl rfl rfl rfl ?_
   refine O_alloc S26 rfl rfl (fun g18 w18 b18 e18 gl18 gh18 => ?_)
   have z18 := e18.size
   refine O_storeA (cs' := [_, _, _]) S26 rfl rfl rfl b18 rfl rfl (one_cons rfl (one_cons ((hq17.ext e18).nl).one (one_cons rfl one_nil))) rfl (fun w19 b19 q19 => ?_)
   have z19 := Nat.le_of_eq q19.size.symm
   have e19 : Ext wt w19 := q19.ext ((hE.trans e17).trans e18) (by omega)
   refine O_assign rfl rfl rfl ?_
   refine WL_end [(4, _), (5, _), (11, _), (14, _), (15, _), (16, _), (49, _), (50, _), (51, _)] ⟨rfl, rfl, rfl, rfl, rfl, rfl, rfl, rfl, rfl, trivial⟩ ?_
   refine WP_seq ?_
   refine WP_region ?_
   refine O_loadA (vs := [_, _]) S24 rfl rfl rfl (hG11.ext e19) rfl rfl ?_
   refine O_move rfl rfl rfl ?_
   refine O_call enters11 rfl rfl rfl (rdmake_c rfl (hXq.ext e19).nl (by (try simp only [lens]); omega)) (fun v20 w20 e20 h20 => ?_)
   have z20 := e20.size
   try simp only [val_dig] at h20
   obtain ⟨q20, rfl, hq20⟩ := h20
   refine O_move rfl rfl rfl ?_
   refine O_extract rfl rfl rfl rfl ?_
   refine O_extract rfl rfl rfl rfl ?_
   refine O_alloc S26 rfl rfl (fun g21 w21 b21 e21 gl21 gh21 => ?_)
   have z21 := e21.size
   refine O_storeA (cs' := [_, _, _]) S26 rfl rfl rfl b21 rfl rfl (one_cons rfl (one_cons ((hq20.ext e21).nl).one (one_cons rfl one_nil))) rfl (fun w22 b22 q22 => ?_)
   have z22 := Nat.le_of_eq q22.size.symm
   have e22 : Ext wt w22 := q22.ext ((e19.trans e20).trans e21) (by omega)
   refine O_assign rfl rfl rfl ?_
   refine WL_end [(4, _), (5, _), (11, _), (15, _), (16, _), (17, _), (18, _), (49, _), (50, _), (51, _)] ⟨rfl, rfl, rfl, rfl, rfl, rfl, rfl, rfl, rfl, rfl, trivial⟩ ?_
   refine WP_seq ?_
   have hlM := dman_len (e := z) hlZ
   by_cases hc : dcode (X * 2 ^ kk) z = 0
   · --
    skip
    refine WP_region ?_
    refine O_move rfl rfl rfl ?_
    refine O_move rfl rfl rfl ?_
    refine O_neq (t := false) rfl rfl rfl rfl (decide_eq_false (fun h => h rfl)) ?_
    refine O_move rfl rfl rfl ?_
    refine O_loadA (vs := [_, _, _]) S26 rfl rfl rfl (((b19.ext e20).ext e21).chg q22 (by first | assumption | omega)) rfl rfl ?_
    refine O_loadA (vs := [_, _, _]) S26 rfl rfl rfl b22 rfl rfl ?_
    refine O_call enters17 rfl rfl rfl (rdsame_c rfl (((((hq17.ext e18).chgBk b18 (by decide) q19).ext e20).ext e21).chgBk b21 (by decide) q22).nl ((hq20.ext e21).chgBk b21 (by decide) q22).nl (by (try simp only [lens]); omega) (by (try simp only [lens]); omega) rfl rfl) (fun v23 w23 e23 h23 => ?_)
    have z23 := e23.size
    obtain rfl := h23
    refine O_not rfl rfl rfl rfl ?_
    refine O_pickF rfl rfl rfl rfl ?_
    refine O_move rfl rfl rfl ?_
    refine O_move rfl rfl rfl ?_
    refine O_eql (t := true) rfl rfl rfl rfl (decide_eq_true hc) ?_
    refine O_move rfl rfl rfl ?_
    refine O_loadA (vs := [_, _, _]) S26 rfl rfl rfl ((((b19.ext e20).ext e21).chg q22 (by first | assumption | omega)).ext e23) rfl rfl ?_
    refine O_call enters23 rfl rfl rfl (dvalT_c rfl ((((((hq17.ext e18).chgBk b18 (by decide) q19).ext e20).ext e21).chgBk b21 (by decide) q22).ext e23).nl (by (try simp only [lens]); omega) (dval_dman _ _)) (fun v24 w24 e24 h24 => ?_)
    have z24 := e24.size
    obtain rfl := h24
    refine O_not rfl rfl rfl rfl ?_
    refine O_pickT rfl rfl rfl rfl ?_
    refine O_pickF rfl rfl rfl rfl ?_
    refine WL_end [(4, _), (5, _), (11, _), (49, _), (50, _), (51, _), (84, _)] ⟨rfl, rfl, rfl, rfl, rfl, rfl, rfl, trivial⟩ ?_
    refine WP_condF rfl ?_
    refine WP_skip ?_
    refine WP_region ?_
    refine O_add (r := ((j + 1 : Nat) : Int)) rfl rfl rfl rfl (by rw [IntKind.wrap_i64]; omega) ?_
    refine O_move rfl rfl rfl ?_
    refine WL_end [(4, _), (5, _), (11, _), (49, _), (50, _), (51, _)] ⟨rfl, rfl, rfl, rfl, rfl, rfl, trivial⟩ ?_
    exact ⟨j + 1, ⟨rfl, rfl, rfl, rfl, rfl, rfl, trivial⟩, ⟨((e22.trans e23).trans e24), by omega⟩, by omega⟩
   · --
    skip
    refine WP_region ?_
    refine O_move rfl rfl rfl ?_
    refine O_move rfl rfl rfl ?_
    refine O_neq (t := false) rfl rfl rfl rfl (decide_eq_false (fun h => h rfl)) ?_
    refine O_move rfl rfl rfl ?_
    refine O_loadA (vs := [_, _, _]) S26 rfl rfl rfl (((b19.ext e20).ext e21).chg q22 (by first | assumption | omega)) rfl rfl ?_
    refine O_loadA (vs := [_, _, _]) S26 rfl rfl rfl b22 rfl rfl ?_
    refine O_call enters17 rfl rfl rfl (rdsame_c rfl (((((hq17.ext e18).chgBk b18 (by decide) q19).ext e20).ext e21).chgBk b21 (by decide) q22).nl ((hq20.ext e21).chgBk b21 (by decide) q22).nl (by (try simp only [lens]); omega) (by (try simp only [lens]); omega) rfl rfl) (fun v25 w25 e25 h25 => ?_)
    have z25 := e25.size
    obtain rfl := h25
    refine O_not rfl rfl rfl rfl ?_
    refine O_pickF rfl rfl rfl rfl ?_
    refine O_move rfl rfl rfl ?_
    refine O_move rfl rfl rfl ?_
    refine O_eql (t := false) rfl rfl rfl rfl (decide_eq_false hc) ?_
    refine O_move rfl rfl rfl ?_
    refine O_skip rfl rfl ?_
    refine O_skip rfl rfl ?_
    refine O_skip rfl rfl ?_
    refine O_pickF rfl rfl rfl rfl ?_
    refine O_pickF rfl rfl rfl rfl ?_
    refine WL_end [(4, _), (5, _), (11, _), (49, _), (50, _), (51, _), (84, _)] ⟨rfl, rfl, rfl, rfl, rfl, rfl, rfl, trivial⟩ ?_
    refine WP_condF rfl ?_
    refine WP_skip ?_
    refine WP_region ?_
    refine O_add (r := ((j + 1 : Nat) : Int)) rfl rfl rfl rfl (by rw [IntKind.wrap_i64]; omega) ?_
    refine O_move rfl rfl rfl ?_
    refine WL_end [(4, _), (5, _), (11, _), (49, _), (50, _), (51, _)] ⟨rfl, rfl, rfl, rfl, rfl, rfl, trivial⟩ ?_
    exact ⟨j + 1, ⟨rfl, rfl, rfl, rfl, rfl, rfl, trivial⟩, ⟨(e22.trans e25), by omega⟩, by omega⟩
  · --
   refine WP_exit ?_
   refine inBlk_hit ?_
   refine WP_seq ?_
   refine WP_sub [(4, _), (5, _)] ⟨rfl, rfl, trivial⟩ ?_
   refine WP_anyR 9 [4, 5] mixed rfl (by kernel_rfl) ?_
   apply AnyR_val [5] rfl (by kernel_rfl)
   · --
    intro y26 hy26
    have zy26 := hy26.size
    refine AllV_nil ?_
    refine O_loadA (vs := [_, _, _]) S26 rfl rfl rfl (hG5.ext (hE.trans hy26)) rfl rfl ?_
    exact WL_nil ⟨(Ext.refl _), rfl⟩
   apply AnyR_val [86] rfl (by kernel_rfl)
   · --
    intro y27 hy27
    have zy27 := hy27.size
    refine AllV_v ?_
    refine AllV_nil ?_
    refine O_call enters23 rfl rfl rfl (dvalR_c (hV.ext (hE.trans hy27)) (by (try simp only [lens]); omega)) (fun v28 w28 e28 h28 => ?_)
    have z28 := e28.size
    obtain rfl := h28
    exact WL_nil ⟨e28, rfl⟩
   apply AnyR_val [5] rfl (by kernel_rfl)
   · --
    intro y29 hy29
    have zy29 := hy29.size
    refine AllV_nil ?_
    refine O_loadA (vs := [_, _, _]) S26 rfl rfl rfl (hG5.ext (hE.trans hy29)) rfl rfl ?_
    exact WL_nil ⟨(Ext.refl _), rfl⟩
   apply AnyR_val [88] rfl (by kernel_rfl)
   · --
    intro y30 hy30
    have zy30 := hy30.size
    refine AllV_v ?_
    refine AllV_nil ?_
    refine O_call enters24 rfl rfl rfl (rdvalR_c (hV.ext (hE.trans hy30)) (by (try simp only [lens]); omega)) (fun v31 w31 e31 h31 => ?_)
    have z31 := e31.size
    obtain rfl := h31
    exact WL_nil ⟨e31, rfl⟩
   apply AnyR_val [87, 89] rfl (by kernel_rfl)
   · --
    intro y32 hy32
    have zy32 := hy32.size
    refine AllV_v ?_
    refine AllV_v ?_
    refine AllV_nil ?_
    refine O_beql Tryd.underlying4 (t := true) rfl rfl rfl rfl (beq_self_eq_true _) ?_
    exact WL_nil ⟨(Ext.refl _), rfl⟩
   apply AnyR_val [90] rfl (by kernel_rfl)
   · --
    intro y33 hy33
    have zy33 := hy33.size
    refine AllV_v ?_
    refine AllV_nil ?_
    refine O_move rfl rfl rfl ?_
    exact WL_nil ⟨(Ext.refl _), rfl⟩
   apply AnyR_val [91, 4] rfl (by kernel_rfl)
   · --
    intro y34 hy34
    have zy34 := hy34.size
    refine AllV_v ?_
    refine AllV_nil ?_
    refine O_move rfl rfl rfl ?_
    exact WL_nil ⟨(Ext.refl _), rfl⟩
   apply AnyR_rel (RelP (pAgg [pEq _, pNo w9.heap.size 89 _, pEq _])) [91, 92] rfl (RelP.mono (pAgg_mono (PsM.cons pEq_mono (PsM.cons pNo_mono (PsM.cons pEq_mono PsM.nil))))) (by kernel_rfl)
   · --
    intro y35 hy35
    have zy35 := hy35.size
    refine AllV_v ?_
    refine AllV_v ?_
    refine AllV_nil ?_
    refine O_call enters25 rfl rfl rfl (dof_c (by (try simp only [lens]); omega) (by (try simp only [lens]); omega) (hT.ext (hE.trans hy35))) (fun v36 w36 e36 h36 => ?_)
    have z36 := e36.size
    try simp only [val_dig] at h36
    obtain ⟨q36, rfl, hq36⟩ := h36
    exact WL_nil ⟨e36, _, rfl, ⟨_, rfl, (AllP.cons rfl (AllP.cons (hq36.mono (by omega)) (AllP.cons rfl AllP.nil)))⟩⟩
   apply AnyR_val [91, 4] rfl (by kernel_rfl)
   · --
    intro y37 hy37
    have zy37 := hy37.size
    refine AllV_v ?_
    refine AllV_nil ?_
    refine O_move rfl rfl rfl ?_
    exact WL_nil ⟨(Ext.refl _), rfl⟩
   refine AnyR_nil fun y38 hy38 => ?_
   have zy38 := hy38.size
   refine AllV_v ?_
   refine AllV_v ?_
   refine AllV_v ?_
   refine AllV_v ?_
   refine AllV_v ?_
   refine AllV_v ?_
   refine AllV_v ?_
   refine AllV_r fun a39 b39 v39 la39 lb39 lc39 h39 ap39 => ?_
   clear ap39
   obtain ⟨_, rfl, v39_0, _, rfl, rfl, v39_1, _, rfl, h39_1, v39_2, _, rfl, rfl, rfl⟩ := h39
   refine AllV_v ?_
   refine AllV_nil ?_
   refine O_call enters26 rfl rfl rfl (rdof_c (by (try simp only [lens]); omega) (by (try simp only [lens]); omega)) (fun v40 w40 e40 h40 => ?_)
   have z40 := e40.size
   try simp only [val_dig] at h40
   obtain ⟨q40, rfl, hq40⟩ := h40
   refine O_call enters17 rfl rfl rfl (rdsame_c rfl (h39_1.ext e40).nl hq40.nl (by (try simp only [lens]); omega) (by (try simp only [lens]); omega) rfl rfl) (fun v41 w41 e41 h41 => ?_)
   have z41 := e41.size
   obtain rfl := h41
   refine O_pickT rfl rfl rfl rfl ?_
   refine O_assign rfl rfl rfl ?_
   refine WL_end [(10, _)] ⟨rfl, trivial⟩ ?_
   refine WP_ret ?_
   refine ret1 Tryd.results4 rfl ?_
   exact ⟨_, rfl, (((((e13.trans e14).trans e15).trans e16).trans et)).trans (((hE.trans hy38).trans e40).trans e41), rfl⟩
set_option maxHeartbeats 1000000 in
theorem law_DM_F {w : World} {vx vy : Value} {lx ly : List Nat} {bx by_ : Bool} {e p zz n : Int} (hx : Nl w vx lx) (hy : Nl w vy ly) (hn1 : -9223372036854775808 ≤ n) (hn2 : n ≤ 9223372036854775807) (hT : Tab w) (h1 : 20 < ly.length) :
    Calls Tryd.prog 4 #[.agg #[.bool bx, vx, .int .i64 e], .agg #[.bool by_, vy], .int .i64 p, .int .i64 zz, .int .i64 n] w (Ret w fun r _ => r = .bool true) := by
 refine enter (args := [_, _, _, _, _]) Tryd.func4 rfl Tryd.ntmps4 rfl ?_
 refine WP_seq ?_
 refine WP_region ?_
 refine O_box _ rfl rfl rfl rfl (fun g1 w1 b1 e1 gl1 gh1 => ?_)
 have z1 := e1.size
 refine O_box _ rfl rfl rfl rfl (fun g2 w2 b2 e2 gl2 gh2 => ?_)
 have z2 := e2.size
 refine O_assign rfl rfl rfl ?_
 refine WL_end [(2, _), (3, _), (4, _), (5, _), (6, _)] ⟨rfl, rfl, rfl, rfl, rfl, trivial⟩ ?_
 refine WP_seq ?_
 refine WP_seq ?_
 refine WP_region ?_
 refine O_call enters9 rfl rfl rfl (awake8_c (hT.ext (e1.trans e2))) (fun v3 w3 e3 h3 => ?_)
 have z3 := e3.size
 obtain rfl := h3
 refine O_not rfl rfl rfl rfl ?_
 refine WL_end [(2, _), (3, _), (4, _), (5, _), (6, _), (20, _)] ⟨rfl, rfl, rfl, rfl, rfl, rfl, trivial⟩ ?_
 refine WP_condF rfl ?_
 refine WP_skip ?_
 refine WP_seq ?_
 refine WP_region ?_
 refine O_loadA (vs := [_, _]) S24 rfl rfl rfl (b2.ext e3) rfl rfl ?_
 refine O_call enters20 rfl rfl rfl (mint_F (hy.ext ((e1.trans e2).trans e3)) (by (try simp only [lens]); omega) (by (try simp only [lens]); omega)) (fun v4 w4 e4 h4 => ?_)
 have z4 := e4.size
 try simp only [val_dig] at h4
 obtain rfl := h4
 refine O_move rfl rfl rfl ?_
 refine O_extract rfl rfl rfl rfl ?_
 refine O_extract rfl rfl rfl rfl ?_
 refine O_alloc S24 rfl rfl (fun g5 w5 b5 e5 gl5 gh5 => ?_)
 have z5 := e5.size
 refine O_storeA (cs' := [_, _]) S24 rfl rfl rfl b5 rfl rfl (one_cons rfl (one_cons rfl one_nil)) rfl (fun w6 b6 q6 => ?_)
 have z6 := Nat.le_of_eq q6.size.symm
 have e6 : Ext w w6 := q6.ext ((((e1.trans e2).trans e3).trans e4).trans e5) (by omega)
 refine O_assign rfl rfl rfl ?_
 refine WL_end [(2, _), (3, _), (4, _), (5, _), (11, _), (12, _)] ⟨rfl, rfl, rfl, rfl, rfl, rfl, trivial⟩ ?_
 refine WP_seq ?_
 refine WP_seq ?_
 refine WP_region ?_
 refine O_move rfl rfl rfl ?_
 refine O_not rfl rfl rfl rfl ?_
 refine O_move rfl rfl rfl ?_
 refine O_skip rfl rfl ?_
 refine O_skip rfl rfl ?_
 refine O_skip rfl rfl ?_
 refine O_skip rfl rfl ?_
 refine O_skip rfl rfl ?_
 refine O_pickT rfl rfl rfl rfl ?_
 refine WL_end [(2, _), (3, _), (4, _), (5, _), (11, _), (34, _)] ⟨rfl, rfl, rfl, rfl, rfl, rfl, trivial⟩ ?_
 refine WP_condT rfl ?_
 refine WP_seq ?_
 refine WP_region ?_
 refine O_assign rfl rfl rfl ?_
 refine WL_end [(10, _)] ⟨rfl, trivial⟩ ?_
 refine WP_ret ?_
 refine ret1 Tryd.results4 rfl ?_
 exact ⟨_, rfl, e6, rfl⟩
theorem law_DyadicMakes {w : World} {vx vy : Value} {lx ly : List Nat} {bx by_ : Bool} {e p zz n : Int} (hx : Nl w vx lx) (hy : Nl w vy ly) (hn1 : -9223372036854775808 ≤ n) (hn2 : n ≤ 9223372036854775807) (hT : Tab w) : Calls Tryd.prog 4 #[.agg #[.bool bx, vx, .int .i64 e], .agg #[.bool by_, vy], .int .i64 p, .int .i64 zz, .int .i64 n] w (Ret w fun r _ => r = .bool true) := by
  by_cases h1 : ly.length ≤ 20
  · exact law_DM_T hx hy hn1 hn2 hT h1
  · exact law_DM_F hx hy hn1 hn2 hT (by omega)

end Go.Proofs.YtnfnadhbjdcbnaaDoor
