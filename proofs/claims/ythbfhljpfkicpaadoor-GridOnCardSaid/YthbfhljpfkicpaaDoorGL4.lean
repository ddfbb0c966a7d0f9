/-
  Walks.
-/
import Derived.Test.YthbfhljpfkicpaaDoorG5
set_option linter.unusedVariables false
set_option linter.unusedSimpArgs false
set_option maxRecDepth 100000
namespace Go.Proofs.YthbfhljpfkicpaaDoor
open Go Go.RowKit
set_option maxHeartbeats 4000000 in
theorem law_GridOn {w : World} {vx : Value} {lx : List Nat} {bx : Bool} {e p : Int} (hx : Nl w vx lx) (hT : Tab w) :
    Calls Tryd.prog 5 #[.agg #[.bool bx, vx, .int .i64 e], .int .i64 p] w (Ret w fun r _ => r = .bool true) := by
 refine enter (args := [_, _]) Tryd.func5 rfl Tryd.ntmps5 rfl ?_
 refine WP_seq ?_
 refine WP_region ?_
 refine O_box _ rfl rfl rfl rfl (fun g1 w1 b1 e1 gl1 gh1 => ?_)
 have z1 := e1.size
 refine O_assign rfl rfl rfl ?_
 refine WL_end [(1, _), (2, _)] ⟨rfl, rfl, trivial⟩ ?_
 refine WP_seq ?_
 refine WP_seq ?_
 refine WP_region ?_
 refine O_call enters11 rfl rfl rfl (awake9_c (hT.ext e1)) (fun v2 w2 e2 h2 => ?_)
 have z2 := e2.size
 obtain rfl := h2
 refine O_not rfl rfl rfl rfl ?_
 refine WL_end [(1, _), (2, _), (14, _)] ⟨rfl, rfl, rfl, trivial⟩ ?_
 refine WP_condF rfl ?_
 refine WP_skip ?_
 refine WP_seq ?_
 refine WP_region ?_
 refine O_loadA (vs := [_, _, _]) S26 rfl rfl rfl (b1.ext e2) rfl rfl ?_
 refine O_call enters12 rfl rfl rfl (mdy_c (n := 8) (m := 300) (hx.ext (e1.trans e2)) (by decide)) (fun v3 w3 e3 h3 => ?_)
 have z3 := e3.size
 try simp only [val_dig] at h3
 obtain ⟨X, E, qA, bA, rfl, hqA, hvX, hkX, hjX, hlX⟩ := h3
 refine O_move rfl rfl rfl ?_
 refine O_extract rfl rfl rfl rfl ?_
 refine O_extract rfl rfl rfl rfl ?_
 refine O_alloc S26 rfl rfl (fun g4 w4 b4 e4 gl4 gh4 => ?_)
 have z4 := e4.size
 refine O_storeA (cs' := [_, _, _]) S26 rfl rfl rfl b4 rfl rfl (one_cons rfl (one_cons ((hqA.ext e4).nl).one (one_cons rfl one_nil))) rfl (fun w5 b5 q5 => ?_)
 have z5 := Nat.le_of_eq q5.size.symm
 have e5 : Ext w w5 := q5.ext (((e1.trans e2).trans e3).trans e4) (by omega)
 refine O_assign rfl rfl rfl ?_
 refine WL_end [(1, _), (5, _), (6, _)] ⟨rfl, rfl, rfl, trivial⟩ ?_
 refine WP_seq ?_
 refine WP_seq ?_
 refine WP_region ?_
 refine O_move rfl rfl rfl ?_
 refine O_not rfl rfl rfl rfl ?_
 refine WL_end [(1, _), (5, _), (21, _)] ⟨rfl, rfl, rfl, trivial⟩ ?_
 refine WP_cond rfl (fun c21 => ?_) (fun c21 => ?_)
 · --
  refine WP_seq ?_
  refine WP_region ?_
  refine O_assign rfl rfl rfl ?_
  refine WL_end [(4, _)] ⟨rfl, trivial⟩ ?_
  refine WP_ret ?_
  refine ret1 Tryd.results5 rfl ?_
  exact ⟨_, rfl, e5, rfl⟩
 · --
  refine WP_skip ?_
  refine WP_seq ?_
  refine WP_seq ?_
  refine WP_sub [(1, _), (5, _)] ⟨rfl, rfl, trivial⟩ ?_
  refine WP_anyR 16 [1, 5] mixed rfl (by kernel_rfl) ?_
  apply AnyR_val [1] rfl (by kernel_rfl)
  · --
   intro y6 hy6
   have zy6 := hy6.size
   refine AllV_nil ?_
   refine O_move rfl rfl rfl ?_
   exact WL_nil ⟨(Ext.refl _), rfl⟩
  apply AnyR_rel (SlF [Value.int .i64 p, Value.int .i64 (p % 60 - 20), Value.int .i64 (p % 1000), Value.int .i64 (-2049 + p % 3), Value.int .i64 (8191 + p % 3)]) [22] rfl SlF.mono (by kernel_rfl)
  · --
   intro y7 hy7
   have zy7 := hy7.size
   refine AllV_v ?_
   refine AllV_nil ?_
   refine O_call enters13 rfl rfl rfl (precs_c) (fun v8 w8 e8 h8 => ?_)
   have z8 := e8.size
   obtain ⟨ot, hcap⟩ := h8
   exact WL_nil ⟨e8, _, rfl, ⟨ot, hcap⟩⟩
  apply AnyR_val [5] rfl (by kernel_rfl)
  · --
   intro y9 hy9
   have zy9 := hy9.size
   refine AllV_nil ?_
   refine O_field F26_1 rfl rfl rfl ?_
   exact WL_nil ⟨(Ext.refl _), rfl⟩
  apply AnyR_val [24] rfl (by kernel_rfl)
  · --
   intro y10 hy10
   have zy10 := hy10.size
   refine AllV_v ?_
   refine AllV_nil ?_
   refine O_loadC Tryd.underlying3 rfl rfl rfl rfl (b5.ext hy10) rfl ?_
   exact WL_nil ⟨(Ext.refl _), rfl⟩
  apply AnyR_val [25] rfl (by kernel_rfl)
  · --
   intro y11 hy11
   have zy11 := hy11.size
   refine AllV_v ?_
   refine AllV_nil ?_
   refine O_neg rfl rfl rfl (wrap_i64_id (by omega) (by omega)) ?_
   exact WL_nil ⟨(Ext.refl _), rfl⟩
  apply AnyR_val [5] rfl (by kernel_rfl)
  · --
   intro y12 hy12
   have zy12 := hy12.size
   refine AllV_nil ?_
   refine O_field F26_1 rfl rfl rfl ?_
   exact WL_nil ⟨(Ext.refl _), rfl⟩
  apply AnyR_val [27] rfl (by kernel_rfl)
  · --
   intro y13 hy13
   have zy13 := hy13.size
   refine AllV_v ?_
   refine AllV_nil ?_
   refine O_loadC Tryd.underlying3 rfl rfl rfl rfl (b5.ext hy13) rfl ?_
   exact WL_nil ⟨(Ext.refl _), rfl⟩
  apply AnyR_val [28] rfl (by kernel_rfl)
  · --
   intro y14 hy14
   have zy14 := hy14.size
   refine AllV_v ?_
   refine AllV_nil ?_
   refine O_neg rfl rfl rfl (wrap_i64_id (by omega) (by omega)) ?_
   exact WL_nil ⟨(Ext.refl _), rfl⟩
  apply AnyR_val [29] rfl (by kernel_rfl)
  · --
   intro y15 hy15
   have zy15 := hy15.size
   refine AllV_v ?_
   refine AllV_nil ?_
   refine O_sub rfl rfl rfl rfl (wrap_i64_id (by omega) (by omega)) ?_
   exact WL_nil ⟨(Ext.refl _), rfl⟩
  apply AnyR_val [5] rfl (by kernel_rfl)
  · --
   intro y16 hy16
   have zy16 := hy16.size
   refine AllV_nil ?_
   refine O_field F26_1 rfl rfl rfl ?_
   exact WL_nil ⟨(Ext.refl _), rfl⟩
  apply AnyR_val [31] rfl (by kernel_rfl)
  · --
   intro y17 hy17
   have zy17 := hy17.size
   refine AllV_v ?_
   refine AllV_nil ?_
   refine O_loadC Tryd.underlying3 rfl rfl rfl rfl (b5.ext hy17) rfl ?_
   exact WL_nil ⟨(Ext.refl _), rfl⟩
  apply AnyR_val [32] rfl (by kernel_rfl)
  · --
   intro y18 hy18
   have zy18 := hy18.size
   refine AllV_v ?_
   refine AllV_nil ?_
   refine O_sub rfl rfl rfl rfl (wrap_i64_id (by omega) (by omega)) ?_
   exact WL_nil ⟨(Ext.refl _), rfl⟩
  apply AnyR_rel (SlR [Value.int .i64 (0 - E), Value.int .i64 (0 - E - 1), Value.int .i64 (1 - E)]) [26, 30, 33] rfl SlR.mono (by kernel_rfl)
  · --
   intro y19 hy19
   have zy19 := hy19.size
   refine AllV_v ?_
   refine AllV_v ?_
   refine AllV_v ?_
   refine AllV_nil ?_
   refine V_lit TDint rfl rfl [Value.int .i64 (0 - E), Value.int .i64 (0 - E - 1), Value.int .i64 (1 - E)] (by intro u hu; simp only [List.mem_cons, List.mem_nil_iff, or_false] at hu; rcases hu with rfl | rfl | rfl <;> rfl) rfl (by decide) (by decide) rfl rfl (fun vt wt ou et => ?_)
   exact WL_nil ⟨et, _, rfl, ou.sl⟩
  apply AnyR_rel (SlR [Value.int .i64 p, Value.int .i64 (p % 60 - 20), Value.int .i64 (p % 1000), Value.int .i64 (-2049 + p % 3), Value.int .i64 (8191 + p % 3), Value.int .i64 (0 - E), Value.int .i64 (0 - E - 1), Value.int .i64 (1 - E)]) [23, 34] rfl SlR.mono (by kernel_rfl)
  · --
   intro y20 hy20
   have zy20 := hy20.size
   refine AllV_r fun a21 b21 v21 la21 lb21 lc21 h21 ap21 => ?_
   clear ap21
   obtain ⟨ot, hcap⟩ := h21
   refine AllV_r fun a22 b22 v22 la22 lb22 lc22 h22 ap22 => ?_
   clear ap22
   have ou : SlV _ v22 [Value.int .i64 (0 - E), Value.int .i64 (0 - E - 1), Value.int .i64 (1 - E)] := h22
   refine AllV_nil ?_
   refine O_appendFull TDint rfl rfl rfl rfl ot hcap ou (by simp) (by simp) (by simp only [List.length_cons, List.length_nil]; decide) rfl (fun vt wt ox et => ?_)
   exact WL_nil ⟨et, _, rfl, ox⟩
  apply AnyR_val [35] rfl (by kernel_rfl)
  · --
   intro y23 hy23
   have zy23 := hy23.size
   refine AllV_r fun a24 b24 v24 la24 lb24 lc24 h24 ap24 => ?_
   clear ap24
   have ot : SlV _ v24 [Value.int .i64 p, Value.int .i64 (p % 60 - 20), Value.int .i64 (p % 1000), Value.int .i64 (-2049 + p % 3), Value.int .i64 (8191 + p % 3), Value.int .i64 (0 - E), Value.int .i64 (0 - E - 1), Value.int .i64 (1 - E)] := h24
   refine AllV_nil ?_
   refine V_len TDint rfl rfl rfl ot ?_
   exact WL_nil ⟨(Ext.refl _), rfl⟩
  apply AnyR_val [] rfl (by kernel_rfl)
  · --
   intro y25 hy25
   have zy25 := hy25.size
   refine AllV_nil ?_
   refine O_move rfl rfl rfl ?_
   exact WL_nil ⟨(Ext.refl _), rfl⟩
  refine AnyR_nil fun y26 hy26 => ?_
  have zy26 := hy26.size
  refine AllV_v ?_
  refine AllV_r fun a27 b27 v27 la27 lb27 lc27 h27 ap27 => ?_
  clear ap27
  obtain ⟨ot, hcap⟩ := h27
  refine AllV_v ?_
  refine AllV_v ?_
  refine AllV_v ?_
  refine AllV_v ?_
  refine AllV_v ?_
  refine AllV_v ?_
  refine AllV_v ?_
  refine AllV_v ?_
  refine AllV_v ?_
  refine AllV_v ?_
  refine AllV_r fun a28 b28 v28 la28 lb28 lc28 h28 ap28 => ?_
  clear ap28
  have ou : SlV _ v28 [Value.int .i64 (0 - E), Value.int .i64 (0 - E - 1), Value.int .i64 (1 - E)] := h28
  refine AllV_r fun a29 b29 v29 la29 lb29 lc29 h29 ap29 => ?_
  clear ap29
  have ot : SlV _ v29 [Value.int .i64 p, Value.int .i64 (p % 60 - 20), Value.int .i64 (p % 1000), Value.int .i64 (-2049 + p % 3), Value.int .i64 (8191 + p % 3), Value.int .i64 (0 - E), Value.int .i64 (0 - E - 1), Value.int .i64 (1 - E)] := h29
  refine AllV_v ?_
  refine AllV_v ?_
  refine AllV_nil ?_
  refine WL_end [(5, _), (35, _), (36, _), (37, _)] ⟨rfl, rfl, rfl, rfl, trivial⟩ ?_
  refine WP_block ?_
  have hX0 := (((hqA.ext e4).chgBk b4 (by decide) q5).ext hy26)
  have hG := (b5.ext hy26)
  replace hT := hT.ext (e5.trans hy26)
  have hall : ∀ (k : Nat) (u : Value), [Value.int .i64 p, Value.int .i64 (p % 60 - 20), Value.int .i64 (p % 1000), Value.int .i64 (-2049 + p % 3), Value.int .i64 (8191 + p % 3), Value.int .i64 (0 - E), Value.int .i64 (0 - E - 1), Value.int .i64 (1 - E)][k]? = some u → ∃ z : Int, u = .int .i64 z := by
    intro k u hu
    match k with
    | 0 => simp at hu; subst hu; exact ⟨_, rfl⟩
    | 1 => simp at hu; subst hu; exact ⟨_, rfl⟩
    | 2 => simp at hu; subst hu; exact ⟨_, rfl⟩
    | 3 => simp at hu; subst hu; exact ⟨_, rfl⟩
    | 4 => simp at hu; subst hu; exact ⟨_, rfl⟩
    | 5 => simp at hu; subst hu; exact ⟨_, rfl⟩
    | 6 => simp at hu; subst hu; exact ⟨_, rfl⟩
    | 7 => simp at hu; subst hu; exact ⟨_, rfl⟩
    | k + 8 => simp at hu
  refine WP_loop (S := Nat) (fun j => [(5, .pointer (some ⟨g4, 0, none⟩)), (35, v29), (36, .int .i64 (8 : Nat)), (37, .int .i64 (j : Nat))]) (fun j w' => Ext y26 w' ∧ j ≤ 8) (fun j => 8 - j) 0 ⟨rfl, rfl, rfl, rfl, trivial⟩ ⟨Ext.refl _, by omega⟩ ?_
  rintro j w9 ⟨hE, hj⟩
  have zE := hE.size
  refine WP_seq ?_
  refine WP_region ?_
  refine O_lss rfl rfl rfl rfl rfl ?_
  refine WL_end [(5, _), (35, _), (36, _), (37, _), (38, _)] ⟨rfl, rfl, rfl, rfl, rfl, trivial⟩ ?_
  refine WP_seq ?_
  refine WP_condD rfl (fun c38 => ?_) (fun c38 => ?_)
  · --
   refine WP_skip ?_
   refine WP_seq ?_
   refine WP_block ?_
   refine WP_seq ?_
   refine WP_region ?_
   refine V_index TDint rfl rfl rfl rfl (ot.ext hE) _ rfl (by simp only [List.length_cons, List.length_nil]; omega) ?_
   obtain ⟨u, hu⟩ : ∃ u, [Value.int .i64 p, Value.int .i64 (p % 60 - 20), Value.int .i64 (p % 1000), Value.int .i64 (-2049 + p % 3), Value.int .i64 (8191 + p % 3), Value.int .i64 (0 - E), Value.int .i64 (0 - E - 1), Value.int .i64 (1 - E)][j]? = some u := ⟨_, List.getElem?_eq_getElem (by simp only [List.length_cons, List.length_nil]; omega)⟩
   obtain ⟨z, rfl⟩ := hall j u hu
   refine O_load Tryd.underlying3 rfl rfl rfl rfl ((ot.ext hE).cell hu) ?_
   refine O_assign rfl rfl rfl ?_
   refine WL_end [(5, _), (8, _), (35, _), (36, _), (37, _)] ⟨rfl, rfl, rfl, rfl, rfl, trivial⟩ ?_
   refine WP_seq ?_
   by_cases hpm : perm z
   · --
    have hL1 := dman_len (x := 1) (e := -z) (show (dig (1 : Int).natAbs).length ≤ 1 from dig_len_of_lt (by decide))
    refine WP_region ?_
    refine O_move rfl rfl rfl ?_
    refine O_call enters22 rfl rfl rfl (unit_T hpm (hT.ext hE)) (fun v30 w30 e30 h30 => ?_)
    have z30 := e30.size
    try simp only [val_dig] at h30
    obtain ⟨q30, rfl, hq30⟩ := h30
    refine O_move rfl rfl rfl ?_
    refine O_extract rfl rfl rfl rfl ?_
    refine O_extract rfl rfl rfl rfl ?_
    refine O_alloc S26 rfl rfl (fun g31 w31 b31 e31 gl31 gh31 => ?_)
    have z31 := e31.size
    refine O_storeA (cs' := [_, _, _]) S26 rfl rfl rfl b31 rfl rfl (one_cons rfl (one_cons ((hq30.ext e31).nl).one (one_cons rfl one_nil))) rfl (fun w32 b32 q32 => ?_)
    have z32 := Nat.le_of_eq q32.size.symm
    have e32 : Ext y26 w32 := q32.ext ((hE.trans e30).trans e31) (by omega)
    refine O_assign rfl rfl rfl ?_
    refine WL_end [(5, _), (8, _), (9, _), (10, _), (35, _), (36, _), (37, _)] ⟨rfl, rfl, rfl, rfl, rfl, rfl, rfl, trivial⟩ ?_
    refine WP_seq ?_
    refine WP_region ?_
    refine O_move rfl rfl rfl ?_
    refine O_call enters30 rfl rfl rfl (runit_T hpm) (fun v33 w33 e33 h33 => ?_)
    have z33 := e33.size
    try simp only [val_dig] at h33
    obtain ⟨q33, rfl, hq33⟩ := h33
    refine O_move rfl rfl rfl ?_
    refine O_extract rfl rfl rfl rfl ?_
    refine O_extract rfl rfl rfl rfl ?_
    refine O_alloc S26 rfl rfl (fun g34 w34 b34 e34 gl34 gh34 => ?_)
    have z34 := e34.size
    refine O_storeA (cs' := [_, _, _]) S26 rfl rfl rfl b34 rfl rfl (one_cons rfl (one_cons ((hq33.ext e34).nl).one (one_cons rfl one_nil))) rfl (fun w35 b35 q35 => ?_)
    have z35 := Nat.le_of_eq q35.size.symm
    have e35 : Ext y26 w35 := q35.ext ((e32.trans e33).trans e34) (by omega)
    refine O_assign rfl rfl rfl ?_
    refine WL_end [(5, _), (8, _), (9, _), (10, _), (11, _), (12, _), (35, _), (36, _), (37, _)] ⟨rfl, rfl, rfl, rfl, rfl, rfl, rfl, rfl, rfl, trivial⟩ ?_
    refine WP_seq ?_
    refine WP_sub [(5, _), (8, _), (9, _), (10, _), (11, _), (12, _), (35, _), (36, _), (37, _)] ⟨rfl, rfl, rfl, rfl, rfl, rfl, rfl, rfl, rfl, trivial⟩ ?_
    refine WP_anyR 15 [5, 8, 9, 10, 11, 12, 35, 36, 37] mixed rfl (by kernel_rfl) ?_
    apply AnyR_val [5] rfl (by kernel_rfl)
    · --
     intro y36 hy36
     have zy36 := hy36.size
     refine AllV_nil ?_
     refine O_loadA (vs := [_, _, _]) S26 rfl rfl rfl (hG.ext (e35.trans hy36)) rfl rfl ?_
     exact WL_nil ⟨(Ext.refl _), rfl⟩
    apply AnyR_val [8] rfl (by kernel_rfl)
    · --
     intro y37 hy37
     have zy37 := hy37.size
     refine AllV_nil ?_
     refine O_move rfl rfl rfl ?_
     exact WL_nil ⟨(Ext.refl _), rfl⟩
    apply AnyR_val [51, 52] rfl (by kernel_rfl)
    · --
     intro y38 hy38
     have zy38 := hy38.size
     refine AllV_v ?_
     refine AllV_v ?_
     refine AllV_nil ?_
     refine O_call enters23 rfl rfl rfl (on_T rfl (hX0.ext (e35.trans hy38)).nl (by first | with_reducible assumption | exact dval_dman _ _ | exact dval_zero | exact (dval_neg _ _).trans (by assumption) | exact dval_dg (by assumption) (by assumption) | exact dval_dl (by assumption) (by assumption)) hpm) (fun v39 w39 e39 h39 => ?_)
     have z39 := e39.size
     obtain rfl := h39
     exact WL_nil ⟨e39, rfl⟩
    apply AnyR_val [5] rfl (by kernel_rfl)
    · --
     intro y40 hy40
     have zy40 := hy40.size
     refine AllV_nil ?_
     refine O_loadA (vs := [_, _, _]) S26 rfl rfl rfl (hG.ext (e35.trans hy40)) rfl rfl ?_
     exact WL_nil ⟨(Ext.refl _), rfl⟩
    apply AnyR_val [8] rfl (by kernel_rfl)
    · --
     intro y41 hy41
     have zy41 := hy41.size
     refine AllV_nil ?_
     refine O_move rfl rfl rfl ?_
     exact WL_nil ⟨(Ext.refl _), rfl⟩
    apply AnyR_val [54, 55] rfl (by kernel_rfl)
    · --
     intro y42 hy42
     have zy42 := hy42.size
     refine AllV_v ?_
     refine AllV_v ?_
     refine AllV_nil ?_
     refine O_call enters31 rfl rfl rfl (ron_T rfl (hX0.ext (e35.trans hy42)).nl (by first | with_reducible assumption | exact dval_dman _ _ | exact dval_zero | exact (dval_neg _ _).trans (by assumption) | exact dval_dg (by assumption) (by assumption) | exact dval_dl (by assumption) (by assumption)) hpm) (fun v43 w43 e43 h43 => ?_)
     have z43 := e43.size
     obtain rfl := h43
     exact WL_nil ⟨e43, rfl⟩
    apply AnyR_val [53, 56] rfl (by kernel_rfl)
    · --
     intro y44 hy44
     have zy44 := hy44.size
     refine AllV_v ?_
     refine AllV_v ?_
     refine AllV_nil ?_
     refine O_bneq Tryd.underlying4 (t := false) rfl rfl rfl rfl (by simp) ?_
     exact WL_nil ⟨(Ext.refl _), rfl⟩
    apply AnyR_val [57] rfl (by kernel_rfl)
    · --
     intro y45 hy45
     have zy45 := hy45.size
     refine AllV_v ?_
     refine AllV_nil ?_
     refine O_move rfl rfl rfl ?_
     exact WL_nil ⟨(Ext.refl _), rfl⟩
    apply AnyR_val [58, 10] rfl (by kernel_rfl)
    · --
     intro y46 hy46
     have zy46 := hy46.size
     refine AllV_v ?_
     refine AllV_nil ?_
     refine O_move rfl rfl rfl ?_
     exact WL_nil ⟨(Ext.refl _), rfl⟩
    apply AnyR_val [58, 12] rfl (by kernel_rfl)
    · --
     intro y47 hy47
     have zy47 := hy47.size
     refine AllV_v ?_
     refine AllV_nil ?_
     refine O_move rfl rfl rfl ?_
     exact WL_nil ⟨(Ext.refl _), rfl⟩
    apply AnyR_val [58, 59, 60] rfl (by kernel_rfl)
    · --
     intro y48 hy48
     have zy48 := hy48.size
     refine AllV_v ?_
     refine AllV_v ?_
     refine AllV_v ?_
     refine AllV_nil ?_
     refine O_neq (t := false) rfl rfl rfl rfl (decide_eq_false (by simp)) ?_
     exact WL_nil ⟨(Ext.refl _), rfl⟩
    apply AnyR_val [58, 61] rfl (by kernel_rfl)
    · --
     intro y49 hy49
     have zy49 := hy49.size
     refine AllV_v ?_
     refine AllV_v ?_
     refine AllV_nil ?_
     refine O_pickF rfl rfl rfl rfl ?_
     exact WL_nil ⟨(Ext.refl _), rfl⟩
    apply AnyR_val [62] rfl (by kernel_rfl)
    · --
     intro y50 hy50
     have zy50 := hy50.size
     refine AllV_v ?_
     refine AllV_nil ?_
     refine O_move rfl rfl rfl ?_
     exact WL_nil ⟨(Ext.refl _), rfl⟩
    apply AnyR_val [63, 9] rfl (by kernel_rfl)
    · --
     intro y51 hy51
     have zy51 := hy51.size
     refine AllV_v ?_
     refine AllV_nil ?_
     refine O_loadA (vs := [_, _, _]) S26 rfl rfl rfl ((((b32.ext e33).ext e34).chg q35 (by first | assumption | omega)).ext hy51) rfl rfl ?_
     exact WL_nil ⟨(Ext.refl _), rfl⟩
    apply AnyR_val [63, 11] rfl (by kernel_rfl)
    · --
     intro y52 hy52
     have zy52 := hy52.size
     refine AllV_v ?_
     refine AllV_nil ?_
     refine O_loadA (vs := [_, _, _]) S26 rfl rfl rfl (b35.ext hy52) rfl rfl ?_
     exact WL_nil ⟨(Ext.refl _), rfl⟩
    refine AnyR_nil fun y53 hy53 => ?_
    have zy53 := hy53.size
    refine AllV_v ?_
    refine AllV_v ?_
    refine AllV_v ?_
    refine AllV_v ?_
    refine AllV_v ?_
    refine AllV_v ?_
    refine AllV_v ?_
    refine AllV_v ?_
    refine AllV_v ?_
    refine AllV_v ?_
    refine AllV_v ?_
    refine AllV_v ?_
    refine AllV_v ?_
    refine AllV_v ?_
    refine AllV_v ?_
    refine AllV_nil ?_
    refine O_call enters20 rfl rfl rfl (rdsame_c rfl ((((((hq30.ext e31).chgBk b31 (by decide) q32).ext e33).ext e34).chgBk b34 (by decide) q35).ext hy53).nl (((hq33.ext e34).chgBk b34 (by decide) q35).ext hy53).nl (by (try simp only [lens]); omega) (by (try simp only [lens]); omega) rfl rfl) (fun v54 w54 e54 h54 => ?_)
    have z54 := e54.size
    obtain rfl := h54
    refine O_not rfl rfl rfl rfl ?_
    refine O_pickF rfl rfl rfl rfl ?_
    refine WL_end [(5, _), (35, _), (36, _), (37, _), (68, _)] ⟨rfl, rfl, rfl, rfl, rfl, trivial⟩ ?_
    refine WP_condF rfl ?_
    refine WP_skip ?_
    refine WP_region ?_
    refine O_add rfl rfl rfl rfl (wrap_i64_id (by omega) (by omega)) ?_
    refine O_move rfl rfl rfl ?_
    refine WL_end [(5, _), (35, _), (36, _), (37, _)] ⟨rfl, rfl, rfl, rfl, trivial⟩ ?_
    exact ⟨j + 1, ⟨rfl, rfl, rfl, rfl, trivial⟩, ⟨((e35.trans hy53).trans e54), by omega⟩, by omega⟩
   · --
    skip
    refine WP_region ?_
    refine O_move rfl rfl rfl ?_
    refine O_call enters22 rfl rfl rfl (unit_F hpm) (fun v55 w55 e55 h55 => ?_)
    have z55 := e55.size
    try simp only [val_dig] at h55
    obtain rfl := h55
    refine O_move rfl rfl rfl ?_
    refine O_extract rfl rfl rfl rfl ?_
    refine O_extract rfl rfl rfl rfl ?_
    refine O_alloc S26 rfl rfl (fun g56 w56 b56 e56 gl56 gh56 => ?_)
    have z56 := e56.size
    refine O_storeA (cs' := [_, _, _]) S26 rfl rfl rfl b56 rfl rfl (one_cons rfl (one_cons rfl (one_cons rfl one_nil))) rfl (fun w57 b57 q57 => ?_)
    have z57 := Nat.le_of_eq q57.size.symm
    have e57 : Ext y26 w57 := q57.ext ((hE.trans e55).trans e56) (by omega)
    refine O_assign rfl rfl rfl ?_
    refine WL_end [(5, _), (8, _), (9, _), (10, _), (35, _), (36, _), (37, _)] ⟨rfl, rfl, rfl, rfl, rfl, rfl, rfl, trivial⟩ ?_
    refine WP_seq ?_
    refine WP_region ?_
    refine O_move rfl rfl rfl ?_
    refine O_call enters30 rfl rfl rfl (runit_F hpm) (fun v58 w58 e58 h58 => ?_)
    have z58 := e58.size
    try simp only [val_dig] at h58
    obtain rfl := h58
    refine O_move rfl rfl rfl ?_
    refine O_extract rfl rfl rfl rfl ?_
    refine O_extract rfl rfl rfl rfl ?_
    refine O_alloc S26 rfl rfl (fun g59 w59 b59 e59 gl59 gh59 => ?_)
    have z59 := e59.size
    refine O_storeA (cs' := [_, _, _]) S26 rfl rfl rfl b59 rfl rfl (one_cons rfl (one_cons rfl (one_cons rfl one_nil))) rfl (fun w60 b60 q60 => ?_)
    have z60 := Nat.le_of_eq q60.size.symm
    have e60 : Ext y26 w60 := q60.ext ((e57.trans e58).trans e59) (by omega)
    refine O_assign rfl rfl rfl ?_
    refine WL_end [(5, _), (8, _), (9, _), (10, _), (11, _), (12, _), (35, _), (36, _), (37, _)] ⟨rfl, rfl, rfl, rfl, rfl, rfl, rfl, rfl, rfl, trivial⟩ ?_
    refine WP_seq ?_
    refine WP_sub [(5, _), (8, _), (9, _), (10, _), (11, _), (12, _), (35, _), (36, _), (37, _)] ⟨rfl, rfl, rfl, rfl, rfl, rfl, rfl, rfl, rfl, trivial⟩ ?_
    refine WP_anyR 15 [5, 8, 9, 10, 11, 12, 35, 36, 37] mixed rfl (by kernel_rfl) ?_
    apply AnyR_val [5] rfl (by kernel_rfl)
    · --
     intro y61 hy61
     have zy61 := hy61.size
     refine AllV_nil ?_
     refine O_loadA (vs := [_, _, _]) S26 rfl rfl rfl (hG.ext (e60.trans hy61)) rfl rfl ?_
     exact WL_nil ⟨(Ext.refl _), rfl⟩
    apply AnyR_val [8] rfl (by kernel_rfl)
    · --
     intro y62 hy62
     have zy62 := hy62.size
     refine AllV_nil ?_
     refine O_move rfl rfl rfl ?_
     exact WL_nil ⟨(Ext.refl _), rfl⟩
    apply AnyR_val [51, 52] rfl (by kernel_rfl)
    · --
     intro y63 hy63
     have zy63 := hy63.size
     refine AllV_v ?_
     refine AllV_v ?_
     refine AllV_nil ?_
     refine O_call enters23 rfl rfl rfl (on_F rfl (hX0.ext (e60.trans hy63)).nl (by first | with_reducible assumption | exact dval_dman _ _ | exact dval_zero | exact (dval_neg _ _).trans (by assumption) | exact dval_dg (by assumption) (by assumption) | exact dval_dl (by assumption) (by assumption)) hpm) (fun v64 w64 e64 h64 => ?_)
     have z64 := e64.size
     obtain rfl := h64
     exact WL_nil ⟨e64, rfl⟩
    apply AnyR_val [5] rfl (by kernel_rfl)
    · --
     intro y65 hy65
     have zy65 := hy65.size
     refine AllV_nil ?_
     refine O_loadA (vs := [_, _, _]) S26 rfl rfl rfl (hG.ext (e60.trans hy65)) rfl rfl ?_
     exact WL_nil ⟨(Ext.refl _), rfl⟩
    apply AnyR_val [8] rfl (by kernel_rfl)
    · --
     intro y66 hy66
     have zy66 := hy66.size
     refine AllV_nil ?_
     refine O_move rfl rfl rfl ?_
     exact WL_nil ⟨(Ext.refl _), rfl⟩
    apply AnyR_val [54, 55] rfl (by kernel_rfl)
    · --
     intro y67 hy67
     have zy67 := hy67.size
     refine AllV_v ?_
     refine AllV_v ?_
     refine AllV_nil ?_
     refine O_call enters31 rfl rfl rfl (ron_F rfl (hX0.ext (e60.trans hy67)).nl (by first | with_reducible assumption | exact dval_dman _ _ | exact dval_zero | exact (dval_neg _ _).trans (by assumption) | exact dval_dg (by assumption) (by assumption) | exact dval_dl (by assumption) (by assumption)) hpm) (fun v68 w68 e68 h68 => ?_)
     have z68 := e68.size
     obtain rfl := h68
     exact WL_nil ⟨e68, rfl⟩
    apply AnyR_val [53, 56] rfl (by kernel_rfl)
    · --
     intro y69 hy69
     have zy69 := hy69.size
     refine AllV_v ?_
     refine AllV_v ?_
     refine AllV_nil ?_
     refine O_bneq Tryd.underlying4 (t := false) rfl rfl rfl rfl (by simp) ?_
     exact WL_nil ⟨(Ext.refl _), rfl⟩
    apply AnyR_val [57] rfl (by kernel_rfl)
    · --
     intro y70 hy70
     have zy70 := hy70.size
     refine AllV_v ?_
     refine AllV_nil ?_
     refine O_move rfl rfl rfl ?_
     exact WL_nil ⟨(Ext.refl _), rfl⟩
    apply AnyR_val [58, 10] rfl (by kernel_rfl)
    · --
     intro y71 hy71
     have zy71 := hy71.size
     refine AllV_v ?_
     refine AllV_nil ?_
     refine O_move rfl rfl rfl ?_
     exact WL_nil ⟨(Ext.refl _), rfl⟩
    apply AnyR_val [58, 12] rfl (by kernel_rfl)
    · --
     intro y72 hy72
     have zy72 := hy72.size
     refine AllV_v ?_
     refine AllV_nil ?_
     refine O_move rfl rfl rfl ?_
     exact WL_nil ⟨(Ext.refl _), rfl⟩
    apply AnyR_val [58, 59, 60] rfl (by kernel_rfl)
    · --
     intro y73 hy73
     have zy73 := hy73.size
     refine AllV_v ?_
     refine AllV_v ?_
     refine AllV_v ?_
     refine AllV_nil ?_
     refine O_neq (t := false) rfl rfl rfl rfl (decide_eq_false (by simp)) ?_
     exact WL_nil ⟨(Ext.refl _), rfl⟩
    apply AnyR_val [58, 61] rfl (by kernel_rfl)
    · --
     intro y74 hy74
     have zy74 := hy74.size
     refine AllV_v ?_
     refine AllV_v ?_
     refine AllV_nil ?_
     refine O_pickF rfl rfl rfl rfl ?_
     exact WL_nil ⟨(Ext.refl _), rfl⟩
    apply AnyR_val [62] rfl (by kernel_rfl)
    · --
     intro y75 hy75
     have zy75 := hy75.size
     refine AllV_v ?_
     refine AllV_nil ?_
     refine O_move rfl rfl rfl ?_
     exact WL_nil ⟨(Ext.refl _), rfl⟩
    apply AnyR_val [63, 9] rfl (by kernel_rfl)
    · --
     intro y76 hy76
     have zy76 := hy76.size
     refine AllV_v ?_
     refine AllV_nil ?_
     refine O_loadA (vs := [_, _, _]) S26 rfl rfl rfl ((((b57.ext e58).ext e59).chg q60 (by first | assumption | omega)).ext hy76) rfl rfl ?_
     exact WL_nil ⟨(Ext.refl _), rfl⟩
    apply AnyR_val [63, 11] rfl (by kernel_rfl)
    · --
     intro y77 hy77
     have zy77 := hy77.size
     refine AllV_v ?_
     refine AllV_nil ?_
     refine O_loadA (vs := [_, _, _]) S26 rfl rfl rfl (b60.ext hy77) rfl rfl ?_
     exact WL_nil ⟨(Ext.refl _), rfl⟩
    refine AnyR_nil fun y78 hy78 => ?_
    have zy78 := hy78.size
    refine AllV_v ?_
    refine AllV_v ?_
    refine AllV_v ?_
    refine AllV_v ?_
    refine AllV_v ?_
    refine AllV_v ?_
    refine AllV_v ?_
    refine AllV_v ?_
    refine AllV_v ?_
    refine AllV_v ?_
    refine AllV_v ?_
    refine AllV_v ?_
    refine AllV_v ?_
    refine AllV_v ?_
    refine AllV_v ?_
    refine AllV_nil ?_
    refine O_call enters20 rfl rfl rfl (rdsame_c rfl (Nl.nil _) (Nl.nil _) (by (try simp only [lens]); omega) (by (try simp only [lens]); omega) rfl rfl) (fun v79 w79 e79 h79 => ?_)
    have z79 := e79.size
    obtain rfl := h79
    refine O_not rfl rfl rfl rfl ?_
    refine O_pickF rfl rfl rfl rfl ?_
    refine WL_end [(5, _), (35, _), (36, _), (37, _), (68, _)] ⟨rfl, rfl, rfl, rfl, rfl, trivial⟩ ?_
    refine WP_condF rfl ?_
    refine WP_skip ?_
    refine WP_region ?_
    refine O_add rfl rfl rfl rfl (wrap_i64_id (by omega) (by omega)) ?_
    refine O_move rfl rfl rfl ?_
    refine WL_end [(5, _), (35, _), (36, _), (37, _)] ⟨rfl, rfl, rfl, rfl, trivial⟩ ?_
    exact ⟨j + 1, ⟨rfl, rfl, rfl, rfl, trivial⟩, ⟨((e60.trans hy78).trans e79), by omega⟩, by omega⟩
  · --
   refine WP_exit ?_
   refine inBlk_hit ?_
   refine WP_seq ?_
   refine WP_region ?_
   refine O_assign rfl rfl rfl ?_
   refine WL_end [(4, _)] ⟨rfl, trivial⟩ ?_
   refine WP_ret ?_
   refine ret1 Tryd.results5 rfl ?_
   exact ⟨_, rfl, ((e5.trans hy26)).trans hE, rfl⟩

end Go.Proofs.YthbfhljpfkicpaaDoor
