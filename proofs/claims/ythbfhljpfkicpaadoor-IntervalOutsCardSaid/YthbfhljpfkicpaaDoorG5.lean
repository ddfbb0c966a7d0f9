/-
  Walks.
-/
import Derived.Test.YthbfhljpfkicpaaDoorG4
set_option linter.unusedVariables false
set_option linter.unusedSimpArgs false
set_option maxRecDepth 100000
namespace Go.Proofs.YthbfhljpfkicpaaDoor
open Go Go.RowKit
theorem qm1 : dman (-1) (-2) = -1 ∧ dexp (-1) (-2) = -2 := (dval_made (show dval (-1) (-2) = true by decide)).2
theorem q3 : dman 3 (-2) = 3 ∧ dexp 3 (-2) = -2 := (dval_made (show dval 3 (-2) = true by decide)).2
theorem q0 : dman 0 (-2) = 0 ∧ dexp 0 (-2) = 0 := (dcode0 (by decide) (by decide)).2
theorem qm1h : dcode (-1) (-1) = 0 ∧ dman (-1) (-1) = -1 ∧ dexp (-1) (-1) = -1 := dval_made (show dval (-1) (-1) = true by decide)
theorem qm2 : dman (-2) (-2) = -1 ∧ dexp (-2) (-2) = -1 := by
  have h1 := dcode_shl (x := -1) (e := -1) (k := 1) (by decide) (by decide) (by decide)
  exact ⟨h1.2.1.trans qm1h.2.1, h1.2.2.trans qm1h.2.2⟩
theorem q4 : dman 4 (-2) = 1 ∧ dexp 4 (-2) = 0 := by
  have h1 := dcode_shl (x := 1) (e := 0) (k := 2) (by decide) (by decide) (by decide)
  have h2 := dval_made (show dval 1 0 = true by decide)
  exact ⟨h1.2.1.trans h2.2.1, h1.2.2.trans h2.2.2⟩
theorem q2n : dcode 2 (-1) = 0 ∧ dman 2 (-1) = 1 ∧ dexp 2 (-1) = 0 := by
  have h1 := dcode_shl (x := 1) (e := 0) (k := 1) (by decide) (by decide) (by decide)
  have h2 := dval_made (show dval 1 0 = true by decide)
  exact ⟨h1.1.trans h2.1, h1.2.1.trans h2.2.1, h1.2.2.trans h2.2.2⟩
theorem q0n : dcode 0 (-1) = 0 ∧ dman 0 (-1) = 0 ∧ dexp 0 (-1) = 0 := dcode0 (by decide) (by decide)
theorem f1 : scl (-1) (-2 + 1) = -1 := by decide
theorem f2 : -(scl (-(-1)) (-2 + 1)) = 0 := by decide
theorem f3 : ner 3 (-2 + 1) = 2 := by decide

theorem quarter_m1 {w : World} : Calls Tryd.prog 54 #[.int .i64 (-1)] w (Ret w fun r w' => ∃ q, r = .agg #[.bool (decide (((-1 : Int)) < 0)), q, .int .i64 (-2)] ∧ No w.heap.size 111 w' q (dig (-1 : Int).natAbs)) :=
  (quarter_c (n := -1) (by decide) (by decide)).mono fun _ w' ⟨r, he, hx, q, hr, hq⟩ => ⟨r, he, hx, q, by rw [hr, qm1.1, qm1.2], by rw [qm1.1] at hq; exact hq⟩
theorem quarter_p3 {w : World} : Calls Tryd.prog 54 #[.int .i64 (3)] w (Ret w fun r w' => ∃ q, r = .agg #[.bool (decide (((3 : Int)) < 0)), q, .int .i64 (-2)] ∧ No w.heap.size 111 w' q (dig (3 : Int).natAbs)) :=
  (quarter_c (n := 3) (by decide) (by decide)).mono fun _ w' ⟨r, he, hx, q, hr, hq⟩ => ⟨r, he, hx, q, by rw [hr, q3.1, q3.2], by rw [q3.1] at hq; exact hq⟩
theorem quarter_m2 {w : World} : Calls Tryd.prog 54 #[.int .i64 (-2)] w (Ret w fun r w' => ∃ q, r = .agg #[.bool (decide (((-1 : Int)) < 0)), q, .int .i64 (-1)] ∧ No w.heap.size 111 w' q (dig (-1 : Int).natAbs)) :=
  (quarter_c (n := -2) (by decide) (by decide)).mono fun _ w' ⟨r, he, hx, q, hr, hq⟩ => ⟨r, he, hx, q, by rw [hr, qm2.1, qm2.2], by rw [qm2.1] at hq; exact hq⟩
theorem quarter_z0 {w : World} : Calls Tryd.prog 54 #[.int .i64 (0)] w (Ret w fun r w' => ∃ q, r = .agg #[.bool (decide (((0 : Int)) < 0)), q, .int .i64 (0)] ∧ No w.heap.size 111 w' q (dig (0 : Int).natAbs)) :=
  (quarter_c (n := 0) (by decide) (by decide)).mono fun _ w' ⟨r, he, hx, q, hr, hq⟩ => ⟨r, he, hx, q, by rw [hr, q0.1, q0.2], by rw [q0.1] at hq; exact hq⟩
theorem quarter_p4 {w : World} : Calls Tryd.prog 54 #[.int .i64 (4)] w (Ret w fun r w' => ∃ q, r = .agg #[.bool (decide (((1 : Int)) < 0)), q, .int .i64 (0)] ∧ No w.heap.size 111 w' q (dig (1 : Int).natAbs)) :=
  (quarter_c (n := 4) (by decide) (by decide)).mono fun _ w' ⟨r, he, hx, q, hr, hq⟩ => ⟨r, he, hx, q, by rw [hr, q4.1, q4.2], by rw [q4.1] at hq; exact hq⟩

set_option maxHeartbeats 1000000 in
theorem awake9_c {w : World} (hT : Tab w) :
    Calls Tryd.prog 11 #[] w (Ret w fun r _ => r = .bool true) := by
 have hpm : perm 1 := by decide
 have d1 : dval (-1) (-2) = true := by decide
 have d2 : dval 3 (-2) = true := by decide
 have hl0 : (dig (-1 : Int).natAbs).length ≤ 1 := dig_len_of_lt (by decide)
 have hl1 : (dig (0 : Int).natAbs).length ≤ 1 := dig_len_of_lt (by decide)
 have hl2 : (dig (1 : Int).natAbs).length ≤ 1 := dig_len_of_lt (by decide)
 have hl3 : (dig (2 : Int).natAbs).length ≤ 1 := dig_len_of_lt (by decide)
 have hl4 : (dig (3 : Int).natAbs).length ≤ 1 := dig_len_of_lt (by decide)
 refine enter (args := []) Tryd.func11 rfl Tryd.ntmps11 rfl ?_
 refine WP_seq ?_
 refine WP_region ?_
 refine O_assign rfl rfl rfl ?_
 refine WL_end [] trivial ?_
 refine WP_seq ?_
 refine WP_region ?_
 refine O_call enters54 rfl rfl rfl (quarter_m1) (fun v1 w1 e1 h1 => ?_)
 have z1 := e1.size
 try simp only [val_dig] at h1
 obtain ⟨q1, rfl, hq1⟩ := h1
 refine O_call enters14 rfl rfl rfl (gfloor_T rfl hq1.nl (by first | with_reducible assumption | exact dval_dman _ _ | exact dval_zero | exact (dval_neg _ _).trans (by assumption) | exact dval_dg (by assumption) (by assumption) | exact dval_dl (by assumption) (by assumption)) hpm (hT.ext e1)) (fun v2 w2 e2 h2 => ?_)
 have z2 := e2.size
 try simp only [val_dig] at h2
 obtain ⟨q2, rfl, hq2⟩ := h2
 simp only [qm1, q3, q0, qm2, q4, f1, f2, f3, qm1h, q2n, q0n] at hq2 ⊢
 refine O_move rfl rfl rfl ?_
 refine O_extract rfl rfl rfl rfl ?_
 refine O_extract rfl rfl rfl rfl ?_
 refine O_alloc S26 rfl rfl (fun g3 w3 b3 e3 gl3 gh3 => ?_)
 have z3 := e3.size
 refine O_storeA (cs' := [_, _, _]) S26 rfl rfl rfl b3 rfl rfl (one_cons rfl (one_cons ((hq2.ext e3).nl).one (one_cons rfl one_nil))) rfl (fun w4 b4 q4 => ?_)
 have z4 := Nat.le_of_eq q4.size.symm
 have e4 : Ext w w4 := q4.ext ((e1.trans e2).trans e3) (by omega)
 refine O_assign rfl rfl rfl ?_
 refine WL_end [(1, _), (2, _)] ⟨rfl, rfl, trivial⟩ ?_
 refine WP_seq ?_
 refine WP_region ?_
 refine O_call enters54 rfl rfl rfl (quarter_m1) (fun v5 w5 e5 h5 => ?_)
 have z5 := e5.size
 try simp only [val_dig] at h5
 obtain ⟨q5, rfl, hq5⟩ := h5
 refine O_call enters15 rfl rfl rfl (gceil_T rfl hq5.nl (by first | with_reducible assumption | exact dval_dman _ _ | exact dval_zero | exact (dval_neg _ _).trans (by assumption) | exact dval_dg (by assumption) (by assumption) | exact dval_dl (by assumption) (by assumption)) hpm (hT.ext (e4.trans e5))) (fun v6 w6 e6 h6 => ?_)
 have z6 := e6.size
 try simp only [val_dig] at h6
 obtain ⟨q6, rfl, hq6⟩ := h6
 simp only [qm1, q3, q0, qm2, q4, f1, f2, f3, qm1h, q2n, q0n] at hq6 ⊢
 refine O_move rfl rfl rfl ?_
 refine O_extract rfl rfl rfl rfl ?_
 refine O_extract rfl rfl rfl rfl ?_
 refine O_alloc S26 rfl rfl (fun g7 w7 b7 e7 gl7 gh7 => ?_)
 have z7 := e7.size
 refine O_storeA (cs' := [_, _, _]) S26 rfl rfl rfl b7 rfl rfl (one_cons rfl (one_cons ((hq6.ext e7).nl).one (one_cons rfl one_nil))) rfl (fun w8 b8 q8 => ?_)
 have z8 := Nat.le_of_eq q8.size.symm
 have e8 : Ext w w8 := q8.ext (((e4.trans e5).trans e6).trans e7) (by omega)
 refine O_assign rfl rfl rfl ?_
 refine WL_end [(1, _), (2, _), (3, _), (4, _)] ⟨rfl, rfl, rfl, rfl, trivial⟩ ?_
 refine WP_seq ?_
 refine WP_region ?_
 refine O_call enters54 rfl rfl rfl (quarter_p3) (fun v9 w9 e9 h9 => ?_)
 have z9 := e9.size
 try simp only [val_dig] at h9
 obtain ⟨q9, rfl, hq9⟩ := h9
 refine O_call enters16 rfl rfl rfl (gnear_T rfl hq9.nl (by first | with_reducible assumption | exact dval_dman _ _ | exact dval_zero | exact (dval_neg _ _).trans (by assumption) | exact dval_dg (by assumption) (by assumption) | exact dval_dl (by assumption) (by assumption)) hpm (hT.ext (e8.trans e9))) (fun v10 w10 e10 h10 => ?_)
 have z10 := e10.size
 try simp only [val_dig] at h10
 obtain ⟨q10, rfl, hq10⟩ := h10
 simp only [qm1, q3, q0, qm2, q4, f1, f2, f3, qm1h, q2n, q0n] at hq10 ⊢
 refine O_move rfl rfl rfl ?_
 refine O_extract rfl rfl rfl rfl ?_
 refine O_extract rfl rfl rfl rfl ?_
 refine O_alloc S26 rfl rfl (fun g11 w11 b11 e11 gl11 gh11 => ?_)
 have z11 := e11.size
 refine O_storeA (cs' := [_, _, _]) S26 rfl rfl rfl b11 rfl rfl (one_cons rfl (one_cons ((hq10.ext e11).nl).one (one_cons rfl one_nil))) rfl (fun w12 b12 q12 => ?_)
 have z12 := Nat.le_of_eq q12.size.symm
 have e12 : Ext w w12 := q12.ext (((e8.trans e9).trans e10).trans e11) (by omega)
 refine O_assign rfl rfl rfl ?_
 refine WL_end [(1, _), (2, _), (3, _), (4, _), (5, _), (6, _)] ⟨rfl, rfl, rfl, rfl, rfl, rfl, trivial⟩ ?_
 refine WP_seq ?_
 refine WP_sub [(1, _), (2, _), (3, _), (4, _), (5, _), (6, _)] ⟨rfl, rfl, rfl, rfl, rfl, rfl, trivial⟩ ?_
 refine WP_anyR 25 [1, 2, 3, 4, 5, 6] mixed rfl (by kernel_rfl) ?_
 apply AnyR_val [2] rfl (by kernel_rfl)
 · --
  intro y13 hy13
  have zy13 := hy13.size
  refine AllV_nil ?_
  refine O_move rfl rfl rfl ?_
  exact WL_nil ⟨(Ext.refl _), rfl⟩
 apply AnyR_val [22] rfl (by kernel_rfl)
 · --
  intro y14 hy14
  have zy14 := hy14.size
  refine AllV_v ?_
  refine AllV_nil ?_
  refine O_eql (t := true) rfl rfl rfl rfl (decide_eq_true rfl) ?_
  exact WL_nil ⟨(Ext.refl _), rfl⟩
 apply AnyR_val [23] rfl (by kernel_rfl)
 · --
  intro y15 hy15
  have zy15 := hy15.size
  refine AllV_v ?_
  refine AllV_nil ?_
  refine O_move rfl rfl rfl ?_
  exact WL_nil ⟨(Ext.refl _), rfl⟩
 apply AnyR_val [24, 4] rfl (by kernel_rfl)
 · --
  intro y16 hy16
  have zy16 := hy16.size
  refine AllV_v ?_
  refine AllV_nil ?_
  refine O_move rfl rfl rfl ?_
  exact WL_nil ⟨(Ext.refl _), rfl⟩
 apply AnyR_val [24, 25] rfl (by kernel_rfl)
 · --
  intro y17 hy17
  have zy17 := hy17.size
  refine AllV_v ?_
  refine AllV_v ?_
  refine AllV_nil ?_
  refine O_eql (t := true) rfl rfl rfl rfl (decide_eq_true rfl) ?_
  exact WL_nil ⟨(Ext.refl _), rfl⟩
 apply AnyR_val [24, 26] rfl (by kernel_rfl)
 · --
  intro y18 hy18
  have zy18 := hy18.size
  refine AllV_v ?_
  refine AllV_v ?_
  refine AllV_nil ?_
  refine O_pickT rfl rfl rfl rfl ?_
  exact WL_nil ⟨(Ext.refl _), rfl⟩
 apply AnyR_val [27] rfl (by kernel_rfl)
 · --
  intro y19 hy19
  have zy19 := hy19.size
  refine AllV_v ?_
  refine AllV_nil ?_
  refine O_move rfl rfl rfl ?_
  exact WL_nil ⟨(Ext.refl _), rfl⟩
 apply AnyR_val [28, 6] rfl (by kernel_rfl)
 · --
  intro y20 hy20
  have zy20 := hy20.size
  refine AllV_v ?_
  refine AllV_nil ?_
  refine O_move rfl rfl rfl ?_
  exact WL_nil ⟨(Ext.refl _), rfl⟩
 apply AnyR_val [28, 29] rfl (by kernel_rfl)
 · --
  intro y21 hy21
  have zy21 := hy21.size
  refine AllV_v ?_
  refine AllV_v ?_
  refine AllV_nil ?_
  refine O_eql (t := true) rfl rfl rfl rfl (decide_eq_true rfl) ?_
  exact WL_nil ⟨(Ext.refl _), rfl⟩
 apply AnyR_val [28, 30] rfl (by kernel_rfl)
 · --
  intro y22 hy22
  have zy22 := hy22.size
  refine AllV_v ?_
  refine AllV_v ?_
  refine AllV_nil ?_
  refine O_pickT rfl rfl rfl rfl ?_
  exact WL_nil ⟨(Ext.refl _), rfl⟩
 apply AnyR_val [31] rfl (by kernel_rfl)
 · --
  intro y23 hy23
  have zy23 := hy23.size
  refine AllV_v ?_
  refine AllV_nil ?_
  refine O_move rfl rfl rfl ?_
  exact WL_nil ⟨(Ext.refl _), rfl⟩
 apply AnyR_val [32, 1] rfl (by kernel_rfl)
 · --
  intro y24 hy24
  have zy24 := hy24.size
  refine AllV_v ?_
  refine AllV_nil ?_
  refine O_loadA (vs := [_, _, _]) S26 rfl rfl rfl (((((((((b4.ext e5).ext e6).ext e7).chg q8 (by first | assumption | omega)).ext e9).ext e10).ext e11).chg q12 (by first | assumption | omega)).ext hy24) rfl rfl ?_
  exact WL_nil ⟨(Ext.refl _), rfl⟩
 apply AnyR_rel (RelP (pAgg [pEq _, pNo w12.heap.size 111 _, pEq _])) [32] rfl (RelP.mono (pAgg_mono (PsM.cons pEq_mono (PsM.cons pNo_mono (PsM.cons pEq_mono PsM.nil))))) (by kernel_rfl)
 · --
  intro y25 hy25
  have zy25 := hy25.size
  refine AllV_v ?_
  refine AllV_nil ?_
  refine O_call enters54 rfl rfl rfl (quarter_m2) (fun v26 w26 e26 h26 => ?_)
  have z26 := e26.size
  try simp only [val_dig] at h26
  obtain ⟨q26, rfl, hq26⟩ := h26
  exact WL_nil ⟨e26, _, rfl, ⟨_, rfl, (AllP.cons rfl (AllP.cons (hq26.mono (by omega)) (AllP.cons rfl AllP.nil)))⟩⟩
 apply AnyR_val [32, 33, 34] rfl (by kernel_rfl)
 · --
  intro y27 hy27
  have zy27 := hy27.size
  refine AllV_v ?_
  refine AllV_v ?_
  refine AllV_r fun a28 b28 v28 la28 lb28 lc28 h28 ap28 => ?_
  clear ap28
  obtain ⟨_, rfl, v28_0, _, rfl, rfl, v28_1, _, rfl, h28_1, v28_2, _, rfl, rfl, rfl⟩ := h28
  refine AllV_nil ?_
  refine O_call enters20 rfl rfl rfl (rdsame_c rfl (((((((((((hq2.ext e3).chgBk b3 (by decide) q4).ext e5).ext e6).ext e7).chgBk b7 (by decide) q8).ext e9).ext e10).ext e11).chgBk b11 (by decide) q12).ext hy27).nl h28_1.nl (by (try simp only [lens]); omega) (by (try simp only [lens]); omega) rfl rfl) (fun v29 w29 e29 h29 => ?_)
  have z29 := e29.size
  obtain rfl := h29
  exact WL_nil ⟨e29, rfl⟩
 apply AnyR_val [32, 35] rfl (by kernel_rfl)
 · --
  intro y30 hy30
  have zy30 := hy30.size
  refine AllV_v ?_
  refine AllV_v ?_
  refine AllV_nil ?_
  refine O_pickT rfl rfl rfl rfl ?_
  exact WL_nil ⟨(Ext.refl _), rfl⟩
 apply AnyR_val [36] rfl (by kernel_rfl)
 · --
  intro y31 hy31
  have zy31 := hy31.size
  refine AllV_v ?_
  refine AllV_nil ?_
  refine O_move rfl rfl rfl ?_
  exact WL_nil ⟨(Ext.refl _), rfl⟩
 apply AnyR_val [37, 3] rfl (by kernel_rfl)
 · --
  intro y32 hy32
  have zy32 := hy32.size
  refine AllV_v ?_
  refine AllV_nil ?_
  refine O_loadA (vs := [_, _, _]) S26 rfl rfl rfl (((((b8.ext e9).ext e10).ext e11).chg q12 (by first | assumption | omega)).ext hy32) rfl rfl ?_
  exact WL_nil ⟨(Ext.refl _), rfl⟩
 apply AnyR_rel (RelP (pAgg [pEq _, pNo w12.heap.size 111 _, pEq _])) [37] rfl (RelP.mono (pAgg_mono (PsM.cons pEq_mono (PsM.cons pNo_mono (PsM.cons pEq_mono PsM.nil))))) (by kernel_rfl)
 · --
  intro y33 hy33
  have zy33 := hy33.size
  refine AllV_v ?_
  refine AllV_nil ?_
  refine O_call enters54 rfl rfl rfl (quarter_z0) (fun v34 w34 e34 h34 => ?_)
  have z34 := e34.size
  try simp only [val_dig] at h34
  obtain ⟨q34, rfl, hq34⟩ := h34
  exact WL_nil ⟨e34, _, rfl, ⟨_, rfl, (AllP.cons rfl (AllP.cons (hq34.mono (by omega)) (AllP.cons rfl AllP.nil)))⟩⟩
 apply AnyR_val [37, 38, 39] rfl (by kernel_rfl)
 · --
  intro y35 hy35
  have zy35 := hy35.size
  refine AllV_v ?_
  refine AllV_v ?_
  refine AllV_r fun a36 b36 v36 la36 lb36 lc36 h36 ap36 => ?_
  clear ap36
  obtain ⟨_, rfl, v36_0, _, rfl, rfl, v36_1, _, rfl, h36_1, v36_2, _, rfl, rfl, rfl⟩ := h36
  refine AllV_nil ?_
  refine O_call enters20 rfl rfl rfl (rdsame_c rfl (((((((hq6.ext e7).chgBk b7 (by decide) q8).ext e9).ext e10).ext e11).chgBk b11 (by decide) q12).ext hy35).nl h36_1.nl (by (try simp only [lens]); omega) (by (try simp only [lens]); omega) rfl rfl) (fun v37 w37 e37 h37 => ?_)
  have z37 := e37.size
  obtain rfl := h37
  exact WL_nil ⟨e37, rfl⟩
 apply AnyR_val [37, 40] rfl (by kernel_rfl)
 · --
  intro y38 hy38
  have zy38 := hy38.size
  refine AllV_v ?_
  refine AllV_v ?_
  refine AllV_nil ?_
  refine O_pickT rfl rfl rfl rfl ?_
  exact WL_nil ⟨(Ext.refl _), rfl⟩
 apply AnyR_val [41] rfl (by kernel_rfl)
 · --
  intro y39 hy39
  have zy39 := hy39.size
  refine AllV_v ?_
  refine AllV_nil ?_
  refine O_move rfl rfl rfl ?_
  exact WL_nil ⟨(Ext.refl _), rfl⟩
 apply AnyR_val [42, 5] rfl (by kernel_rfl)
 · --
  intro y40 hy40
  have zy40 := hy40.size
  refine AllV_v ?_
  refine AllV_nil ?_
  refine O_loadA (vs := [_, _, _]) S26 rfl rfl rfl (b12.ext hy40) rfl rfl ?_
  exact WL_nil ⟨(Ext.refl _), rfl⟩
 apply AnyR_rel (RelP (pAgg [pEq _, pNo w12.heap.size 111 _, pEq _])) [42] rfl (RelP.mono (pAgg_mono (PsM.cons pEq_mono (PsM.cons pNo_mono (PsM.cons pEq_mono PsM.nil))))) (by kernel_rfl)
 · --
  intro y41 hy41
  have zy41 := hy41.size
  refine AllV_v ?_
  refine AllV_nil ?_
  refine O_call enters54 rfl rfl rfl (quarter_p4) (fun v42 w42 e42 h42 => ?_)
  have z42 := e42.size
  try simp only [val_dig] at h42
  obtain ⟨q42, rfl, hq42⟩ := h42
  exact WL_nil ⟨e42, _, rfl, ⟨_, rfl, (AllP.cons rfl (AllP.cons (hq42.mono (by omega)) (AllP.cons rfl AllP.nil)))⟩⟩
 apply AnyR_val [42, 43, 44] rfl (by kernel_rfl)
 · --
  intro y43 hy43
  have zy43 := hy43.size
  refine AllV_v ?_
  refine AllV_v ?_
  refine AllV_r fun a44 b44 v44 la44 lb44 lc44 h44 ap44 => ?_
  clear ap44
  obtain ⟨_, rfl, v44_0, _, rfl, rfl, v44_1, _, rfl, h44_1, v44_2, _, rfl, rfl, rfl⟩ := h44
  refine AllV_nil ?_
  refine O_call enters20 rfl rfl rfl (rdsame_c rfl (((hq10.ext e11).chgBk b11 (by decide) q12).ext hy43).nl h44_1.nl (by (try simp only [lens]); omega) (by (try simp only [lens]); omega) rfl rfl) (fun v45 w45 e45 h45 => ?_)
  have z45 := e45.size
  obtain rfl := h45
  exact WL_nil ⟨e45, rfl⟩
 apply AnyR_val [42, 45] rfl (by kernel_rfl)
 · --
  intro y46 hy46
  have zy46 := hy46.size
  refine AllV_v ?_
  refine AllV_v ?_
  refine AllV_nil ?_
  refine O_pickT rfl rfl rfl rfl ?_
  exact WL_nil ⟨(Ext.refl _), rfl⟩
 refine AnyR_nil fun y47 hy47 => ?_
 have zy47 := hy47.size
 refine AllV_v ?_
 refine AllV_v ?_
 refine AllV_v ?_
 refine AllV_v ?_
 refine AllV_v ?_
 refine AllV_v ?_
 refine AllV_v ?_
 refine AllV_v ?_
 refine AllV_v ?_
 refine AllV_v ?_
 refine AllV_v ?_
 refine AllV_v ?_
 refine AllV_r fun a48 b48 v48 la48 lb48 lc48 h48 ap48 => ?_
 clear ap48
 obtain ⟨_, rfl, v48_0, _, rfl, rfl, v48_1, _, rfl, h48_1, v48_2, _, rfl, rfl, rfl⟩ := h48
 refine AllV_v ?_
 refine AllV_v ?_
 refine AllV_v ?_
 refine AllV_v ?_
 refine AllV_r fun a49 b49 v49 la49 lb49 lc49 h49 ap49 => ?_
 clear ap49
 obtain ⟨_, rfl, v49_0, _, rfl, rfl, v49_1, _, rfl, h49_1, v49_2, _, rfl, rfl, rfl⟩ := h49
 refine AllV_v ?_
 refine AllV_v ?_
 refine AllV_v ?_
 refine AllV_v ?_
 refine AllV_r fun a50 b50 v50 la50 lb50 lc50 h50 ap50 => ?_
 clear ap50
 obtain ⟨_, rfl, v50_0, _, rfl, rfl, v50_1, _, rfl, h50_1, v50_2, _, rfl, rfl, rfl⟩ := h50
 refine AllV_v ?_
 refine AllV_v ?_
 refine AllV_nil ?_
 refine O_assign rfl rfl rfl ?_
 refine WL_end [(0, _)] ⟨rfl, trivial⟩ ?_
 refine WP_ret ?_
 refine ret1 Tryd.results11 rfl ?_
 exact ⟨_, rfl, (e12.trans hy47), rfl⟩

end Go.Proofs.YthbfhljpfkicpaaDoor
