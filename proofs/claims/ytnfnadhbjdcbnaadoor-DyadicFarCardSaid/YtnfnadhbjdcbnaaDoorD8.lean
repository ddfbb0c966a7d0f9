/-
  Walks.
-/
import Derived.Test.YtnfnadhbjdcbnaaDoorD7
set_option linter.unusedVariables false
set_option linter.unusedSimpArgs false
set_option maxRecDepth 100000
namespace Go.Proofs.YtnfnadhbjdcbnaaDoor
open Go Go.RowKit
theorem f12 : dcode 12 (-1) = 0 ∧ dman 12 (-1) = 3 ∧ dexp 12 (-1) = 1 := by
  have h1 := dcode_shl (x := 3) (e := 1) (k := 2) (by decide) (by decide) (by decide)
  have h2 := dval_made (show dval 3 1 = true by decide)
  exact ⟨h1.1.trans h2.1, h1.2.1.trans h2.2.1, h1.2.2.trans h2.2.2⟩
theorem fm6 : dman (-6) 0 = -3 ∧ dexp (-6) 0 = 1 := by
  have h1 := dcode_shl (x := -3) (e := 1) (k := 1) (by decide) (by decide) (by decide)
  have h2 := dval_made (show dval (-3) 1 = true by decide)
  exact ⟨h1.2.1.trans h2.2.1, h1.2.2.trans h2.2.2⟩
theorem f4 : dman 4 0 = 1 ∧ dexp 4 0 = 2 := by
  have h1 := dcode_shl (x := 1) (e := 2) (k := 2) (by decide) (by decide) (by decide)
  have h2 := dval_made (show dval 1 2 = true by decide)
  exact ⟨h1.2.1.trans h2.2.1, h1.2.2.trans h2.2.2⟩
theorem f3 : dman 3 0 = 3 ∧ dexp 3 0 = 0 := (dval_made (show dval 3 0 = true by decide)).2
theorem p60 : dyc [54, 112, 48] = 6 ∧ dym [54, 112, 48] = 0 ∧ dye [54, 112, 48] = 0 := dyc_bad (by decide) (by
  rintro ⟨_, _, _, _, h⟩
  revert h; decide)
theorem p01 : dyc [48, 112, 49] = 6 ∧ dym [48, 112, 49] = 0 ∧ dye [48, 112, 49] = 0 := dyc_bad (by decide) (by
  rintro ⟨_, _, _, _, h⟩
  revert h; decide)
theorem fmt3 : dyfmt (-3) 1 = [45, 51, 112, 49] := by
  have h3 : dstr 3 = [51] := dstr_of (l := [51]) (by decide)
  have h1 : dstr 1 = [49] := dstr_of (l := [49]) (by decide)
  unfold dyfmt fint
  rw [if_pos (by decide), if_neg (by decide), show (-3 : Int).natAbs = 3 from rfl, show (1 : Int).natAbs = 1 from rfl, h3, h1]
  rfl

set_option maxHeartbeats 1000000 in
theorem awake8_c {w : World} (hT : Tab w) :
    Calls Tryd.prog 9 #[] w (Ret w fun r _ => r = .bool true) := by
 have hl0 : (dig (12 : Int).natAbs).length ≤ 1 := dig_len_of_lt (by decide)
 have hl1 : (dig (-6 : Int).natAbs).length ≤ 1 := dig_len_of_lt (by decide)
 have hl2 : (dig (-3 : Int).natAbs).length ≤ 1 := dig_len_of_lt (by decide)
 have hl3 : (dig (1 : Int).natAbs).length ≤ 1 := dig_len_of_lt (by decide)
 have hl4 : (dig (3 : Int).natAbs).length ≤ 1 := dig_len_of_lt (by decide)
 have hl5 : (dig (4 : Int).natAbs).length ≤ 1 := dig_len_of_lt (by decide)
 refine enter (args := []) Tryd.func9 rfl Tryd.ntmps9 rfl ?_
 refine WP_seq ?_
 refine WP_region ?_
 refine O_assign rfl rfl rfl ?_
 refine WL_end [] trivial ?_
 refine WP_seq ?_
 refine WP_region ?_
 refine O_call enters43 rfl rfl rfl (iof_c (by (try simp only [lens]); omega) (by (try simp only [lens]); omega)) (fun v1 w1 e1 h1 => ?_)
 have z1 := e1.size
 try simp only [val_dig] at h1
 obtain ⟨q1, rfl, hq1⟩ := h1
 refine O_call enters22 rfl rfl rfl (dmake_c rfl hq1.nl (by (try simp only [lens]); omega) (hT.ext e1)) (fun v2 w2 e2 h2 => ?_)
 have z2 := e2.size
 try simp only [val_dig] at h2
 obtain ⟨q2, rfl, hq2⟩ := h2
 simp only [f12, fm6, f4, f3] at hq2 ⊢
 refine O_move rfl rfl rfl ?_
 refine O_extract rfl rfl rfl rfl ?_
 refine O_extract rfl rfl rfl rfl ?_
 refine O_alloc S26 rfl rfl (fun g3 w3 b3 e3 gl3 gh3 => ?_)
 have z3 := e3.size
 refine O_storeA (cs' := [_, _, _]) S26 rfl rfl rfl b3 rfl rfl (one_cons rfl (one_cons ((hq2.ext e3).nl).one (one_cons rfl one_nil))) rfl (fun w4 b4 q4 => ?_)
 have z4 := Nat.le_of_eq q4.size.symm
 have e4 : Ext w w4 := q4.ext ((e1.trans e2).trans e3) (by omega)
 refine O_assign rfl rfl rfl ?_
 refine WL_end [(1, _), (2, _)] ⟨rfl, rfl, trivial⟩ ?_
 refine WP_seq ?_
 refine WP_region ?_
 refine O_call enters28 rfl rfl rfl (dyparse_c (l := [54, 112, 48])) (fun v5 w5 e5 h5 => ?_)
 have z5 := e5.size
 try simp only [val_dig] at h5
 obtain ⟨q5, rfl, hq5⟩ := h5
 simp only [p60] at hq5 ⊢
 refine O_move rfl rfl rfl ?_
 refine O_extract rfl rfl rfl rfl ?_
 refine O_extract rfl rfl rfl rfl ?_
 refine O_alloc S26 rfl rfl (fun g6 w6 b6 e6 gl6 gh6 => ?_)
 have z6 := e6.size
 refine O_storeA (cs' := [_, _, _]) S26 rfl rfl rfl b6 rfl rfl (one_cons rfl (one_cons ((hq5.ext e6).nl).one (one_cons rfl one_nil))) rfl (fun w7 b7 q7 => ?_)
 have z7 := Nat.le_of_eq q7.size.symm
 have e7 : Ext w w7 := q7.ext ((e4.trans e5).trans e6) (by omega)
 refine O_assign rfl rfl rfl ?_
 refine WL_end [(1, _), (2, _), (4, _)] ⟨rfl, rfl, rfl, trivial⟩ ?_
 refine WP_seq ?_
 refine WP_region ?_
 refine O_call enters28 rfl rfl rfl (dyparse_c (l := [48, 112, 49])) (fun v8 w8 e8 h8 => ?_)
 have z8 := e8.size
 try simp only [val_dig] at h8
 obtain ⟨q8, rfl, hq8⟩ := h8
 simp only [p01] at hq8 ⊢
 refine O_move rfl rfl rfl ?_
 refine O_extract rfl rfl rfl rfl ?_
 refine O_extract rfl rfl rfl rfl ?_
 refine O_alloc S26 rfl rfl (fun g9 w9 b9 e9 gl9 gh9 => ?_)
 have z9 := e9.size
 refine O_storeA (cs' := [_, _, _]) S26 rfl rfl rfl b9 rfl rfl (one_cons rfl (one_cons ((hq8.ext e9).nl).one (one_cons rfl one_nil))) rfl (fun w10 b10 q10 => ?_)
 have z10 := Nat.le_of_eq q10.size.symm
 have e10 : Ext w w10 := q10.ext ((e7.trans e8).trans e9) (by omega)
 refine O_assign rfl rfl rfl ?_
 refine WL_end [(1, _), (2, _), (4, _), (6, _)] ⟨rfl, rfl, rfl, rfl, trivial⟩ ?_
 refine WP_seq ?_
 refine WP_sub [(1, _), (2, _), (4, _), (6, _)] ⟨rfl, rfl, rfl, rfl, trivial⟩ ?_
 refine WP_anyR 36 [1, 2, 4, 6] mixed rfl (by kernel_rfl) ?_
 apply AnyR_val [2] rfl (by kernel_rfl)
 · --
  intro y11 hy11
  have zy11 := hy11.size
  refine AllV_nil ?_
  refine O_move rfl rfl rfl ?_
  exact WL_nil ⟨(Ext.refl _), rfl⟩
 apply AnyR_val [20] rfl (by kernel_rfl)
 · --
  intro y12 hy12
  have zy12 := hy12.size
  refine AllV_v ?_
  refine AllV_nil ?_
  refine O_eql (t := true) rfl rfl rfl rfl (decide_eq_true (by decide)) ?_
  exact WL_nil ⟨(Ext.refl _), rfl⟩
 apply AnyR_val [21] rfl (by kernel_rfl)
 · --
  intro y13 hy13
  have zy13 := hy13.size
  refine AllV_v ?_
  refine AllV_nil ?_
  refine O_move rfl rfl rfl ?_
  exact WL_nil ⟨(Ext.refl _), rfl⟩
 apply AnyR_val [22, 1] rfl (by kernel_rfl)
 · --
  intro y14 hy14
  have zy14 := hy14.size
  refine AllV_v ?_
  refine AllV_nil ?_
  refine O_field F26_1 rfl rfl rfl ?_
  exact WL_nil ⟨(Ext.refl _), rfl⟩
 apply AnyR_val [22, 23] rfl (by kernel_rfl)
 · --
  intro y15 hy15
  have zy15 := hy15.size
  refine AllV_v ?_
  refine AllV_v ?_
  refine AllV_nil ?_
  refine O_loadC Tryd.underlying3 rfl rfl rfl rfl (((((((b4.ext e5).ext e6).chg q7 (by first | assumption | omega)).ext e8).ext e9).chg q10 (by first | assumption | omega)).ext hy15) rfl ?_
  exact WL_nil ⟨(Ext.refl _), rfl⟩
 apply AnyR_val [22, 24] rfl (by kernel_rfl)
 · --
  intro y16 hy16
  have zy16 := hy16.size
  refine AllV_v ?_
  refine AllV_v ?_
  refine AllV_nil ?_
  refine O_eql (t := true) rfl rfl rfl rfl (decide_eq_true (by decide)) ?_
  exact WL_nil ⟨(Ext.refl _), rfl⟩
 apply AnyR_val [22, 25] rfl (by kernel_rfl)
 · --
  intro y17 hy17
  have zy17 := hy17.size
  refine AllV_v ?_
  refine AllV_v ?_
  refine AllV_nil ?_
  refine O_pickT rfl rfl rfl rfl ?_
  exact WL_nil ⟨(Ext.refl _), rfl⟩
 apply AnyR_val [26] rfl (by kernel_rfl)
 · --
  intro y18 hy18
  have zy18 := hy18.size
  refine AllV_v ?_
  refine AllV_nil ?_
  refine O_move rfl rfl rfl ?_
  exact WL_nil ⟨(Ext.refl _), rfl⟩
 apply AnyR_val [27, 1] rfl (by kernel_rfl)
 · --
  intro y19 hy19
  have zy19 := hy19.size
  refine AllV_v ?_
  refine AllV_nil ?_
  refine O_field F26_0 rfl rfl rfl ?_
  exact WL_nil ⟨(Ext.refl _), rfl⟩
 apply AnyR_val [27, 28] rfl (by kernel_rfl)
 · --
  intro y20 hy20
  have zy20 := hy20.size
  refine AllV_v ?_
  refine AllV_v ?_
  refine AllV_nil ?_
  refine O_loadA (vs := [_, _]) S24 rfl rfl rfl (((((((b4.ext e5).ext e6).chg q7 (by first | assumption | omega)).ext e8).ext e9).chg q10 (by first | assumption | omega)).ext hy20) rfl rfl ?_
  exact WL_nil ⟨(Ext.refl _), rfl⟩
 apply AnyR_rel (RelP (pAgg [pEq _, pNo w10.heap.size 89 _])) [27] rfl (RelP.mono (pAgg_mono (PsM.cons pEq_mono (PsM.cons pNo_mono PsM.nil)))) (by kernel_rfl)
 · --
  intro y21 hy21
  have zy21 := hy21.size
  refine AllV_v ?_
  refine AllV_nil ?_
  refine O_call enters45 rfl rfl rfl (riof_c (by (try simp only [lens]); omega) (by (try simp only [lens]); omega)) (fun v22 w22 e22 h22 => ?_)
  have z22 := e22.size
  try simp only [val_dig] at h22
  obtain ⟨q22, rfl, hq22⟩ := h22
  exact WL_nil ⟨e22, _, rfl, ⟨_, rfl, (AllP.cons rfl (AllP.cons (hq22.mono (by omega)) AllP.nil))⟩⟩
 apply AnyR_val [27, 29, 30] rfl (by kernel_rfl)
 · --
  intro y23 hy23
  have zy23 := hy23.size
  refine AllV_v ?_
  refine AllV_v ?_
  refine AllV_r fun a24 b24 v24 la24 lb24 lc24 h24 ap24 => ?_
  clear ap24
  obtain ⟨_, rfl, v24_0, _, rfl, rfl, v24_1, _, rfl, h24_1, rfl⟩ := h24
  refine AllV_nil ?_
  refine O_call enters44 rfl rfl rfl (isame_c rfl (((((((((hq2.ext e3).chgBk b3 (by decide) q4).ext e5).ext e6).chgBk b6 (by decide) q7).ext e8).ext e9).chgBk b9 (by decide) q10).ext hy23).nl h24_1.nl (by (try simp only [lens]); omega) (by (try simp only [lens]); omega) rfl) (fun v25 w25 e25 h25 => ?_)
  have z25 := e25.size
  obtain rfl := h25
  exact WL_nil ⟨e25, rfl⟩
 apply AnyR_val [27, 31] rfl (by kernel_rfl)
 · --
  intro y26 hy26
  have zy26 := hy26.size
  refine AllV_v ?_
  refine AllV_v ?_
  refine AllV_nil ?_
  refine O_pickT rfl rfl rfl rfl ?_
  exact WL_nil ⟨(Ext.refl _), rfl⟩
 apply AnyR_val [32] rfl (by kernel_rfl)
 · --
  intro y27 hy27
  have zy27 := hy27.size
  refine AllV_v ?_
  refine AllV_nil ?_
  refine O_move rfl rfl rfl ?_
  exact WL_nil ⟨(Ext.refl _), rfl⟩
 apply AnyR_rel (RelP (pAgg [pEq _, pNo w10.heap.size 89 _, pEq _])) [33] rfl (RelP.mono (pAgg_mono (PsM.cons pEq_mono (PsM.cons pNo_mono (PsM.cons pEq_mono PsM.nil))))) (by kernel_rfl)
 · --
  intro y28 hy28
  have zy28 := hy28.size
  refine AllV_v ?_
  refine AllV_nil ?_
  refine O_call enters25 rfl rfl rfl (dof_c (by (try simp only [lens]); omega) (by (try simp only [lens]); omega) (hT.ext (e10.trans hy28))) (fun v29 w29 e29 h29 => ?_)
  have z29 := e29.size
  try simp only [val_dig] at h29
  obtain ⟨q29, rfl, hq29⟩ := h29
  simp only [f12, fm6, f4, f3] at hq29 ⊢
  exact WL_nil ⟨e29, _, rfl, ⟨_, rfl, (AllP.cons rfl (AllP.cons (hq29.mono (by omega)) (AllP.cons rfl AllP.nil)))⟩⟩
 apply AnyR_val [33, 34] rfl (by kernel_rfl)
 · --
  intro y30 hy30
  have zy30 := hy30.size
  refine AllV_v ?_
  refine AllV_r fun a31 b31 v31 la31 lb31 lc31 h31 ap31 => ?_
  clear ap31
  obtain ⟨_, rfl, v31_0, _, rfl, rfl, v31_1, _, rfl, h31_1, v31_2, _, rfl, rfl, rfl⟩ := h31
  refine AllV_nil ?_
  refine O_call enters29 rfl rfl rfl (dyfmt_c rfl h31_1.nl (by (try simp only [lens]); omega) (by (try simp only [lens]); omega) (by (try simp only [lens]); omega)) (fun v32 w32 e32 h32 => ?_)
  have z32 := e32.size
  obtain rfl := h32
  exact WL_nil ⟨e32, rfl⟩
 apply AnyR_val [33, 35] rfl (by kernel_rfl)
 · --
  intro y33 hy33
  have zy33 := hy33.size
  refine AllV_v ?_
  refine AllV_v ?_
  refine AllV_nil ?_
  refine S_eql (a := dyfmt (-3) 1) (b := [45, 51, 112, 49]) rfl rfl rfl rfl (decide_eq_true fmt3) ?_
  exact WL_nil ⟨(Ext.refl _), rfl⟩
 apply AnyR_val [33, 36] rfl (by kernel_rfl)
 · --
  intro y34 hy34
  have zy34 := hy34.size
  refine AllV_v ?_
  refine AllV_v ?_
  refine AllV_nil ?_
  refine O_pickT rfl rfl rfl rfl ?_
  exact WL_nil ⟨(Ext.refl _), rfl⟩
 apply AnyR_val [37] rfl (by kernel_rfl)
 · --
  intro y35 hy35
  have zy35 := hy35.size
  refine AllV_v ?_
  refine AllV_nil ?_
  refine O_move rfl rfl rfl ?_
  exact WL_nil ⟨(Ext.refl _), rfl⟩
 apply AnyR_val [38, 4] rfl (by kernel_rfl)
 · --
  intro y36 hy36
  have zy36 := hy36.size
  refine AllV_v ?_
  refine AllV_nil ?_
  refine O_move rfl rfl rfl ?_
  exact WL_nil ⟨(Ext.refl _), rfl⟩
 apply AnyR_val [38, 39] rfl (by kernel_rfl)
 · --
  intro y37 hy37
  have zy37 := hy37.size
  refine AllV_v ?_
  refine AllV_v ?_
  refine AllV_nil ?_
  refine O_eql (t := true) rfl rfl rfl rfl (decide_eq_true (by decide)) ?_
  exact WL_nil ⟨(Ext.refl _), rfl⟩
 apply AnyR_val [38, 40] rfl (by kernel_rfl)
 · --
  intro y38 hy38
  have zy38 := hy38.size
  refine AllV_v ?_
  refine AllV_v ?_
  refine AllV_nil ?_
  refine O_pickT rfl rfl rfl rfl ?_
  exact WL_nil ⟨(Ext.refl _), rfl⟩
 apply AnyR_val [41] rfl (by kernel_rfl)
 · --
  intro y39 hy39
  have zy39 := hy39.size
  refine AllV_v ?_
  refine AllV_nil ?_
  refine O_move rfl rfl rfl ?_
  exact WL_nil ⟨(Ext.refl _), rfl⟩
 apply AnyR_val [42, 6] rfl (by kernel_rfl)
 · --
  intro y40 hy40
  have zy40 := hy40.size
  refine AllV_v ?_
  refine AllV_nil ?_
  refine O_move rfl rfl rfl ?_
  exact WL_nil ⟨(Ext.refl _), rfl⟩
 apply AnyR_val [42, 43] rfl (by kernel_rfl)
 · --
  intro y41 hy41
  have zy41 := hy41.size
  refine AllV_v ?_
  refine AllV_v ?_
  refine AllV_nil ?_
  refine O_eql (t := true) rfl rfl rfl rfl (decide_eq_true (by decide)) ?_
  exact WL_nil ⟨(Ext.refl _), rfl⟩
 apply AnyR_val [42, 44] rfl (by kernel_rfl)
 · --
  intro y42 hy42
  have zy42 := hy42.size
  refine AllV_v ?_
  refine AllV_v ?_
  refine AllV_nil ?_
  refine O_pickT rfl rfl rfl rfl ?_
  exact WL_nil ⟨(Ext.refl _), rfl⟩
 apply AnyR_val [45] rfl (by kernel_rfl)
 · --
  intro y43 hy43
  have zy43 := hy43.size
  refine AllV_v ?_
  refine AllV_nil ?_
  refine O_move rfl rfl rfl ?_
  exact WL_nil ⟨(Ext.refl _), rfl⟩
 apply AnyR_rel (RelP (pAgg [pEq _, pNo w10.heap.size 89 _, pEq _])) [46] rfl (RelP.mono (pAgg_mono (PsM.cons pEq_mono (PsM.cons pNo_mono (PsM.cons pEq_mono PsM.nil))))) (by kernel_rfl)
 · --
  intro y44 hy44
  have zy44 := hy44.size
  refine AllV_v ?_
  refine AllV_nil ?_
  refine O_call enters25 rfl rfl rfl (dof_c (by (try simp only [lens]); omega) (by (try simp only [lens]); omega) (hT.ext (e10.trans hy44))) (fun v45 w45 e45 h45 => ?_)
  have z45 := e45.size
  try simp only [val_dig] at h45
  obtain ⟨q45, rfl, hq45⟩ := h45
  simp only [f12, fm6, f4, f3] at hq45 ⊢
  exact WL_nil ⟨e45, _, rfl, ⟨_, rfl, (AllP.cons rfl (AllP.cons (hq45.mono (by omega)) (AllP.cons rfl AllP.nil)))⟩⟩
 apply AnyR_val [46, 47] rfl (by kernel_rfl)
 · --
  intro y46 hy46
  have zy46 := hy46.size
  refine AllV_v ?_
  refine AllV_r fun a47 b47 v47 la47 lb47 lc47 h47 ap47 => ?_
  clear ap47
  obtain ⟨_, rfl, v47_0, _, rfl, rfl, v47_1, _, rfl, h47_1, v47_2, _, rfl, rfl, rfl⟩ := h47
  refine AllV_nil ?_
  refine O_call enters41 rfl rfl rfl (dtop_c rfl h47_1.nl (by (try simp only [lens]); omega) (by (try simp only [lens]); omega) (by (try simp only [lens]); omega)) (fun v48 w48 e48 h48 => ?_)
  have z48 := e48.size
  obtain rfl := h48
  exact WL_nil ⟨e48, rfl⟩
 apply AnyR_val [46, 48] rfl (by kernel_rfl)
 · --
  intro y49 hy49
  have zy49 := hy49.size
  refine AllV_v ?_
  refine AllV_v ?_
  refine AllV_nil ?_
  refine O_eql (t := true) rfl rfl rfl rfl (decide_eq_true (by decide)) ?_
  exact WL_nil ⟨(Ext.refl _), rfl⟩
 apply AnyR_val [46, 49] rfl (by kernel_rfl)
 · --
  intro y50 hy50
  have zy50 := hy50.size
  refine AllV_v ?_
  refine AllV_v ?_
  refine AllV_nil ?_
  refine O_pickT rfl rfl rfl rfl ?_
  exact WL_nil ⟨(Ext.refl _), rfl⟩
 apply AnyR_val [50] rfl (by kernel_rfl)
 · --
  intro y51 hy51
  have zy51 := hy51.size
  refine AllV_v ?_
  refine AllV_nil ?_
  refine O_move rfl rfl rfl ?_
  exact WL_nil ⟨(Ext.refl _), rfl⟩
 apply AnyR_rel (RelP (pAgg [pEq _, pNo w10.heap.size 89 _, pEq _])) [51] rfl (RelP.mono (pAgg_mono (PsM.cons pEq_mono (PsM.cons pNo_mono (PsM.cons pEq_mono PsM.nil))))) (by kernel_rfl)
 · --
  intro y52 hy52
  have zy52 := hy52.size
  refine AllV_v ?_
  refine AllV_nil ?_
  refine O_call enters25 rfl rfl rfl (dof_c (by (try simp only [lens]); omega) (by (try simp only [lens]); omega) (hT.ext (e10.trans hy52))) (fun v53 w53 e53 h53 => ?_)
  have z53 := e53.size
  try simp only [val_dig] at h53
  obtain ⟨q53, rfl, hq53⟩ := h53
  simp only [f12, fm6, f4, f3] at hq53 ⊢
  exact WL_nil ⟨e53, _, rfl, ⟨_, rfl, (AllP.cons rfl (AllP.cons (hq53.mono (by omega)) (AllP.cons rfl AllP.nil)))⟩⟩
 apply AnyR_val [51, 52] rfl (by kernel_rfl)
 · --
  intro y54 hy54
  have zy54 := hy54.size
  refine AllV_v ?_
  refine AllV_r fun a55 b55 v55 la55 lb55 lc55 h55 ap55 => ?_
  clear ap55
  obtain ⟨_, rfl, v55_0, _, rfl, rfl, v55_1, _, rfl, h55_1, v55_2, _, rfl, rfl, rfl⟩ := h55
  refine AllV_nil ?_
  refine O_call enters41 rfl rfl rfl (dtop_c rfl h55_1.nl (by (try simp only [lens]); omega) (by (try simp only [lens]); omega) (by (try simp only [lens]); omega)) (fun v56 w56 e56 h56 => ?_)
  have z56 := e56.size
  obtain rfl := h56
  exact WL_nil ⟨e56, rfl⟩
 apply AnyR_val [51, 53] rfl (by kernel_rfl)
 · --
  intro y57 hy57
  have zy57 := hy57.size
  refine AllV_v ?_
  refine AllV_v ?_
  refine AllV_nil ?_
  refine O_eql (t := true) rfl rfl rfl rfl (decide_eq_true (by decide)) ?_
  exact WL_nil ⟨(Ext.refl _), rfl⟩
 apply AnyR_val [51, 54] rfl (by kernel_rfl)
 · --
  intro y58 hy58
  have zy58 := hy58.size
  refine AllV_v ?_
  refine AllV_v ?_
  refine AllV_nil ?_
  refine O_pickT rfl rfl rfl rfl ?_
  exact WL_nil ⟨(Ext.refl _), rfl⟩
 refine AnyR_nil fun y59 hy59 => ?_
 have zy59 := hy59.size
 refine AllV_v ?_
 refine AllV_v ?_
 refine AllV_v ?_
 refine AllV_v ?_
 refine AllV_v ?_
 refine AllV_v ?_
 refine AllV_v ?_
 refine AllV_v ?_
 refine AllV_v ?_
 refine AllV_v ?_
 refine AllV_r fun a60 b60 v60 la60 lb60 lc60 h60 ap60 => ?_
 clear ap60
 obtain ⟨_, rfl, v60_0, _, rfl, rfl, v60_1, _, rfl, h60_1, rfl⟩ := h60
 refine AllV_v ?_
 refine AllV_v ?_
 refine AllV_v ?_
 refine AllV_r fun a61 b61 v61 la61 lb61 lc61 h61 ap61 => ?_
 clear ap61
 obtain ⟨_, rfl, v61_0, _, rfl, rfl, v61_1, _, rfl, h61_1, v61_2, _, rfl, rfl, rfl⟩ := h61
 refine AllV_v ?_
 refine AllV_v ?_
 refine AllV_v ?_
 refine AllV_v ?_
 refine AllV_v ?_
 refine AllV_v ?_
 refine AllV_v ?_
 refine AllV_v ?_
 refine AllV_v ?_
 refine AllV_v ?_
 refine AllV_v ?_
 refine AllV_v ?_
 refine AllV_r fun a62 b62 v62 la62 lb62 lc62 h62 ap62 => ?_
 clear ap62
 obtain ⟨_, rfl, v62_0, _, rfl, rfl, v62_1, _, rfl, h62_1, v62_2, _, rfl, rfl, rfl⟩ := h62
 refine AllV_v ?_
 refine AllV_v ?_
 refine AllV_v ?_
 refine AllV_v ?_
 refine AllV_r fun a63 b63 v63 la63 lb63 lc63 h63 ap63 => ?_
 clear ap63
 obtain ⟨_, rfl, v63_0, _, rfl, rfl, v63_1, _, rfl, h63_1, v63_2, _, rfl, rfl, rfl⟩ := h63
 refine AllV_v ?_
 refine AllV_v ?_
 refine AllV_v ?_
 refine AllV_nil ?_
 refine O_assign rfl rfl rfl ?_
 refine WL_end [(0, _)] ⟨rfl, trivial⟩ ?_
 refine WP_ret ?_
 refine ret1 Tryd.results9 rfl ?_
 exact ⟨_, rfl, (e10.trans hy59), rfl⟩

theorem two08_c {w : World} {vx vy : Value} {lx ly : List Nat} {bx by_ : Bool} {e f : Int} (hx : Nl w vx lx) (hy : Nl w vy ly) :
    Calls Tryd.prog 10 #[.agg #[.bool bx, vx, .int .i64 e], .agg #[.bool by_, vy, .int .i64 f]] w (Ret w fun r w' => ∃ x e y f q s b, r = .tuple #[.agg #[.bool (decide ((x) < 0)), q, .int .i64 (e)], .agg #[.bool (decide ((y) < 0)), s, .int .i64 (f)], .bool b] ∧ No w.heap.size 89 w' q (dig x.natAbs) ∧ No w.heap.size 89 w' s (dig y.natAbs) ∧ (dval x e = true ∧ -300 ≤ e ∧ e ≤ 684 ∧ (dig x.natAbs).length ≤ 12) ∧ (dval y f = true ∧ -300 ≤ f ∧ f ≤ 684 ∧ (dig y.natAbs).length ≤ 12)) := by
 refine enter (args := [_, _]) Tryd.func10 rfl Tryd.ntmps10 rfl ?_
 refine WP_seq ?_
 refine WP_region ?_
 refine O_box _ rfl rfl rfl rfl (fun g1 w1 b1 e1 gl1 gh1 => ?_)
 have z1 := e1.size
 refine O_box _ rfl rfl rfl rfl (fun g2 w2 b2 e2 gl2 gh2 => ?_)
 have z2 := e2.size
 refine O_alloc S26 rfl rfl (fun g3 w3 b3 e3 gl3 gh3 => ?_)
 have z3 := e3.size
 refine O_alloc S26 rfl rfl (fun g4 w4 b4 e4 gl4 gh4 => ?_)
 have z4 := e4.size
 refine O_assign rfl rfl rfl ?_
 refine WL_end [(2, _), (3, _), (4, _), (5, _)] ⟨rfl, rfl, rfl, rfl, trivial⟩ ?_
 refine WP_seq ?_
 refine WP_region ?_
 refine O_loadA (vs := [_, _, _]) S26 rfl rfl rfl (((b1.ext e2).ext e3).ext e4) rfl rfl ?_
 refine O_call enters27 rfl rfl rfl (mdy_c (n := 12) (m := 300) (hx.ext (((e1.trans e2).trans e3).trans e4)) (by decide)) (fun v5 w5 e5 h5 => ?_)
 have z5 := e5.size
 try simp only [val_dig] at h5
 obtain ⟨xA, kA, qA, bA, rfl, hqA, hvA, hkA, hjA, hlA⟩ := h5
 refine O_move rfl rfl rfl ?_
 refine O_extract rfl rfl rfl rfl ?_
 refine O_extract rfl rfl rfl rfl ?_
 refine O_alloc S26 rfl rfl (fun g6 w6 b6 e6 gl6 gh6 => ?_)
 have z6 := e6.size
 refine O_storeA (cs' := [_, _, _]) S26 rfl rfl rfl b6 rfl rfl (one_cons rfl (one_cons ((hqA.ext e6).nl).one (one_cons rfl one_nil))) rfl (fun w7 b7 q7 => ?_)
 have z7 := Nat.le_of_eq q7.size.symm
 have e7 : Ext w w7 := q7.ext (((((e1.trans e2).trans e3).trans e4).trans e5).trans e6) (by omega)
 refine O_assign rfl rfl rfl ?_
 refine WL_end [(3, _), (4, _), (5, _), (7, _), (8, _)] ⟨rfl, rfl, rfl, rfl, rfl, trivial⟩ ?_
 refine WP_seq ?_
 refine WP_region ?_
 refine O_loadA (vs := [_, _, _]) S26 rfl rfl rfl (((((b2.ext e3).ext e4).ext e5).ext e6).chg q7 (by first | assumption | omega)) rfl rfl ?_
 refine O_call enters27 rfl rfl rfl (mdy_c (n := 12) (m := 300) (hy.ext e7) (by decide)) (fun v8 w8 e8 h8 => ?_)
 have z8 := e8.size
 try simp only [val_dig] at h8
 obtain ⟨xB, kB, qB, bB, rfl, hqB, hvB, hkB, hjB, hlB⟩ := h8
 refine O_move rfl rfl rfl ?_
 refine O_extract rfl rfl rfl rfl ?_
 refine O_extract rfl rfl rfl rfl ?_
 refine O_alloc S26 rfl rfl (fun g9 w9 b9 e9 gl9 gh9 => ?_)
 have z9 := e9.size
 refine O_storeA (cs' := [_, _, _]) S26 rfl rfl rfl b9 rfl rfl (one_cons rfl (one_cons ((hqB.ext e9).nl).one (one_cons rfl one_nil))) rfl (fun w10 b10 q10 => ?_)
 have z10 := Nat.le_of_eq q10.size.symm
 have e10 : Ext w w10 := q10.ext ((e7.trans e8).trans e9) (by omega)
 refine O_assign rfl rfl rfl ?_
 refine WL_end [(4, _), (5, _), (7, _), (8, _), (9, _), (10, _)] ⟨rfl, rfl, rfl, rfl, rfl, rfl, trivial⟩ ?_
 refine WP_seq ?_
 cases bA
 · --
  skip
  refine WP_sub [(4, _), (5, _), (7, _), (8, _), (9, _), (10, _)] ⟨rfl, rfl, rfl, rfl, rfl, rfl, trivial⟩ ?_
  have hS11 : ∀ g T, (g, T) ∈ (⟨[(g3, (26, 3)), (g4, (26, 3))], [], (w10).heap.size⟩ : SS) → (BkT w10 g T ∨ (w10).heap.size ≤ g) ∧ 89 ≠ T.1 := by
    intro g T hm; rw [mem_SS] at hm; simp only [List.mem_cons, Prod.mk.injEq, List.not_mem_nil, or_false, false_or, and_false] at hm
    rcases hm with ⟨rfl, rfl⟩ | ⟨rfl, rfl⟩
    · exact ⟨.inl ⟨_, (((((((b3.ext e4).ext e5).ext e6).chg q7 (by first | assumption | omega)).ext e8).ext e9).chg q10 (by first | assumption | omega)), rfl⟩, by decide⟩
    · exact ⟨.inl ⟨_, ((((((b4.ext e5).ext e6).chg q7 (by first | assumption | omega)).ext e8).ext e9).chg q10 (by first | assumption | omega)), rfl⟩, by decide⟩
  have hS11n := fun g T hm => (hS11 g T hm).2
  refine WP_anySR (⟨[(g3, (26, 3)), (g4, (26, 3))], [], (w10).heap.size⟩ : SS) 8 [4, 5, 7, 8, 9, 10] mixed rfl (by kernel_rfl) (Nat.le_refl _) ?_
  apply AnySR_val [7] rfl (by kernel_rfl)
  · --
   intro y12 hy12
   have zy12 := hy12.size
   have hyE12 : Ext w y12 := hy12.ext e10 (by intro g T hm; rw [mem_SS] at hm; simp only [List.mem_cons, Prod.mk.injEq, List.not_mem_nil, or_false, false_or, and_false] at hm; omega)
   refine AllS_nil ?_
   refine O_loadA (vs := [_, _, _]) S26 rfl rfl rfl ((((b7.ext e8).ext e9).chg q10 (by first | assumption | omega)).extS hy12 (by intro T hm; rw [mem_SS] at hm; simp only [List.mem_cons, Prod.mk.injEq, List.not_mem_nil, or_false, false_or, and_false] at hm; omega)) rfl rfl ?_
   exact WL_nil ⟨(Ext.refl _), rfl⟩
  apply AnySR_val [9] rfl (by kernel_rfl)
  · --
   intro y13 hy13
   have zy13 := hy13.size
   have hyE13 : Ext w y13 := hy13.ext e10 (by intro g T hm; rw [mem_SS] at hm; simp only [List.mem_cons, Prod.mk.injEq, List.not_mem_nil, or_false, false_or, and_false] at hm; omega)
   refine AllS_nil ?_
   refine O_loadA (vs := [_, _, _]) S26 rfl rfl rfl (b10.extS hy13 (by intro T hm; rw [mem_SS] at hm; simp only [List.mem_cons, Prod.mk.injEq, List.not_mem_nil, or_false, false_or, and_false] at hm; omega)) rfl rfl ?_
   exact WL_nil ⟨(Ext.refl _), rfl⟩
  apply AnySR_val [8] rfl (by kernel_rfl)
  · --
   intro y14 hy14
   have zy14 := hy14.size
   have hyE14 : Ext w y14 := hy14.ext e10 (by intro g T hm; rw [mem_SS] at hm; simp only [List.mem_cons, Prod.mk.injEq, List.not_mem_nil, or_false, false_or, and_false] at hm; omega)
   refine AllS_nil ?_
   refine O_move rfl rfl rfl ?_
   exact WL_nil ⟨(Ext.refl _), rfl⟩
  apply AnySR_val [23] rfl (by kernel_rfl)
  · --
   intro y15 hy15
   have zy15 := hy15.size
   have hyE15 : Ext w y15 := hy15.ext e10 (by intro g T hm; rw [mem_SS] at hm; simp only [List.mem_cons, Prod.mk.injEq, List.not_mem_nil, or_false, false_or, and_false] at hm; omega)
   refine AllS_v ?_
   refine AllS_nil ?_
   refine O_move rfl rfl rfl ?_
   exact WL_nil ⟨(Ext.refl _), rfl⟩
  apply AnySR_val [24, 10] rfl (by kernel_rfl)
  · --
   intro y16 hy16
   have zy16 := hy16.size
   have hyE16 : Ext w y16 := hy16.ext e10 (by intro g T hm; rw [mem_SS] at hm; simp only [List.mem_cons, Prod.mk.injEq, List.not_mem_nil, or_false, false_or, and_false] at hm; omega)
   refine AllS_v ?_
   refine AllS_nil ?_
   refine O_skip rfl rfl ?_
   exact WL_nil ⟨(Ext.refl _), rfl⟩
  apply AnySR_val [24, 25] rfl (by kernel_rfl)
  · --
   intro y17 hy17
   have zy17 := hy17.size
   have hyE17 : Ext w y17 := hy17.ext e10 (by intro g T hm; rw [mem_SS] at hm; simp only [List.mem_cons, Prod.mk.injEq, List.not_mem_nil, or_false, false_or, and_false] at hm; omega)
   refine AllS_v ?_
   refine AllS_v ?_
   refine AllS_nil ?_
   refine O_pickF rfl rfl rfl rfl ?_
   exact WL_nil ⟨(Ext.refl _), rfl⟩
  apply AnySR_st g3 (26, 3) (pSt g3 26 [pEq _, pEq _, pEq _]) [4, 21] rfl (.inl (by simp)) (pSt_monoS (PsS.cons pEq_monoS (PsS.cons pEq_monoS (PsS.cons pEq_monoS PsS.nil)))) (by exact (compat_cons ⟨trivial, trivial⟩ (compat_cons ⟨trivial, trivial⟩ (compat_cons ⟨trivial, trivial⟩ (compat_cons ⟨trivial, trivial⟩ (compat_cons ⟨trivial, trivial⟩ (compat_cons ⟨trivial, trivial⟩ compat_nil))))))) (by kernel_rfl)
  · --
   intro y18 hy18
   have zy18 := hy18.size
   have hyE18 : Ext w y18 := hy18.ext e10 (by intro g T hm; rw [mem_SS] at hm; simp only [List.mem_cons, Prod.mk.injEq, List.not_mem_nil, or_false, false_or, and_false] at hm; omega)
   refine AllS_v ?_
   refine AllS_nil ?_
   have hB18 := hy18.tag g3 (26, 3) (.inl (by simp)) ⟨_, (((((((b3.ext e4).ext e5).ext e6).chg q7 (by first | assumption | omega)).ext e8).ext e9).chg q10 (by first | assumption | omega)), rfl⟩
   refine O_storeW S26 rfl rfl rfl hB18 rfl (one_cons rfl (one_cons (((((((hqA.ext e6).chgBk b6 (by decide) q7).ext e8).ext e9).chgBk b9 (by decide) q10).extS hy18 hS11).nl).one (one_cons rfl one_nil))) (fun w18 b18 q18 => ?_)
   obtain ⟨cs18, hk18, hl18⟩ := hB18
   exact WL_nil ⟨⟨⟨cs18, hk18, hl18⟩, q18, ⟨_, b18, rfl⟩⟩, _, b18, (AllP.cons rfl (AllP.cons rfl (AllP.cons rfl AllP.nil)))⟩
  apply AnySR_st g4 (26, 3) (pSt g4 26 [pEq _, pEq _, pEq _]) [5, 22] rfl (.inl (by simp)) (pSt_monoS (PsS.cons pEq_monoS (PsS.cons pEq_monoS (PsS.cons pEq_monoS PsS.nil)))) (by exact (compat_cons ⟨(show g4 ≠ g3 from by omega), (show g3 ≠ g4 from by omega)⟩ (compat_cons ⟨trivial, trivial⟩ (compat_cons ⟨trivial, trivial⟩ (compat_cons ⟨trivial, trivial⟩ (compat_cons ⟨trivial, trivial⟩ (compat_cons ⟨trivial, trivial⟩ (compat_cons ⟨trivial, trivial⟩ compat_nil)))))))) (by kernel_rfl)
  · --
   intro y19 hy19
   have zy19 := hy19.size
   have hyE19 : Ext w y19 := hy19.ext e10 (by intro g T hm; rw [mem_SS] at hm; simp only [List.mem_cons, Prod.mk.injEq, List.not_mem_nil, or_false, false_or, and_false] at hm; omega)
   refine AllS_v ?_
   refine AllS_nil ?_
   have hB19 := hy19.tag g4 (26, 3) (.inl (by simp)) ⟨_, ((((((b4.ext e5).ext e6).chg q7 (by first | assumption | omega)).ext e8).ext e9).chg q10 (by first | assumption | omega)), rfl⟩
   refine O_storeW S26 rfl rfl rfl hB19 rfl (one_cons rfl (one_cons ((((hqB.ext e9).chgBk b9 (by decide) q10).extS hy19 hS11).nl).one (one_cons rfl one_nil))) (fun w19 b19 q19 => ?_)
   obtain ⟨cs19, hk19, hl19⟩ := hB19
   exact WL_nil ⟨⟨⟨cs19, hk19, hl19⟩, q19, ⟨_, b19, rfl⟩⟩, _, b19, (AllP.cons rfl (AllP.cons rfl (AllP.cons rfl AllP.nil)))⟩
  refine AnySR_nil fun y20 hy20 => ?_
  have zy20 := hy20.size
  have hyE20 : Ext w y20 := hy20.ext e10 (by intro g T hm; rw [mem_SS] at hm; simp only [List.mem_cons, Prod.mk.injEq, List.not_mem_nil, or_false, false_or, and_false] at hm; omega)
  refine AllS_v ?_
  refine AllS_v ?_
  refine AllS_v ?_
  refine AllS_v ?_
  refine AllS_v ?_
  refine AllS_v ?_
  refine AllS_q fun hq21 => ?_
  obtain ⟨_, hb21, u21_0, _, rfl, rfl, u21_1, _, rfl, rfl, u21_2, _, rfl, rfl, rfl⟩ := hq21
  refine AllS_q fun hq22 => ?_
  obtain ⟨_, hb22, u22_0, _, rfl, rfl, u22_1, _, rfl, rfl, u22_2, _, rfl, rfl, rfl⟩ := hq22
  refine AllS_nil ?_
  refine O_assign rfl rfl rfl ?_
  refine WL_end [(4, _), (5, _), (6, _)] ⟨rfl, rfl, rfl, trivial⟩ ?_
  refine WP_ret ?_
  refine retL Tryd.results10 (.cell rfl S26 hb21 rfl (.cell rfl S26 hb22 rfl (.tmp rfl .nil))) ?_
  exact ⟨_, rfl, hyE20, _, _, _, _, _, _, _, rfl, ((((((hqA.ext e6).chgBk b6 (by decide) q7).ext e8).ext e9).chgBk b9 (by decide) q10).extS hy20 hS11).mono (by omega), (((hqB.ext e9).chgBk b9 (by decide) q10).extS hy20 hS11).mono (by omega), ⟨hvA, hkA, by omega, hlA⟩, ⟨hvB, hkB, by omega, hlB⟩⟩
 · --
  skip
  refine WP_sub [(4, _), (5, _), (7, _), (8, _), (9, _), (10, _)] ⟨rfl, rfl, rfl, rfl, rfl, rfl, trivial⟩ ?_
  have hS23 : ∀ g T, (g, T) ∈ (⟨[(g3, (26, 3)), (g4, (26, 3))], [], (w10).heap.size⟩ : SS) → (BkT w10 g T ∨ (w10).heap.size ≤ g) ∧ 89 ≠ T.1 := by
    intro g T hm; rw [mem_SS] at hm; simp only [List.mem_cons, Prod.mk.injEq, List.not_mem_nil, or_false, false_or, and_false] at hm
    rcases hm with ⟨rfl, rfl⟩ | ⟨rfl, rfl⟩
    · exact ⟨.inl ⟨_, (((((((b3.ext e4).ext e5).ext e6).chg q7 (by first | assumption | omega)).ext e8).ext e9).chg q10 (by first | assumption | omega)), rfl⟩, by decide⟩
    · exact ⟨.inl ⟨_, ((((((b4.ext e5).ext e6).chg q7 (by first | assumption | omega)).ext e8).ext e9).chg q10 (by first | assumption | omega)), rfl⟩, by decide⟩
  have hS23n := fun g T hm => (hS23 g T hm).2
  refine WP_anySR (⟨[(g3, (26, 3)), (g4, (26, 3))], [], (w10).heap.size⟩ : SS) 8 [4, 5, 7, 8, 9, 10] mixed rfl (by kernel_rfl) (Nat.le_refl _) ?_
  apply AnySR_val [7] rfl (by kernel_rfl)
  · --
   intro y24 hy24
   have zy24 := hy24.size
   have hyE24 : Ext w y24 := hy24.ext e10 (by intro g T hm; rw [mem_SS] at hm; simp only [List.mem_cons, Prod.mk.injEq, List.not_mem_nil, or_false, false_or, and_false] at hm; omega)
   refine AllS_nil ?_
   refine O_loadA (vs := [_, _, _]) S26 rfl rfl rfl ((((b7.ext e8).ext e9).chg q10 (by first | assumption | omega)).extS hy24 (by intro T hm; rw [mem_SS] at hm; simp only [List.mem_cons, Prod.mk.injEq, List.not_mem_nil, or_false, false_or, and_false] at hm; omega)) rfl rfl ?_
   exact WL_nil ⟨(Ext.refl _), rfl⟩
  apply AnySR_val [9] rfl (by kernel_rfl)
  · --
   intro y25 hy25
   have zy25 := hy25.size
   have hyE25 : Ext w y25 := hy25.ext e10 (by intro g T hm; rw [mem_SS] at hm; simp only [List.mem_cons, Prod.mk.injEq, List.not_mem_nil, or_false, false_or, and_false] at hm; omega)
   refine AllS_nil ?_
   refine O_loadA (vs := [_, _, _]) S26 rfl rfl rfl (b10.extS hy25 (by intro T hm; rw [mem_SS] at hm; simp only [List.mem_cons, Prod.mk.injEq, List.not_mem_nil, or_false, false_or, and_false] at hm; omega)) rfl rfl ?_
   exact WL_nil ⟨(Ext.refl _), rfl⟩
  apply AnySR_val [8] rfl (by kernel_rfl)
  · --
   intro y26 hy26
   have zy26 := hy26.size
   have hyE26 : Ext w y26 := hy26.ext e10 (by intro g T hm; rw [mem_SS] at hm; simp only [List.mem_cons, Prod.mk.injEq, List.not_mem_nil, or_false, false_or, and_false] at hm; omega)
   refine AllS_nil ?_
   refine O_move rfl rfl rfl ?_
   exact WL_nil ⟨(Ext.refl _), rfl⟩
  apply AnySR_val [23] rfl (by kernel_rfl)
  · --
   intro y27 hy27
   have zy27 := hy27.size
   have hyE27 : Ext w y27 := hy27.ext e10 (by intro g T hm; rw [mem_SS] at hm; simp only [List.mem_cons, Prod.mk.injEq, List.not_mem_nil, or_false, false_or, and_false] at hm; omega)
   refine AllS_v ?_
   refine AllS_nil ?_
   refine O_move rfl rfl rfl ?_
   exact WL_nil ⟨(Ext.refl _), rfl⟩
  apply AnySR_val [24, 10] rfl (by kernel_rfl)
  · --
   intro y28 hy28
   have zy28 := hy28.size
   have hyE28 : Ext w y28 := hy28.ext e10 (by intro g T hm; rw [mem_SS] at hm; simp only [List.mem_cons, Prod.mk.injEq, List.not_mem_nil, or_false, false_or, and_false] at hm; omega)
   refine AllS_v ?_
   refine AllS_nil ?_
   refine O_move rfl rfl rfl ?_
   exact WL_nil ⟨(Ext.refl _), rfl⟩
  apply AnySR_val [24, 25] rfl (by kernel_rfl)
  · --
   intro y29 hy29
   have zy29 := hy29.size
   have hyE29 : Ext w y29 := hy29.ext e10 (by intro g T hm; rw [mem_SS] at hm; simp only [List.mem_cons, Prod.mk.injEq, List.not_mem_nil, or_false, false_or, and_false] at hm; omega)
   refine AllS_v ?_
   refine AllS_v ?_
   refine AllS_nil ?_
   refine O_pickT rfl rfl rfl rfl ?_
   exact WL_nil ⟨(Ext.refl _), rfl⟩
  apply AnySR_st g3 (26, 3) (pSt g3 26 [pEq _, pEq _, pEq _]) [4, 21] rfl (.inl (by simp)) (pSt_monoS (PsS.cons pEq_monoS (PsS.cons pEq_monoS (PsS.cons pEq_monoS PsS.nil)))) (by exact (compat_cons ⟨trivial, trivial⟩ (compat_cons ⟨trivial, trivial⟩ (compat_cons ⟨trivial, trivial⟩ (compat_cons ⟨trivial, trivial⟩ (compat_cons ⟨trivial, trivial⟩ (compat_cons ⟨trivial, trivial⟩ compat_nil))))))) (by kernel_rfl)
  · --
   intro y30 hy30
   have zy30 := hy30.size
   have hyE30 : Ext w y30 := hy30.ext e10 (by intro g T hm; rw [mem_SS] at hm; simp only [List.mem_cons, Prod.mk.injEq, List.not_mem_nil, or_false, false_or, and_false] at hm; omega)
   refine AllS_v ?_
   refine AllS_nil ?_
   have hB30 := hy30.tag g3 (26, 3) (.inl (by simp)) ⟨_, (((((((b3.ext e4).ext e5).ext e6).chg q7 (by first | assumption | omega)).ext e8).ext e9).chg q10 (by first | assumption | omega)), rfl⟩
   refine O_storeW S26 rfl rfl rfl hB30 rfl (one_cons rfl (one_cons (((((((hqA.ext e6).chgBk b6 (by decide) q7).ext e8).ext e9).chgBk b9 (by decide) q10).extS hy30 hS23).nl).one (one_cons rfl one_nil))) (fun w30 b30 q30 => ?_)
   obtain ⟨cs30, hk30, hl30⟩ := hB30
   exact WL_nil ⟨⟨⟨cs30, hk30, hl30⟩, q30, ⟨_, b30, rfl⟩⟩, _, b30, (AllP.cons rfl (AllP.cons rfl (AllP.cons rfl AllP.nil)))⟩
  apply AnySR_st g4 (26, 3) (pSt g4 26 [pEq _, pEq _, pEq _]) [5, 22] rfl (.inl (by simp)) (pSt_monoS (PsS.cons pEq_monoS (PsS.cons pEq_monoS (PsS.cons pEq_monoS PsS.nil)))) (by exact (compat_cons ⟨(show g4 ≠ g3 from by omega), (show g3 ≠ g4 from by omega)⟩ (compat_cons ⟨trivial, trivial⟩ (compat_cons ⟨trivial, trivial⟩ (compat_cons ⟨trivial, trivial⟩ (compat_cons ⟨trivial, trivial⟩ (compat_cons ⟨trivial, trivial⟩ (compat_cons ⟨trivial, trivial⟩ compat_nil)))))))) (by kernel_rfl)
  · --
   intro y31 hy31
   have zy31 := hy31.size
   have hyE31 : Ext w y31 := hy31.ext e10 (by intro g T hm; rw [mem_SS] at hm; simp only [List.mem_cons, Prod.mk.injEq, List.not_mem_nil, or_false, false_or, and_false] at hm; omega)
   refine AllS_v ?_
   refine AllS_nil ?_
   have hB31 := hy31.tag g4 (26, 3) (.inl (by simp)) ⟨_, ((((((b4.ext e5).ext e6).chg q7 (by first | assumption | omega)).ext e8).ext e9).chg q10 (by first | assumption | omega)), rfl⟩
   refine O_storeW S26 rfl rfl rfl hB31 rfl (one_cons rfl (one_cons ((((hqB.ext e9).chgBk b9 (by decide) q10).extS hy31 hS23).nl).one (one_cons rfl one_nil))) (fun w31 b31 q31 => ?_)
   obtain ⟨cs31, hk31, hl31⟩ := hB31
   exact WL_nil ⟨⟨⟨cs31, hk31, hl31⟩, q31, ⟨_, b31, rfl⟩⟩, _, b31, (AllP.cons rfl (AllP.cons rfl (AllP.cons rfl AllP.nil)))⟩
  refine AnySR_nil fun y32 hy32 => ?_
  have zy32 := hy32.size
  have hyE32 : Ext w y32 := hy32.ext e10 (by intro g T hm; rw [mem_SS] at hm; simp only [List.mem_cons, Prod.mk.injEq, List.not_mem_nil, or_false, false_or, and_false] at hm; omega)
  refine AllS_v ?_
  refine AllS_v ?_
  refine AllS_v ?_
  refine AllS_v ?_
  refine AllS_v ?_
  refine AllS_v ?_
  refine AllS_q fun hq33 => ?_
  obtain ⟨_, hb33, u33_0, _, rfl, rfl, u33_1, _, rfl, rfl, u33_2, _, rfl, rfl, rfl⟩ := hq33
  refine AllS_q fun hq34 => ?_
  obtain ⟨_, hb34, u34_0, _, rfl, rfl, u34_1, _, rfl, rfl, u34_2, _, rfl, rfl, rfl⟩ := hq34
  refine AllS_nil ?_
  refine O_assign rfl rfl rfl ?_
  refine WL_end [(4, _), (5, _), (6, _)] ⟨rfl, rfl, rfl, trivial⟩ ?_
  refine WP_ret ?_
  refine retL Tryd.results10 (.cell rfl S26 hb33 rfl (.cell rfl S26 hb34 rfl (.tmp rfl .nil))) ?_
  exact ⟨_, rfl, hyE32, _, _, _, _, _, _, _, rfl, ((((((hqA.ext e6).chgBk b6 (by decide) q7).ext e8).ext e9).chgBk b9 (by decide) q10).extS hy32 hS23).mono (by omega), (((hqB.ext e9).chgBk b9 (by decide) q10).extS hy32 hS23).mono (by omega), ⟨hvA, hkA, by omega, hlA⟩, ⟨hvB, hkB, by omega, hlB⟩⟩

end Go.Proofs.YtnfnadhbjdcbnaaDoor
