/-
  Walks.
-/
import Derived.Test.YthbfhljpfkicpaaV4
set_option linter.unusedVariables false
set_option linter.unusedSimpArgs false
set_option maxRecDepth 100000
namespace Go.Proofs.Ythbfhljpfkicpaa
open Go Go.RowKit
theorem within_self {x e y f : Int} : withinv x e y f x e y f = true := by
  unfold withinv
  have h : ∀ a b : Int, dcmp a b a b = 0 := fun a b => icmp_self _
  rw [h, h]; rfl
theorem has_within {x e y f z g u h p : Int} {q : Nat} (hx : dval x e = true) (hy : dval y f = true) (hz : dval z g = true) (hu : dval u h = true) (hw : withinv x e y f z g u h = true) (hh : hasv x e y f p q = true) : hasv z g u h p q = true := by
  rw [hasv_eq hz hu]
  rw [hasv_eq hx hy] at hh
  unfold withinv at hw
  simp only [Bool.and_eq_true, decide_eq_true_eq] at hw hh ⊢
  rw [sw_dcmp hz hx, sw_dcmp hy hu, icmp_pos, icmp_pos] at hw
  have a1 := Int.mul_le_mul_of_nonneg_right hw.1 (show (0 : Int) ≤ (q : Nat) by omega)
  have a2 := Int.mul_le_mul_of_nonneg_right hw.2 (show (0 : Int) ≤ (q : Nat) by omega)
  exact ⟨Int.le_trans a1 hh.1, Int.le_trans hh.2 a2⟩

set_option maxHeartbeats 2000000 in
theorem law_IntervalHas {w : World} {vx vy vz vu : Value} {lx ly lz lu : List Nat} {bx by_ bz bu : Bool} {e f g h : Int} (hx : Nl w vx lx) (hy : Nl w vy ly) (hz : Nl w vz lz) (hu : Nl w vu lu) {vp vq : Value} {lp lq : List Nat} {bp : Bool} (hp : Nl w vp lp) (hq : Nl w vq lq) :
    Calls Try.prog 5 #[.agg #[.bool bx, vx, .int .i64 e, .bool by_, vy, .int .i64 f], .agg #[.bool bz, vz, .int .i64 g, .bool bu, vu, .int .i64 h], .agg #[.bool bp, vp, vq]] w (Ret w fun r _ => r = .bool true) := by
  refine enter (args := [_, _, _]) Try.func5 rfl Try.ntmps5 rfl ?_
  refine WP_seq ?_
  refine WP_region ?_
  refine O_box _ rfl rfl rfl rfl (fun g1 w1 b1 e1 gl1 gh1 => ?_)
  have z1 := e1.size
  refine O_box _ rfl rfl rfl rfl (fun g2 w2 b2 e2 gl2 gh2 => ?_)
  have z2 := e2.size
  refine O_box _ rfl rfl rfl rfl (fun g3 w3 b3 e3 gl3 gh3 => ?_)
  have z3 := e3.size
  refine O_assign rfl rfl rfl ?_
  refine WL_end [(3, _), (4, _), (5, _)] ⟨rfl, rfl, rfl, trivial⟩ ?_
  refine WP_seq ?_
  refine WP_seq ?_
  refine WP_region ?_
  refine O_call enters7 rfl rfl rfl (awake10_c) (fun v4 w4 e4 h4 => ?_)
  have z4 := e4.size
  obtain rfl := h4
  refine O_not rfl rfl rfl rfl ?_
  refine WL_end [(3, _), (4, _), (5, _), (13, _)] ⟨rfl, rfl, rfl, rfl, trivial⟩ ?_
  refine WP_condF rfl ?_
  refine WP_skip ?_
  refine WP_seq ?_
  refine WP_region ?_
  refine O_loadA (vs := [_, _, _, _, _, _]) S28 rfl rfl rfl (((b1.ext e2).ext e3).ext e4) rfl rfl ?_
  refine O_loadA (vs := [_, _, _, _, _, _]) S28 rfl rfl rfl ((b2.ext e3).ext e4) rfl rfl ?_
  refine O_call enters8 rfl rfl rfl (two10_c (hx.ext (((e1.trans e2).trans e3).trans e4)) (hy.ext (((e1.trans e2).trans e3).trans e4)) (hz.ext (((e1.trans e2).trans e3).trans e4)) (hu.ext (((e1.trans e2).trans e3).trans e4))) (fun v5 w5 e5 h5 => ?_)
  have z5 := e5.size
  try simp only [val_dig] at h5
  obtain ⟨X, E, Y, F, Z, G, U, H, qA, sA, tA, vA, bA, rfl, hqA, hsA, htA, hvA, ⟨hX, hY, hXY, hE1, hE2, hF1, hF2, hlX, hlY⟩, ⟨hZ, hU, hZU, hG1, hG2, hH1, hH2, hlZ, hlU⟩⟩ := h5
  refine O_move rfl rfl rfl ?_
  refine O_extract rfl rfl rfl rfl ?_
  refine O_extract rfl rfl rfl rfl ?_
  refine O_extract rfl rfl rfl rfl ?_
  refine O_alloc S28 rfl rfl (fun g6 w6 b6 e6 gl6 gh6 => ?_)
  have z6 := e6.size
  refine O_alloc S28 rfl rfl (fun g7 w7 b7 e7 gl7 gh7 => ?_)
  have z7 := e7.size
  refine O_storeA (cs' := [_, _, _, _, _, _]) S28 rfl rfl rfl (b6.ext e7) rfl rfl (one_cons rfl (one_cons (((hqA.ext e6).ext e7).nl).one (one_cons rfl (one_cons rfl (one_cons (((hsA.ext e6).ext e7).nl).one (one_cons rfl one_nil)))))) rfl (fun w8 b8 q8 => ?_)
  have z8 := Nat.le_of_eq q8.size.symm
  have e8 : Ext w w8 := q8.ext ((((((e1.trans e2).trans e3).trans e4).trans e5).trans e6).trans e7) (by omega)
  refine O_storeA (cs' := [_, _, _, _, _, _]) S28 rfl rfl rfl (b7.chg q8 (by first | assumption | omega)) rfl rfl (one_cons rfl (one_cons ((((htA.ext e6).ext e7).chgBk (b6.ext e7) (by decide) q8).nl).one (one_cons rfl (one_cons rfl (one_cons ((((hvA.ext e6).ext e7).chgBk (b6.ext e7) (by decide) q8).nl).one (one_cons rfl one_nil)))))) rfl (fun w9 b9 q9 => ?_)
  have z9 := Nat.le_of_eq q9.size.symm
  have e9 : Ext w w9 := q9.ext e8 (by omega)
  refine O_assign rfl rfl rfl ?_
  refine WL_end [(5, _), (7, _), (8, _), (9, _)] ⟨rfl, rfl, rfl, rfl, trivial⟩ ?_
  refine WP_seq ?_
  refine WP_region ?_
  refine O_loadA (vs := [_, _, _]) S48 rfl rfl rfl ((((((b3.ext e4).ext e5).ext e6).ext e7).chg q8 (by first | assumption | omega)).chg q9 (by first | assumption | omega)) rfl rfl ?_
  refine O_call enters22 rfl rfl rfl (mrat_c (n := 5) (hp.ext e9) (hq.ext e9) (by decide) (by decide)) (fun v10 w10 e10 h10 => ?_)
  have z10 := e10.size
  try simp only [val_dig] at h10
  obtain ⟨P, Q, nR, dR, bR, rfl, hnR, hdR, hbR, hlP, hlQ⟩ := h10
  refine O_move rfl rfl rfl ?_
  refine O_extract rfl rfl rfl rfl ?_
  refine O_extract rfl rfl rfl rfl ?_
  refine O_alloc S48 rfl rfl (fun g11 w11 b11 e11 gl11 gh11 => ?_)
  have z11 := e11.size
  refine O_storeA (cs' := [_, _, _]) S48 rfl rfl rfl b11 rfl rfl (one_cons rfl (one_cons ((hnR.ext e11).nl).one (one_cons ((hdR.ext e11).nl).one one_nil))) rfl (fun w12 b12 q12 => ?_)
  have z12 := Nat.le_of_eq q12.size.symm
  have e12 : Ext w w12 := q12.ext ((e9.trans e10).trans e11) (by omega)
  refine O_assign rfl rfl rfl ?_
  refine WL_end [(7, _), (8, _), (9, _), (10, _), (11, _)] ⟨rfl, rfl, rfl, rfl, rfl, trivial⟩ ?_
  refine WP_seq ?_
  refine WP_seq ?_
  refine WP_region ?_
  refine O_move rfl rfl rfl ?_
  refine O_not rfl rfl rfl rfl ?_
  refine O_move rfl rfl rfl ?_
  refine WL_bool 28 rfl (fun g28 => ?_) (fun g28 => ?_)
  · --
    refine O_skip rfl rfl ?_
    refine O_skip rfl rfl ?_
    refine O_pickT rfl rfl rfl rfl ?_
    refine WL_end [(7, _), (8, _), (10, _), (31, _)] ⟨rfl, rfl, rfl, rfl, trivial⟩ ?_
    refine WP_condT rfl ?_
    refine WP_seq ?_
    refine WP_region ?_
    refine O_assign rfl rfl rfl ?_
    refine WL_end [(6, _)] ⟨rfl, trivial⟩ ?_
    refine WP_ret ?_
    refine ret1 Try.results5 rfl ?_
    first
      | exact ⟨_, rfl, e12, rfl⟩
      | exact ⟨_, rfl, e12, by rw [has_within hX hY hZ hU (by assumption) (by assumption)]⟩
      | exact ⟨_, rfl, e12, by rw [has_within hX hY hZ hU (by simpa using g67) (by simpa using g73)]⟩
      | exact ⟨_, rfl, e12, by simp_all⟩
  · --
    refine O_move rfl rfl rfl ?_
    refine O_not rfl rfl rfl rfl ?_
    refine O_pickF rfl rfl rfl rfl ?_
    refine WL_end [(7, _), (8, _), (10, _), (31, _)] ⟨rfl, rfl, rfl, rfl, trivial⟩ ?_
    refine WP_cond rfl (fun c31 => ?_) (fun c31 => ?_)
    · --
      refine WP_seq ?_
      refine WP_region ?_
      refine O_assign rfl rfl rfl ?_
      refine WL_end [(6, _)] ⟨rfl, trivial⟩ ?_
      refine WP_ret ?_
      refine ret1 Try.results5 rfl ?_
      first
        | exact ⟨_, rfl, e12, rfl⟩
        | exact ⟨_, rfl, e12, by rw [has_within hX hY hZ hU (by assumption) (by assumption)]⟩
        | exact ⟨_, rfl, e12, by rw [has_within hX hY hZ hU (by simpa using g67) (by simpa using g73)]⟩
        | exact ⟨_, rfl, e12, by simp_all⟩
    · --
      refine WP_skip ?_
      refine WP_seq ?_
      refine WP_seq ?_
      refine WP_sub [(7, _), (8, _), (10, _)] ⟨rfl, rfl, rfl, trivial⟩ ?_
      refine WP_anyR 31 [7, 8, 10] mixed rfl (by kernel_rfl) ?_
      apply AnyR_val [7] rfl (by kernel_rfl)
      · --
        intro y13 hy13
        have zy13 := hy13.size
        refine AllV_nil ?_
        refine O_loadA (vs := [_, _, _, _, _, _]) S28 rfl rfl rfl (((((b8.chg q9 (by first | assumption | omega)).ext e10).ext e11).chg q12 (by first | assumption | omega)).ext hy13) rfl rfl ?_
        exact WL_nil ⟨(Ext.refl _), rfl⟩
      apply AnyR_val [10] rfl (by kernel_rfl)
      · --
        intro y14 hy14
        have zy14 := hy14.size
        refine AllV_nil ?_
        refine O_loadA (vs := [_, _, _]) S48 rfl rfl rfl (b12.ext hy14) rfl rfl ?_
        exact WL_nil ⟨(Ext.refl _), rfl⟩
      apply AnyR_val [32, 33] rfl (by kernel_rfl)
      · --
        intro y15 hy15
        have zy15 := hy15.size
        refine AllV_v ?_
        refine AllV_v ?_
        refine AllV_nil ?_
        refine O_call enters23 rfl rfl rfl (ivhas_c rfl ((((((((hqA.ext e6).ext e7).chgBk (b6.ext e7) (by decide) q8).chgBk (b7.chg q8 (by first | assumption | omega)) (by decide) q9).ext e10).ext e11).chgBk b11 (by decide) q12).ext hy15).nl rfl ((((((((hsA.ext e6).ext e7).chgBk (b6.ext e7) (by decide) q8).chgBk (b7.chg q8 (by first | assumption | omega)) (by decide) q9).ext e10).ext e11).chgBk b11 (by decide) q12).ext hy15).nl (by first | with_reducible assumption | exact dval_dman _ _ | exact dval_zero) (by first | with_reducible assumption | exact dval_dman _ _ | exact dval_zero) rfl (((hnR.ext e11).chgBk b11 (by decide) q12).ext hy15).nl (((hdR.ext e11).chgBk b11 (by decide) q12).ext hy15).nl (by first | with_reducible assumption | omega) (by first | with_reducible assumption | omega)) (fun v16 w16 e16 h16 => ?_)
        have z16 := e16.size
        obtain rfl := h16
        exact WL_nil ⟨e16, rfl⟩
      apply AnyR_val [7] rfl (by kernel_rfl)
      · --
        intro y17 hy17
        have zy17 := hy17.size
        refine AllV_nil ?_
        refine O_loadA (vs := [_, _, _, _, _, _]) S28 rfl rfl rfl (((((b8.chg q9 (by first | assumption | omega)).ext e10).ext e11).chg q12 (by first | assumption | omega)).ext hy17) rfl rfl ?_
        exact WL_nil ⟨(Ext.refl _), rfl⟩
      apply AnyR_val [10] rfl (by kernel_rfl)
      · --
        intro y18 hy18
        have zy18 := hy18.size
        refine AllV_nil ?_
        refine O_loadA (vs := [_, _, _]) S48 rfl rfl rfl (b12.ext hy18) rfl rfl ?_
        exact WL_nil ⟨(Ext.refl _), rfl⟩
      apply AnyR_val [35, 36] rfl (by kernel_rfl)
      · --
        intro y19 hy19
        have zy19 := hy19.size
        refine AllV_v ?_
        refine AllV_v ?_
        refine AllV_nil ?_
        refine O_call enters24 rfl rfl rfl (rivhas_c rfl ((((((((hqA.ext e6).ext e7).chgBk (b6.ext e7) (by decide) q8).chgBk (b7.chg q8 (by first | assumption | omega)) (by decide) q9).ext e10).ext e11).chgBk b11 (by decide) q12).ext hy19).nl rfl ((((((((hsA.ext e6).ext e7).chgBk (b6.ext e7) (by decide) q8).chgBk (b7.chg q8 (by first | assumption | omega)) (by decide) q9).ext e10).ext e11).chgBk b11 (by decide) q12).ext hy19).nl (by first | with_reducible assumption | exact dval_dman _ _ | exact dval_zero) (by first | with_reducible assumption | exact dval_dman _ _ | exact dval_zero) rfl (((hnR.ext e11).chgBk b11 (by decide) q12).ext hy19).nl (((hdR.ext e11).chgBk b11 (by decide) q12).ext hy19).nl (by first | with_reducible assumption | omega) (by first | with_reducible assumption | omega)) (fun v20 w20 e20 h20 => ?_)
        have z20 := e20.size
        obtain rfl := h20
        exact WL_nil ⟨e20, rfl⟩
      apply AnyR_val [34, 37] rfl (by kernel_rfl)
      · --
        intro y21 hy21
        have zy21 := hy21.size
        refine AllV_v ?_
        refine AllV_v ?_
        refine AllV_nil ?_
        refine O_bneq Try.underlying4 (t := false) rfl rfl rfl rfl (by simp) ?_
        exact WL_nil ⟨(Ext.refl _), rfl⟩
      apply AnyR_val [38] rfl (by kernel_rfl)
      · --
        intro y22 hy22
        have zy22 := hy22.size
        refine AllV_v ?_
        refine AllV_nil ?_
        refine O_move rfl rfl rfl ?_
        exact WL_nil ⟨(Ext.refl _), rfl⟩
      apply AnyR_val [39, 7] rfl (by kernel_rfl)
      · --
        intro y23 hy23
        have zy23 := hy23.size
        refine AllV_v ?_
        refine AllV_nil ?_
        refine O_loadA (vs := [_, _, _, _, _, _]) S28 rfl rfl rfl (((((b8.chg q9 (by first | assumption | omega)).ext e10).ext e11).chg q12 (by first | assumption | omega)).ext hy23) rfl rfl ?_
        exact WL_nil ⟨(Ext.refl _), rfl⟩
      apply AnyR_val [39, 8] rfl (by kernel_rfl)
      · --
        intro y24 hy24
        have zy24 := hy24.size
        refine AllV_v ?_
        refine AllV_nil ?_
        refine O_loadA (vs := [_, _, _, _, _, _]) S28 rfl rfl rfl ((((b9.ext e10).ext e11).chg q12 (by first | assumption | omega)).ext hy24) rfl rfl ?_
        exact WL_nil ⟨(Ext.refl _), rfl⟩
      apply AnyR_val [39, 40, 41] rfl (by kernel_rfl)
      · --
        intro y25 hy25
        have zy25 := hy25.size
        refine AllV_v ?_
        refine AllV_v ?_
        refine AllV_v ?_
        refine AllV_nil ?_
        refine O_call enters25 rfl rfl rfl (ivwithin_c rfl ((((((((hqA.ext e6).ext e7).chgBk (b6.ext e7) (by decide) q8).chgBk (b7.chg q8 (by first | assumption | omega)) (by decide) q9).ext e10).ext e11).chgBk b11 (by decide) q12).ext hy25).nl rfl ((((((((hsA.ext e6).ext e7).chgBk (b6.ext e7) (by decide) q8).chgBk (b7.chg q8 (by first | assumption | omega)) (by decide) q9).ext e10).ext e11).chgBk b11 (by decide) q12).ext hy25).nl (by first | with_reducible assumption | exact dval_dman _ _ | exact dval_zero) (by first | with_reducible assumption | exact dval_dman _ _ | exact dval_zero) rfl ((((((((htA.ext e6).ext e7).chgBk (b6.ext e7) (by decide) q8).chgBk (b7.chg q8 (by first | assumption | omega)) (by decide) q9).ext e10).ext e11).chgBk b11 (by decide) q12).ext hy25).nl rfl ((((((((hvA.ext e6).ext e7).chgBk (b6.ext e7) (by decide) q8).chgBk (b7.chg q8 (by first | assumption | omega)) (by decide) q9).ext e10).ext e11).chgBk b11 (by decide) q12).ext hy25).nl (by first | with_reducible assumption | exact dval_dman _ _ | exact dval_zero) (by first | with_reducible assumption | exact dval_dman _ _ | exact dval_zero)) (fun v26 w26 e26 h26 => ?_)
        have z26 := e26.size
        obtain rfl := h26
        exact WL_nil ⟨e26, rfl⟩
      apply AnyR_val [39, 7] rfl (by kernel_rfl)
      · --
        intro y27 hy27
        have zy27 := hy27.size
        refine AllV_v ?_
        refine AllV_nil ?_
        refine O_loadA (vs := [_, _, _, _, _, _]) S28 rfl rfl rfl (((((b8.chg q9 (by first | assumption | omega)).ext e10).ext e11).chg q12 (by first | assumption | omega)).ext hy27) rfl rfl ?_
        exact WL_nil ⟨(Ext.refl _), rfl⟩
      apply AnyR_val [39, 8] rfl (by kernel_rfl)
      · --
        intro y28 hy28
        have zy28 := hy28.size
        refine AllV_v ?_
        refine AllV_nil ?_
        refine O_loadA (vs := [_, _, _, _, _, _]) S28 rfl rfl rfl ((((b9.ext e10).ext e11).chg q12 (by first | assumption | omega)).ext hy28) rfl rfl ?_
        exact WL_nil ⟨(Ext.refl _), rfl⟩
      apply AnyR_val [39, 43, 44] rfl (by kernel_rfl)
      · --
        intro y29 hy29
        have zy29 := hy29.size
        refine AllV_v ?_
        refine AllV_v ?_
        refine AllV_v ?_
        refine AllV_nil ?_
        refine O_call enters26 rfl rfl rfl (rivwithin_c rfl ((((((((hqA.ext e6).ext e7).chgBk (b6.ext e7) (by decide) q8).chgBk (b7.chg q8 (by first | assumption | omega)) (by decide) q9).ext e10).ext e11).chgBk b11 (by decide) q12).ext hy29).nl rfl ((((((((hsA.ext e6).ext e7).chgBk (b6.ext e7) (by decide) q8).chgBk (b7.chg q8 (by first | assumption | omega)) (by decide) q9).ext e10).ext e11).chgBk b11 (by decide) q12).ext hy29).nl (by first | with_reducible assumption | exact dval_dman _ _ | exact dval_zero) (by first | with_reducible assumption | exact dval_dman _ _ | exact dval_zero) rfl ((((((((htA.ext e6).ext e7).chgBk (b6.ext e7) (by decide) q8).chgBk (b7.chg q8 (by first | assumption | omega)) (by decide) q9).ext e10).ext e11).chgBk b11 (by decide) q12).ext hy29).nl rfl ((((((((hvA.ext e6).ext e7).chgBk (b6.ext e7) (by decide) q8).chgBk (b7.chg q8 (by first | assumption | omega)) (by decide) q9).ext e10).ext e11).chgBk b11 (by decide) q12).ext hy29).nl (by first | with_reducible assumption | exact dval_dman _ _ | exact dval_zero) (by first | with_reducible assumption | exact dval_dman _ _ | exact dval_zero)) (fun v30 w30 e30 h30 => ?_)
        have z30 := e30.size
        obtain rfl := h30
        exact WL_nil ⟨e30, rfl⟩
      apply AnyR_val [39, 42, 45] rfl (by kernel_rfl)
      · --
        intro y31 hy31
        have zy31 := hy31.size
        refine AllV_v ?_
        refine AllV_v ?_
        refine AllV_v ?_
        refine AllV_nil ?_
        refine O_bneq Try.underlying4 (t := false) rfl rfl rfl rfl (by simp) ?_
        exact WL_nil ⟨(Ext.refl _), rfl⟩
      apply AnyR_val [39, 46] rfl (by kernel_rfl)
      · --
        intro y32 hy32
        have zy32 := hy32.size
        refine AllV_v ?_
        refine AllV_v ?_
        refine AllV_nil ?_
        refine O_pickF rfl rfl rfl rfl ?_
        exact WL_nil ⟨(Ext.refl _), rfl⟩
      apply AnyR_val [47] rfl (by kernel_rfl)
      · --
        intro y33 hy33
        have zy33 := hy33.size
        refine AllV_v ?_
        refine AllV_nil ?_
        refine O_move rfl rfl rfl ?_
        exact WL_nil ⟨(Ext.refl _), rfl⟩
      apply AnyR_val [48, 7] rfl (by kernel_rfl)
      · --
        intro y34 hy34
        have zy34 := hy34.size
        refine AllV_v ?_
        refine AllV_nil ?_
        refine O_loadA (vs := [_, _, _, _, _, _]) S28 rfl rfl rfl (((((b8.chg q9 (by first | assumption | omega)).ext e10).ext e11).chg q12 (by first | assumption | omega)).ext hy34) rfl rfl ?_
        exact WL_nil ⟨(Ext.refl _), rfl⟩
      apply AnyR_val [48, 7] rfl (by kernel_rfl)
      · --
        intro y35 hy35
        have zy35 := hy35.size
        refine AllV_v ?_
        refine AllV_nil ?_
        refine O_loadA (vs := [_, _, _, _, _, _]) S28 rfl rfl rfl (((((b8.chg q9 (by first | assumption | omega)).ext e10).ext e11).chg q12 (by first | assumption | omega)).ext hy35) rfl rfl ?_
        exact WL_nil ⟨(Ext.refl _), rfl⟩
      apply AnyR_val [48, 49, 50] rfl (by kernel_rfl)
      · --
        intro y36 hy36
        have zy36 := hy36.size
        refine AllV_v ?_
        refine AllV_v ?_
        refine AllV_v ?_
        refine AllV_nil ?_
        refine O_call enters25 rfl rfl rfl (ivwithinT_c rfl ((((((((hqA.ext e6).ext e7).chgBk (b6.ext e7) (by decide) q8).chgBk (b7.chg q8 (by first | assumption | omega)) (by decide) q9).ext e10).ext e11).chgBk b11 (by decide) q12).ext hy36).nl rfl ((((((((hsA.ext e6).ext e7).chgBk (b6.ext e7) (by decide) q8).chgBk (b7.chg q8 (by first | assumption | omega)) (by decide) q9).ext e10).ext e11).chgBk b11 (by decide) q12).ext hy36).nl (by first | with_reducible assumption | exact dval_dman _ _ | exact dval_zero) (by first | with_reducible assumption | exact dval_dman _ _ | exact dval_zero) rfl ((((((((hqA.ext e6).ext e7).chgBk (b6.ext e7) (by decide) q8).chgBk (b7.chg q8 (by first | assumption | omega)) (by decide) q9).ext e10).ext e11).chgBk b11 (by decide) q12).ext hy36).nl rfl ((((((((hsA.ext e6).ext e7).chgBk (b6.ext e7) (by decide) q8).chgBk (b7.chg q8 (by first | assumption | omega)) (by decide) q9).ext e10).ext e11).chgBk b11 (by decide) q12).ext hy36).nl (by first | with_reducible assumption | exact dval_dman _ _ | exact dval_zero) (by first | with_reducible assumption | exact dval_dman _ _ | exact dval_zero) within_self) (fun v37 w37 e37 h37 => ?_)
        have z37 := e37.size
        obtain rfl := h37
        exact WL_nil ⟨e37, rfl⟩
      apply AnyR_val [48, 51] rfl (by kernel_rfl)
      · --
        intro y38 hy38
        have zy38 := hy38.size
        refine AllV_v ?_
        refine AllV_v ?_
        refine AllV_nil ?_
        refine O_not rfl rfl rfl rfl ?_
        exact WL_nil ⟨(Ext.refl _), rfl⟩
      apply AnyR_val [48, 52] rfl (by kernel_rfl)
      · --
        intro y39 hy39
        have zy39 := hy39.size
        refine AllV_v ?_
        refine AllV_v ?_
        refine AllV_nil ?_
        refine O_pickF rfl rfl rfl rfl ?_
        exact WL_nil ⟨(Ext.refl _), rfl⟩
      apply AnyR_val [53] rfl (by kernel_rfl)
      · --
        intro y40 hy40
        have zy40 := hy40.size
        refine AllV_v ?_
        refine AllV_nil ?_
        refine O_move rfl rfl rfl ?_
        exact WL_nil ⟨(Ext.refl _), rfl⟩
      apply AnyR_val [54, 7] rfl (by kernel_rfl)
      · --
        intro y41 hy41
        have zy41 := hy41.size
        refine AllV_v ?_
        refine AllV_nil ?_
        refine O_loadA (vs := [_, _, _, _, _, _]) S28 rfl rfl rfl (((((b8.chg q9 (by first | assumption | omega)).ext e10).ext e11).chg q12 (by first | assumption | omega)).ext hy41) rfl rfl ?_
        exact WL_nil ⟨(Ext.refl _), rfl⟩
      apply AnyR_val [54, 8] rfl (by kernel_rfl)
      · --
        intro y42 hy42
        have zy42 := hy42.size
        refine AllV_v ?_
        refine AllV_nil ?_
        refine O_loadA (vs := [_, _, _, _, _, _]) S28 rfl rfl rfl ((((b9.ext e10).ext e11).chg q12 (by first | assumption | omega)).ext hy42) rfl rfl ?_
        exact WL_nil ⟨(Ext.refl _), rfl⟩
      apply AnyR_val [54, 55, 56] rfl (by kernel_rfl)
      · --
        intro y43 hy43
        have zy43 := hy43.size
        refine AllV_v ?_
        refine AllV_v ?_
        refine AllV_v ?_
        refine AllV_nil ?_
        refine O_call enters27 rfl rfl rfl (ivsame_c rfl ((((((((hqA.ext e6).ext e7).chgBk (b6.ext e7) (by decide) q8).chgBk (b7.chg q8 (by first | assumption | omega)) (by decide) q9).ext e10).ext e11).chgBk b11 (by decide) q12).ext hy43).nl rfl ((((((((hsA.ext e6).ext e7).chgBk (b6.ext e7) (by decide) q8).chgBk (b7.chg q8 (by first | assumption | omega)) (by decide) q9).ext e10).ext e11).chgBk b11 (by decide) q12).ext hy43).nl (by first | with_reducible assumption | exact dval_dman _ _ | exact dval_zero) (by first | with_reducible assumption | exact dval_dman _ _ | exact dval_zero) rfl ((((((((htA.ext e6).ext e7).chgBk (b6.ext e7) (by decide) q8).chgBk (b7.chg q8 (by first | assumption | omega)) (by decide) q9).ext e10).ext e11).chgBk b11 (by decide) q12).ext hy43).nl rfl ((((((((hvA.ext e6).ext e7).chgBk (b6.ext e7) (by decide) q8).chgBk (b7.chg q8 (by first | assumption | omega)) (by decide) q9).ext e10).ext e11).chgBk b11 (by decide) q12).ext hy43).nl (by first | with_reducible assumption | exact dval_dman _ _ | exact dval_zero) (by first | with_reducible assumption | exact dval_dman _ _ | exact dval_zero)) (fun v44 w44 e44 h44 => ?_)
        have z44 := e44.size
        obtain rfl := h44
        exact WL_nil ⟨e44, rfl⟩
      apply AnyR_val [54, 7] rfl (by kernel_rfl)
      · --
        intro y45 hy45
        have zy45 := hy45.size
        refine AllV_v ?_
        refine AllV_nil ?_
        refine O_loadA (vs := [_, _, _, _, _, _]) S28 rfl rfl rfl (((((b8.chg q9 (by first | assumption | omega)).ext e10).ext e11).chg q12 (by first | assumption | omega)).ext hy45) rfl rfl ?_
        exact WL_nil ⟨(Ext.refl _), rfl⟩
      apply AnyR_val [54, 8] rfl (by kernel_rfl)
      · --
        intro y46 hy46
        have zy46 := hy46.size
        refine AllV_v ?_
        refine AllV_nil ?_
        refine O_loadA (vs := [_, _, _, _, _, _]) S28 rfl rfl rfl ((((b9.ext e10).ext e11).chg q12 (by first | assumption | omega)).ext hy46) rfl rfl ?_
        exact WL_nil ⟨(Ext.refl _), rfl⟩
      apply AnyR_val [54, 58, 59] rfl (by kernel_rfl)
      · --
        intro y47 hy47
        have zy47 := hy47.size
        refine AllV_v ?_
        refine AllV_v ?_
        refine AllV_v ?_
        refine AllV_nil ?_
        refine O_call enters20 rfl rfl rfl (rivsame_c rfl ((((((((hqA.ext e6).ext e7).chgBk (b6.ext e7) (by decide) q8).chgBk (b7.chg q8 (by first | assumption | omega)) (by decide) q9).ext e10).ext e11).chgBk b11 (by decide) q12).ext hy47).nl rfl ((((((((hsA.ext e6).ext e7).chgBk (b6.ext e7) (by decide) q8).chgBk (b7.chg q8 (by first | assumption | omega)) (by decide) q9).ext e10).ext e11).chgBk b11 (by decide) q12).ext hy47).nl (by first | with_reducible assumption | exact dval_dman _ _ | exact dval_zero) (by first | with_reducible assumption | exact dval_dman _ _ | exact dval_zero) rfl ((((((((htA.ext e6).ext e7).chgBk (b6.ext e7) (by decide) q8).chgBk (b7.chg q8 (by first | assumption | omega)) (by decide) q9).ext e10).ext e11).chgBk b11 (by decide) q12).ext hy47).nl rfl ((((((((hvA.ext e6).ext e7).chgBk (b6.ext e7) (by decide) q8).chgBk (b7.chg q8 (by first | assumption | omega)) (by decide) q9).ext e10).ext e11).chgBk b11 (by decide) q12).ext hy47).nl (by first | with_reducible assumption | exact dval_dman _ _ | exact dval_zero) (by first | with_reducible assumption | exact dval_dman _ _ | exact dval_zero)) (fun v48 w48 e48 h48 => ?_)
        have z48 := e48.size
        obtain rfl := h48
        exact WL_nil ⟨e48, rfl⟩
      apply AnyR_val [54, 57, 60] rfl (by kernel_rfl)
      · --
        intro y49 hy49
        have zy49 := hy49.size
        refine AllV_v ?_
        refine AllV_v ?_
        refine AllV_v ?_
        refine AllV_nil ?_
        refine O_bneq Try.underlying4 (t := false) rfl rfl rfl rfl (by simp) ?_
        exact WL_nil ⟨(Ext.refl _), rfl⟩
      apply AnyR_val [54, 61] rfl (by kernel_rfl)
      · --
        intro y50 hy50
        have zy50 := hy50.size
        refine AllV_v ?_
        refine AllV_v ?_
        refine AllV_nil ?_
        refine O_pickF rfl rfl rfl rfl ?_
        exact WL_nil ⟨(Ext.refl _), rfl⟩
      refine AnyR_nil fun y51 hy51 => ?_
      have zy51 := hy51.size
      refine AllV_v ?_
      refine AllV_v ?_
      refine AllV_v ?_
      refine AllV_v ?_
      refine AllV_v ?_
      refine AllV_v ?_
      refine AllV_v ?_
      refine AllV_v ?_
      refine AllV_v ?_
      refine AllV_v ?_
      refine AllV_v ?_
      refine AllV_v ?_
      refine AllV_v ?_
      refine AllV_v ?_
      refine AllV_v ?_
      refine AllV_v ?_
      refine AllV_v ?_
      refine AllV_v ?_
      refine AllV_v ?_
      refine AllV_v ?_
      refine AllV_v ?_
      refine AllV_v ?_
      refine AllV_v ?_
      refine AllV_v ?_
      refine AllV_v ?_
      refine AllV_v ?_
      refine AllV_v ?_
      refine AllV_v ?_
      refine AllV_v ?_
      refine AllV_v ?_
      refine AllV_v ?_
      refine AllV_nil ?_
      refine WL_end [(7, _), (8, _), (10, _), (62, _)] ⟨rfl, rfl, rfl, rfl, trivial⟩ ?_
      refine WP_condF rfl ?_
      refine WP_skip ?_
      refine WP_seq ?_
      refine WP_region ?_
      refine O_loadA (vs := [_, _, _, _, _, _]) S28 rfl rfl rfl (((((b8.chg q9 (by first | assumption | omega)).ext e10).ext e11).chg q12 (by first | assumption | omega)).ext hy51) rfl rfl ?_
      refine O_loadA (vs := [_, _, _, _, _, _]) S28 rfl rfl rfl ((((b9.ext e10).ext e11).chg q12 (by first | assumption | omega)).ext hy51) rfl rfl ?_
      refine O_call enters25 rfl rfl rfl (ivwithin_c rfl ((((((((hqA.ext e6).ext e7).chgBk (b6.ext e7) (by decide) q8).chgBk (b7.chg q8 (by first | assumption | omega)) (by decide) q9).ext e10).ext e11).chgBk b11 (by decide) q12).ext hy51).nl rfl ((((((((hsA.ext e6).ext e7).chgBk (b6.ext e7) (by decide) q8).chgBk (b7.chg q8 (by first | assumption | omega)) (by decide) q9).ext e10).ext e11).chgBk b11 (by decide) q12).ext hy51).nl (by first | with_reducible assumption | exact dval_dman _ _ | exact dval_zero) (by first | with_reducible assumption | exact dval_dman _ _ | exact dval_zero) rfl ((((((((htA.ext e6).ext e7).chgBk (b6.ext e7) (by decide) q8).chgBk (b7.chg q8 (by first | assumption | omega)) (by decide) q9).ext e10).ext e11).chgBk b11 (by decide) q12).ext hy51).nl rfl ((((((((hvA.ext e6).ext e7).chgBk (b6.ext e7) (by decide) q8).chgBk (b7.chg q8 (by first | assumption | omega)) (by decide) q9).ext e10).ext e11).chgBk b11 (by decide) q12).ext hy51).nl (by first | with_reducible assumption | exact dval_dman _ _ | exact dval_zero) (by first | with_reducible assumption | exact dval_dman _ _ | exact dval_zero)) (fun v52 w52 e52 h52 => ?_)
      have z52 := e52.size
      obtain rfl := h52
      refine O_not rfl rfl rfl rfl ?_
      refine O_move rfl rfl rfl ?_
      refine WL_bool 67 rfl (fun g67 => ?_) (fun g67 => ?_)
      · --
        refine O_skip rfl rfl ?_
        refine O_skip rfl rfl ?_
        refine O_skip rfl rfl ?_
        refine O_skip rfl rfl ?_
        refine O_pickT rfl rfl rfl rfl ?_
        refine O_move rfl rfl rfl ?_
        refine O_skip rfl rfl ?_
        refine O_skip rfl rfl ?_
        refine O_skip rfl rfl ?_
        refine O_pickT rfl rfl rfl rfl ?_
        refine O_assign rfl rfl rfl ?_
        refine WL_end [(6, _)] ⟨rfl, trivial⟩ ?_
        refine WP_ret ?_
        refine ret1 Try.results5 rfl ?_
        first
          | exact ⟨_, rfl, ((e12.trans hy51).trans e52), rfl⟩
          | exact ⟨_, rfl, ((e12.trans hy51).trans e52), by rw [has_within hX hY hZ hU (by assumption) (by assumption)]⟩
          | exact ⟨_, rfl, ((e12.trans hy51).trans e52), by rw [has_within hX hY hZ hU (by simpa using g67) (by simpa using g73)]⟩
          | exact ⟨_, rfl, ((e12.trans hy51).trans e52), by simp_all⟩
      · --
        refine O_loadA (vs := [_, _, _, _, _, _]) S28 rfl rfl rfl ((((((b8.chg q9 (by first | assumption | omega)).ext e10).ext e11).chg q12 (by first | assumption | omega)).ext hy51).ext e52) rfl rfl ?_
        refine O_loadA (vs := [_, _, _]) S48 rfl rfl rfl ((b12.ext hy51).ext e52) rfl rfl ?_
        refine O_call enters23 rfl rfl rfl (ivhas_c rfl (((((((((hqA.ext e6).ext e7).chgBk (b6.ext e7) (by decide) q8).chgBk (b7.chg q8 (by first | assumption | omega)) (by decide) q9).ext e10).ext e11).chgBk b11 (by decide) q12).ext hy51).ext e52).nl rfl (((((((((hsA.ext e6).ext e7).chgBk (b6.ext e7) (by decide) q8).chgBk (b7.chg q8 (by first | assumption | omega)) (by decide) q9).ext e10).ext e11).chgBk b11 (by decide) q12).ext hy51).ext e52).nl (by first | with_reducible assumption | exact dval_dman _ _ | exact dval_zero) (by first | with_reducible assumption | exact dval_dman _ _ | exact dval_zero) rfl ((((hnR.ext e11).chgBk b11 (by decide) q12).ext hy51).ext e52).nl ((((hdR.ext e11).chgBk b11 (by decide) q12).ext hy51).ext e52).nl (by first | with_reducible assumption | omega) (by first | with_reducible assumption | omega)) (fun v53 w53 e53 h53 => ?_)
        have z53 := e53.size
        obtain rfl := h53
        refine O_not rfl rfl rfl rfl ?_
        refine O_pickF rfl rfl rfl rfl ?_
        refine O_move rfl rfl rfl ?_
        refine WL_bool 73 rfl (fun g73 => ?_) (fun g73 => ?_)
        · --
          refine O_skip rfl rfl ?_
          refine O_skip rfl rfl ?_
          refine O_skip rfl rfl ?_
          refine O_pickT rfl rfl rfl rfl ?_
          refine O_assign rfl rfl rfl ?_
          refine WL_end [(6, _)] ⟨rfl, trivial⟩ ?_
          refine WP_ret ?_
          refine ret1 Try.results5 rfl ?_
          first
            | exact ⟨_, rfl, (((e12.trans hy51).trans e52).trans e53), rfl⟩
            | exact ⟨_, rfl, (((e12.trans hy51).trans e52).trans e53), by rw [has_within hX hY hZ hU (by assumption) (by assumption)]⟩
            | exact ⟨_, rfl, (((e12.trans hy51).trans e52).trans e53), by rw [has_within hX hY hZ hU (by simpa using g67) (by simpa using g73)]⟩
            | exact ⟨_, rfl, (((e12.trans hy51).trans e52).trans e53), by simp_all⟩
        · --
          refine O_loadA (vs := [_, _, _, _, _, _]) S28 rfl rfl rfl ((((((b9.ext e10).ext e11).chg q12 (by first | assumption | omega)).ext hy51).ext e52).ext e53) rfl rfl ?_
          refine O_loadA (vs := [_, _, _]) S48 rfl rfl rfl (((b12.ext hy51).ext e52).ext e53) rfl rfl ?_
          refine O_call enters23 rfl rfl rfl (ivhas_c rfl ((((((((((htA.ext e6).ext e7).chgBk (b6.ext e7) (by decide) q8).chgBk (b7.chg q8 (by first | assumption | omega)) (by decide) q9).ext e10).ext e11).chgBk b11 (by decide) q12).ext hy51).ext e52).ext e53).nl rfl ((((((((((hvA.ext e6).ext e7).chgBk (b6.ext e7) (by decide) q8).chgBk (b7.chg q8 (by first | assumption | omega)) (by decide) q9).ext e10).ext e11).chgBk b11 (by decide) q12).ext hy51).ext e52).ext e53).nl (by first | with_reducible assumption | exact dval_dman _ _ | exact dval_zero) (by first | with_reducible assumption | exact dval_dman _ _ | exact dval_zero) rfl (((((hnR.ext e11).chgBk b11 (by decide) q12).ext hy51).ext e52).ext e53).nl (((((hdR.ext e11).chgBk b11 (by decide) q12).ext hy51).ext e52).ext e53).nl (by first | with_reducible assumption | omega) (by first | with_reducible assumption | omega)) (fun v54 w54 e54 h54 => ?_)
          have z54 := e54.size
          obtain rfl := h54
          refine O_pickF rfl rfl rfl rfl ?_
          refine O_assign rfl rfl rfl ?_
          refine WL_end [(6, _)] ⟨rfl, trivial⟩ ?_
          refine WP_ret ?_
          refine ret1 Try.results5 rfl ?_
          first
            | exact ⟨_, rfl, ((((e12.trans hy51).trans e52).trans e53).trans e54), rfl⟩
            | exact ⟨_, rfl, ((((e12.trans hy51).trans e52).trans e53).trans e54), by rw [has_within hX hY hZ hU (by assumption) (by assumption)]⟩
            | exact ⟨_, rfl, ((((e12.trans hy51).trans e52).trans e53).trans e54), by rw [has_within hX hY hZ hU (by simpa using g67) (by simpa using g73)]⟩
            | exact ⟨_, rfl, ((((e12.trans hy51).trans e52).trans e53).trans e54), by simp_all⟩

end Go.Proofs.Ythbfhljpfkicpaa
