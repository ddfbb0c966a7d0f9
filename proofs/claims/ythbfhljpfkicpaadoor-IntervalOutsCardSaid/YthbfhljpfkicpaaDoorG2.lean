/-
  Walks.
-/
import Derived.Test.YthbfhljpfkicpaaDoorG1
set_option linter.unusedVariables false
set_option linter.unusedSimpArgs false
set_option maxRecDepth 100000
namespace Go.Proofs.YthbfhljpfkicpaaDoor
open Go Go.RowKit
set_option maxHeartbeats 2000000 in
theorem ridivmod_c {w : World} {vx vy : Value} {x y : Int} {bx by_ : Bool} (hbx : bx = decide (x < 0)) (hx : Nl w vx (dig x.natAbs)) (hby : by_ = decide (y < 0)) (hy : Nl w vy (dig y.natAbs)) (hlx : (dig x.natAbs).length ≤ 100000) (hly : (dig y.natAbs).length ≤ 100000) (h0 : y ≠ 0) :
    Calls Tryd.prog 121 #[.agg #[.bool bx, vx], .agg #[.bool by_, vy]] w (Ret w fun r w' => ∃ a b, r = .tuple #[.agg #[.bool (decide (idq x y < 0)), a], .agg #[.bool (decide (x - idq x y * y < 0)), b], .bool true] ∧ No w.heap.size 111 w' a (dig (idq x y).natAbs) ∧ No w.heap.size 111 w' b (dig (x - idq x y * y).natAbs)) := by
 subst hbx
 subst hby
 have hm := Nat.mod_lt x.natAbs (show 0 < y.natAbs by omega)
 have hLq : (dig (x.natAbs / y.natAbs)).length ≤ 100000 := Nat.le_trans (dig_len_mono (Nat.div_le_self x.natAbs y.natAbs)) hlx
 have hL1 : (dig (1 : Int).natAbs).length ≤ 1 := dig_len_of_lt (by decide)
 have hLL : ∀ Q : Int, (dig Q.natAbs).length ≤ 100001 → (dig (Q * y).natAbs).length ≤ 300000 := fun Q h => by have := mul_len h hly; omega
 have hLS : ∀ Q : Int, (dig Q.natAbs).length ≤ 100000 → (dig (Q - 1).natAbs).length ≤ 100001 := fun Q h => by have := sub_len h hL1; omega
 have hds : dsg x y = !(decide (x < 0) == decide (y < 0)) := rfl
 refine enter (args := [_, _]) Tryd.func121 rfl Tryd.ntmps121 rfl ?_
 refine WP_seq ?_
 refine WP_region ?_
 refine O_box _ rfl rfl rfl rfl (fun g1 w1 b1 e1 gl1 gh1 => ?_)
 have z1 := e1.size
 refine O_box _ rfl rfl rfl rfl (fun g2 w2 b2 e2 gl2 gh2 => ?_)
 have z2 := e2.size
 refine O_alloc S24 rfl rfl (fun g3 w3 b3 e3 gl3 gh3 => ?_)
 have z3 := e3.size
 refine O_alloc S24 rfl rfl (fun g4 w4 b4 e4 gl4 gh4 => ?_)
 have z4 := e4.size
 refine O_assign rfl rfl rfl ?_
 refine WL_end [(2, _), (3, _), (4, _), (5, _)] ⟨rfl, rfl, rfl, rfl, trivial⟩ ?_
 refine WP_seq ?_
 refine WP_region ?_
 refine O_field F24_1 rfl rfl rfl ?_
 refine O_loadC Tryd.underlying22 rfl rfl rfl rfl (((b1.ext e2).ext e3).ext e4) rfl ?_
 refine O_field F24_1 rfl rfl rfl ?_
 refine O_loadC Tryd.underlying22 rfl rfl rfl rfl ((b2.ext e3).ext e4) rfl ?_
 refine O_call enters153 rfl rfl rfl (rdivmod_t (hx.ext (((e1.trans e2).trans e3).trans e4)) (hy.ext (((e1.trans e2).trans e3).trans e4)) (by (try simp only [lens]); omega) (by (try simp only [lens]); omega) (by (try simp only [lens]); omega)) (fun v5 w5 e5 h5 => ?_)
 have z5 := e5.size
 try simp only [val_dig] at h5
 obtain ⟨q5, r5, rfl, hq5, hr5⟩ := h5
 refine O_move rfl rfl rfl ?_
 refine O_extract rfl rfl rfl rfl ?_
 refine O_extract rfl rfl rfl rfl ?_
 refine O_extract rfl rfl rfl rfl ?_
 refine O_assign rfl rfl rfl ?_
 refine O_assign rfl rfl rfl ?_
 refine O_assign rfl rfl rfl ?_
 refine WL_end [(2, _), (3, _), (4, _), (5, _), (7, _), (8, _), (9, _)] ⟨rfl, rfl, rfl, rfl, rfl, rfl, rfl, trivial⟩ ?_
 refine WP_seq ?_
 refine WP_seq ?_
 refine WP_region ?_
 refine O_move rfl rfl rfl ?_
 refine O_not rfl rfl rfl rfl ?_
 refine WL_end [(2, _), (3, _), (4, _), (5, _), (7, _), (8, _), (21, _)] ⟨rfl, rfl, rfl, rfl, rfl, rfl, rfl, trivial⟩ ?_
 refine WP_condF rfl ?_
 refine WP_skip ?_
 refine WP_seq ?_
 refine WP_region ?_
 refine O_field F24_0 rfl rfl rfl ?_
 refine O_loadC Tryd.underlying4 rfl rfl rfl rfl ((((b1.ext e2).ext e3).ext e4).ext e5) rfl ?_
 refine O_field F24_0 rfl rfl rfl ?_
 refine O_loadC Tryd.underlying4 rfl rfl rfl rfl (((b2.ext e3).ext e4).ext e5) rfl ?_
 refine O_bneq Tryd.underlying4 rfl rfl rfl rfl rfl ?_
 refine O_move rfl rfl rfl ?_
 refine O_call enters85 rfl rfl rfl (rinat_c hq5.nl (by (try simp only [lens]); omega)) (fun v6 w6 e6 h6 => ?_)
 have z6 := e6.size
 try simp only [val_dig] at h6
 obtain ⟨q6, rfl, hq6⟩ := h6
 have hlN : (dig (mk (!(decide (x < 0) == decide (y < 0))) (x.natAbs / y.natAbs)).natAbs).length ≤ 100000 := by rw [mk_abs]; exact hLq
 generalize hQ : mk (!(decide (x < 0) == decide (y < 0))) (x.natAbs / y.natAbs) = Q at hq6 hlN ⊢
 have hlN1 := hLS Q hlN
 have hM0 := hLL Q (Nat.le_trans hlN (by decide))
 have hM1 := hLL (Q - 1) hlN1
 refine O_alloc S24 rfl rfl (fun g7 w7 b7 e7 gl7 gh7 => ?_)
 have z7 := e7.size
 refine O_storeA (cs' := [_, _]) S24 rfl rfl rfl b7 rfl rfl (one_cons rfl (one_cons ((hq6.ext e7).nl).one one_nil)) rfl (fun w8 b8 q8 => ?_)
 have z8 := Nat.le_of_eq q8.size.symm
 have e8 : Ext w w8 := q8.ext ((((((e1.trans e2).trans e3).trans e4).trans e5).trans e6).trans e7) (by omega)
 refine WL_end [(2, _), (3, _), (4, _), (5, _), (8, _), (10, _)] ⟨rfl, rfl, rfl, rfl, rfl, rfl, trivial⟩ ?_
 refine WP_seq ?_
 refine WP_seq ?_
 refine WP_region ?_
 refine O_field F24_0 rfl rfl rfl ?_
 refine O_loadC Tryd.underlying4 rfl rfl rfl rfl (((((((b1.ext e2).ext e3).ext e4).ext e5).ext e6).ext e7).chg q8 (by first | assumption | omega)) rfl ?_
 refine O_field F24_0 rfl rfl rfl ?_
 refine O_loadC Tryd.underlying4 rfl rfl rfl rfl ((((((b2.ext e3).ext e4).ext e5).ext e6).ext e7).chg q8 (by first | assumption | omega)) rfl ?_
 refine O_bneq Tryd.underlying4 rfl rfl rfl rfl rfl ?_
 refine O_move rfl rfl rfl ?_
 refine WL_bool 36 rfl (fun g36 => ?_) (fun g36 => ?_)
 · --
  refine O_move rfl rfl rfl ?_
  refine N_len T22 rfl rfl rfl (((hr5.ext e6).ext e7).chgBk b7 (by decide) q8).nl ?_
  refine O_gtr rfl rfl rfl rfl rfl ?_
  refine O_pickT rfl rfl rfl rfl ?_
  refine WL_end [(2, _), (3, _), (4, _), (5, _), (10, _), (40, _)] ⟨rfl, rfl, rfl, rfl, rfl, rfl, trivial⟩ ?_
  refine WP_condD rfl (fun c40 => ?_) (fun c40 => ?_)
  · --
   refine WP_sub [(2, _), (3, _), (4, _), (5, _), (10, _)] ⟨rfl, rfl, rfl, rfl, rfl, trivial⟩ ?_
   refine WP_anyR 2 [2, 3, 4, 5, 10] mixed rfl (by kernel_rfl) ?_
   apply AnyR_val [10] rfl (by kernel_rfl)
   · --
    intro y9 hy9
    have zy9 := hy9.size
    refine AllV_nil ?_
    refine O_loadA (vs := [_, _]) S24 rfl rfl rfl (b8.ext hy9) rfl rfl ?_
    exact WL_nil ⟨(Ext.refl _), rfl⟩
   apply AnyR_rel (RelP (pAgg [pEq _, pNo w8.heap.size 111 _])) [] rfl (RelP.mono (pAgg_mono (PsM.cons pEq_mono (PsM.cons pNo_mono PsM.nil)))) (by kernel_rfl)
   · --
    intro y10 hy10
    have zy10 := hy10.size
    refine AllV_nil ?_
    refine O_call enters70 rfl rfl rfl (riof_c (by (try simp only [lens]); omega) (by (try simp only [lens]); omega)) (fun v11 w11 e11 h11 => ?_)
    have z11 := e11.size
    try simp only [val_dig] at h11
    obtain ⟨q11, rfl, hq11⟩ := h11
    exact WL_nil ⟨e11, _, rfl, ⟨_, rfl, (AllP.cons rfl (AllP.cons (hq11.mono (by omega)) AllP.nil))⟩⟩
   refine AnyR_nil fun y12 hy12 => ?_
   have zy12 := hy12.size
   refine AllV_v ?_
   refine AllV_r fun a13 b13 v13 la13 lb13 lc13 h13 ap13 => ?_
   clear ap13
   obtain ⟨_, rfl, v13_0, _, rfl, rfl, v13_1, _, rfl, h13_1, rfl⟩ := h13
   refine AllV_nil ?_
   refine O_call enters128 rfl rfl rfl (risub_c rfl (((hq6.ext e7).chgBk b7 (by decide) q8).ext hy12).nl rfl h13_1.nl (by (try simp only [lens]); omega) (by (try simp only [lens]); omega)) (fun v14 w14 e14 h14 => ?_)
   have z14 := e14.size
   try simp only [val_dig] at h14
   obtain ⟨q14, rfl, hq14⟩ := h14
   refine O_storeA (cs' := [_, _]) S24 rfl rfl rfl ((b8.ext hy12).ext e14) rfl rfl (one_cons rfl (one_cons (hq14.nl).one one_nil)) rfl (fun w15 b15 q15 => ?_)
   have z15 := Nat.le_of_eq q15.size.symm
   have e15 : Ext w w15 := q15.ext ((e8.trans hy12).trans e14) (by omega)
   refine WL_end [(2, _), (3, _), (4, _), (5, _), (10, _)] ⟨rfl, rfl, rfl, rfl, rfl, trivial⟩ ?_
   refine WP_seq ?_
   refine WP_sub [(2, _), (3, _), (4, _), (5, _), (10, _)] ⟨rfl, rfl, rfl, rfl, rfl, trivial⟩ ?_
   refine WP_anyR 6 [2, 3, 4, 5, 10] mixed rfl (by kernel_rfl) ?_
   apply AnyR_val [10] rfl (by kernel_rfl)
   · --
    intro y16 hy16
    have zy16 := hy16.size
    refine AllV_nil ?_
    refine O_loadA (vs := [_, _]) S24 rfl rfl rfl (b15.ext hy16) rfl rfl ?_
    exact WL_nil ⟨(Ext.refl _), rfl⟩
   apply AnyR_val [2] rfl (by kernel_rfl)
   · --
    intro y17 hy17
    have zy17 := hy17.size
    refine AllV_nil ?_
    refine O_loadA (vs := [_, _]) S24 rfl rfl rfl (((((((((((b1.ext e2).ext e3).ext e4).ext e5).ext e6).ext e7).chg q8 (by first | assumption | omega)).ext hy12).ext e14).chg q15 (by first | assumption | omega)).ext hy17) rfl rfl ?_
    exact WL_nil ⟨(Ext.refl _), rfl⟩
   apply AnyR_val [10] rfl (by kernel_rfl)
   · --
    intro y18 hy18
    have zy18 := hy18.size
    refine AllV_nil ?_
    refine O_loadA (vs := [_, _]) S24 rfl rfl rfl (b15.ext hy18) rfl rfl ?_
    exact WL_nil ⟨(Ext.refl _), rfl⟩
   apply AnyR_val [3] rfl (by kernel_rfl)
   · --
    intro y19 hy19
    have zy19 := hy19.size
    refine AllV_nil ?_
    refine O_loadA (vs := [_, _]) S24 rfl rfl rfl ((((((((((b2.ext e3).ext e4).ext e5).ext e6).ext e7).chg q8 (by first | assumption | omega)).ext hy12).ext e14).chg q15 (by first | assumption | omega)).ext hy19) rfl rfl ?_
    exact WL_nil ⟨(Ext.refl _), rfl⟩
   apply AnyR_rel (RelP (pAgg [pEq _, pNo w15.heap.size 111 _])) [46, 47] rfl (RelP.mono (pAgg_mono (PsM.cons pEq_mono (PsM.cons pNo_mono PsM.nil)))) (by kernel_rfl)
   · --
    intro y20 hy20
    have zy20 := hy20.size
    refine AllV_v ?_
    refine AllV_v ?_
    refine AllV_nil ?_
    refine O_call enters80 rfl rfl rfl (rimul_c rfl ((hq14.chgBk ((b8.ext hy12).ext e14) (by decide) q15).ext hy20).nl rfl (hy.ext (e15.trans hy20)) (by (try simp only [lens]); omega) (by (try simp only [lens]); omega)) (fun v21 w21 e21 h21 => ?_)
    have z21 := e21.size
    try simp only [val_dig] at h21
    obtain ⟨q21, rfl, hq21⟩ := h21
    exact WL_nil ⟨e21, _, rfl, ⟨_, rfl, (AllP.cons rfl (AllP.cons (hq21.mono (by omega)) AllP.nil))⟩⟩
   apply AnyR_rel (RelP (pAgg [pEq _, pNo w15.heap.size 111 _])) [45, 48] rfl (RelP.mono (pAgg_mono (PsM.cons pEq_mono (PsM.cons pNo_mono PsM.nil)))) (by kernel_rfl)
   · --
    intro y22 hy22
    have zy22 := hy22.size
    refine AllV_v ?_
    refine AllV_r fun a23 b23 v23 la23 lb23 lc23 h23 ap23 => ?_
    clear ap23
    obtain ⟨_, rfl, v23_0, _, rfl, rfl, v23_1, _, rfl, h23_1, rfl⟩ := h23
    refine AllV_nil ?_
    refine O_call enters128 rfl rfl rfl (risub_c rfl (hx.ext (e15.trans hy22)) rfl h23_1.nl (by (try simp only [lens]); omega) (by (try simp only [lens]); omega)) (fun v24 w24 e24 h24 => ?_)
    have z24 := e24.size
    try simp only [val_dig] at h24
    obtain ⟨q24, rfl, hq24⟩ := h24
    exact WL_nil ⟨e24, _, rfl, ⟨_, rfl, (AllP.cons rfl (AllP.cons (hq24.mono (by omega)) AllP.nil))⟩⟩
   refine AnyR_nil fun y25 hy25 => ?_
   have zy25 := hy25.size
   refine AllV_v ?_
   refine AllV_v ?_
   refine AllV_v ?_
   refine AllV_v ?_
   refine AllV_r fun a26 b26 v26 la26 lb26 lc26 h26 ap26 => ?_
   clear ap26
   obtain ⟨_, rfl, v26_0, _, rfl, rfl, v26_1, _, rfl, h26_1, rfl⟩ := h26
   refine AllV_r fun a27 b27 v27 la27 lb27 lc27 h27 ap27 => ?_
   clear ap27
   obtain ⟨_, rfl, v27_0, _, rfl, rfl, v27_1, _, rfl, h27_1, rfl⟩ := h27
   refine AllV_nil ?_
   refine O_storeA (cs' := [_, _]) S24 rfl rfl rfl (((((((((b3.ext e4).ext e5).ext e6).ext e7).chg q8 (by first | assumption | omega)).ext hy12).ext e14).chg q15 (by first | assumption | omega)).ext hy25) rfl rfl (one_cons rfl (one_cons (((hq14.chgBk ((b8.ext hy12).ext e14) (by decide) q15).ext hy25).nl).one one_nil)) rfl (fun w28 b28 q28 => ?_)
   have z28 := Nat.le_of_eq q28.size.symm
   have e28 : Ext w w28 := q28.ext (e15.trans hy25) (by omega)
   refine O_storeA (cs' := [_, _]) S24 rfl rfl rfl (((((((((b4.ext e5).ext e6).ext e7).chg q8 (by first | assumption | omega)).ext hy12).ext e14).chg q15 (by first | assumption | omega)).ext hy25).chg q28 (by first | assumption | omega)) rfl rfl (one_cons rfl (one_cons ((h27_1.chgBk (((((((((b3.ext e4).ext e5).ext e6).ext e7).chg q8 (by first | assumption | omega)).ext hy12).ext e14).chg q15 (by first | assumption | omega)).ext hy25) (by decide) q28).nl).one one_nil)) rfl (fun w29 b29 q29 => ?_)
   have z29 := Nat.le_of_eq q29.size.symm
   have e29 : Ext w w29 := q29.ext e28 (by omega)
   refine O_assign rfl rfl rfl ?_
   refine WL_end [(4, _), (5, _), (6, _)] ⟨rfl, rfl, rfl, trivial⟩ ?_
   refine WP_ret ?_
   refine retL Tryd.results121 (.cell rfl S24 (b28.chg q29 (by first | assumption | omega)) rfl (.cell rfl S24 b29 rfl (.tmp rfl .nil))) ?_
   have hr0 : x.natAbs % y.natAbs ≠ 0 := fun e => by rw [e, dig_zero] at c40; simp at c40
   have e1 : Q - 1 = idq x y := by
     unfold idq; rw [if_neg h0, if_pos ⟨hds.trans g36, hr0⟩, ← hQ, hds, g36]
     unfold mk; simp only [if_true]; omega
   rw [← e1]
   exact ⟨_, rfl, e29, _, _, rfl, ((((hq14.chgBk ((b8.ext hy12).ext e14) (by decide) q15).ext hy25).chgBk (((((((((b3.ext e4).ext e5).ext e6).ext e7).chg q8 (by first | assumption | omega)).ext hy12).ext e14).chg q15 (by first | assumption | omega)).ext hy25) (by decide) q28).chgBk (((((((((b4.ext e5).ext e6).ext e7).chg q8 (by first | assumption | omega)).ext hy12).ext e14).chg q15 (by first | assumption | omega)).ext hy25).chg q28 (by first | assumption | omega)) (by decide) q29).mono (by omega), ((h27_1.chgBk (((((((((b3.ext e4).ext e5).ext e6).ext e7).chg q8 (by first | assumption | omega)).ext hy12).ext e14).chg q15 (by first | assumption | omega)).ext hy25) (by decide) q28).chgBk (((((((((b4.ext e5).ext e6).ext e7).chg q8 (by first | assumption | omega)).ext hy12).ext e14).chg q15 (by first | assumption | omega)).ext hy25).chg q28 (by first | assumption | omega)) (by decide) q29).mono (by omega)⟩
  · --
   refine WP_skip ?_
   refine WP_seq ?_
   refine WP_sub [(2, _), (3, _), (4, _), (5, _), (10, _)] ⟨rfl, rfl, rfl, rfl, rfl, trivial⟩ ?_
   refine WP_anyR 6 [2, 3, 4, 5, 10] mixed rfl (by kernel_rfl) ?_
   apply AnyR_val [10] rfl (by kernel_rfl)
   · --
    intro y30 hy30
    have zy30 := hy30.size
    refine AllV_nil ?_
    refine O_loadA (vs := [_, _]) S24 rfl rfl rfl (b8.ext hy30) rfl rfl ?_
    exact WL_nil ⟨(Ext.refl _), rfl⟩
   apply AnyR_val [2] rfl (by kernel_rfl)
   · --
    intro y31 hy31
    have zy31 := hy31.size
    refine AllV_nil ?_
    refine O_loadA (vs := [_, _]) S24 rfl rfl rfl ((((((((b1.ext e2).ext e3).ext e4).ext e5).ext e6).ext e7).chg q8 (by first | assumption | omega)).ext hy31) rfl rfl ?_
    exact WL_nil ⟨(Ext.refl _), rfl⟩
   apply AnyR_val [10] rfl (by kernel_rfl)
   · --
    intro y32 hy32
    have zy32 := hy32.size
    refine AllV_nil ?_
    refine O_loadA (vs := [_, _]) S24 rfl rfl rfl (b8.ext hy32) rfl rfl ?_
    exact WL_nil ⟨(Ext.refl _), rfl⟩
   apply AnyR_val [3] rfl (by kernel_rfl)
   · --
    intro y33 hy33
    have zy33 := hy33.size
    refine AllV_nil ?_
    refine O_loadA (vs := [_, _]) S24 rfl rfl rfl (((((((b2.ext e3).ext e4).ext e5).ext e6).ext e7).chg q8 (by first | assumption | omega)).ext hy33) rfl rfl ?_
    exact WL_nil ⟨(Ext.refl _), rfl⟩
   apply AnyR_rel (RelP (pAgg [pEq _, pNo w8.heap.size 111 _])) [46, 47] rfl (RelP.mono (pAgg_mono (PsM.cons pEq_mono (PsM.cons pNo_mono PsM.nil)))) (by kernel_rfl)
   · --
    intro y34 hy34
    have zy34 := hy34.size
    refine AllV_v ?_
    refine AllV_v ?_
    refine AllV_nil ?_
    refine O_call enters80 rfl rfl rfl (rimul_c rfl (((hq6.ext e7).chgBk b7 (by decide) q8).ext hy34).nl rfl (hy.ext (e8.trans hy34)) (by (try simp only [lens]); omega) (by (try simp only [lens]); omega)) (fun v35 w35 e35 h35 => ?_)
    have z35 := e35.size
    try simp only [val_dig] at h35
    obtain ⟨q35, rfl, hq35⟩ := h35
    exact WL_nil ⟨e35, _, rfl, ⟨_, rfl, (AllP.cons rfl (AllP.cons (hq35.mono (by omega)) AllP.nil))⟩⟩
   apply AnyR_rel (RelP (pAgg [pEq _, pNo w8.heap.size 111 _])) [45, 48] rfl (RelP.mono (pAgg_mono (PsM.cons pEq_mono (PsM.cons pNo_mono PsM.nil)))) (by kernel_rfl)
   · --
    intro y36 hy36
    have zy36 := hy36.size
    refine AllV_v ?_
    refine AllV_r fun a37 b37 v37 la37 lb37 lc37 h37 ap37 => ?_
    clear ap37
    obtain ⟨_, rfl, v37_0, _, rfl, rfl, v37_1, _, rfl, h37_1, rfl⟩ := h37
    refine AllV_nil ?_
    refine O_call enters128 rfl rfl rfl (risub_c rfl (hx.ext (e8.trans hy36)) rfl h37_1.nl (by (try simp only [lens]); omega) (by (try simp only [lens]); omega)) (fun v38 w38 e38 h38 => ?_)
    have z38 := e38.size
    try simp only [val_dig] at h38
    obtain ⟨q38, rfl, hq38⟩ := h38
    exact WL_nil ⟨e38, _, rfl, ⟨_, rfl, (AllP.cons rfl (AllP.cons (hq38.mono (by omega)) AllP.nil))⟩⟩
   refine AnyR_nil fun y39 hy39 => ?_
   have zy39 := hy39.size
   refine AllV_v ?_
   refine AllV_v ?_
   refine AllV_v ?_
   refine AllV_v ?_
   refine AllV_r fun a40 b40 v40 la40 lb40 lc40 h40 ap40 => ?_
   clear ap40
   obtain ⟨_, rfl, v40_0, _, rfl, rfl, v40_1, _, rfl, h40_1, rfl⟩ := h40
   refine AllV_r fun a41 b41 v41 la41 lb41 lc41 h41 ap41 => ?_
   clear ap41
   obtain ⟨_, rfl, v41_0, _, rfl, rfl, v41_1, _, rfl, h41_1, rfl⟩ := h41
   refine AllV_nil ?_
   refine O_storeA (cs' := [_, _]) S24 rfl rfl rfl ((((((b3.ext e4).ext e5).ext e6).ext e7).chg q8 (by first | assumption | omega)).ext hy39) rfl rfl (one_cons rfl (one_cons ((((hq6.ext e7).chgBk b7 (by decide) q8).ext hy39).nl).one one_nil)) rfl (fun w42 b42 q42 => ?_)
   have z42 := Nat.le_of_eq q42.size.symm
   have e42 : Ext w w42 := q42.ext (e8.trans hy39) (by omega)
   refine O_storeA (cs' := [_, _]) S24 rfl rfl rfl ((((((b4.ext e5).ext e6).ext e7).chg q8 (by first | assumption | omega)).ext hy39).chg q42 (by first | assumption | omega)) rfl rfl (one_cons rfl (one_cons ((h41_1.chgBk ((((((b3.ext e4).ext e5).ext e6).ext e7).chg q8 (by first | assumption | omega)).ext hy39) (by decide) q42).nl).one one_nil)) rfl (fun w43 b43 q43 => ?_)
   have z43 := Nat.le_of_eq q43.size.symm
   have e43 : Ext w w43 := q43.ext e42 (by omega)
   refine O_assign rfl rfl rfl ?_
   refine WL_end [(4, _), (5, _), (6, _)] ⟨rfl, rfl, rfl, trivial⟩ ?_
   refine WP_ret ?_
   refine retL Tryd.results121 (.cell rfl S24 (b42.chg q43 (by first | assumption | omega)) rfl (.cell rfl S24 b43 rfl (.tmp rfl .nil))) ?_
   have hr0 : x.natAbs % y.natAbs = 0 := dig_len_zero.1 (by omega)
   have e1 : Q = idq x y := by unfold idq; rw [if_neg h0, if_neg (fun h => h.2 hr0), ← hQ, hds]
   rw [← e1]
   exact ⟨_, rfl, e43, _, _, rfl, (((((hq6.ext e7).chgBk b7 (by decide) q8).ext hy39).chgBk ((((((b3.ext e4).ext e5).ext e6).ext e7).chg q8 (by first | assumption | omega)).ext hy39) (by decide) q42).chgBk ((((((b4.ext e5).ext e6).ext e7).chg q8 (by first | assumption | omega)).ext hy39).chg q42 (by first | assumption | omega)) (by decide) q43).mono (by omega), ((h41_1.chgBk ((((((b3.ext e4).ext e5).ext e6).ext e7).chg q8 (by first | assumption | omega)).ext hy39) (by decide) q42).chgBk ((((((b4.ext e5).ext e6).ext e7).chg q8 (by first | assumption | omega)).ext hy39).chg q42 (by first | assumption | omega)) (by decide) q43).mono (by omega)⟩
 · --
  refine O_skip rfl rfl ?_
  refine O_skip rfl rfl ?_
  refine O_skip rfl rfl ?_
  refine O_pickF rfl rfl rfl rfl ?_
  refine WL_end [(2, _), (3, _), (4, _), (5, _), (10, _), (40, _)] ⟨rfl, rfl, rfl, rfl, rfl, rfl, trivial⟩ ?_
  refine WP_condF rfl ?_
  refine WP_skip ?_
  refine WP_seq ?_
  refine WP_sub [(2, _), (3, _), (4, _), (5, _), (10, _)] ⟨rfl, rfl, rfl, rfl, rfl, trivial⟩ ?_
  refine WP_anyR 6 [2, 3, 4, 5, 10] mixed rfl (by kernel_rfl) ?_
  apply AnyR_val [10] rfl (by kernel_rfl)
  · --
   intro y44 hy44
   have zy44 := hy44.size
   refine AllV_nil ?_
   refine O_loadA (vs := [_, _]) S24 rfl rfl rfl (b8.ext hy44) rfl rfl ?_
   exact WL_nil ⟨(Ext.refl _), rfl⟩
  apply AnyR_val [2] rfl (by kernel_rfl)
  · --
   intro y45 hy45
   have zy45 := hy45.size
   refine AllV_nil ?_
   refine O_loadA (vs := [_, _]) S24 rfl rfl rfl ((((((((b1.ext e2).ext e3).ext e4).ext e5).ext e6).ext e7).chg q8 (by first | assumption | omega)).ext hy45) rfl rfl ?_
   exact WL_nil ⟨(Ext.refl _), rfl⟩
  apply AnyR_val [10] rfl (by kernel_rfl)
  · --
   intro y46 hy46
   have zy46 := hy46.size
   refine AllV_nil ?_
   refine O_loadA (vs := [_, _]) S24 rfl rfl rfl (b8.ext hy46) rfl rfl ?_
   exact WL_nil ⟨(Ext.refl _), rfl⟩
  apply AnyR_val [3] rfl (by kernel_rfl)
  · --
   intro y47 hy47
   have zy47 := hy47.size
   refine AllV_nil ?_
   refine O_loadA (vs := [_, _]) S24 rfl rfl rfl (((((((b2.ext e3).ext e4).ext e5).ext e6).ext e7).chg q8 (by first | assumption | omega)).ext hy47) rfl rfl ?_
   exact WL_nil ⟨(Ext.refl _), rfl⟩
  apply AnyR_rel (RelP (pAgg [pEq _, pNo w8.heap.size 111 _])) [46, 47] rfl (RelP.mono (pAgg_mono (PsM.cons pEq_mono (PsM.cons pNo_mono PsM.nil)))) (by kernel_rfl)
  · --
   intro y48 hy48
   have zy48 := hy48.size
   refine AllV_v ?_
   refine AllV_v ?_
   refine AllV_nil ?_
   refine O_call enters80 rfl rfl rfl (rimul_c rfl (((hq6.ext e7).chgBk b7 (by decide) q8).ext hy48).nl rfl (hy.ext (e8.trans hy48)) (by (try simp only [lens]); omega) (by (try simp only [lens]); omega)) (fun v49 w49 e49 h49 => ?_)
   have z49 := e49.size
   try simp only [val_dig] at h49
   obtain ⟨q49, rfl, hq49⟩ := h49
   exact WL_nil ⟨e49, _, rfl, ⟨_, rfl, (AllP.cons rfl (AllP.cons (hq49.mono (by omega)) AllP.nil))⟩⟩
  apply AnyR_rel (RelP (pAgg [pEq _, pNo w8.heap.size 111 _])) [45, 48] rfl (RelP.mono (pAgg_mono (PsM.cons pEq_mono (PsM.cons pNo_mono PsM.nil)))) (by kernel_rfl)
  · --
   intro y50 hy50
   have zy50 := hy50.size
   refine AllV_v ?_
   refine AllV_r fun a51 b51 v51 la51 lb51 lc51 h51 ap51 => ?_
   clear ap51
   obtain ⟨_, rfl, v51_0, _, rfl, rfl, v51_1, _, rfl, h51_1, rfl⟩ := h51
   refine AllV_nil ?_
   refine O_call enters128 rfl rfl rfl (risub_c rfl (hx.ext (e8.trans hy50)) rfl h51_1.nl (by (try simp only [lens]); omega) (by (try simp only [lens]); omega)) (fun v52 w52 e52 h52 => ?_)
   have z52 := e52.size
   try simp only [val_dig] at h52
   obtain ⟨q52, rfl, hq52⟩ := h52
   exact WL_nil ⟨e52, _, rfl, ⟨_, rfl, (AllP.cons rfl (AllP.cons (hq52.mono (by omega)) AllP.nil))⟩⟩
  refine AnyR_nil fun y53 hy53 => ?_
  have zy53 := hy53.size
  refine AllV_v ?_
  refine AllV_v ?_
  refine AllV_v ?_
  refine AllV_v ?_
  refine AllV_r fun a54 b54 v54 la54 lb54 lc54 h54 ap54 => ?_
  clear ap54
  obtain ⟨_, rfl, v54_0, _, rfl, rfl, v54_1, _, rfl, h54_1, rfl⟩ := h54
  refine AllV_r fun a55 b55 v55 la55 lb55 lc55 h55 ap55 => ?_
  clear ap55
  obtain ⟨_, rfl, v55_0, _, rfl, rfl, v55_1, _, rfl, h55_1, rfl⟩ := h55
  refine AllV_nil ?_
  refine O_storeA (cs' := [_, _]) S24 rfl rfl rfl ((((((b3.ext e4).ext e5).ext e6).ext e7).chg q8 (by first | assumption | omega)).ext hy53) rfl rfl (one_cons rfl (one_cons ((((hq6.ext e7).chgBk b7 (by decide) q8).ext hy53).nl).one one_nil)) rfl (fun w56 b56 q56 => ?_)
  have z56 := Nat.le_of_eq q56.size.symm
  have e56 : Ext w w56 := q56.ext (e8.trans hy53) (by omega)
  refine O_storeA (cs' := [_, _]) S24 rfl rfl rfl ((((((b4.ext e5).ext e6).ext e7).chg q8 (by first | assumption | omega)).ext hy53).chg q56 (by first | assumption | omega)) rfl rfl (one_cons rfl (one_cons ((h55_1.chgBk ((((((b3.ext e4).ext e5).ext e6).ext e7).chg q8 (by first | assumption | omega)).ext hy53) (by decide) q56).nl).one one_nil)) rfl (fun w57 b57 q57 => ?_)
  have z57 := Nat.le_of_eq q57.size.symm
  have e57 : Ext w w57 := q57.ext e56 (by omega)
  refine O_assign rfl rfl rfl ?_
  refine WL_end [(4, _), (5, _), (6, _)] ⟨rfl, rfl, rfl, trivial⟩ ?_
  refine WP_ret ?_
  refine retL Tryd.results121 (.cell rfl S24 (b56.chg q57 (by first | assumption | omega)) rfl (.cell rfl S24 b57 rfl (.tmp rfl .nil))) ?_
  have e1 : Q = idq x y := by unfold idq; rw [if_neg h0, if_neg (fun h => by rw [hds, g36] at h; cases h.1), ← hQ, hds]
  rw [← e1]
  exact ⟨_, rfl, e57, _, _, rfl, (((((hq6.ext e7).chgBk b7 (by decide) q8).ext hy53).chgBk ((((((b3.ext e4).ext e5).ext e6).ext e7).chg q8 (by first | assumption | omega)).ext hy53) (by decide) q56).chgBk ((((((b4.ext e5).ext e6).ext e7).chg q8 (by first | assumption | omega)).ext hy53).chg q56 (by first | assumption | omega)) (by decide) q57).mono (by omega), ((h55_1.chgBk ((((((b3.ext e4).ext e5).ext e6).ext e7).chg q8 (by first | assumption | omega)).ext hy53) (by decide) q56).chgBk ((((((b4.ext e5).ext e6).ext e7).chg q8 (by first | assumption | omega)).ext hy53).chg q56 (by first | assumption | omega)) (by decide) q57).mono (by omega)⟩

theorem floorrat1_p {w : World} {vp vq : Value} {p : Int} {m : Nat} {q : Nat} {bp : Bool} {gA gB : Nat} (hA : Bk w gA 40 [.bool bp, vp, vq]) (hB : Bk w gB 3 [.int .i64 (m : Nat)]) (hbp : bp = decide (p < 0)) (hp : Nl w vp (dig p.natAbs)) (hq : Nl w vq (dig q)) (hlp : (dig p.natAbs).length ≤ 9000) (hlq : (dig q).length ≤ 9000) (hq0 : q ≠ 0) (hm : m ≤ 9000) :
    Calls Tryd.prog 86 #[.pointer (some ⟨gA, 0, none⟩), .pointer (some ⟨gB, 0, none⟩)] w (Ret w fun r w' => ∃ qv, r = .agg #[.bool (decide ((cutq p q (m : Int)) < 0)), qv] ∧ No w.heap.size 111 w' qv (dig (cutq p q (m : Int)).natAbs)) := by
 subst hbp
 have hqI : (dig (q : Int).natAbs).length ≤ 9000 := by rw [Int.natAbs_natCast]; exact hlq
 have hqp : (0 : Int) < (q : Nat) := by omega
 have hS1 := shl_len' (k := m) hlp
 have hT2 := dig_len_two m
 have hS2 := dig_len_mul q (2 ^ m)
 have hS3 : (dig ((q * 2 ^ m : Nat) : Int).natAbs).length ≤ 20000 := by rw [Int.natAbs_natCast]; omega
 have hn0 : ((q * 2 ^ m : Nat) : Int) ≠ 0 := by have := Nat.mul_pos (Nat.pos_of_ne_zero hq0) (Nat.two_pow_pos m); omega
 have hn1 : (q : Int) ≠ 0 := by omega
 refine enter (args := [_, _]) Tryd.func86 rfl Tryd.ntmps86 rfl ?_
 refine WP_seq ?_
 refine WP_region ?_
 refine O_alloc S24 rfl rfl (fun g1 w1 b1 e1 gl1 gh1 => ?_)
 have z1 := e1.size
 refine WL_end [(0, _), (1, _), (2, _)] ⟨rfl, rfl, rfl, trivial⟩ ?_
 refine WP_seq ?_
 refine WP_sub [(0, _), (1, _), (2, _)] ⟨rfl, rfl, rfl, trivial⟩ ?_
 refine WP_anyR 7 [0, 1, 2] mixed rfl (by kernel_rfl) ?_
 apply AnyR_val [0] rfl (by kernel_rfl)
 · --
  intro y2 hy2
  have zy2 := hy2.size
  refine AllV_nil ?_
  refine O_field F40_0 rfl rfl rfl ?_
  exact WL_nil ⟨(Ext.refl _), rfl⟩
 apply AnyR_val [8] rfl (by kernel_rfl)
 · --
  intro y3 hy3
  have zy3 := hy3.size
  refine AllV_v ?_
  refine AllV_nil ?_
  refine O_loadA (vs := [_, _]) S24 rfl rfl rfl (hA.ext (e1.trans hy3)) rfl rfl ?_
  exact WL_nil ⟨(Ext.refl _), rfl⟩
 apply AnyR_val [0] rfl (by kernel_rfl)
 · --
  intro y4 hy4
  have zy4 := hy4.size
  refine AllV_nil ?_
  refine O_field F40_1 rfl rfl rfl ?_
  exact WL_nil ⟨(Ext.refl _), rfl⟩
 apply AnyR_val [10] rfl (by kernel_rfl)
 · --
  intro y5 hy5
  have zy5 := hy5.size
  refine AllV_v ?_
  refine AllV_nil ?_
  refine O_loadC Tryd.underlying22 rfl rfl rfl rfl (hA.ext (e1.trans hy5)) rfl ?_
  exact WL_nil ⟨(Ext.refl _), rfl⟩
 apply AnyR_rel (RelP (pAgg [pEq _, pNo w1.heap.size 111 _])) [11] rfl (RelP.mono (pAgg_mono (PsM.cons pEq_mono (PsM.cons pNo_mono PsM.nil)))) (by kernel_rfl)
 · --
  intro y6 hy6
  have zy6 := hy6.size
  refine AllV_v ?_
  refine AllV_nil ?_
  refine O_call enters87 rfl rfl rfl (inat_c (hq.ext (e1.trans hy6)) (by (try simp only [lens]); omega)) (fun v7 w7 e7 h7 => ?_)
  have z7 := e7.size
  try simp only [val_dig] at h7
  obtain ⟨q7, rfl, hq7⟩ := h7
  simp only [mkf] at hq7 ⊢
  exact WL_nil ⟨e7, _, rfl, ⟨_, rfl, (AllP.cons rfl (AllP.cons (hq7.mono (by omega)) AllP.nil))⟩⟩
 apply AnyR_rel (BkR _ _) [] rfl BkR.mono (by kernel_rfl)
 · --
  intro y8 hy8
  have zy8 := hy8.size
  refine AllV_nil ?_
  refine O_alloc S24 rfl rfl (fun g9 w9 b9 e9 gl9 gh9 => ?_)
  have z9 := e9.size
  exact WL_nil ⟨e9, _, rfl, _, rfl, gl9, gh9, b9⟩
 apply AnyR_rel (BkR _ _) [] rfl BkR.mono (by kernel_rfl)
 · --
  intro y10 hy10
  have zy10 := hy10.size
  refine AllV_nil ?_
  refine O_alloc S24 rfl rfl (fun g11 w11 b11 e11 gl11 gh11 => ?_)
  have z11 := e11.size
  exact WL_nil ⟨e11, _, rfl, _, rfl, gl11, gh11, b11⟩
 refine AnyR_nil fun y12 hy12 => ?_
 have zy12 := hy12.size
 refine AllV_v ?_
 refine AllV_v ?_
 refine AllV_v ?_
 refine AllV_v ?_
 refine AllV_r fun a13 b13 v13 la13 lb13 lc13 h13 ap13 => ?_
 clear ap13
 obtain ⟨_, rfl, v13_0, _, rfl, rfl, v13_1, _, rfl, h13_1, rfl⟩ := h13
 refine AllV_r fun a14 b14 v14 la14 lb14 lc14 h14 ap14 => ?_
 clear ap14
 obtain ⟨g14, rfl, gl14, gh14, b14⟩ := h14
 refine AllV_r fun a15 b15 v15 la15 lb15 lc15 h15 ap15 => ?_
 obtain ⟨p15_14, -, -⟩ := ap15
 obtain ⟨g15, rfl, gl15, gh15, b15⟩ := h15
 have ne15_14 := ap_ne p15_14 gl15 gh15 gl14 gh14
 have ne14_15 := ne15_14.symm
 clear p15_14
 refine AllV_nil ?_
 refine O_storeA (cs' := [_, _]) S24 rfl rfl rfl b14 rfl rfl (one_cons rfl (one_cons ((hp.ext (e1.trans hy12))).one one_nil)) rfl (fun w16 b16 q16 => ?_)
 have z16 := Nat.le_of_eq q16.size.symm
 have e16 : Ext w w16 := q16.ext (e1.trans hy12) (by omega)
 refine O_storeA (cs' := [_, _]) S24 rfl rfl rfl (b15.chg q16 (by first | assumption | omega)) rfl rfl (one_cons rfl (one_cons ((h13_1.chgBk b14 (by decide) q16).nl).one one_nil)) rfl (fun w17 b17 q17 => ?_)
 have z17 := Nat.le_of_eq q17.size.symm
 have e17 : Ext w w17 := q17.ext e16 (by omega)
 refine WL_end [(0, _), (1, _), (2, _), (3, _), (4, _)] ⟨rfl, rfl, rfl, rfl, rfl, trivial⟩ ?_
 refine WP_seq ?_
 refine WP_seq ?_
 refine WP_region ?_
 refine O_loadC Tryd.underlying3 rfl rfl rfl rfl (hB.ext e17) rfl ?_
 refine O_geq (t := true) rfl rfl rfl rfl (decide_eq_true (by omega)) ?_
 refine WL_end [(0, _), (1, _), (2, _), (3, _), (4, _), (14, _)] ⟨rfl, rfl, rfl, rfl, rfl, rfl, trivial⟩ ?_
 refine WP_condT rfl ?_
 refine WP_region ?_
 refine O_loadA (vs := [_, _]) S24 rfl rfl rfl (b16.chg q17 (by first | assumption | omega)) rfl rfl ?_
 refine O_loadC Tryd.underlying3 rfl rfl rfl rfl (hB.ext e17) rfl ?_
 refine O_call enters88 rfl rfl rfl (ishl_c rfl (hp.ext e17) (by (try simp only [lens]); omega) (by (try simp only [lens]); omega)) (fun v18 w18 e18 h18 => ?_)
 have z18 := e18.size
 try simp only [val_dig] at h18
 obtain ⟨q18, rfl, hq18⟩ := h18
 refine O_storeA (cs' := [_, _]) S24 rfl rfl rfl ((b16.chg q17 (by first | assumption | omega)).ext e18) rfl rfl (one_cons rfl (one_cons (hq18.nl).one one_nil)) rfl (fun w19 b19 q19 => ?_)
 have z19 := Nat.le_of_eq q19.size.symm
 have e19 : Ext w w19 := q19.ext (e17.trans e18) (by omega)
 refine WL_end [(2, _), (3, _), (4, _)] ⟨rfl, rfl, rfl, trivial⟩ ?_
 refine WP_seq ?_
 refine WP_region ?_
 refine O_loadA (vs := [_, _]) S24 rfl rfl rfl b19 rfl rfl ?_
 refine O_loadA (vs := [_, _]) S24 rfl rfl rfl ((b17.ext e18).chg q19 (by first | assumption | omega)) rfl rfl ?_
 refine O_call enters90 rfl rfl rfl (idivmod_T rfl (hq18.chgBk ((b16.chg q17 (by first | assumption | omega)).ext e18) (by decide) q19).nl rfl ((((h13_1.chgBk b14 (by decide) q16).chgBk (b15.chg q16 (by first | assumption | omega)) (by decide) q17).ext e18).chgBk ((b16.chg q17 (by first | assumption | omega)).ext e18) (by decide) q19).nl (by (try simp only [lens]); omega) (by (try simp only [lens]); omega) (by first | assumption | decide | omega)) (fun v20 w20 e20 h20 => ?_)
 have z20 := e20.size
 try simp only [val_dig] at h20
 obtain ⟨q20, s20, rfl, hq20, hs20⟩ := h20
 refine O_move rfl rfl rfl ?_
 refine O_extract rfl rfl rfl rfl ?_
 refine O_extract rfl rfl rfl rfl ?_
 refine O_extract rfl rfl rfl rfl ?_
 refine O_alloc S24 rfl rfl (fun g21 w21 b21 e21 gl21 gh21 => ?_)
 have z21 := e21.size
 refine O_alloc S24 rfl rfl (fun g22 w22 b22 e22 gl22 gh22 => ?_)
 have z22 := e22.size
 refine O_storeA (cs' := [_, _]) S24 rfl rfl rfl (b21.ext e22) rfl rfl (one_cons rfl (one_cons (((hq20.ext e21).ext e22).nl).one one_nil)) rfl (fun w23 b23 q23 => ?_)
 have z23 := Nat.le_of_eq q23.size.symm
 have e23 : Ext w w23 := q23.ext (((e19.trans e20).trans e21).trans e22) (by omega)
 refine O_storeA (cs' := [_, _]) S24 rfl rfl rfl (b22.chg q23 (by first | assumption | omega)) rfl rfl (one_cons rfl (one_cons ((((hs20.ext e21).ext e22).chgBk (b21.ext e22) (by decide) q23).nl).one one_nil)) rfl (fun w24 b24 q24 => ?_)
 have z24 := Nat.le_of_eq q24.size.symm
 have e24 : Ext w w24 := q24.ext e23 (by omega)
 refine O_assign rfl rfl rfl ?_
 refine WL_end [(2, _), (5, _)] ⟨rfl, rfl, trivial⟩ ?_
 refine WP_seq ?_
 refine WP_region ?_
 refine O_loadA (vs := [_, _]) S24 rfl rfl rfl (b23.chg q24 (by first | assumption | omega)) rfl rfl ?_
 refine O_storeA (cs' := [_, _]) S24 rfl rfl rfl ((((((((((b1.ext hy12).chg q16 (by first | assumption | omega)).chg q17 (by first | assumption | omega)).ext e18).chg q19 (by first | assumption | omega)).ext e20).ext e21).ext e22).chg q23 (by first | assumption | omega)).chg q24 (by first | assumption | omega)) rfl rfl (one_cons rfl (one_cons (((((hq20.ext e21).ext e22).chgBk (b21.ext e22) (by decide) q23).chgBk (b22.chg q23 (by first | assumption | omega)) (by decide) q24).nl).one one_nil)) rfl (fun w25 b25 q25 => ?_)
 have z25 := Nat.le_of_eq q25.size.symm
 have e25 : Ext w w25 := q25.ext e24 (by omega)
 refine WL_end [(2, _)] ⟨rfl, trivial⟩ ?_
 refine WP_ret ?_
 refine retL Tryd.results86 (.cell rfl S24 b25 rfl .nil) ?_
 have hz : idq (p * 2 ^ m) (q : Int) = cutq p q (m : Int) := by unfold cutq; rw [if_neg (by omega), idq_pos hqp, Int.toNat_natCast]
 rw [← hz]
 exact ⟨_, rfl, e25, _, rfl, (((((hq20.ext e21).ext e22).chgBk (b21.ext e22) (by decide) q23).chgBk (b22.chg q23 (by first | assumption | omega)) (by decide) q24).chgBk ((((((((((b1.ext hy12).chg q16 (by first | assumption | omega)).chg q17 (by first | assumption | omega)).ext e18).chg q19 (by first | assumption | omega)).ext e20).ext e21).ext e22).chg q23 (by first | assumption | omega)).chg q24 (by first | assumption | omega)) (by decide) q25).mono (by omega)⟩
theorem floorrat1_n {w : World} {vp vq : Value} {p : Int} {m : Nat} {q : Nat} {bp : Bool} {gA gB : Nat} (hA : Bk w gA 40 [.bool bp, vp, vq]) (hB : Bk w gB 3 [.int .i64 (-((m : Nat) : Int))]) (hbp : bp = decide (p < 0)) (hp : Nl w vp (dig p.natAbs)) (hq : Nl w vq (dig q)) (hlp : (dig p.natAbs).length ≤ 9000) (hlq : (dig q).length ≤ 9000) (hq0 : q ≠ 0) (hm : m ≤ 9000) (hm0 : 0 < m) :
    Calls Tryd.prog 86 #[.pointer (some ⟨gA, 0, none⟩), .pointer (some ⟨gB, 0, none⟩)] w (Ret w fun r w' => ∃ qv, r = .agg #[.bool (decide ((cutq p q (-(m : Int))) < 0)), qv] ∧ No w.heap.size 111 w' qv (dig (cutq p q (-(m : Int))).natAbs)) := by
 subst hbp
 have hqI : (dig (q : Int).natAbs).length ≤ 9000 := by rw [Int.natAbs_natCast]; exact hlq
 have hqp : (0 : Int) < (q : Nat) := by omega
 have hS1 := shl_len' (k := m) hlp
 have hT2 := dig_len_two m
 have hS2 := dig_len_mul q (2 ^ m)
 have hS3 : (dig ((q * 2 ^ m : Nat) : Int).natAbs).length ≤ 20000 := by rw [Int.natAbs_natCast]; omega
 have hn0 : ((q * 2 ^ m : Nat) : Int) ≠ 0 := by have := Nat.mul_pos (Nat.pos_of_ne_zero hq0) (Nat.two_pow_pos m); omega
 have hn1 : (q : Int) ≠ 0 := by omega
 refine enter (args := [_, _]) Tryd.func86 rfl Tryd.ntmps86 rfl ?_
 refine WP_seq ?_
 refine WP_region ?_
 refine O_alloc S24 rfl rfl (fun g1 w1 b1 e1 gl1 gh1 => ?_)
 have z1 := e1.size
 refine WL_end [(0, _), (1, _), (2, _)] ⟨rfl, rfl, rfl, trivial⟩ ?_
 refine WP_seq ?_
 refine WP_sub [(0, _), (1, _), (2, _)] ⟨rfl, rfl, rfl, trivial⟩ ?_
 refine WP_anyR 7 [0, 1, 2] mixed rfl (by kernel_rfl) ?_
 apply AnyR_val [0] rfl (by kernel_rfl)
 · --
  intro y2 hy2
  have zy2 := hy2.size
  refine AllV_nil ?_
  refine O_field F40_0 rfl rfl rfl ?_
  exact WL_nil ⟨(Ext.refl _), rfl⟩
 apply AnyR_val [8] rfl (by kernel_rfl)
 · --
  intro y3 hy3
  have zy3 := hy3.size
  refine AllV_v ?_
  refine AllV_nil ?_
  refine O_loadA (vs := [_, _]) S24 rfl rfl rfl (hA.ext (e1.trans hy3)) rfl rfl ?_
  exact WL_nil ⟨(Ext.refl _), rfl⟩
 apply AnyR_val [0] rfl (by kernel_rfl)
 · --
  intro y4 hy4
  have zy4 := hy4.size
  refine AllV_nil ?_
  refine O_field F40_1 rfl rfl rfl ?_
  exact WL_nil ⟨(Ext.refl _), rfl⟩
 apply AnyR_val [10] rfl (by kernel_rfl)
 · --
  intro y5 hy5
  have zy5 := hy5.size
  refine AllV_v ?_
  refine AllV_nil ?_
  refine O_loadC Tryd.underlying22 rfl rfl rfl rfl (hA.ext (e1.trans hy5)) rfl ?_
  exact WL_nil ⟨(Ext.refl _), rfl⟩
 apply AnyR_rel (RelP (pAgg [pEq _, pNo w1.heap.size 111 _])) [11] rfl (RelP.mono (pAgg_mono (PsM.cons pEq_mono (PsM.cons pNo_mono PsM.nil)))) (by kernel_rfl)
 · --
  intro y6 hy6
  have zy6 := hy6.size
  refine AllV_v ?_
  refine AllV_nil ?_
  refine O_call enters87 rfl rfl rfl (inat_c (hq.ext (e1.trans hy6)) (by (try simp only [lens]); omega)) (fun v7 w7 e7 h7 => ?_)
  have z7 := e7.size
  try simp only [val_dig] at h7
  obtain ⟨q7, rfl, hq7⟩ := h7
  simp only [mkf] at hq7 ⊢
  exact WL_nil ⟨e7, _, rfl, ⟨_, rfl, (AllP.cons rfl (AllP.cons (hq7.mono (by omega)) AllP.nil))⟩⟩
 apply AnyR_rel (BkR _ _) [] rfl BkR.mono (by kernel_rfl)
 · --
  intro y8 hy8
  have zy8 := hy8.size
  refine AllV_nil ?_
  refine O_alloc S24 rfl rfl (fun g9 w9 b9 e9 gl9 gh9 => ?_)
  have z9 := e9.size
  exact WL_nil ⟨e9, _, rfl, _, rfl, gl9, gh9, b9⟩
 apply AnyR_rel (BkR _ _) [] rfl BkR.mono (by kernel_rfl)
 · --
  intro y10 hy10
  have zy10 := hy10.size
  refine AllV_nil ?_
  refine O_alloc S24 rfl rfl (fun g11 w11 b11 e11 gl11 gh11 => ?_)
  have z11 := e11.size
  exact WL_nil ⟨e11, _, rfl, _, rfl, gl11, gh11, b11⟩
 refine AnyR_nil fun y12 hy12 => ?_
 have zy12 := hy12.size
 refine AllV_v ?_
 refine AllV_v ?_
 refine AllV_v ?_
 refine AllV_v ?_
 refine AllV_r fun a13 b13 v13 la13 lb13 lc13 h13 ap13 => ?_
 clear ap13
 obtain ⟨_, rfl, v13_0, _, rfl, rfl, v13_1, _, rfl, h13_1, rfl⟩ := h13
 refine AllV_r fun a14 b14 v14 la14 lb14 lc14 h14 ap14 => ?_
 clear ap14
 obtain ⟨g14, rfl, gl14, gh14, b14⟩ := h14
 refine AllV_r fun a15 b15 v15 la15 lb15 lc15 h15 ap15 => ?_
 obtain ⟨p15_14, -, -⟩ := ap15
 obtain ⟨g15, rfl, gl15, gh15, b15⟩ := h15
 have ne15_14 := ap_ne p15_14 gl15 gh15 gl14 gh14
 have ne14_15 := ne15_14.symm
 clear p15_14
 refine AllV_nil ?_
 refine O_storeA (cs' := [_, _]) S24 rfl rfl rfl b14 rfl rfl (one_cons rfl (one_cons ((hp.ext (e1.trans hy12))).one one_nil)) rfl (fun w16 b16 q16 => ?_)
 have z16 := Nat.le_of_eq q16.size.symm
 have e16 : Ext w w16 := q16.ext (e1.trans hy12) (by omega)
 refine O_storeA (cs' := [_, _]) S24 rfl rfl rfl (b15.chg q16 (by first | assumption | omega)) rfl rfl (one_cons rfl (one_cons ((h13_1.chgBk b14 (by decide) q16).nl).one one_nil)) rfl (fun w17 b17 q17 => ?_)
 have z17 := Nat.le_of_eq q17.size.symm
 have e17 : Ext w w17 := q17.ext e16 (by omega)
 refine WL_end [(0, _), (1, _), (2, _), (3, _), (4, _)] ⟨rfl, rfl, rfl, rfl, rfl, trivial⟩ ?_
 refine WP_seq ?_
 refine WP_seq ?_
 refine WP_region ?_
 refine O_loadC Tryd.underlying3 rfl rfl rfl rfl (hB.ext e17) rfl ?_
 refine O_geq (t := false) rfl rfl rfl rfl (decide_eq_false (by omega)) ?_
 refine WL_end [(0, _), (1, _), (2, _), (3, _), (4, _), (14, _)] ⟨rfl, rfl, rfl, rfl, rfl, rfl, trivial⟩ ?_
 refine WP_condF rfl ?_
 refine WP_region ?_
 refine O_field F40_1 rfl rfl rfl ?_
 refine O_loadC Tryd.underlying22 rfl rfl rfl rfl (hA.ext e17) rfl ?_
 refine O_loadC Tryd.underlying3 rfl rfl rfl rfl (hB.ext e17) rfl ?_
 refine O_neg (r := ((m : Nat) : Int)) rfl rfl rfl (by rw [IntKind.wrap_i64]; omega) ?_
 refine O_call enters89 rfl rfl rfl (shl_c (hq.ext e17) (by (try simp only [lens]); omega) (by (try simp only [lens]); omega)) (fun v18 w18 e18 h18 => ?_)
 have z18 := e18.size
 try simp only [val_dig] at h18
 refine O_call enters87 rfl rfl rfl (inat_c h18.nl (by (try simp only [lens]); omega)) (fun v19 w19 e19 h19 => ?_)
 have z19 := e19.size
 try simp only [val_dig] at h19
 obtain ⟨q19, rfl, hq19⟩ := h19
 simp only [mkf] at hq19 ⊢
 refine O_storeA (cs' := [_, _]) S24 rfl rfl rfl ((b17.ext e18).ext e19) rfl rfl (one_cons rfl (one_cons (hq19.nl).one one_nil)) rfl (fun w20 b20 q20 => ?_)
 have z20 := Nat.le_of_eq q20.size.symm
 have e20 : Ext w w20 := q20.ext ((e17.trans e18).trans e19) (by omega)
 refine WL_end [(2, _), (3, _), (4, _)] ⟨rfl, rfl, rfl, trivial⟩ ?_
 refine WP_seq ?_
 refine WP_region ?_
 refine O_loadA (vs := [_, _]) S24 rfl rfl rfl ((((b16.chg q17 (by first | assumption | omega)).ext e18).ext e19).chg q20 (by first | assumption | omega)) rfl rfl ?_
 refine O_loadA (vs := [_, _]) S24 rfl rfl rfl b20 rfl rfl ?_
 refine O_call enters90 rfl rfl rfl (idivmod_T rfl (hp.ext e20) rfl (hq19.chgBk ((b17.ext e18).ext e19) (by decide) q20).nl (by (try simp only [lens]); omega) (by (try simp only [lens]); omega) (by first | assumption | decide | omega)) (fun v21 w21 e21 h21 => ?_)
 have z21 := e21.size
 try simp only [val_dig] at h21
 obtain ⟨q21, s21, rfl, hq21, hs21⟩ := h21
 refine O_move rfl rfl rfl ?_
 refine O_extract rfl rfl rfl rfl ?_
 refine O_extract rfl rfl rfl rfl ?_
 refine O_extract rfl rfl rfl rfl ?_
 refine O_alloc S24 rfl rfl (fun g22 w22 b22 e22 gl22 gh22 => ?_)
 have z22 := e22.size
 refine O_alloc S24 rfl rfl (fun g23 w23 b23 e23 gl23 gh23 => ?_)
 have z23 := e23.size
 refine O_storeA (cs' := [_, _]) S24 rfl rfl rfl (b22.ext e23) rfl rfl (one_cons rfl (one_cons (((hq21.ext e22).ext e23).nl).one one_nil)) rfl (fun w24 b24 q24 => ?_)
 have z24 := Nat.le_of_eq q24.size.symm
 have e24 : Ext w w24 := q24.ext (((e20.trans e21).trans e22).trans e23) (by omega)
 refine O_storeA (cs' := [_, _]) S24 rfl rfl rfl (b23.chg q24 (by first | assumption | omega)) rfl rfl (one_cons rfl (one_cons ((((hs21.ext e22).ext e23).chgBk (b22.ext e23) (by decide) q24).nl).one one_nil)) rfl (fun w25 b25 q25 => ?_)
 have z25 := Nat.le_of_eq q25.size.symm
 have e25 : Ext w w25 := q25.ext e24 (by omega)
 refine O_assign rfl rfl rfl ?_
 refine WL_end [(2, _), (5, _)] ⟨rfl, rfl, trivial⟩ ?_
 refine WP_seq ?_
 refine WP_region ?_
 refine O_loadA (vs := [_, _]) S24 rfl rfl rfl (b24.chg q25 (by first | assumption | omega)) rfl rfl ?_
 refine O_storeA (cs' := [_, _]) S24 rfl rfl rfl (((((((((((b1.ext hy12).chg q16 (by first | assumption | omega)).chg q17 (by first | assumption | omega)).ext e18).ext e19).chg q20 (by first | assumption | omega)).ext e21).ext e22).ext e23).chg q24 (by first | assumption | omega)).chg q25 (by first | assumption | omega)) rfl rfl (one_cons rfl (one_cons (((((hq21.ext e22).ext e23).chgBk (b22.ext e23) (by decide) q24).chgBk (b23.chg q24 (by first | assumption | omega)) (by decide) q25).nl).one one_nil)) rfl (fun w26 b26 q26 => ?_)
 have z26 := Nat.le_of_eq q26.size.symm
 have e26 : Ext w w26 := q26.ext e25 (by omega)
 refine WL_end [(2, _)] ⟨rfl, trivial⟩ ?_
 refine WP_ret ?_
 refine retL Tryd.results86 (.cell rfl S24 b26 rfl .nil) ?_
 have hz : idq p ((q * 2 ^ m : Nat) : Int) = cutq p q (-(m : Int)) := by unfold cutq; rw [if_pos (by omega), idq_pos (by have := Nat.mul_pos (Nat.pos_of_ne_zero hq0) (Nat.two_pow_pos m); omega), Int.neg_neg, Int.toNat_natCast]
 rw [← hz]
 exact ⟨_, rfl, e26, _, rfl, (((((hq21.ext e22).ext e23).chgBk (b22.ext e23) (by decide) q24).chgBk (b23.chg q24 (by first | assumption | omega)) (by decide) q25).chgBk (((((((((((b1.ext hy12).chg q16 (by first | assumption | omega)).chg q17 (by first | assumption | omega)).ext e18).ext e19).chg q20 (by first | assumption | omega)).ext e21).ext e22).ext e23).chg q24 (by first | assumption | omega)).chg q25 (by first | assumption | omega)) (by decide) q26).mono (by omega)⟩

theorem floorrat1_c {w : World} {vp vq : Value} {p k : Int} {q : Nat} {bp : Bool} {gA gB : Nat} (hA : Bk w gA 40 [.bool bp, vp, vq]) (hB : Bk w gB 3 [.int .i64 k]) (hbp : bp = decide (p < 0)) (hp : Nl w vp (dig p.natAbs)) (hq : Nl w vq (dig q)) (hlp : (dig p.natAbs).length ≤ 9000) (hlq : (dig q).length ≤ 9000) (hq0 : q ≠ 0) (hpm : perm k) : Calls Tryd.prog 86 #[.pointer (some ⟨gA, 0, none⟩), .pointer (some ⟨gB, 0, none⟩)] w (Ret w fun r w' => ∃ qv, r = .agg #[.bool (decide ((cutq p q k) < 0)), qv] ∧ No w.heap.size 111 w' qv (dig (cutq p q k).natAbs)) := by
  unfold perm at hpm
  by_cases h0 : 0 ≤ k
  · obtain ⟨m, rfl⟩ : ∃ m : Nat, k = (m : Int) := ⟨k.toNat, by omega⟩
    exact floorrat1_p hA hB hbp hp hq hlp hlq hq0 (by omega)
  · obtain ⟨m, rfl⟩ : ∃ m : Nat, k = -(m : Int) := ⟨(-k).toNat, by omega⟩
    exact floorrat1_n hA hB hbp hp hq hlp hlq hq0 (by omega) (by omega)

theorem gfloorrat_T {w : World} {vp vq : Value} {p k : Int} {q : Nat} {bp : Bool} (hbp : bp = decide (p < 0)) (hp : Nl w vp (dig p.natAbs)) (hq : Nl w vq (dig q)) (hlp : (dig p.natAbs).length ≤ 9000) (hlq : (dig q).length ≤ 9000) (hq0 : q ≠ 0) (hpm : perm k) (hT : Tab w) :
    Calls Tryd.prog 33 #[.agg #[.bool bp, vp, vq], .int .i64 k] w (Ret w fun r w' => ∃ qv, r = .tuple #[.agg #[.bool (decide ((dman (cutq p q k) (-k)) < 0)), qv, .int .i64 (dexp (cutq p q k) (-k))], .int .i64 (dcode (cutq p q k) (-k))] ∧ No w.heap.size 111 w' qv (dig (dman (cutq p q k) (-k)).natAbs)) := by
 subst hbp
 have hpk := hpm
 unfold perm at hpk
 have hlS := cutq_len (k := k) (m := 9000) hlp (by decide) hq0 (by omega)
 refine enter (args := [_, _]) Tryd.func33 rfl Tryd.ntmps33 rfl ?_
 refine WP_seq ?_
 refine WP_region ?_
 refine O_box _ rfl rfl rfl rfl (fun g1 w1 b1 e1 gl1 gh1 => ?_)
 have z1 := e1.size
 refine O_box _ rfl rfl rfl rfl (fun g2 w2 b2 e2 gl2 gh2 => ?_)
 have z2 := e2.size
 refine O_alloc S26 rfl rfl (fun g3 w3 b3 e3 gl3 gh3 => ?_)
 have z3 := e3.size
 refine O_assign rfl rfl rfl ?_
 refine WL_end [(2, _), (3, _), (4, _)] ⟨rfl, rfl, rfl, trivial⟩ ?_
 refine WP_seq ?_
 refine WP_region ?_
 refine O_loadC Tryd.underlying3 rfl rfl rfl rfl (b2.ext e3) rfl ?_
 refine O_makeFunc rfl rfl rfl ?_
 refine O_call enters58 rfl rfl rfl (round_T (z := cutq p q k) enters86 (fun w9 he9 => floorrat1_c (((b1.ext e2).ext e3).ext he9) ((b2.ext e3).ext he9) rfl ((hp.ext ((e1.trans e2).trans e3)).ext he9) ((hq.ext ((e1.trans e2).trans e3)).ext he9) (by omega) (by omega) hq0 hpm) hpm (by (try simp only [lens]); omega) (hT.ext ((e1.trans e2).trans e3))) (fun v4 w4 e4 h4 => ?_)
 have z4 := e4.size
 try simp only [val_dig] at h4
 obtain ⟨q4, rfl, hq4⟩ := h4
 refine O_extract rfl rfl rfl rfl ?_
 refine O_extract rfl rfl rfl rfl ?_
 refine O_storeA (cs' := [_, _, _]) S26 rfl rfl rfl (b3.ext e4) rfl rfl (one_cons rfl (one_cons (hq4.nl).one (one_cons rfl one_nil))) rfl (fun w5 b5 q5 => ?_)
 have z5 := Nat.le_of_eq q5.size.symm
 have e5 : Ext w w5 := q5.ext (((e1.trans e2).trans e3).trans e4) (by omega)
 refine O_assign rfl rfl rfl ?_
 refine WL_end [(4, _), (5, _)] ⟨rfl, rfl, trivial⟩ ?_
 refine WP_ret ?_
 refine retL Tryd.results33 (.cell rfl S26 b5 rfl (.tmp rfl .nil)) ?_
 exact ⟨_, rfl, e5, _, rfl, (hq4.chgBk (b3.ext e4) (by decide) q5).mono (by omega)⟩
theorem gfloorrat_F {w : World} {vp vq : Value} {p k : Int} {q : Nat} {bp : Bool} (hbp : bp = decide (p < 0)) (hp : Nl w vp (dig p.natAbs)) (hq : Nl w vq (dig q)) (hlp : (dig p.natAbs).length ≤ 9000) (hlq : (dig q).length ≤ 9000) (hq0 : q ≠ 0) (hpm : ¬ perm k) :
    Calls Tryd.prog 33 #[.agg #[.bool bp, vp, vq], .int .i64 k] w (Ret w fun r _ => r = .tuple #[.agg #[.bool (decide ((0 : Int) < 0)), .slice none 0 0, .int .i64 (0)], .int .i64 1]) := by
 subst hbp
 refine enter (args := [_, _]) Tryd.func33 rfl Tryd.ntmps33 rfl ?_
 refine WP_seq ?_
 refine WP_region ?_
 refine O_box _ rfl rfl rfl rfl (fun g1 w1 b1 e1 gl1 gh1 => ?_)
 have z1 := e1.size
 refine O_box _ rfl rfl rfl rfl (fun g2 w2 b2 e2 gl2 gh2 => ?_)
 have z2 := e2.size
 refine O_alloc S26 rfl rfl (fun g3 w3 b3 e3 gl3 gh3 => ?_)
 have z3 := e3.size
 refine O_assign rfl rfl rfl ?_
 refine WL_end [(2, _), (3, _), (4, _)] ⟨rfl, rfl, rfl, trivial⟩ ?_
 refine WP_seq ?_
 refine WP_region ?_
 refine O_loadC Tryd.underlying3 rfl rfl rfl rfl (b2.ext e3) rfl ?_
 refine O_makeFunc rfl rfl rfl ?_
 refine O_call enters58 rfl rfl rfl (round_F hpm) (fun v4 w4 e4 h4 => ?_)
 have z4 := e4.size
 try simp only [val_dig] at h4
 obtain rfl := h4
 refine O_extract rfl rfl rfl rfl ?_
 refine O_extract rfl rfl rfl rfl ?_
 refine O_storeA (cs' := [_, _, _]) S26 rfl rfl rfl (b3.ext e4) rfl rfl (one_cons rfl (one_cons rfl (one_cons rfl one_nil))) rfl (fun w5 b5 q5 => ?_)
 have z5 := Nat.le_of_eq q5.size.symm
 have e5 : Ext w w5 := q5.ext (((e1.trans e2).trans e3).trans e4) (by omega)
 refine O_assign rfl rfl rfl ?_
 refine WL_end [(4, _), (5, _)] ⟨rfl, rfl, trivial⟩ ?_
 refine WP_ret ?_
 refine retL Tryd.results33 (.cell rfl S26 b5 rfl (.tmp rfl .nil)) ?_
 exact ⟨_, rfl, e5, rfl⟩

theorem gceilrat_T {w : World} {vp vq : Value} {p k : Int} {q : Nat} {bp : Bool} (hbp : bp = decide (p < 0)) (hp : Nl w vp (dig p.natAbs)) (hq : Nl w vq (dig q)) (hlp : (dig p.natAbs).length ≤ 9000) (hlq : (dig q).length ≤ 9000) (hq0 : q ≠ 0) (hpm : perm k) (hT : Tab w) :
    Calls Tryd.prog 34 #[.agg #[.bool bp, vp, vq], .int .i64 k] w (Ret w fun r w' => ∃ qv, r = .tuple #[.agg #[.bool (decide ((dman (-(cutq (-p) q k)) (-k)) < 0)), qv, .int .i64 (dexp (-(cutq (-p) q k)) (-k))], .int .i64 (dcode (-(cutq (-p) q k)) (-k))] ∧ No w.heap.size 111 w' qv (dig (dman (-(cutq (-p) q k)) (-k)).natAbs)) := by
 subst hbp
 have hpk := hpm
 unfold perm at hpk
 have hln := neg_len hlp
 have hlS := cutq_len (k := k) (m := 9000) hln (by decide) hq0 (by omega)
 have hlM := dman_len (e := -k) hlS
 refine enter (args := [_, _]) Tryd.func34 rfl Tryd.ntmps34 rfl ?_
 refine WP_seq ?_
 refine WP_region ?_
 refine O_box _ rfl rfl rfl rfl (fun g1 w1 b1 e1 gl1 gh1 => ?_)
 have z1 := e1.size
 refine O_alloc S26 rfl rfl (fun g2 w2 b2 e2 gl2 gh2 => ?_)
 have z2 := e2.size
 refine O_assign rfl rfl rfl ?_
 refine WL_end [(1, _), (2, _), (4, _)] ⟨rfl, rfl, rfl, trivial⟩ ?_
 refine WP_seq ?_
 refine WP_sub [(1, _), (2, _), (4, _)] ⟨rfl, rfl, rfl, trivial⟩ ?_
 have hS3n : ∀ g T, (g, T) ∈ (⟨[], [(26, 3)], (w2).heap.size⟩ : SS) → 111 ≠ T.1 := by
   intro g T hm; rw [mem_SS] at hm; simp only [List.mem_cons, Prod.mk.injEq, List.not_mem_nil, or_false, false_or, and_false] at hm
   rcases hm with ⟨_, rfl⟩
   · decide
 refine WP_anySR (⟨[], [(26, 3)], (w2).heap.size⟩ : SS) 13 [1, 2, 4] mixed rfl (by kernel_rfl) (Nat.le_refl _) ?_
 apply AnySR_val [2] rfl (by kernel_rfl)
 · --
  intro y4 hy4
  have zy4 := hy4.size
  have hx4 := hy4.toExt
  refine AllS_nil ?_
  refine O_field F40_0 rfl rfl rfl ?_
  exact WL_nil ⟨(Ext.refl _), rfl⟩
 apply AnySR_val [9] rfl (by kernel_rfl)
 · --
  intro y5 hy5
  have zy5 := hy5.size
  have hx5 := hy5.toExt
  refine AllS_v ?_
  refine AllS_nil ?_
  refine O_loadA (vs := [_, _]) S24 rfl rfl rfl ((b1.ext e2).ext hx5) rfl rfl ?_
  exact WL_nil ⟨(Ext.refl _), rfl⟩
 apply AnySR_rel (RelP (pAgg [pEq _, pNo w2.heap.size 111 _])) [10] rfl (RelP.monoS (pAgg_monoS (PsS.cons pEq_monoS (PsS.cons (pNo_monoS hS3n) PsS.nil)))) (by kernel_rfl)
 · --
  intro y6 hy6
  have zy6 := hy6.size
  have hx6 := hy6.toExt
  refine AllS_v ?_
  refine AllS_nil ?_
  refine O_call enters91 rfl rfl rfl (ineg_c rfl (hp.ext ((e1.trans e2).trans hx6)) (by (try simp only [lens]); omega)) (fun v7 w7 e7 h7 => ?_)
  have z7 := e7.size
  try simp only [val_dig] at h7
  obtain ⟨q7, rfl, hq7⟩ := h7
  exact WL_nil ⟨e7, _, rfl, ⟨_, rfl, (AllP.cons rfl (AllP.cons (hq7.mono (by omega)) AllP.nil))⟩⟩
 apply AnySR_val [2] rfl (by kernel_rfl)
 · --
  intro y8 hy8
  have zy8 := hy8.size
  have hx8 := hy8.toExt
  refine AllS_nil ?_
  refine O_field F40_1 rfl rfl rfl ?_
  exact WL_nil ⟨(Ext.refl _), rfl⟩
 apply AnySR_val [12] rfl (by kernel_rfl)
 · --
  intro y9 hy9
  have zy9 := hy9.size
  have hx9 := hy9.toExt
  refine AllS_v ?_
  refine AllS_nil ?_
  refine O_loadC Tryd.underlying22 rfl rfl rfl rfl ((b1.ext e2).ext hx9) rfl ?_
  exact WL_nil ⟨(Ext.refl _), rfl⟩
 apply AnySR_rel (RelP (pAgg [pEq _, pNo w2.heap.size 111 _, pEq _])) [11, 13] rfl (RelP.monoS (pAgg_monoS (PsS.cons pEq_monoS (PsS.cons (pNo_monoS hS3n) (PsS.cons pEq_monoS PsS.nil))))) (by kernel_rfl)
 · --
  intro y10 hy10
  have zy10 := hy10.size
  have hx10 := hy10.toExt
  refine AllS_r fun a11 b11 v11 la11 lb11 lc11 h11 ap11 => ?_
  clear ap11
  obtain ⟨_, rfl, v11_0, _, rfl, rfl, v11_1, _, rfl, h11_1, rfl⟩ := h11
  refine AllS_v ?_
  refine AllS_nil ?_
  refine O_build (cs := [_, _, _]) B40 rfl rfl rfl (cells_cons rfl (cells_cons ((hq.ext ((e1.trans e2).trans hx10))).cells1 cells_nil)) rfl ?_
  exact WL_nil ⟨(Ext.refl _), _, rfl, ⟨_, rfl, (AllP.cons rfl (AllP.cons (h11_1.mono (by omega)) (AllP.cons rfl AllP.nil)))⟩⟩
 apply AnySR_val [1] rfl (by kernel_rfl)
 · --
  intro y12 hy12
  have zy12 := hy12.size
  have hx12 := hy12.toExt
  refine AllS_nil ?_
  refine O_move rfl rfl rfl ?_
  exact WL_nil ⟨(Ext.refl _), rfl⟩
 apply AnySR_rel (RelP (pTup [pAgg [pEq _, pNo w2.heap.size 111 _, pEq _], pEq _])) [14, 15] rfl (RelP.monoS (pTup_monoS (PsS.cons (pAgg_monoS (PsS.cons pEq_monoS (PsS.cons (pNo_monoS hS3n) (PsS.cons pEq_monoS PsS.nil)))) (PsS.cons pEq_monoS PsS.nil)))) (by kernel_rfl)
 · --
  intro y13 hy13
  have zy13 := hy13.size
  have hx13 := hy13.toExt
  refine AllS_r fun a14 b14 v14 la14 lb14 lc14 h14 ap14 => ?_
  clear ap14
  obtain ⟨_, rfl, v14_0, _, rfl, rfl, v14_1, _, rfl, h14_1, v14_2, _, rfl, rfl, rfl⟩ := h14
  refine AllS_v ?_
  refine AllS_nil ?_
  refine O_call enters33 rfl rfl rfl (gfloorrat_T rfl h14_1.nl (hq.ext ((e1.trans e2).trans hx13)) (by first | with_reducible assumption | omega) (by first | with_reducible assumption | omega) (by first | with_reducible assumption | omega) hpm (hT.ext ((e1.trans e2).trans hx13))) (fun v15 w15 e15 h15 => ?_)
  have z15 := e15.size
  try simp only [val_dig] at h15
  obtain ⟨q15, rfl, hq15⟩ := h15
  exact WL_nil ⟨e15, _, rfl, ⟨_, rfl, (AllP.cons ⟨_, rfl, (AllP.cons rfl (AllP.cons (hq15.mono (by omega)) (AllP.cons rfl AllP.nil)))⟩ (AllP.cons rfl AllP.nil))⟩⟩
 apply AnySR_rel (RelP (pTup [pAgg [pEq _, pNo w2.heap.size 111 _, pEq _], pEq _])) [16] rfl (RelP.monoS (pTup_monoS (PsS.cons (pAgg_monoS (PsS.cons pEq_monoS (PsS.cons (pNo_monoS hS3n) (PsS.cons pEq_monoS PsS.nil)))) (PsS.cons pEq_monoS PsS.nil)))) (by kernel_rfl)
 · --
  intro y16 hy16
  have zy16 := hy16.size
  have hx16 := hy16.toExt
  refine AllS_r fun a17 b17 v17 la17 lb17 lc17 h17 ap17 => ?_
  clear ap17
  obtain ⟨_, rfl, v17_0, _, rfl, ⟨_, rfl, v17_0_0, _, rfl, rfl, v17_0_1, _, rfl, h17_0_1, v17_0_2, _, rfl, rfl, rfl⟩, v17_1, _, rfl, rfl, rfl⟩ := h17
  refine AllS_nil ?_
  refine O_move rfl rfl rfl ?_
  exact WL_nil ⟨(Ext.refl _), _, rfl, ⟨_, rfl, (AllP.cons ⟨_, rfl, (AllP.cons rfl (AllP.cons (h17_0_1.mono (by omega)) (AllP.cons rfl AllP.nil)))⟩ (AllP.cons rfl AllP.nil))⟩⟩
 apply AnySR_rel (RelP (pAgg [pEq _, pNo w2.heap.size 111 _, pEq _])) [8] rfl (RelP.monoS (pAgg_monoS (PsS.cons pEq_monoS (PsS.cons (pNo_monoS hS3n) (PsS.cons pEq_monoS PsS.nil))))) (by kernel_rfl)
 · --
  intro y18 hy18
  have zy18 := hy18.size
  have hx18 := hy18.toExt
  refine AllS_r fun a19 b19 v19 la19 lb19 lc19 h19 ap19 => ?_
  clear ap19
  obtain ⟨_, rfl, v19_0, _, rfl, ⟨_, rfl, v19_0_0, _, rfl, rfl, v19_0_1, _, rfl, h19_0_1, v19_0_2, _, rfl, rfl, rfl⟩, v19_1, _, rfl, rfl, rfl⟩ := h19
  refine AllS_nil ?_
  refine O_extract rfl rfl rfl rfl ?_
  exact WL_nil ⟨(Ext.refl _), _, rfl, ⟨_, rfl, (AllP.cons rfl (AllP.cons (h19_0_1.mono (by omega)) (AllP.cons rfl AllP.nil)))⟩⟩
 apply AnySR_val [8] rfl (by kernel_rfl)
 · --
  intro y20 hy20
  have zy20 := hy20.size
  have hx20 := hy20.toExt
  refine AllS_r fun a21 b21 v21 la21 lb21 lc21 h21 ap21 => ?_
  clear ap21
  obtain ⟨_, rfl, v21_0, _, rfl, ⟨_, rfl, v21_0_0, _, rfl, rfl, v21_0_1, _, rfl, h21_0_1, v21_0_2, _, rfl, rfl, rfl⟩, v21_1, _, rfl, rfl, rfl⟩ := h21
  refine AllS_nil ?_
  refine O_extract rfl rfl rfl rfl ?_
  exact WL_nil ⟨(Ext.refl _), rfl⟩
 apply AnySR_rel (BkTR (26, 3)) [] rfl BkTR.monoS (by kernel_rfl)
 · --
  intro y22 hy22
  have zy22 := hy22.size
  have hx22 := hy22.toExt
  refine AllS_nil ?_
  refine O_alloc S26 rfl rfl (fun g23 w23 b23 e23 gl23 gh23 => ?_)
  have z23 := e23.size
  exact WL_nil ⟨e23, _, rfl, g23, rfl, gl23, gh23, _, b23, rfl⟩
 apply AnySR_stv 6 (26, 3) (pStv 26 [pEq _, pNo w2.heap.size 111 _, pEq _]) [6, 17] rfl (by simp) rfl rfl ⟨BkTR (26, 3), (by repeat first | exact List.Mem.head _ | apply List.Mem.tail), BkTR.ptr⟩ (pStv_monoS (PsS.cons pEq_monoS (PsS.cons (pNo_monoS hS3n) (PsS.cons pEq_monoS PsS.nil)))) (by exact (compat_cons ⟨trivial, trivial⟩ (compat_cons ⟨trivial, trivial⟩ (compat_cons ⟨trivial, trivial⟩ (compat_cons ⟨trivial, trivial⟩ (compat_cons ⟨trivial, trivial⟩ (compat_cons ⟨trivial, trivial⟩ (compat_cons ⟨trivial, trivial⟩ (compat_cons ⟨trivial, trivial⟩ (compat_cons ⟨trivial, trivial⟩ (compat_cons ⟨trivial, trivial⟩ (compat_cons ⟨trivial, trivial⟩ (compat_cons ⟨trivial, trivial⟩ compat_nil))))))))))))) (by kernel_rfl)
 · --
  intro y24 hy24
  have zy24 := hy24.size
  have hx24 := hy24.toExt
  refine AllS_r fun a25 b25 v25 la25 lb25 lc25 h25 ap25 => ?_
  clear ap25
  obtain ⟨_, rfl, v25_0, _, rfl, rfl, v25_1, _, rfl, h25_1, v25_2, _, rfl, rfl, rfl⟩ := h25
  refine AllS_r fun a26 b26 v26 la26 lb26 lc26 h26 ap26 => ?_
  clear ap26
  obtain ⟨g26, rfl, gl26, gh26, hB26⟩ := h26
  refine AllS_nil ?_
  have hB24 := hB26
  refine O_storeW S26 rfl rfl rfl hB24 rfl (one_cons rfl (one_cons (h25_1.nl).one (one_cons rfl one_nil))) (fun w24 b24 q24 => ?_)
  obtain ⟨cs24, hk24, hl24⟩ := hB24
  exact WL_nil ⟨g26, rfl, ⟨⟨cs24, hk24, hl24⟩, q24, ⟨_, b24, rfl⟩⟩, fun g' e' => by cases e'; exact ⟨_, b24, (AllP.cons rfl (AllP.cons (((h25_1).mono (by omega)).chgBk hk24 (by decide) q24) (AllP.cons rfl AllP.nil)))⟩⟩
 refine AnySR_nil fun y27 hy27 => ?_
 have zy27 := hy27.size
 have hx27 := hy27.toExt
 refine AllS_v ?_
 refine AllS_v ?_
 refine AllS_r fun a28 b28 v28 la28 lb28 lc28 h28 ap28 => ?_
 clear ap28
 obtain ⟨_, rfl, v28_0, _, rfl, rfl, v28_1, _, rfl, h28_1, rfl⟩ := h28
 refine AllS_v ?_
 refine AllS_v ?_
 refine AllS_r fun a29 b29 v29 la29 lb29 lc29 h29 ap29 => ?_
 clear ap29
 obtain ⟨_, rfl, v29_0, _, rfl, rfl, v29_1, _, rfl, h29_1, v29_2, _, rfl, rfl, rfl⟩ := h29
 refine AllS_v ?_
 refine AllS_r fun a30 b30 v30 la30 lb30 lc30 h30 ap30 => ?_
 clear ap30
 obtain ⟨_, rfl, v30_0, _, rfl, ⟨_, rfl, v30_0_0, _, rfl, rfl, v30_0_1, _, rfl, h30_0_1, v30_0_2, _, rfl, rfl, rfl⟩, v30_1, _, rfl, rfl, rfl⟩ := h30
 refine AllS_r fun a31 b31 v31 la31 lb31 lc31 h31 ap31 => ?_
 clear ap31
 obtain ⟨_, rfl, v31_0, _, rfl, ⟨_, rfl, v31_0_0, _, rfl, rfl, v31_0_1, _, rfl, h31_0_1, v31_0_2, _, rfl, rfl, rfl⟩, v31_1, _, rfl, rfl, rfl⟩ := h31
 refine AllS_r fun a32 b32 v32 la32 lb32 lc32 h32 ap32 => ?_
 clear ap32
 obtain ⟨_, rfl, v32_0, _, rfl, rfl, v32_1, _, rfl, h32_1, v32_2, _, rfl, rfl, rfl⟩ := h32
 refine AllS_v ?_
 refine AllS_r fun a33 b33 v33 la33 lb33 lc33 h33 ap33 => ?_
 clear ap33
 obtain ⟨g33, rfl, gl33, gh33, hB33⟩ := h33
 refine AllS_qv rfl fun hq34 => ?_
 obtain ⟨_, hb34, u34_0, _, rfl, rfl, u34_1, _, rfl, hu34_1, u34_2, _, rfl, rfl, rfl⟩ := hq34 g33 rfl
 refine AllS_nil ?_
 refine O_assign rfl rfl rfl ?_
 refine WL_end [(4, _), (6, _), (7, _)] ⟨rfl, rfl, rfl, trivial⟩ ?_
 refine WP_seq ?_
 refine WP_seq ?_
 refine WP_region ?_
 refine O_move rfl rfl rfl ?_
 refine O_neq rfl rfl rfl rfl rfl ?_
 refine WL_end [(4, _), (6, _), (7, _), (20, _)] ⟨rfl, rfl, rfl, rfl, trivial⟩ ?_
 refine WP_condN rfl (fun c20 => ?_) (fun c20 => ?_)
 · --
  refine WP_seq ?_
  refine WP_region ?_
  refine O_build (cs := [_, _, _]) B26 rfl rfl rfl cells_nil rfl ?_
  refine O_move rfl rfl rfl ?_
  refine O_storeA (cs' := [_, _, _]) S26 rfl rfl rfl (b2.ext hx27) rfl rfl (one_cons rfl (one_cons rfl (one_cons rfl one_nil))) rfl (fun w35 b35 q35 => ?_)
  have z35 := Nat.le_of_eq q35.size.symm
  have e35 : Ext w w35 := q35.ext ((e1.trans e2).trans hx27) (by omega)
  refine O_assign rfl rfl rfl ?_
  refine WL_end [(4, _), (5, _)] ⟨rfl, rfl, trivial⟩ ?_
  refine WP_ret ?_
  refine retL Tryd.results34 (.cell rfl S26 b35 rfl (.tmp rfl .nil)) ?_
  obtain ⟨k1, k2⟩ := dman_bad c20
  rw [dcode_neg, dman_neg, dexp_neg, k1, k2]
  exact ⟨_, rfl, e35, _, rfl, by rw [show (-0 : Int) = 0 from rfl, dig0]; exact No.nil _ _ _⟩
 · --
  refine WP_skip ?_
  refine WP_seq ?_
  refine WP_region ?_
  refine O_loadA (vs := [_, _, _]) S26 rfl rfl rfl hb34 rfl rfl ?_
  refine O_call enters61 rfl rfl rfl (dneg_c rfl hu34_1.nl (by (try simp only [lens]); omega)) (fun v36 w36 e36 h36 => ?_)
  have z36 := e36.size
  try simp only [val_dig] at h36
  obtain ⟨q36, rfl, hq36⟩ := h36
  refine O_storeA (cs' := [_, _, _]) S26 rfl rfl rfl ((b2.ext hx27).ext e36) rfl rfl (one_cons rfl (one_cons (hq36.nl).one (one_cons rfl one_nil))) rfl (fun w37 b37 q37 => ?_)
  have z37 := Nat.le_of_eq q37.size.symm
  have e37 : Ext w w37 := q37.ext (((e1.trans e2).trans hx27).trans e36) (by omega)
  refine O_assign rfl rfl rfl ?_
  refine WL_end [(4, _), (5, _)] ⟨rfl, rfl, trivial⟩ ?_
  refine WP_ret ?_
  refine retL Tryd.results34 (.cell rfl S26 b37 rfl (.tmp rfl .nil)) ?_
  have hc : dcode (cutq (-p) q k) (-k) = 0 := c20
  rw [dcode_neg, dman_neg, dexp_neg, hc]
  exact ⟨_, rfl, e37, _, rfl, (hq36.chgBk ((b2.ext hx27).ext e36) (by decide) q37).mono (by omega)⟩
theorem gceilrat_F {w : World} {vp vq : Value} {p k : Int} {q : Nat} {bp : Bool} (hbp : bp = decide (p < 0)) (hp : Nl w vp (dig p.natAbs)) (hq : Nl w vq (dig q)) (hlp : (dig p.natAbs).length ≤ 9000) (hlq : (dig q).length ≤ 9000) (hq0 : q ≠ 0) (hpm : ¬ perm k) :
    Calls Tryd.prog 34 #[.agg #[.bool bp, vp, vq], .int .i64 k] w (Ret w fun r _ => r = .tuple #[.agg #[.bool (decide ((0 : Int) < 0)), .slice none 0 0, .int .i64 (0)], .int .i64 1]) := by
 subst hbp
 have hln := neg_len hlp
 refine enter (args := [_, _]) Tryd.func34 rfl Tryd.ntmps34 rfl ?_
 refine WP_seq ?_
 refine WP_region ?_
 refine O_box _ rfl rfl rfl rfl (fun g1 w1 b1 e1 gl1 gh1 => ?_)
 have z1 := e1.size
 refine O_alloc S26 rfl rfl (fun g2 w2 b2 e2 gl2 gh2 => ?_)
 have z2 := e2.size
 refine O_assign rfl rfl rfl ?_
 refine WL_end [(1, _), (2, _), (4, _)] ⟨rfl, rfl, rfl, trivial⟩ ?_
 refine WP_seq ?_
 refine WP_sub [(1, _), (2, _), (4, _)] ⟨rfl, rfl, rfl, trivial⟩ ?_
 have hS3n : ∀ g T, (g, T) ∈ (⟨[], [(26, 3)], (w2).heap.size⟩ : SS) → 111 ≠ T.1 := by
   intro g T hm; rw [mem_SS] at hm; simp only [List.mem_cons, Prod.mk.injEq, List.not_mem_nil, or_false, false_or, and_false] at hm
   rcases hm with ⟨_, rfl⟩
   · decide
 refine WP_anySR (⟨[], [(26, 3)], (w2).heap.size⟩ : SS) 13 [1, 2, 4] mixed rfl (by kernel_rfl) (Nat.le_refl _) ?_
 apply AnySR_val [2] rfl (by kernel_rfl)
 · --
  intro y4 hy4
  have zy4 := hy4.size
  have hx4 := hy4.toExt
  refine AllS_nil ?_
  refine O_field F40_0 rfl rfl rfl ?_
  exact WL_nil ⟨(Ext.refl _), rfl⟩
 apply AnySR_val [9] rfl (by kernel_rfl)
 · --
  intro y5 hy5
  have zy5 := hy5.size
  have hx5 := hy5.toExt
  refine AllS_v ?_
  refine AllS_nil ?_
  refine O_loadA (vs := [_, _]) S24 rfl rfl rfl ((b1.ext e2).ext hx5) rfl rfl ?_
  exact WL_nil ⟨(Ext.refl _), rfl⟩
 apply AnySR_rel (RelP (pAgg [pEq _, pNo w2.heap.size 111 _])) [10] rfl (RelP.monoS (pAgg_monoS (PsS.cons pEq_monoS (PsS.cons (pNo_monoS hS3n) PsS.nil)))) (by kernel_rfl)
 · --
  intro y6 hy6
  have zy6 := hy6.size
  have hx6 := hy6.toExt
  refine AllS_v ?_
  refine AllS_nil ?_
  refine O_call enters91 rfl rfl rfl (ineg_c rfl (hp.ext ((e1.trans e2).trans hx6)) (by (try simp only [lens]); omega)) (fun v7 w7 e7 h7 => ?_)
  have z7 := e7.size
  try simp only [val_dig] at h7
  obtain ⟨q7, rfl, hq7⟩ := h7
  exact WL_nil ⟨e7, _, rfl, ⟨_, rfl, (AllP.cons rfl (AllP.cons (hq7.mono (by omega)) AllP.nil))⟩⟩
 apply AnySR_val [2] rfl (by kernel_rfl)
 · --
  intro y8 hy8
  have zy8 := hy8.size
  have hx8 := hy8.toExt
  refine AllS_nil ?_
  refine O_field F40_1 rfl rfl rfl ?_
  exact WL_nil ⟨(Ext.refl _), rfl⟩
 apply AnySR_val [12] rfl (by kernel_rfl)
 · --
  intro y9 hy9
  have zy9 := hy9.size
  have hx9 := hy9.toExt
  refine AllS_v ?_
  refine AllS_nil ?_
  refine O_loadC Tryd.underlying22 rfl rfl rfl rfl ((b1.ext e2).ext hx9) rfl ?_
  exact WL_nil ⟨(Ext.refl _), rfl⟩
 apply AnySR_rel (RelP (pAgg [pEq _, pNo w2.heap.size 111 _, pEq _])) [11, 13] rfl (RelP.monoS (pAgg_monoS (PsS.cons pEq_monoS (PsS.cons (pNo_monoS hS3n) (PsS.cons pEq_monoS PsS.nil))))) (by kernel_rfl)
 · --
  intro y10 hy10
  have zy10 := hy10.size
  have hx10 := hy10.toExt
  refine AllS_r fun a11 b11 v11 la11 lb11 lc11 h11 ap11 => ?_
  clear ap11
  obtain ⟨_, rfl, v11_0, _, rfl, rfl, v11_1, _, rfl, h11_1, rfl⟩ := h11
  refine AllS_v ?_
  refine AllS_nil ?_
  refine O_build (cs := [_, _, _]) B40 rfl rfl rfl (cells_cons rfl (cells_cons ((hq.ext ((e1.trans e2).trans hx10))).cells1 cells_nil)) rfl ?_
  exact WL_nil ⟨(Ext.refl _), _, rfl, ⟨_, rfl, (AllP.cons rfl (AllP.cons (h11_1.mono (by omega)) (AllP.cons rfl AllP.nil)))⟩⟩
 apply AnySR_val [1] rfl (by kernel_rfl)
 · --
  intro y12 hy12
  have zy12 := hy12.size
  have hx12 := hy12.toExt
  refine AllS_nil ?_
  refine O_move rfl rfl rfl ?_
  exact WL_nil ⟨(Ext.refl _), rfl⟩
 apply AnySR_val [14, 15] rfl (by kernel_rfl)
 · --
  intro y13 hy13
  have zy13 := hy13.size
  have hx13 := hy13.toExt
  refine AllS_r fun a14 b14 v14 la14 lb14 lc14 h14 ap14 => ?_
  clear ap14
  obtain ⟨_, rfl, v14_0, _, rfl, rfl, v14_1, _, rfl, h14_1, v14_2, _, rfl, rfl, rfl⟩ := h14
  refine AllS_v ?_
  refine AllS_nil ?_
  refine O_call enters33 rfl rfl rfl (gfloorrat_F rfl h14_1.nl (hq.ext ((e1.trans e2).trans hx13)) (by first | with_reducible assumption | omega) (by first | with_reducible assumption | omega) (by first | with_reducible assumption | omega) hpm) (fun v15 w15 e15 h15 => ?_)
  have z15 := e15.size
  try simp only [val_dig] at h15
  obtain rfl := h15
  exact WL_nil ⟨e15, rfl⟩
 apply AnySR_val [16] rfl (by kernel_rfl)
 · --
  intro y16 hy16
  have zy16 := hy16.size
  have hx16 := hy16.toExt
  refine AllS_v ?_
  refine AllS_nil ?_
  refine O_move rfl rfl rfl ?_
  exact WL_nil ⟨(Ext.refl _), rfl⟩
 apply AnySR_val [8] rfl (by kernel_rfl)
 · --
  intro y17 hy17
  have zy17 := hy17.size
  have hx17 := hy17.toExt
  refine AllS_v ?_
  refine AllS_nil ?_
  refine O_extract rfl rfl rfl rfl ?_
  exact WL_nil ⟨(Ext.refl _), rfl⟩
 apply AnySR_val [8] rfl (by kernel_rfl)
 · --
  intro y18 hy18
  have zy18 := hy18.size
  have hx18 := hy18.toExt
  refine AllS_v ?_
  refine AllS_nil ?_
  refine O_extract rfl rfl rfl rfl ?_
  exact WL_nil ⟨(Ext.refl _), rfl⟩
 apply AnySR_rel (BkTR (26, 3)) [] rfl BkTR.monoS (by kernel_rfl)
 · --
  intro y19 hy19
  have zy19 := hy19.size
  have hx19 := hy19.toExt
  refine AllS_nil ?_
  refine O_alloc S26 rfl rfl (fun g20 w20 b20 e20 gl20 gh20 => ?_)
  have z20 := e20.size
  exact WL_nil ⟨e20, _, rfl, g20, rfl, gl20, gh20, _, b20, rfl⟩
 apply AnySR_stv 6 (26, 3) (pStv 26 [pEq _, pEq _, pEq _]) [6, 17] rfl (by simp) rfl rfl ⟨BkTR (26, 3), (by repeat first | exact List.Mem.head _ | apply List.Mem.tail), BkTR.ptr⟩ (pStv_monoS (PsS.cons pEq_monoS (PsS.cons pEq_monoS (PsS.cons pEq_monoS PsS.nil)))) (by exact (compat_cons ⟨trivial, trivial⟩ (compat_cons ⟨trivial, trivial⟩ (compat_cons ⟨trivial, trivial⟩ (compat_cons ⟨trivial, trivial⟩ (compat_cons ⟨trivial, trivial⟩ (compat_cons ⟨trivial, trivial⟩ (compat_cons ⟨trivial, trivial⟩ (compat_cons ⟨trivial, trivial⟩ (compat_cons ⟨trivial, trivial⟩ (compat_cons ⟨trivial, trivial⟩ (compat_cons ⟨trivial, trivial⟩ (compat_cons ⟨trivial, trivial⟩ compat_nil))))))))))))) (by kernel_rfl)
 · --
  intro y21 hy21
  have zy21 := hy21.size
  have hx21 := hy21.toExt
  refine AllS_v ?_
  refine AllS_r fun a22 b22 v22 la22 lb22 lc22 h22 ap22 => ?_
  clear ap22
  obtain ⟨g22, rfl, gl22, gh22, hB22⟩ := h22
  refine AllS_nil ?_
  have hB21 := hB22
  refine O_storeW S26 rfl rfl rfl hB21 rfl (one_cons rfl (one_cons rfl (one_cons rfl one_nil))) (fun w21 b21 q21 => ?_)
  obtain ⟨cs21, hk21, hl21⟩ := hB21
  exact WL_nil ⟨g22, rfl, ⟨⟨cs21, hk21, hl21⟩, q21, ⟨_, b21, rfl⟩⟩, fun g' e' => by cases e'; exact ⟨_, b21, (AllP.cons rfl (AllP.cons rfl (AllP.cons rfl AllP.nil)))⟩⟩
 refine AnySR_nil fun y23 hy23 => ?_
 have zy23 := hy23.size
 have hx23 := hy23.toExt
 refine AllS_v ?_
 refine AllS_v ?_
 refine AllS_r fun a24 b24 v24 la24 lb24 lc24 h24 ap24 => ?_
 clear ap24
 obtain ⟨_, rfl, v24_0, _, rfl, rfl, v24_1, _, rfl, h24_1, rfl⟩ := h24
 refine AllS_v ?_
 refine AllS_v ?_
 refine AllS_r fun a25 b25 v25 la25 lb25 lc25 h25 ap25 => ?_
 clear ap25
 obtain ⟨_, rfl, v25_0, _, rfl, rfl, v25_1, _, rfl, h25_1, v25_2, _, rfl, rfl, rfl⟩ := h25
 refine AllS_v ?_
 refine AllS_v ?_
 refine AllS_v ?_
 refine AllS_v ?_
 refine AllS_v ?_
 refine AllS_r fun a26 b26 v26 la26 lb26 lc26 h26 ap26 => ?_
 clear ap26
 obtain ⟨g26, rfl, gl26, gh26, hB26⟩ := h26
 refine AllS_qv rfl fun hq27 => ?_
 obtain ⟨_, hb27, u27_0, _, rfl, rfl, u27_1, _, rfl, rfl, u27_2, _, rfl, rfl, rfl⟩ := hq27 g26 rfl
 refine AllS_nil ?_
 refine O_assign rfl rfl rfl ?_
 refine WL_end [(4, _), (6, _), (7, _)] ⟨rfl, rfl, rfl, trivial⟩ ?_
 refine WP_seq ?_
 refine WP_seq ?_
 refine WP_region ?_
 refine O_move rfl rfl rfl ?_
 refine O_neq (t := true) rfl rfl rfl rfl (decide_eq_true (by decide)) ?_
 refine WL_end [(4, _), (6, _), (7, _), (20, _)] ⟨rfl, rfl, rfl, rfl, trivial⟩ ?_
 refine WP_condT rfl ?_
 refine WP_seq ?_
 refine WP_region ?_
 refine O_build (cs := [_, _, _]) B26 rfl rfl rfl cells_nil rfl ?_
 refine O_move rfl rfl rfl ?_
 refine O_storeA (cs' := [_, _, _]) S26 rfl rfl rfl (b2.ext hx23) rfl rfl (one_cons rfl (one_cons rfl (one_cons rfl one_nil))) rfl (fun w28 b28 q28 => ?_)
 have z28 := Nat.le_of_eq q28.size.symm
 have e28 : Ext w w28 := q28.ext ((e1.trans e2).trans hx23) (by omega)
 refine O_assign rfl rfl rfl ?_
 refine WL_end [(4, _), (5, _)] ⟨rfl, rfl, trivial⟩ ?_
 refine WP_ret ?_
 refine retL Tryd.results34 (.cell rfl S26 b28 rfl (.tmp rfl .nil)) ?_
 exact ⟨_, rfl, e28, rfl⟩

end Go.Proofs.YthbfhljpfkicpaaDoor
