/-
  Walks.
-/
import Derived.Test.YthbbcnlpfjbleaaS4
set_option linter.unusedVariables false
set_option linter.unusedSimpArgs false
set_option maxRecDepth 100000
namespace Go.Proofs.Ythbbcnlpfjbleaa
open Go Go.RowKit
set_option maxHeartbeats 4000000 in
theorem law_IntegerRing_T {w : World} {vx vy vz : Value} {lx ly lz : List Nat} {bx by_ bz : Bool} (hx : Nl w vx lx) (hy : Nl w vy ly) (hz : Nl w vz lz) (h1 : lx.length ≤ 40) (h2 : ly.length ≤ 40) (h3 : lz.length ≤ 40) :
    Calls Try.prog 8 #[.agg #[.bool bx, vx], .agg #[.bool by_, vy], .agg #[.bool bz, vz]] w (Ret w fun r _ => r = .bool true) := by
  refine enter (args := [_, _, _]) Try.func8 rfl Try.ntmps8 rfl ?_
  refine WP_seq ?_
  refine WP_region ?_
  refine O_box _ rfl rfl rfl rfl (fun g1 w1 b1 e1 gl1 gh1 => ?_)
  have z1 := e1.size
  refine O_box _ rfl rfl rfl rfl (fun g2 w2 b2 e2 gl2 gh2 => ?_)
  have z2 := e2.size
  refine O_box _ rfl rfl rfl rfl (fun g3 w3 b3 e3 gl3 gh3 => ?_)
  have z3 := e3.size
  refine O_assign rfl rfl rfl ?_
  refine WL_end [(3, _), (4, _), (5, _)] ⟨rfl, rfl, rfl, trivial⟩ ?_
  refine WP_seq ?_
  refine WP_seq ?_
  refine WP_region ?_
  refine O_call enters9 rfl rfl rfl (awake5_c) (fun v4 w4 e4 h4 => ?_)
  have z4 := e4.size
  obtain rfl := h4
  refine O_not rfl rfl rfl rfl ?_
  refine WL_end [(3, _), (4, _), (5, _), (15, _)] ⟨rfl, rfl, rfl, rfl, trivial⟩ ?_
  refine WP_condF rfl ?_
  refine WP_skip ?_
  refine WP_seq ?_
  refine WP_region ?_
  refine O_loadA (vs := [_, _]) S24 rfl rfl rfl (((b1.ext e2).ext e3).ext e4) rfl rfl ?_
  refine O_loadA (vs := [_, _]) S24 rfl rfl rfl ((b2.ext e3).ext e4) rfl rfl ?_
  refine O_call enters19 rfl rfl rfl (two_T (hx.ext (((e1.trans e2).trans e3).trans e4)) (hy.ext (((e1.trans e2).trans e3).trans e4)) (by (try simp only [val_dig, List.length_take, List.length_nil, List.length_cons, List.length_append, List.length_replicate, List.length_set, List.length_map, List.length_drop]); omega) (by (try simp only [val_dig, List.length_take, List.length_nil, List.length_cons, List.length_append, List.length_replicate, List.length_set, List.length_map, List.length_drop]); omega) (by (try simp only [val_dig, List.length_take, List.length_nil, List.length_cons, List.length_append, List.length_replicate, List.length_set, List.length_map, List.length_drop]); omega)) (fun v5 w5 e5 h5 => ?_)
  have z5 := e5.size
  try simp only [val_dig] at h5
  obtain ⟨q5, s5, rfl, hq5, hs5⟩ := h5
  have hlX := mk_len (a := 40) bx hx (by omega)
  have hlY := mk_len (a := 40) by_ hy (by omega)
  generalize mk bx (val lx) = X at hq5 hlX ⊢
  generalize mk by_ (val ly) = Y at hs5 hlY ⊢
  refine O_move rfl rfl rfl ?_
  refine O_extract rfl rfl rfl rfl ?_
  refine O_extract rfl rfl rfl rfl ?_
  refine O_extract rfl rfl rfl rfl ?_
  refine O_alloc S24 rfl rfl (fun g6 w6 b6 e6 gl6 gh6 => ?_)
  have z6 := e6.size
  refine O_alloc S24 rfl rfl (fun g7 w7 b7 e7 gl7 gh7 => ?_)
  have z7 := e7.size
  refine O_storeA (cs' := [_, _]) S24 rfl rfl rfl (b6.ext e7) rfl rfl (one_cons rfl (one_cons (((hq5.ext e6).ext e7).nl).one one_nil)) rfl (fun w8 b8 q8 => ?_)
  have z8 := Nat.le_of_eq q8.size.symm
  have e8 : Ext w w8 := q8.ext ((((((e1.trans e2).trans e3).trans e4).trans e5).trans e6).trans e7) (by omega)
  refine O_storeA (cs' := [_, _]) S24 rfl rfl rfl (b7.chg q8 (by omega)) rfl rfl (one_cons rfl (one_cons ((((hs5.ext e6).ext e7).chgBk (b6.ext e7) (by decide) q8).nl).one one_nil)) rfl (fun w9 b9 q9 => ?_)
  have z9 := Nat.le_of_eq q9.size.symm
  have e9 : Ext w w9 := q9.ext e8 (by omega)
  refine O_assign rfl rfl rfl ?_
  refine WL_end [(5, _), (7, _), (8, _), (9, _)] ⟨rfl, rfl, rfl, rfl, trivial⟩ ?_
  refine WP_seq ?_
  refine WP_region ?_
  refine O_loadA (vs := [_, _]) S24 rfl rfl rfl ((((((b3.ext e4).ext e5).ext e6).ext e7).chg q8 (by omega)).chg q9 (by omega)) rfl rfl ?_
  refine O_call enters10 rfl rfl rfl (mint_T (hz.ext e9) (by (try simp only [val_dig, List.length_take, List.length_nil, List.length_cons, List.length_append, List.length_replicate, List.length_set, List.length_map, List.length_drop]); omega) (by (try simp only [val_dig, List.length_take, List.length_nil, List.length_cons, List.length_append, List.length_replicate, List.length_set, List.length_map, List.length_drop]); omega)) (fun v10 w10 e10 h10 => ?_)
  have z10 := e10.size
  try simp only [val_dig] at h10
  obtain ⟨q10, rfl, hq10⟩ := h10
  have hlZ := mk_len (a := 40) bz hz (by omega)
  generalize mk bz (val lz) = Z at hq10 hlZ ⊢
  have l1 := add_len hlX hlY
  have l2 := sub_len hlX hlY
  have l3 := mul_len hlX hlY
  have l4 := neg_len hlX
  have l5 := add_len hlY hlZ
  have l6 := mul_len hlX l5
  have l7 := mul_len hlX hlZ
  have l8 := add_len l3 l7
  have l9 := add_len hlX l4
  replace l1 := ml l1 (by decide)
  replace l2 := ml l2 (by decide)
  replace l3 := ml l3 (by decide)
  replace l4 := ml l4 (by decide)
  replace l5 := ml l5 (by decide)
  replace l6 := ml l6 (by decide)
  replace l7 := ml l7 (by decide)
  replace l8 := ml l8 (by decide)
  replace l9 := ml l9 (by decide)
  replace hlX := ml hlX (by decide)
  replace hlY := ml hlY (by decide)
  replace hlZ := ml hlZ (by decide)
  refine O_move rfl rfl rfl ?_
  refine O_extract rfl rfl rfl rfl ?_
  refine O_extract rfl rfl rfl rfl ?_
  refine O_alloc S24 rfl rfl (fun g11 w11 b11 e11 gl11 gh11 => ?_)
  have z11 := e11.size
  refine O_storeA (cs' := [_, _]) S24 rfl rfl rfl b11 rfl rfl (one_cons rfl (one_cons ((hq10.ext e11).nl).one one_nil)) rfl (fun w12 b12 q12 => ?_)
  have z12 := Nat.le_of_eq q12.size.symm
  have e12 : Ext w w12 := q12.ext ((e9.trans e10).trans e11) (by omega)
  refine O_assign rfl rfl rfl ?_
  refine WL_end [(7, _), (8, _), (9, _), (10, _), (11, _)] ⟨rfl, rfl, rfl, rfl, rfl, trivial⟩ ?_
  refine WP_seq ?_
  refine WP_seq ?_
  refine WP_region ?_
  refine O_move rfl rfl rfl ?_
  refine O_not rfl rfl rfl rfl ?_
  refine O_move rfl rfl rfl ?_
  refine O_move rfl rfl rfl ?_
  refine O_not rfl rfl rfl rfl ?_
  refine O_pickF rfl rfl rfl rfl ?_
  refine WL_end [(7, _), (8, _), (10, _), (33, _)] ⟨rfl, rfl, rfl, rfl, trivial⟩ ?_
  refine WP_condF rfl ?_
  refine WP_skip ?_
  refine WP_seq ?_
  refine WP_seq ?_
  refine WP_sub [(7, _), (8, _), (10, _)] ⟨rfl, rfl, rfl, trivial⟩ ?_
  refine WP_anyR 36 [7, 8, 10] mixed rfl (by kernel_rfl) ?_
  apply AnyR_val [7] rfl (by kernel_rfl)
  · --
    intro y13 hy13
    have zy13 := hy13.size
    refine AllV_nil ?_
    refine O_loadA (vs := [_, _]) S24 rfl rfl rfl (((((b8.chg q9 (by omega)).ext e10).ext e11).chg q12 (by omega)).ext hy13) rfl rfl ?_
    exact WL_nil ⟨(Ext.refl _), rfl⟩
  apply AnyR_val [8] rfl (by kernel_rfl)
  · --
    intro y14 hy14
    have zy14 := hy14.size
    refine AllV_nil ?_
    refine O_loadA (vs := [_, _]) S24 rfl rfl rfl ((((b9.ext e10).ext e11).chg q12 (by omega)).ext hy14) rfl rfl ?_
    exact WL_nil ⟨(Ext.refl _), rfl⟩
  apply AnyR_rel (RelP (pAgg2 (pEq _) (pNo w12.heap.size 41 _))) [34, 35] rfl (RelP.mono (pAgg2_mono pEq_mono pNo_mono)) (by kernel_rfl)
  · --
    intro y15 hy15
    have zy15 := hy15.size
    refine AllV_v ?_
    refine AllV_v ?_
    refine AllV_nil ?_
    refine O_call enters36 rfl rfl rfl (iadd_c rfl ((((((((hq5.ext e6).ext e7).chgBk (b6.ext e7) (by decide) q8).chgBk (b7.chg q8 (by omega)) (by decide) q9).ext e10).ext e11).chgBk b11 (by decide) q12).ext hy15).nl rfl ((((((((hs5.ext e6).ext e7).chgBk (b6.ext e7) (by decide) q8).chgBk (b7.chg q8 (by omega)) (by decide) q9).ext e10).ext e11).chgBk b11 (by decide) q12).ext hy15).nl (by first | with_reducible assumption | omega) (by first | with_reducible assumption | omega)) (fun v16 w16 e16 h16 => ?_)
    have z16 := e16.size
    try simp only [val_dig] at h16
    obtain ⟨q16, rfl, hq16⟩ := h16
    exact WL_nil ⟨e16, _, rfl, ⟨_, _, rfl, rfl, (hq16.mono (by omega))⟩⟩
  apply AnyR_val [7] rfl (by kernel_rfl)
  · --
    intro y17 hy17
    have zy17 := hy17.size
    refine AllV_nil ?_
    refine O_loadA (vs := [_, _]) S24 rfl rfl rfl (((((b8.chg q9 (by omega)).ext e10).ext e11).chg q12 (by omega)).ext hy17) rfl rfl ?_
    exact WL_nil ⟨(Ext.refl _), rfl⟩
  apply AnyR_val [8] rfl (by kernel_rfl)
  · --
    intro y18 hy18
    have zy18 := hy18.size
    refine AllV_nil ?_
    refine O_loadA (vs := [_, _]) S24 rfl rfl rfl ((((b9.ext e10).ext e11).chg q12 (by omega)).ext hy18) rfl rfl ?_
    exact WL_nil ⟨(Ext.refl _), rfl⟩
  apply AnyR_rel (RelP (pAgg2 (pEq _) (pNo w12.heap.size 41 _))) [37, 38] rfl (RelP.mono (pAgg2_mono pEq_mono pNo_mono)) (by kernel_rfl)
  · --
    intro y19 hy19
    have zy19 := hy19.size
    refine AllV_v ?_
    refine AllV_v ?_
    refine AllV_nil ?_
    refine O_call enters22 rfl rfl rfl (riadd_c rfl ((((((((hq5.ext e6).ext e7).chgBk (b6.ext e7) (by decide) q8).chgBk (b7.chg q8 (by omega)) (by decide) q9).ext e10).ext e11).chgBk b11 (by decide) q12).ext hy19).nl rfl ((((((((hs5.ext e6).ext e7).chgBk (b6.ext e7) (by decide) q8).chgBk (b7.chg q8 (by omega)) (by decide) q9).ext e10).ext e11).chgBk b11 (by decide) q12).ext hy19).nl (by first | with_reducible assumption | omega) (by first | with_reducible assumption | omega)) (fun v20 w20 e20 h20 => ?_)
    have z20 := e20.size
    try simp only [val_dig] at h20
    obtain ⟨q20, rfl, hq20⟩ := h20
    exact WL_nil ⟨e20, _, rfl, ⟨_, _, rfl, rfl, (hq20.mono (by omega))⟩⟩
  apply AnyR_val [36, 39] rfl (by kernel_rfl)
  · --
    intro y21 hy21
    have zy21 := hy21.size
    refine AllV_r fun a22 b22 v22 la22 lb22 lc22 h22 ap22 => ?_
    clear ap22
    obtain ⟨v22_0, v22_1, rfl, rfl, h22_1⟩ := h22
    refine AllV_r fun a23 b23 v23 la23 lb23 lc23 h23 ap23 => ?_
    clear ap23
    obtain ⟨v23_0, v23_1, rfl, rfl, h23_1⟩ := h23
    refine AllV_nil ?_
    refine O_call enters16 rfl rfl rfl (isame_c rfl h22_1.nl h23_1.nl (by first | with_reducible assumption | omega) (by first | with_reducible assumption | omega) rfl) (fun v24 w24 e24 h24 => ?_)
    have z24 := e24.size
    obtain rfl := h24
    exact WL_nil ⟨e24, rfl⟩
  apply AnyR_val [40] rfl (by kernel_rfl)
  · --
    intro y25 hy25
    have zy25 := hy25.size
    refine AllV_v ?_
    refine AllV_nil ?_
    refine O_not rfl rfl rfl rfl ?_
    exact WL_nil ⟨(Ext.refl _), rfl⟩
  apply AnyR_val [41] rfl (by kernel_rfl)
  · --
    intro y26 hy26
    have zy26 := hy26.size
    refine AllV_v ?_
    refine AllV_nil ?_
    refine O_move rfl rfl rfl ?_
    exact WL_nil ⟨(Ext.refl _), rfl⟩
  apply AnyR_val [42, 7] rfl (by kernel_rfl)
  · --
    intro y27 hy27
    have zy27 := hy27.size
    refine AllV_v ?_
    refine AllV_nil ?_
    refine O_loadA (vs := [_, _]) S24 rfl rfl rfl (((((b8.chg q9 (by omega)).ext e10).ext e11).chg q12 (by omega)).ext hy27) rfl rfl ?_
    exact WL_nil ⟨(Ext.refl _), rfl⟩
  apply AnyR_val [42, 8] rfl (by kernel_rfl)
  · --
    intro y28 hy28
    have zy28 := hy28.size
    refine AllV_v ?_
    refine AllV_nil ?_
    refine O_loadA (vs := [_, _]) S24 rfl rfl rfl ((((b9.ext e10).ext e11).chg q12 (by omega)).ext hy28) rfl rfl ?_
    exact WL_nil ⟨(Ext.refl _), rfl⟩
  apply AnyR_rel (RelP (pAgg2 (pEq _) (pNo w12.heap.size 41 _))) [42, 43, 44] rfl (RelP.mono (pAgg2_mono pEq_mono pNo_mono)) (by kernel_rfl)
  · --
    intro y29 hy29
    have zy29 := hy29.size
    refine AllV_v ?_
    refine AllV_v ?_
    refine AllV_v ?_
    refine AllV_nil ?_
    refine O_call enters34 rfl rfl rfl (isub_c rfl ((((((((hq5.ext e6).ext e7).chgBk (b6.ext e7) (by decide) q8).chgBk (b7.chg q8 (by omega)) (by decide) q9).ext e10).ext e11).chgBk b11 (by decide) q12).ext hy29).nl rfl ((((((((hs5.ext e6).ext e7).chgBk (b6.ext e7) (by decide) q8).chgBk (b7.chg q8 (by omega)) (by decide) q9).ext e10).ext e11).chgBk b11 (by decide) q12).ext hy29).nl (by first | with_reducible assumption | omega) (by first | with_reducible assumption | omega)) (fun v30 w30 e30 h30 => ?_)
    have z30 := e30.size
    try simp only [val_dig] at h30
    obtain ⟨q30, rfl, hq30⟩ := h30
    exact WL_nil ⟨e30, _, rfl, ⟨_, _, rfl, rfl, (hq30.mono (by omega))⟩⟩
  apply AnyR_val [42, 7] rfl (by kernel_rfl)
  · --
    intro y31 hy31
    have zy31 := hy31.size
    refine AllV_v ?_
    refine AllV_nil ?_
    refine O_loadA (vs := [_, _]) S24 rfl rfl rfl (((((b8.chg q9 (by omega)).ext e10).ext e11).chg q12 (by omega)).ext hy31) rfl rfl ?_
    exact WL_nil ⟨(Ext.refl _), rfl⟩
  apply AnyR_val [42, 8] rfl (by kernel_rfl)
  · --
    intro y32 hy32
    have zy32 := hy32.size
    refine AllV_v ?_
    refine AllV_nil ?_
    refine O_loadA (vs := [_, _]) S24 rfl rfl rfl ((((b9.ext e10).ext e11).chg q12 (by omega)).ext hy32) rfl rfl ?_
    exact WL_nil ⟨(Ext.refl _), rfl⟩
  apply AnyR_rel (RelP (pAgg2 (pEq _) (pNo w12.heap.size 41 _))) [42, 46, 47] rfl (RelP.mono (pAgg2_mono pEq_mono pNo_mono)) (by kernel_rfl)
  · --
    intro y33 hy33
    have zy33 := hy33.size
    refine AllV_v ?_
    refine AllV_v ?_
    refine AllV_v ?_
    refine AllV_nil ?_
    refine O_call enters37 rfl rfl rfl (risub_c rfl ((((((((hq5.ext e6).ext e7).chgBk (b6.ext e7) (by decide) q8).chgBk (b7.chg q8 (by omega)) (by decide) q9).ext e10).ext e11).chgBk b11 (by decide) q12).ext hy33).nl rfl ((((((((hs5.ext e6).ext e7).chgBk (b6.ext e7) (by decide) q8).chgBk (b7.chg q8 (by omega)) (by decide) q9).ext e10).ext e11).chgBk b11 (by decide) q12).ext hy33).nl (by first | with_reducible assumption | omega) (by first | with_reducible assumption | omega)) (fun v34 w34 e34 h34 => ?_)
    have z34 := e34.size
    try simp only [val_dig] at h34
    obtain ⟨q34, rfl, hq34⟩ := h34
    exact WL_nil ⟨e34, _, rfl, ⟨_, _, rfl, rfl, (hq34.mono (by omega))⟩⟩
  apply AnyR_val [42, 45, 48] rfl (by kernel_rfl)
  · --
    intro y35 hy35
    have zy35 := hy35.size
    refine AllV_v ?_
    refine AllV_r fun a36 b36 v36 la36 lb36 lc36 h36 ap36 => ?_
    clear ap36
    obtain ⟨v36_0, v36_1, rfl, rfl, h36_1⟩ := h36
    refine AllV_r fun a37 b37 v37 la37 lb37 lc37 h37 ap37 => ?_
    clear ap37
    obtain ⟨v37_0, v37_1, rfl, rfl, h37_1⟩ := h37
    refine AllV_nil ?_
    refine O_call enters16 rfl rfl rfl (isame_c rfl h36_1.nl h37_1.nl (by first | with_reducible assumption | omega) (by first | with_reducible assumption | omega) rfl) (fun v38 w38 e38 h38 => ?_)
    have z38 := e38.size
    obtain rfl := h38
    exact WL_nil ⟨e38, rfl⟩
  apply AnyR_val [42, 49] rfl (by kernel_rfl)
  · --
    intro y39 hy39
    have zy39 := hy39.size
    refine AllV_v ?_
    refine AllV_v ?_
    refine AllV_nil ?_
    refine O_not rfl rfl rfl rfl ?_
    exact WL_nil ⟨(Ext.refl _), rfl⟩
  apply AnyR_val [42, 50] rfl (by kernel_rfl)
  · --
    intro y40 hy40
    have zy40 := hy40.size
    refine AllV_v ?_
    refine AllV_v ?_
    refine AllV_nil ?_
    refine O_pickF rfl rfl rfl rfl ?_
    exact WL_nil ⟨(Ext.refl _), rfl⟩
  apply AnyR_val [51] rfl (by kernel_rfl)
  · --
    intro y41 hy41
    have zy41 := hy41.size
    refine AllV_v ?_
    refine AllV_nil ?_
    refine O_move rfl rfl rfl ?_
    exact WL_nil ⟨(Ext.refl _), rfl⟩
  apply AnyR_val [52, 7] rfl (by kernel_rfl)
  · --
    intro y42 hy42
    have zy42 := hy42.size
    refine AllV_v ?_
    refine AllV_nil ?_
    refine O_loadA (vs := [_, _]) S24 rfl rfl rfl (((((b8.chg q9 (by omega)).ext e10).ext e11).chg q12 (by omega)).ext hy42) rfl rfl ?_
    exact WL_nil ⟨(Ext.refl _), rfl⟩
  apply AnyR_val [52, 8] rfl (by kernel_rfl)
  · --
    intro y43 hy43
    have zy43 := hy43.size
    refine AllV_v ?_
    refine AllV_nil ?_
    refine O_loadA (vs := [_, _]) S24 rfl rfl rfl ((((b9.ext e10).ext e11).chg q12 (by omega)).ext hy43) rfl rfl ?_
    exact WL_nil ⟨(Ext.refl _), rfl⟩
  apply AnyR_rel (RelP (pAgg2 (pEq _) (pNo w12.heap.size 41 _))) [52, 53, 54] rfl (RelP.mono (pAgg2_mono pEq_mono pNo_mono)) (by kernel_rfl)
  · --
    intro y44 hy44
    have zy44 := hy44.size
    refine AllV_v ?_
    refine AllV_v ?_
    refine AllV_v ?_
    refine AllV_nil ?_
    refine O_call enters38 rfl rfl rfl (imul_c rfl ((((((((hq5.ext e6).ext e7).chgBk (b6.ext e7) (by decide) q8).chgBk (b7.chg q8 (by omega)) (by decide) q9).ext e10).ext e11).chgBk b11 (by decide) q12).ext hy44).nl rfl ((((((((hs5.ext e6).ext e7).chgBk (b6.ext e7) (by decide) q8).chgBk (b7.chg q8 (by omega)) (by decide) q9).ext e10).ext e11).chgBk b11 (by decide) q12).ext hy44).nl (by first | with_reducible assumption | omega) (by first | with_reducible assumption | omega)) (fun v45 w45 e45 h45 => ?_)
    have z45 := e45.size
    try simp only [val_dig] at h45
    obtain ⟨q45, rfl, hq45⟩ := h45
    exact WL_nil ⟨e45, _, rfl, ⟨_, _, rfl, rfl, (hq45.mono (by omega))⟩⟩
  apply AnyR_val [52, 7] rfl (by kernel_rfl)
  · --
    intro y46 hy46
    have zy46 := hy46.size
    refine AllV_v ?_
    refine AllV_nil ?_
    refine O_loadA (vs := [_, _]) S24 rfl rfl rfl (((((b8.chg q9 (by omega)).ext e10).ext e11).chg q12 (by omega)).ext hy46) rfl rfl ?_
    exact WL_nil ⟨(Ext.refl _), rfl⟩
  apply AnyR_val [52, 8] rfl (by kernel_rfl)
  · --
    intro y47 hy47
    have zy47 := hy47.size
    refine AllV_v ?_
    refine AllV_nil ?_
    refine O_loadA (vs := [_, _]) S24 rfl rfl rfl ((((b9.ext e10).ext e11).chg q12 (by omega)).ext hy47) rfl rfl ?_
    exact WL_nil ⟨(Ext.refl _), rfl⟩
  apply AnyR_rel (RelP (pAgg2 (pEq _) (pNo w12.heap.size 41 _))) [52, 56, 57] rfl (RelP.mono (pAgg2_mono pEq_mono pNo_mono)) (by kernel_rfl)
  · --
    intro y48 hy48
    have zy48 := hy48.size
    refine AllV_v ?_
    refine AllV_v ?_
    refine AllV_v ?_
    refine AllV_nil ?_
    refine O_call enters23 rfl rfl rfl (rimul_c rfl ((((((((hq5.ext e6).ext e7).chgBk (b6.ext e7) (by decide) q8).chgBk (b7.chg q8 (by omega)) (by decide) q9).ext e10).ext e11).chgBk b11 (by decide) q12).ext hy48).nl rfl ((((((((hs5.ext e6).ext e7).chgBk (b6.ext e7) (by decide) q8).chgBk (b7.chg q8 (by omega)) (by decide) q9).ext e10).ext e11).chgBk b11 (by decide) q12).ext hy48).nl (by first | with_reducible assumption | omega) (by first | with_reducible assumption | omega)) (fun v49 w49 e49 h49 => ?_)
    have z49 := e49.size
    try simp only [val_dig] at h49
    obtain ⟨q49, rfl, hq49⟩ := h49
    exact WL_nil ⟨e49, _, rfl, ⟨_, _, rfl, rfl, (hq49.mono (by omega))⟩⟩
  apply AnyR_val [52, 55, 58] rfl (by kernel_rfl)
  · --
    intro y50 hy50
    have zy50 := hy50.size
    refine AllV_v ?_
    refine AllV_r fun a51 b51 v51 la51 lb51 lc51 h51 ap51 => ?_
    clear ap51
    obtain ⟨v51_0, v51_1, rfl, rfl, h51_1⟩ := h51
    refine AllV_r fun a52 b52 v52 la52 lb52 lc52 h52 ap52 => ?_
    clear ap52
    obtain ⟨v52_0, v52_1, rfl, rfl, h52_1⟩ := h52
    refine AllV_nil ?_
    refine O_call enters16 rfl rfl rfl (isame_c rfl h51_1.nl h52_1.nl (by first | with_reducible assumption | omega) (by first | with_reducible assumption | omega) rfl) (fun v53 w53 e53 h53 => ?_)
    have z53 := e53.size
    obtain rfl := h53
    exact WL_nil ⟨e53, rfl⟩
  apply AnyR_val [52, 59] rfl (by kernel_rfl)
  · --
    intro y54 hy54
    have zy54 := hy54.size
    refine AllV_v ?_
    refine AllV_v ?_
    refine AllV_nil ?_
    refine O_not rfl rfl rfl rfl ?_
    exact WL_nil ⟨(Ext.refl _), rfl⟩
  apply AnyR_val [52, 60] rfl (by kernel_rfl)
  · --
    intro y55 hy55
    have zy55 := hy55.size
    refine AllV_v ?_
    refine AllV_v ?_
    refine AllV_nil ?_
    refine O_pickF rfl rfl rfl rfl ?_
    exact WL_nil ⟨(Ext.refl _), rfl⟩
  apply AnyR_val [61] rfl (by kernel_rfl)
  · --
    intro y56 hy56
    have zy56 := hy56.size
    refine AllV_v ?_
    refine AllV_nil ?_
    refine O_move rfl rfl rfl ?_
    exact WL_nil ⟨(Ext.refl _), rfl⟩
  apply AnyR_val [62, 7] rfl (by kernel_rfl)
  · --
    intro y57 hy57
    have zy57 := hy57.size
    refine AllV_v ?_
    refine AllV_nil ?_
    refine O_loadA (vs := [_, _]) S24 rfl rfl rfl (((((b8.chg q9 (by omega)).ext e10).ext e11).chg q12 (by omega)).ext hy57) rfl rfl ?_
    exact WL_nil ⟨(Ext.refl _), rfl⟩
  apply AnyR_rel (RelP (pAgg2 (pEq _) (pNo w12.heap.size 41 _))) [62, 63] rfl (RelP.mono (pAgg2_mono pEq_mono pNo_mono)) (by kernel_rfl)
  · --
    intro y58 hy58
    have zy58 := hy58.size
    refine AllV_v ?_
    refine AllV_v ?_
    refine AllV_nil ?_
    refine O_call enters35 rfl rfl rfl (ineg_c rfl ((((((((hq5.ext e6).ext e7).chgBk (b6.ext e7) (by decide) q8).chgBk (b7.chg q8 (by omega)) (by decide) q9).ext e10).ext e11).chgBk b11 (by decide) q12).ext hy58).nl (by first | with_reducible assumption | omega)) (fun v59 w59 e59 h59 => ?_)
    have z59 := e59.size
    try simp only [val_dig] at h59
    obtain ⟨q59, rfl, hq59⟩ := h59
    exact WL_nil ⟨e59, _, rfl, ⟨_, _, rfl, rfl, (hq59.mono (by omega))⟩⟩
  apply AnyR_val [62, 7] rfl (by kernel_rfl)
  · --
    intro y60 hy60
    have zy60 := hy60.size
    refine AllV_v ?_
    refine AllV_nil ?_
    refine O_loadA (vs := [_, _]) S24 rfl rfl rfl (((((b8.chg q9 (by omega)).ext e10).ext e11).chg q12 (by omega)).ext hy60) rfl rfl ?_
    exact WL_nil ⟨(Ext.refl _), rfl⟩
  apply AnyR_rel (RelP (pAgg2 (pEq _) (pNo w12.heap.size 41 _))) [62, 65] rfl (RelP.mono (pAgg2_mono pEq_mono pNo_mono)) (by kernel_rfl)
  · --
    intro y61 hy61
    have zy61 := hy61.size
    refine AllV_v ?_
    refine AllV_v ?_
    refine AllV_nil ?_
    refine O_call enters39 rfl rfl rfl (rineg_c rfl ((((((((hq5.ext e6).ext e7).chgBk (b6.ext e7) (by decide) q8).chgBk (b7.chg q8 (by omega)) (by decide) q9).ext e10).ext e11).chgBk b11 (by decide) q12).ext hy61).nl (by first | with_reducible assumption | omega)) (fun v62 w62 e62 h62 => ?_)
    have z62 := e62.size
    try simp only [val_dig] at h62
    obtain ⟨q62, rfl, hq62⟩ := h62
    exact WL_nil ⟨e62, _, rfl, ⟨_, _, rfl, rfl, (hq62.mono (by omega))⟩⟩
  apply AnyR_val [62, 64, 66] rfl (by kernel_rfl)
  · --
    intro y63 hy63
    have zy63 := hy63.size
    refine AllV_v ?_
    refine AllV_r fun a64 b64 v64 la64 lb64 lc64 h64 ap64 => ?_
    clear ap64
    obtain ⟨v64_0, v64_1, rfl, rfl, h64_1⟩ := h64
    refine AllV_r fun a65 b65 v65 la65 lb65 lc65 h65 ap65 => ?_
    clear ap65
    obtain ⟨v65_0, v65_1, rfl, rfl, h65_1⟩ := h65
    refine AllV_nil ?_
    refine O_call enters16 rfl rfl rfl (isame_c rfl h64_1.nl h65_1.nl (by first | with_reducible assumption | omega) (by first | with_reducible assumption | omega) rfl) (fun v66 w66 e66 h66 => ?_)
    have z66 := e66.size
    obtain rfl := h66
    exact WL_nil ⟨e66, rfl⟩
  apply AnyR_val [62, 67] rfl (by kernel_rfl)
  · --
    intro y67 hy67
    have zy67 := hy67.size
    refine AllV_v ?_
    refine AllV_v ?_
    refine AllV_nil ?_
    refine O_not rfl rfl rfl rfl ?_
    exact WL_nil ⟨(Ext.refl _), rfl⟩
  apply AnyR_val [62, 68] rfl (by kernel_rfl)
  · --
    intro y68 hy68
    have zy68 := hy68.size
    refine AllV_v ?_
    refine AllV_v ?_
    refine AllV_nil ?_
    refine O_pickF rfl rfl rfl rfl ?_
    exact WL_nil ⟨(Ext.refl _), rfl⟩
  refine AnyR_nil fun y69 hy69 => ?_
  have zy69 := hy69.size
  refine AllV_v ?_
  refine AllV_v ?_
  refine AllV_r fun a70 b70 v70 la70 lb70 lc70 h70 ap70 => ?_
  clear ap70
  obtain ⟨v70_0, v70_1, rfl, rfl, h70_1⟩ := h70
  refine AllV_v ?_
  refine AllV_v ?_
  refine AllV_r fun a71 b71 v71 la71 lb71 lc71 h71 ap71 => ?_
  obtain ⟨p71_70, _⟩ := ap71
  obtain ⟨v71_0, v71_1, rfl, rfl, h71_1⟩ := h71
  refine AllV_v ?_
  refine AllV_v ?_
  refine AllV_v ?_
  refine AllV_v ?_
  refine AllV_v ?_
  refine AllV_r fun a72 b72 v72 la72 lb72 lc72 h72 ap72 => ?_
  obtain ⟨p72_71, p72_70, _⟩ := ap72
  obtain ⟨v72_0, v72_1, rfl, rfl, h72_1⟩ := h72
  refine AllV_v ?_
  refine AllV_v ?_
  refine AllV_r fun a73 b73 v73 la73 lb73 lc73 h73 ap73 => ?_
  obtain ⟨p73_72, p73_71, p73_70, _⟩ := ap73
  obtain ⟨v73_0, v73_1, rfl, rfl, h73_1⟩ := h73
  refine AllV_v ?_
  refine AllV_v ?_
  refine AllV_v ?_
  refine AllV_v ?_
  refine AllV_v ?_
  refine AllV_v ?_
  refine AllV_r fun a74 b74 v74 la74 lb74 lc74 h74 ap74 => ?_
  obtain ⟨p74_73, p74_72, p74_71, p74_70, _⟩ := ap74
  obtain ⟨v74_0, v74_1, rfl, rfl, h74_1⟩ := h74
  refine AllV_v ?_
  refine AllV_v ?_
  refine AllV_r fun a75 b75 v75 la75 lb75 lc75 h75 ap75 => ?_
  obtain ⟨p75_74, p75_73, p75_72, p75_71, p75_70, _⟩ := ap75
  obtain ⟨v75_0, v75_1, rfl, rfl, h75_1⟩ := h75
  refine AllV_v ?_
  refine AllV_v ?_
  refine AllV_v ?_
  refine AllV_v ?_
  refine AllV_v ?_
  refine AllV_r fun a76 b76 v76 la76 lb76 lc76 h76 ap76 => ?_
  obtain ⟨p76_75, p76_74, p76_73, p76_72, p76_71, p76_70, _⟩ := ap76
  obtain ⟨v76_0, v76_1, rfl, rfl, h76_1⟩ := h76
  refine AllV_v ?_
  refine AllV_r fun a77 b77 v77 la77 lb77 lc77 h77 ap77 => ?_
  obtain ⟨p77_76, p77_75, p77_74, p77_73, p77_72, p77_71, p77_70, _⟩ := ap77
  obtain ⟨v77_0, v77_1, rfl, rfl, h77_1⟩ := h77
  refine AllV_v ?_
  refine AllV_v ?_
  refine AllV_v ?_
  refine AllV_nil ?_
  refine WL_end [(7, _), (8, _), (10, _), (69, _)] ⟨rfl, rfl, rfl, rfl, trivial⟩ ?_
  refine WP_condF rfl ?_
  refine WP_skip ?_
  refine WP_seq ?_
  refine WP_sub [(7, _), (8, _), (10, _)] ⟨rfl, rfl, rfl, trivial⟩ ?_
  refine WP_anyR 14 [7, 8, 10] mixed rfl (by kernel_rfl) ?_
  apply AnyR_val [7] rfl (by kernel_rfl)
  · --
    intro y78 hy78
    have zy78 := hy78.size
    refine AllV_nil ?_
    refine O_loadA (vs := [_, _]) S24 rfl rfl rfl ((((((b8.chg q9 (by omega)).ext e10).ext e11).chg q12 (by omega)).ext hy69).ext hy78) rfl rfl ?_
    exact WL_nil ⟨(Ext.refl _), rfl⟩
  apply AnyR_val [8] rfl (by kernel_rfl)
  · --
    intro y79 hy79
    have zy79 := hy79.size
    refine AllV_nil ?_
    refine O_loadA (vs := [_, _]) S24 rfl rfl rfl (((((b9.ext e10).ext e11).chg q12 (by omega)).ext hy69).ext hy79) rfl rfl ?_
    exact WL_nil ⟨(Ext.refl _), rfl⟩
  apply AnyR_val [10] rfl (by kernel_rfl)
  · --
    intro y80 hy80
    have zy80 := hy80.size
    refine AllV_nil ?_
    refine O_loadA (vs := [_, _]) S24 rfl rfl rfl ((b12.ext hy69).ext hy80) rfl rfl ?_
    exact WL_nil ⟨(Ext.refl _), rfl⟩
  apply AnyR_rel (RelP (pAgg2 (pEq _) (pNo y69.heap.size 41 _))) [71, 72] rfl (RelP.mono (pAgg2_mono pEq_mono pNo_mono)) (by kernel_rfl)
  · --
    intro y81 hy81
    have zy81 := hy81.size
    refine AllV_v ?_
    refine AllV_v ?_
    refine AllV_nil ?_
    refine O_call enters36 rfl rfl rfl (iadd_c rfl (((((((((hs5.ext e6).ext e7).chgBk (b6.ext e7) (by decide) q8).chgBk (b7.chg q8 (by omega)) (by decide) q9).ext e10).ext e11).chgBk b11 (by decide) q12).ext hy69).ext hy81).nl rfl ((((hq10.ext e11).chgBk b11 (by decide) q12).ext hy69).ext hy81).nl (by first | with_reducible assumption | omega) (by first | with_reducible assumption | omega)) (fun v82 w82 e82 h82 => ?_)
    have z82 := e82.size
    try simp only [val_dig] at h82
    obtain ⟨q82, rfl, hq82⟩ := h82
    exact WL_nil ⟨e82, _, rfl, ⟨_, _, rfl, rfl, (hq82.mono (by omega))⟩⟩
  apply AnyR_rel (RelP (pAgg2 (pEq _) (pNo y69.heap.size 41 _))) [70, 73] rfl (RelP.mono (pAgg2_mono pEq_mono pNo_mono)) (by kernel_rfl)
  · --
    intro y83 hy83
    have zy83 := hy83.size
    refine AllV_v ?_
    refine AllV_r fun a84 b84 v84 la84 lb84 lc84 h84 ap84 => ?_
    clear ap84
    obtain ⟨v84_0, v84_1, rfl, rfl, h84_1⟩ := h84
    refine AllV_nil ?_
    refine O_call enters38 rfl rfl rfl (imul_c rfl (((((((((hq5.ext e6).ext e7).chgBk (b6.ext e7) (by decide) q8).chgBk (b7.chg q8 (by omega)) (by decide) q9).ext e10).ext e11).chgBk b11 (by decide) q12).ext hy69).ext hy83).nl rfl h84_1.nl (by first | with_reducible assumption | omega) (by first | with_reducible assumption | omega)) (fun v85 w85 e85 h85 => ?_)
    have z85 := e85.size
    try simp only [val_dig] at h85
    obtain ⟨q85, rfl, hq85⟩ := h85
    exact WL_nil ⟨e85, _, rfl, ⟨_, _, rfl, rfl, (hq85.mono (by omega))⟩⟩
  apply AnyR_val [7] rfl (by kernel_rfl)
  · --
    intro y86 hy86
    have zy86 := hy86.size
    refine AllV_nil ?_
    refine O_loadA (vs := [_, _]) S24 rfl rfl rfl ((((((b8.chg q9 (by omega)).ext e10).ext e11).chg q12 (by omega)).ext hy69).ext hy86) rfl rfl ?_
    exact WL_nil ⟨(Ext.refl _), rfl⟩
  apply AnyR_val [8] rfl (by kernel_rfl)
  · --
    intro y87 hy87
    have zy87 := hy87.size
    refine AllV_nil ?_
    refine O_loadA (vs := [_, _]) S24 rfl rfl rfl (((((b9.ext e10).ext e11).chg q12 (by omega)).ext hy69).ext hy87) rfl rfl ?_
    exact WL_nil ⟨(Ext.refl _), rfl⟩
  apply AnyR_rel (RelP (pAgg2 (pEq _) (pNo y69.heap.size 41 _))) [75, 76] rfl (RelP.mono (pAgg2_mono pEq_mono pNo_mono)) (by kernel_rfl)
  · --
    intro y88 hy88
    have zy88 := hy88.size
    refine AllV_v ?_
    refine AllV_v ?_
    refine AllV_nil ?_
    refine O_call enters38 rfl rfl rfl (imul_c rfl (((((((((hq5.ext e6).ext e7).chgBk (b6.ext e7) (by decide) q8).chgBk (b7.chg q8 (by omega)) (by decide) q9).ext e10).ext e11).chgBk b11 (by decide) q12).ext hy69).ext hy88).nl rfl (((((((((hs5.ext e6).ext e7).chgBk (b6.ext e7) (by decide) q8).chgBk (b7.chg q8 (by omega)) (by decide) q9).ext e10).ext e11).chgBk b11 (by decide) q12).ext hy69).ext hy88).nl (by first | with_reducible assumption | omega) (by first | with_reducible assumption | omega)) (fun v89 w89 e89 h89 => ?_)
    have z89 := e89.size
    try simp only [val_dig] at h89
    obtain ⟨q89, rfl, hq89⟩ := h89
    exact WL_nil ⟨e89, _, rfl, ⟨_, _, rfl, rfl, (hq89.mono (by omega))⟩⟩
  apply AnyR_val [7] rfl (by kernel_rfl)
  · --
    intro y90 hy90
    have zy90 := hy90.size
    refine AllV_nil ?_
    refine O_loadA (vs := [_, _]) S24 rfl rfl rfl ((((((b8.chg q9 (by omega)).ext e10).ext e11).chg q12 (by omega)).ext hy69).ext hy90) rfl rfl ?_
    exact WL_nil ⟨(Ext.refl _), rfl⟩
  apply AnyR_val [10] rfl (by kernel_rfl)
  · --
    intro y91 hy91
    have zy91 := hy91.size
    refine AllV_nil ?_
    refine O_loadA (vs := [_, _]) S24 rfl rfl rfl ((b12.ext hy69).ext hy91) rfl rfl ?_
    exact WL_nil ⟨(Ext.refl _), rfl⟩
  apply AnyR_rel (RelP (pAgg2 (pEq _) (pNo y69.heap.size 41 _))) [78, 79] rfl (RelP.mono (pAgg2_mono pEq_mono pNo_mono)) (by kernel_rfl)
  · --
    intro y92 hy92
    have zy92 := hy92.size
    refine AllV_v ?_
    refine AllV_v ?_
    refine AllV_nil ?_
    refine O_call enters38 rfl rfl rfl (imul_c rfl (((((((((hq5.ext e6).ext e7).chgBk (b6.ext e7) (by decide) q8).chgBk (b7.chg q8 (by omega)) (by decide) q9).ext e10).ext e11).chgBk b11 (by decide) q12).ext hy69).ext hy92).nl rfl ((((hq10.ext e11).chgBk b11 (by decide) q12).ext hy69).ext hy92).nl (by first | with_reducible assumption | omega) (by first | with_reducible assumption | omega)) (fun v93 w93 e93 h93 => ?_)
    have z93 := e93.size
    try simp only [val_dig] at h93
    obtain ⟨q93, rfl, hq93⟩ := h93
    exact WL_nil ⟨e93, _, rfl, ⟨_, _, rfl, rfl, (hq93.mono (by omega))⟩⟩
  apply AnyR_rel (RelP (pAgg2 (pEq _) (pNo y69.heap.size 41 _))) [77, 80] rfl (RelP.mono (pAgg2_mono pEq_mono pNo_mono)) (by kernel_rfl)
  · --
    intro y94 hy94
    have zy94 := hy94.size
    refine AllV_r fun a95 b95 v95 la95 lb95 lc95 h95 ap95 => ?_
    clear ap95
    obtain ⟨v95_0, v95_1, rfl, rfl, h95_1⟩ := h95
    refine AllV_r fun a96 b96 v96 la96 lb96 lc96 h96 ap96 => ?_
    clear ap96
    obtain ⟨v96_0, v96_1, rfl, rfl, h96_1⟩ := h96
    refine AllV_nil ?_
    refine O_call enters36 rfl rfl rfl (iadd_c rfl h95_1.nl rfl h96_1.nl (by first | with_reducible assumption | omega) (by first | with_reducible assumption | omega)) (fun v97 w97 e97 h97 => ?_)
    have z97 := e97.size
    try simp only [val_dig] at h97
    obtain ⟨q97, rfl, hq97⟩ := h97
    exact WL_nil ⟨e97, _, rfl, ⟨_, _, rfl, rfl, (hq97.mono (by omega))⟩⟩
  apply AnyR_rel (BkR _ _) [] rfl BkR.mono (by kernel_rfl)
  · --
    intro y98 hy98
    have zy98 := hy98.size
    refine AllV_nil ?_
    refine O_alloc S24 rfl rfl (fun g99 w99 b99 e99 gl99 gh99 => ?_)
    have z99 := e99.size
    exact WL_nil ⟨e99, _, rfl, _, rfl, gl99, gh99, b99⟩
  apply AnyR_rel (BkR _ _) [] rfl BkR.mono (by kernel_rfl)
  · --
    intro y100 hy100
    have zy100 := hy100.size
    refine AllV_nil ?_
    refine O_alloc S24 rfl rfl (fun g101 w101 b101 e101 gl101 gh101 => ?_)
    have z101 := e101.size
    exact WL_nil ⟨e101, _, rfl, _, rfl, gl101, gh101, b101⟩
  refine AnyR_nil fun y102 hy102 => ?_
  have zy102 := hy102.size
  refine AllV_v ?_
  refine AllV_v ?_
  refine AllV_v ?_
  refine AllV_r fun a103 b103 v103 la103 lb103 lc103 h103 ap103 => ?_
  clear ap103
  obtain ⟨v103_0, v103_1, rfl, rfl, h103_1⟩ := h103
  refine AllV_r fun a104 b104 v104 la104 lb104 lc104 h104 ap104 => ?_
  obtain ⟨p104_103, _⟩ := ap104
  obtain ⟨v104_0, v104_1, rfl, rfl, h104_1⟩ := h104
  refine AllV_v ?_
  refine AllV_v ?_
  refine AllV_r fun a105 b105 v105 la105 lb105 lc105 h105 ap105 => ?_
  obtain ⟨p105_104, p105_103, _⟩ := ap105
  obtain ⟨v105_0, v105_1, rfl, rfl, h105_1⟩ := h105
  refine AllV_v ?_
  refine AllV_v ?_
  refine AllV_r fun a106 b106 v106 la106 lb106 lc106 h106 ap106 => ?_
  obtain ⟨p106_105, p106_104, p106_103, _⟩ := ap106
  obtain ⟨v106_0, v106_1, rfl, rfl, h106_1⟩ := h106
  refine AllV_r fun a107 b107 v107 la107 lb107 lc107 h107 ap107 => ?_
  obtain ⟨p107_106, p107_105, p107_104, p107_103, _⟩ := ap107
  obtain ⟨v107_0, v107_1, rfl, rfl, h107_1⟩ := h107
  refine AllV_r fun a108 b108 v108 la108 lb108 lc108 h108 ap108 => ?_
  obtain ⟨p108_107, p108_106, p108_105, p108_104, p108_103, _⟩ := ap108
  obtain ⟨g108, rfl, gl108, gh108, b108⟩ := h108
  refine AllV_r fun a109 b109 v109 la109 lb109 lc109 h109 ap109 => ?_
  obtain ⟨p109_108, p109_107, p109_106, p109_105, p109_104, p109_103, _⟩ := ap109
  obtain ⟨g109, rfl, gl109, gh109, b109⟩ := h109
  refine AllV_nil ?_
  refine O_storeA (cs' := [_, _]) S24 rfl rfl rfl b108 rfl rfl (one_cons rfl (one_cons (h104_1.nl).one one_nil)) rfl (fun w110 b110 q110 => ?_)
  have z110 := Nat.le_of_eq q110.size.symm
  have e110 : Ext w w110 := q110.ext ((e12.trans hy69).trans hy102) (by omega)
  refine O_storeA (cs' := [_, _]) S24 rfl rfl rfl (b109.chg q110 (by omega)) rfl rfl (one_cons rfl (one_cons ((h107_1.chgBk b108 (by decide) q110).nl).one one_nil)) rfl (fun w111 b111 q111 => ?_)
  have z111 := Nat.le_of_eq q111.size.symm
  have e111 : Ext w w111 := q111.ext e110 (by omega)
  refine WL_end [(7, _), (12, _), (13, _)] ⟨rfl, rfl, rfl, trivial⟩ ?_
  refine WP_seq ?_
  refine WP_sub [(7, _), (12, _), (13, _)] ⟨rfl, rfl, rfl, trivial⟩ ?_
  refine WP_anyR 11 [7, 12, 13] mixed rfl (by kernel_rfl) ?_
  apply AnyR_val [12] rfl (by kernel_rfl)
  · --
    intro y112 hy112
    have zy112 := hy112.size
    refine AllV_nil ?_
    refine O_loadA (vs := [_, _]) S24 rfl rfl rfl ((b110.chg q111 (by omega)).ext hy112) rfl rfl ?_
    exact WL_nil ⟨(Ext.refl _), rfl⟩
  apply AnyR_val [13] rfl (by kernel_rfl)
  · --
    intro y113 hy113
    have zy113 := hy113.size
    refine AllV_nil ?_
    refine O_loadA (vs := [_, _]) S24 rfl rfl rfl (b111.ext hy113) rfl rfl ?_
    exact WL_nil ⟨(Ext.refl _), rfl⟩
  apply AnyR_val [82, 83] rfl (by kernel_rfl)
  · --
    intro y114 hy114
    have zy114 := hy114.size
    refine AllV_v ?_
    refine AllV_v ?_
    refine AllV_nil ?_
    refine O_call enters16 rfl rfl rfl (isame_c (by rw [Int.mul_add]) (((h104_1.chgBk b108 (by decide) q110).chgBk (b109.chg q110 (by omega)) (by decide) q111).ext hy114).nl (((h107_1.chgBk b108 (by decide) q110).chgBk (b109.chg q110 (by omega)) (by decide) q111).ext hy114).nl (Nat.le_trans (by with_reducible assumption) (by decide)) (Nat.le_trans (by with_reducible assumption) (by decide)) (by rw [Int.mul_add])) (fun v115 w115 e115 h115 => ?_)
    have z115 := e115.size
    obtain rfl := h115
    exact WL_nil ⟨e115, rfl⟩
  apply AnyR_val [84] rfl (by kernel_rfl)
  · --
    intro y116 hy116
    have zy116 := hy116.size
    refine AllV_v ?_
    refine AllV_nil ?_
    refine O_move rfl rfl rfl ?_
    exact WL_nil ⟨(Ext.refl _), rfl⟩
  apply AnyR_val [85, 12] rfl (by kernel_rfl)
  · --
    intro y117 hy117
    have zy117 := hy117.size
    refine AllV_v ?_
    refine AllV_nil ?_
    refine O_loadA (vs := [_, _]) S24 rfl rfl rfl ((b110.chg q111 (by omega)).ext hy117) rfl rfl ?_
    exact WL_nil ⟨(Ext.refl _), rfl⟩
  apply AnyR_val [85, 86] rfl (by kernel_rfl)
  · --
    intro y118 hy118
    have zy118 := hy118.size
    refine AllV_v ?_
    refine AllV_v ?_
    refine AllV_nil ?_
    refine O_call enters20 rfl rfl rfl (ivalidT_c rfl (((h104_1.chgBk b108 (by decide) q110).chgBk (b109.chg q110 (by omega)) (by decide) q111).ext hy118).nl (by first | with_reducible assumption | omega)) (fun v119 w119 e119 h119 => ?_)
    have z119 := e119.size
    obtain rfl := h119
    exact WL_nil ⟨e119, rfl⟩
  apply AnyR_val [85, 87] rfl (by kernel_rfl)
  · --
    intro y120 hy120
    have zy120 := hy120.size
    refine AllV_v ?_
    refine AllV_v ?_
    refine AllV_nil ?_
    refine O_pickT rfl rfl rfl rfl ?_
    exact WL_nil ⟨(Ext.refl _), rfl⟩
  apply AnyR_val [88] rfl (by kernel_rfl)
  · --
    intro y121 hy121
    have zy121 := hy121.size
    refine AllV_v ?_
    refine AllV_nil ?_
    refine O_move rfl rfl rfl ?_
    exact WL_nil ⟨(Ext.refl _), rfl⟩
  apply AnyR_val [89, 7] rfl (by kernel_rfl)
  · --
    intro y122 hy122
    have zy122 := hy122.size
    refine AllV_v ?_
    refine AllV_nil ?_
    refine O_loadA (vs := [_, _]) S24 rfl rfl rfl (((((((((b8.chg q9 (by omega)).ext e10).ext e11).chg q12 (by omega)).ext hy69).ext hy102).chg q110 (by omega)).chg q111 (by omega)).ext hy122) rfl rfl ?_
    exact WL_nil ⟨(Ext.refl _), rfl⟩
  apply AnyR_val [89, 7] rfl (by kernel_rfl)
  · --
    intro y123 hy123
    have zy123 := hy123.size
    refine AllV_v ?_
    refine AllV_nil ?_
    refine O_loadA (vs := [_, _]) S24 rfl rfl rfl (((((((((b8.chg q9 (by omega)).ext e10).ext e11).chg q12 (by omega)).ext hy69).ext hy102).chg q110 (by omega)).chg q111 (by omega)).ext hy123) rfl rfl ?_
    exact WL_nil ⟨(Ext.refl _), rfl⟩
  apply AnyR_rel (RelP (pAgg2 (pEq _) (pNo w111.heap.size 41 _))) [89, 91] rfl (RelP.mono (pAgg2_mono pEq_mono pNo_mono)) (by kernel_rfl)
  · --
    intro y124 hy124
    have zy124 := hy124.size
    refine AllV_v ?_
    refine AllV_v ?_
    refine AllV_nil ?_
    refine O_call enters35 rfl rfl rfl (ineg_c rfl ((((((((((((hq5.ext e6).ext e7).chgBk (b6.ext e7) (by decide) q8).chgBk (b7.chg q8 (by omega)) (by decide) q9).ext e10).ext e11).chgBk b11 (by decide) q12).ext hy69).ext hy102).chgBk b108 (by decide) q110).chgBk (b109.chg q110 (by omega)) (by decide) q111).ext hy124).nl (by first | with_reducible assumption | omega)) (fun v125 w125 e125 h125 => ?_)
    have z125 := e125.size
    try simp only [val_dig] at h125
    obtain ⟨q125, rfl, hq125⟩ := h125
    exact WL_nil ⟨e125, _, rfl, ⟨_, _, rfl, rfl, (hq125.mono (by omega))⟩⟩
  refine AnyR_nil fun y126 hy126 => ?_
  have zy126 := hy126.size
  refine AllV_v ?_
  refine AllV_v ?_
  refine AllV_v ?_
  refine AllV_v ?_
  refine AllV_v ?_
  refine AllV_v ?_
  refine AllV_v ?_
  refine AllV_v ?_
  refine AllV_v ?_
  refine AllV_v ?_
  refine AllV_r fun a127 b127 v127 la127 lb127 lc127 h127 ap127 => ?_
  clear ap127
  obtain ⟨v127_0, v127_1, rfl, rfl, h127_1⟩ := h127
  refine AllV_nil ?_
  refine O_call enters36 rfl rfl rfl (iadd_c rfl ((((((((((((hq5.ext e6).ext e7).chgBk (b6.ext e7) (by decide) q8).chgBk (b7.chg q8 (by omega)) (by decide) q9).ext e10).ext e11).chgBk b11 (by decide) q12).ext hy69).ext hy102).chgBk b108 (by decide) q110).chgBk (b109.chg q110 (by omega)) (by decide) q111).ext hy126).nl rfl h127_1.nl (by first | with_reducible assumption | omega) (by first | with_reducible assumption | omega)) (fun v128 w128 e128 h128 => ?_)
  have z128 := e128.size
  try simp only [val_dig] at h128
  obtain ⟨q128, rfl, hq128⟩ := h128
  refine O_call enters32 rfl rfl rfl (isign_c rfl hq128.nl (by first | with_reducible assumption | omega)) (fun v129 w129 e129 h129 => ?_)
  have z129 := e129.size
  obtain rfl := h129
  refine O_eql (t := true) rfl rfl rfl rfl (decide_eq_true (by rw [Int.add_right_neg]; rfl)) ?_
  refine O_pickT rfl rfl rfl rfl ?_
  refine O_assign rfl rfl rfl ?_
  refine WL_end [(6, _)] ⟨rfl, trivial⟩ ?_
  refine WP_ret ?_
  refine ret1 Try.results8 rfl ?_
  exact ⟨_, rfl, (((e111.trans hy126).trans e128).trans e129), rfl⟩

theorem law_IntegerRing_FT {w : World} {vx vy vz : Value} {lx ly lz : List Nat} {bx by_ bz : Bool} (hx : Nl w vx lx) (hy : Nl w vy ly) (hz : Nl w vz lz) (h : (40 : Int) < (lx.length : Int) ∨ (40 : Int) < (ly.length : Int)) (h3 : lz.length ≤ 40) :
    Calls Try.prog 8 #[.agg #[.bool bx, vx], .agg #[.bool by_, vy], .agg #[.bool bz, vz]] w (Ret w fun r _ => r = .bool true) := by
  refine enter (args := [_, _, _]) Try.func8 rfl Try.ntmps8 rfl ?_
  refine WP_seq ?_
  refine WP_region ?_
  refine O_box _ rfl rfl rfl rfl (fun g1 w1 b1 e1 gl1 gh1 => ?_)
  have z1 := e1.size
  refine O_box _ rfl rfl rfl rfl (fun g2 w2 b2 e2 gl2 gh2 => ?_)
  have z2 := e2.size
  refine O_box _ rfl rfl rfl rfl (fun g3 w3 b3 e3 gl3 gh3 => ?_)
  have z3 := e3.size
  refine O_assign rfl rfl rfl ?_
  refine WL_end [(3, _), (4, _), (5, _)] ⟨rfl, rfl, rfl, trivial⟩ ?_
  refine WP_seq ?_
  refine WP_seq ?_
  refine WP_region ?_
  refine O_call enters9 rfl rfl rfl (awake5_c) (fun v4 w4 e4 h4 => ?_)
  have z4 := e4.size
  obtain rfl := h4
  refine O_not rfl rfl rfl rfl ?_
  refine WL_end [(3, _), (4, _), (5, _), (15, _)] ⟨rfl, rfl, rfl, rfl, trivial⟩ ?_
  refine WP_condF rfl ?_
  refine WP_skip ?_
  refine WP_seq ?_
  refine WP_region ?_
  refine O_loadA (vs := [_, _]) S24 rfl rfl rfl (((b1.ext e2).ext e3).ext e4) rfl rfl ?_
  refine O_loadA (vs := [_, _]) S24 rfl rfl rfl ((b2.ext e3).ext e4) rfl rfl ?_
  refine O_call enters19 rfl rfl rfl (two_F (hx.ext (((e1.trans e2).trans e3).trans e4)) (hy.ext (((e1.trans e2).trans e3).trans e4)) (by (try simp only [val_dig, List.length_take, List.length_nil, List.length_cons, List.length_append, List.length_replicate, List.length_set, List.length_map, List.length_drop]); omega) (by (try simp only [val_dig, List.length_take, List.length_nil, List.length_cons, List.length_append, List.length_replicate, List.length_set, List.length_map, List.length_drop]); omega)) (fun v5 w5 e5 h5 => ?_)
  have z5 := e5.size
  try simp only [val_dig] at h5
  obtain ⟨_, b5, _, d5, rfl, ho5, hp5, hc5, hd5⟩ := h5
  refine O_move rfl rfl rfl ?_
  refine O_extract rfl rfl rfl rfl ?_
  refine O_extract rfl rfl rfl rfl ?_
  refine O_extract rfl rfl rfl rfl ?_
  refine O_alloc S24 rfl rfl (fun g6 w6 b6 e6 gl6 gh6 => ?_)
  have z6 := e6.size
  refine O_alloc S24 rfl rfl (fun g7 w7 b7 e7 gl7 gh7 => ?_)
  have z7 := e7.size
  refine O_storeA (cs' := [_, _]) S24 rfl rfl rfl (b6.ext e7) rfl rfl (one_cons rfl (one_cons (And.intro ho5 hc5).1 one_nil)) rfl (fun w8 b8 q8 => ?_)
  have z8 := Nat.le_of_eq q8.size.symm
  have e8 : Ext w w8 := q8.ext ((((((e1.trans e2).trans e3).trans e4).trans e5).trans e6).trans e7) (by omega)
  refine O_storeA (cs' := [_, _]) S24 rfl rfl rfl (b7.chg q8 (by omega)) rfl rfl (one_cons rfl (one_cons (And.intro hp5 hd5).1 one_nil)) rfl (fun w9 b9 q9 => ?_)
  have z9 := Nat.le_of_eq q9.size.symm
  have e9 : Ext w w9 := q9.ext e8 (by omega)
  refine O_assign rfl rfl rfl ?_
  refine WL_end [(5, _), (7, _), (8, _), (9, _)] ⟨rfl, rfl, rfl, rfl, trivial⟩ ?_
  refine WP_seq ?_
  refine WP_region ?_
  refine O_loadA (vs := [_, _]) S24 rfl rfl rfl ((((((b3.ext e4).ext e5).ext e6).ext e7).chg q8 (by omega)).chg q9 (by omega)) rfl rfl ?_
  refine O_call enters10 rfl rfl rfl (mint_T (hz.ext e9) (by (try simp only [val_dig, List.length_take, List.length_nil, List.length_cons, List.length_append, List.length_replicate, List.length_set, List.length_map, List.length_drop]); omega) (by (try simp only [val_dig, List.length_take, List.length_nil, List.length_cons, List.length_append, List.length_replicate, List.length_set, List.length_map, List.length_drop]); omega)) (fun v10 w10 e10 h10 => ?_)
  have z10 := e10.size
  try simp only [val_dig] at h10
  obtain ⟨q10, rfl, hq10⟩ := h10
  refine O_move rfl rfl rfl ?_
  refine O_extract rfl rfl rfl rfl ?_
  refine O_extract rfl rfl rfl rfl ?_
  refine O_alloc S24 rfl rfl (fun g11 w11 b11 e11 gl11 gh11 => ?_)
  have z11 := e11.size
  refine O_storeA (cs' := [_, _]) S24 rfl rfl rfl b11 rfl rfl (one_cons rfl (one_cons ((hq10.ext e11).nl).one one_nil)) rfl (fun w12 b12 q12 => ?_)
  have z12 := Nat.le_of_eq q12.size.symm
  have e12 : Ext w w12 := q12.ext ((e9.trans e10).trans e11) (by omega)
  refine O_assign rfl rfl rfl ?_
  refine WL_end [(7, _), (8, _), (9, _), (10, _), (11, _)] ⟨rfl, rfl, rfl, rfl, rfl, trivial⟩ ?_
  refine WP_seq ?_
  refine WP_seq ?_
  refine WP_region ?_
  refine O_move rfl rfl rfl ?_
  refine O_not rfl rfl rfl rfl ?_
  refine O_move rfl rfl rfl ?_
  refine O_skip rfl rfl ?_
  refine O_skip rfl rfl ?_
  refine O_pickT rfl rfl rfl rfl ?_
  refine WL_end [(7, _), (8, _), (10, _), (33, _)] ⟨rfl, rfl, rfl, rfl, trivial⟩ ?_
  refine WP_condT rfl ?_
  refine WP_seq ?_
  refine WP_region ?_
  refine O_assign rfl rfl rfl ?_
  refine WL_end [(6, _)] ⟨rfl, trivial⟩ ?_
  refine WP_ret ?_
  refine ret1 Try.results8 rfl ?_
  exact ⟨_, rfl, e12, rfl⟩

theorem law_IntegerRing_FF {w : World} {vx vy vz : Value} {lx ly lz : List Nat} {bx by_ bz : Bool} (hx : Nl w vx lx) (hy : Nl w vy ly) (hz : Nl w vz lz) (h : (40 : Int) < (lx.length : Int) ∨ (40 : Int) < (ly.length : Int)) (h3 : (40 : Int) < (lz.length : Int)) :
    Calls Try.prog 8 #[.agg #[.bool bx, vx], .agg #[.bool by_, vy], .agg #[.bool bz, vz]] w (Ret w fun r _ => r = .bool true) := by
  refine enter (args := [_, _, _]) Try.func8 rfl Try.ntmps8 rfl ?_
  refine WP_seq ?_
  refine WP_region ?_
  refine O_box _ rfl rfl rfl rfl (fun g1 w1 b1 e1 gl1 gh1 => ?_)
  have z1 := e1.size
  refine O_box _ rfl rfl rfl rfl (fun g2 w2 b2 e2 gl2 gh2 => ?_)
  have z2 := e2.size
  refine O_box _ rfl rfl rfl rfl (fun g3 w3 b3 e3 gl3 gh3 => ?_)
  have z3 := e3.size
  refine O_assign rfl rfl rfl ?_
  refine WL_end [(3, _), (4, _), (5, _)] ⟨rfl, rfl, rfl, trivial⟩ ?_
  refine WP_seq ?_
  refine WP_seq ?_
  refine WP_region ?_
  refine O_call enters9 rfl rfl rfl (awake5_c) (fun v4 w4 e4 h4 => ?_)
  have z4 := e4.size
  obtain rfl := h4
  refine O_not rfl rfl rfl rfl ?_
  refine WL_end [(3, _), (4, _), (5, _), (15, _)] ⟨rfl, rfl, rfl, rfl, trivial⟩ ?_
  refine WP_condF rfl ?_
  refine WP_skip ?_
  refine WP_seq ?_
  refine WP_region ?_
  refine O_loadA (vs := [_, _]) S24 rfl rfl rfl (((b1.ext e2).ext e3).ext e4) rfl rfl ?_
  refine O_loadA (vs := [_, _]) S24 rfl rfl rfl ((b2.ext e3).ext e4) rfl rfl ?_
  refine O_call enters19 rfl rfl rfl (two_F (hx.ext (((e1.trans e2).trans e3).trans e4)) (hy.ext (((e1.trans e2).trans e3).trans e4)) (by (try simp only [val_dig, List.length_take, List.length_nil, List.length_cons, List.length_append, List.length_replicate, List.length_set, List.length_map, List.length_drop]); omega) (by (try simp only [val_dig, List.length_take, List.length_nil, List.length_cons, List.length_append, List.length_replicate, List.length_set, List.length_map, List.length_drop]); omega)) (fun v5 w5 e5 h5 => ?_)
  have z5 := e5.size
  try simp only [val_dig] at h5
  obtain ⟨_, b5, _, d5, rfl, ho5, hp5, hc5, hd5⟩ := h5
  refine O_move rfl rfl rfl ?_
  refine O_extract rfl rfl rfl rfl ?_
  refine O_extract rfl rfl rfl rfl ?_
  refine O_extract rfl rfl rfl rfl ?_
  refine O_alloc S24 rfl rfl (fun g6 w6 b6 e6 gl6 gh6 => ?_)
  have z6 := e6.size
  refine O_alloc S24 rfl rfl (fun g7 w7 b7 e7 gl7 gh7 => ?_)
  have z7 := e7.size
  refine O_storeA (cs' := [_, _]) S24 rfl rfl rfl (b6.ext e7) rfl rfl (one_cons rfl (one_cons (And.intro ho5 hc5).1 one_nil)) rfl (fun w8 b8 q8 => ?_)
  have z8 := Nat.le_of_eq q8.size.symm
  have e8 : Ext w w8 := q8.ext ((((((e1.trans e2).trans e3).trans e4).trans e5).trans e6).trans e7) (by omega)
  refine O_storeA (cs' := [_, _]) S24 rfl rfl rfl (b7.chg q8 (by omega)) rfl rfl (one_cons rfl (one_cons (And.intro hp5 hd5).1 one_nil)) rfl (fun w9 b9 q9 => ?_)
  have z9 := Nat.le_of_eq q9.size.symm
  have e9 : Ext w w9 := q9.ext e8 (by omega)
  refine O_assign rfl rfl rfl ?_
  refine WL_end [(5, _), (7, _), (8, _), (9, _)] ⟨rfl, rfl, rfl, rfl, trivial⟩ ?_
  refine WP_seq ?_
  refine WP_region ?_
  refine O_loadA (vs := [_, _]) S24 rfl rfl rfl ((((((b3.ext e4).ext e5).ext e6).ext e7).chg q8 (by omega)).chg q9 (by omega)) rfl rfl ?_
  refine O_call enters10 rfl rfl rfl (mint_F (hz.ext e9) (by (try simp only [val_dig, List.length_take, List.length_nil, List.length_cons, List.length_append, List.length_replicate, List.length_set, List.length_map, List.length_drop]); omega) (by (try simp only [val_dig, List.length_take, List.length_nil, List.length_cons, List.length_append, List.length_replicate, List.length_set, List.length_map, List.length_drop]); omega)) (fun v10 w10 e10 h10 => ?_)
  have z10 := e10.size
  try simp only [val_dig] at h10
  obtain rfl := h10
  refine O_move rfl rfl rfl ?_
  refine O_extract rfl rfl rfl rfl ?_
  refine O_extract rfl rfl rfl rfl ?_
  refine O_alloc S24 rfl rfl (fun g11 w11 b11 e11 gl11 gh11 => ?_)
  have z11 := e11.size
  refine O_storeA (cs' := [_, _]) S24 rfl rfl rfl b11 rfl rfl (one_cons rfl (one_cons rfl one_nil)) rfl (fun w12 b12 q12 => ?_)
  have z12 := Nat.le_of_eq q12.size.symm
  have e12 : Ext w w12 := q12.ext ((e9.trans e10).trans e11) (by omega)
  refine O_assign rfl rfl rfl ?_
  refine WL_end [(7, _), (8, _), (9, _), (10, _), (11, _)] ⟨rfl, rfl, rfl, rfl, rfl, trivial⟩ ?_
  refine WP_seq ?_
  refine WP_seq ?_
  refine WP_region ?_
  refine O_move rfl rfl rfl ?_
  refine O_not rfl rfl rfl rfl ?_
  refine O_move rfl rfl rfl ?_
  refine O_skip rfl rfl ?_
  refine O_skip rfl rfl ?_
  refine O_pickT rfl rfl rfl rfl ?_
  refine WL_end [(7, _), (8, _), (10, _), (33, _)] ⟨rfl, rfl, rfl, rfl, trivial⟩ ?_
  refine WP_condT rfl ?_
  refine WP_seq ?_
  refine WP_region ?_
  refine O_assign rfl rfl rfl ?_
  refine WL_end [(6, _)] ⟨rfl, trivial⟩ ?_
  refine WP_ret ?_
  refine ret1 Try.results8 rfl ?_
  exact ⟨_, rfl, e12, rfl⟩

theorem law_IntegerRing_TF {w : World} {vx vy vz : Value} {lx ly lz : List Nat} {bx by_ bz : Bool} (hx : Nl w vx lx) (hy : Nl w vy ly) (hz : Nl w vz lz) (h1 : lx.length ≤ 40) (h2 : ly.length ≤ 40) (h3 : (40 : Int) < (lz.length : Int)) :
    Calls Try.prog 8 #[.agg #[.bool bx, vx], .agg #[.bool by_, vy], .agg #[.bool bz, vz]] w (Ret w fun r _ => r = .bool true) := by
  refine enter (args := [_, _, _]) Try.func8 rfl Try.ntmps8 rfl ?_
  refine WP_seq ?_
  refine WP_region ?_
  refine O_box _ rfl rfl rfl rfl (fun g1 w1 b1 e1 gl1 gh1 => ?_)
  have z1 := e1.size
  refine O_box _ rfl rfl rfl rfl (fun g2 w2 b2 e2 gl2 gh2 => ?_)
  have z2 := e2.size
  refine O_box _ rfl rfl rfl rfl (fun g3 w3 b3 e3 gl3 gh3 => ?_)
  have z3 := e3.size
  refine O_assign rfl rfl rfl ?_
  refine WL_end [(3, _), (4, _), (5, _)] ⟨rfl, rfl, rfl, trivial⟩ ?_
  refine WP_seq ?_
  refine WP_seq ?_
  refine WP_region ?_
  refine O_call enters9 rfl rfl rfl (awake5_c) (fun v4 w4 e4 h4 => ?_)
  have z4 := e4.size
  obtain rfl := h4
  refine O_not rfl rfl rfl rfl ?_
  refine WL_end [(3, _), (4, _), (5, _), (15, _)] ⟨rfl, rfl, rfl, rfl, trivial⟩ ?_
  refine WP_condF rfl ?_
  refine WP_skip ?_
  refine WP_seq ?_
  refine WP_region ?_
  refine O_loadA (vs := [_, _]) S24 rfl rfl rfl (((b1.ext e2).ext e3).ext e4) rfl rfl ?_
  refine O_loadA (vs := [_, _]) S24 rfl rfl rfl ((b2.ext e3).ext e4) rfl rfl ?_
  refine O_call enters19 rfl rfl rfl (two_T (hx.ext (((e1.trans e2).trans e3).trans e4)) (hy.ext (((e1.trans e2).trans e3).trans e4)) (by (try simp only [val_dig, List.length_take, List.length_nil, List.length_cons, List.length_append, List.length_replicate, List.length_set, List.length_map, List.length_drop]); omega) (by (try simp only [val_dig, List.length_take, List.length_nil, List.length_cons, List.length_append, List.length_replicate, List.length_set, List.length_map, List.length_drop]); omega) (by (try simp only [val_dig, List.length_take, List.length_nil, List.length_cons, List.length_append, List.length_replicate, List.length_set, List.length_map, List.length_drop]); omega)) (fun v5 w5 e5 h5 => ?_)
  have z5 := e5.size
  try simp only [val_dig] at h5
  obtain ⟨q5, s5, rfl, hq5, hs5⟩ := h5
  refine O_move rfl rfl rfl ?_
  refine O_extract rfl rfl rfl rfl ?_
  refine O_extract rfl rfl rfl rfl ?_
  refine O_extract rfl rfl rfl rfl ?_
  refine O_alloc S24 rfl rfl (fun g6 w6 b6 e6 gl6 gh6 => ?_)
  have z6 := e6.size
  refine O_alloc S24 rfl rfl (fun g7 w7 b7 e7 gl7 gh7 => ?_)
  have z7 := e7.size
  refine O_storeA (cs' := [_, _]) S24 rfl rfl rfl (b6.ext e7) rfl rfl (one_cons rfl (one_cons (((hq5.ext e6).ext e7).nl).one one_nil)) rfl (fun w8 b8 q8 => ?_)
  have z8 := Nat.le_of_eq q8.size.symm
  have e8 : Ext w w8 := q8.ext ((((((e1.trans e2).trans e3).trans e4).trans e5).trans e6).trans e7) (by omega)
  refine O_storeA (cs' := [_, _]) S24 rfl rfl rfl (b7.chg q8 (by omega)) rfl rfl (one_cons rfl (one_cons ((((hs5.ext e6).ext e7).chgBk (b6.ext e7) (by decide) q8).nl).one one_nil)) rfl (fun w9 b9 q9 => ?_)
  have z9 := Nat.le_of_eq q9.size.symm
  have e9 : Ext w w9 := q9.ext e8 (by omega)
  refine O_assign rfl rfl rfl ?_
  refine WL_end [(5, _), (7, _), (8, _), (9, _)] ⟨rfl, rfl, rfl, rfl, trivial⟩ ?_
  refine WP_seq ?_
  refine WP_region ?_
  refine O_loadA (vs := [_, _]) S24 rfl rfl rfl ((((((b3.ext e4).ext e5).ext e6).ext e7).chg q8 (by omega)).chg q9 (by omega)) rfl rfl ?_
  refine O_call enters10 rfl rfl rfl (mint_F (hz.ext e9) (by (try simp only [val_dig, List.length_take, List.length_nil, List.length_cons, List.length_append, List.length_replicate, List.length_set, List.length_map, List.length_drop]); omega) (by (try simp only [val_dig, List.length_take, List.length_nil, List.length_cons, List.length_append, List.length_replicate, List.length_set, List.length_map, List.length_drop]); omega)) (fun v10 w10 e10 h10 => ?_)
  have z10 := e10.size
  try simp only [val_dig] at h10
  obtain rfl := h10
  refine O_move rfl rfl rfl ?_
  refine O_extract rfl rfl rfl rfl ?_
  refine O_extract rfl rfl rfl rfl ?_
  refine O_alloc S24 rfl rfl (fun g11 w11 b11 e11 gl11 gh11 => ?_)
  have z11 := e11.size
  refine O_storeA (cs' := [_, _]) S24 rfl rfl rfl b11 rfl rfl (one_cons rfl (one_cons rfl one_nil)) rfl (fun w12 b12 q12 => ?_)
  have z12 := Nat.le_of_eq q12.size.symm
  have e12 : Ext w w12 := q12.ext ((e9.trans e10).trans e11) (by omega)
  refine O_assign rfl rfl rfl ?_
  refine WL_end [(7, _), (8, _), (9, _), (10, _), (11, _)] ⟨rfl, rfl, rfl, rfl, rfl, trivial⟩ ?_
  refine WP_seq ?_
  refine WP_seq ?_
  refine WP_region ?_
  refine O_move rfl rfl rfl ?_
  refine O_not rfl rfl rfl rfl ?_
  refine O_move rfl rfl rfl ?_
  refine O_move rfl rfl rfl ?_
  refine O_not rfl rfl rfl rfl ?_
  refine O_pickF rfl rfl rfl rfl ?_
  refine WL_end [(7, _), (8, _), (10, _), (33, _)] ⟨rfl, rfl, rfl, rfl, trivial⟩ ?_
  refine WP_condT rfl ?_
  refine WP_seq ?_
  refine WP_region ?_
  refine O_assign rfl rfl rfl ?_
  refine WL_end [(6, _)] ⟨rfl, trivial⟩ ?_
  refine WP_ret ?_
  refine ret1 Try.results8 rfl ?_
  exact ⟨_, rfl, e12, rfl⟩

theorem law_IntegerRing {w : World} {vx vy vz : Value} {lx ly lz : List Nat} {bx by_ bz : Bool} (hx : Nl w vx lx) (hy : Nl w vy ly) (hz : Nl w vz lz) : Calls Try.prog 8 #[.agg #[.bool bx, vx], .agg #[.bool by_, vy], .agg #[.bool bz, vz]] w (Ret w fun r _ => r = .bool true) := by
  by_cases h3 : lz.length ≤ 40
  · by_cases h1 : lx.length ≤ 40
    · by_cases h2 : ly.length ≤ 40
      · exact law_IntegerRing_T hx hy hz h1 h2 h3
      · exact law_IntegerRing_FT hx hy hz (by omega) h3
    · exact law_IntegerRing_FT hx hy hz (by omega) h3
  · by_cases h1 : lx.length ≤ 40
    · by_cases h2 : ly.length ≤ 40
      · exact law_IntegerRing_TF hx hy hz h1 h2 (by omega)
      · exact law_IntegerRing_FF hx hy hz (by omega) (by omega)
    · exact law_IntegerRing_FF hx hy hz (by omega) (by omega)

end Go.Proofs.Ythbbcnlpfjbleaa
