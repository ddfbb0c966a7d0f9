/-
  Walks.
-/
import Derived.Test.YthbbcnlpfjbleaaS5
set_option linter.unusedVariables false
set_option linter.unusedSimpArgs false
set_option maxRecDepth 100000
namespace Go.Proofs.Ythbbcnlpfjbleaa
open Go Go.RowKit
theorem intN_c {w : World} {vx : Value} {x : Int} {bx : Bool} (hbx : bx = decide (x < 0)) (hx : Nl w vx (dig x.natAbs)) (hlx : (dig x.natAbs).length ≤ 1000000) (h1 : -9223372036854775808 ≤ x) (h2 : x ≤ 9223372036854775807) : Calls Try.prog 25 #[.agg #[.bool bx, vx]] w (Ret w fun r _ => r = .tuple #[.int .i64 x, .bool true]) :=
  (intv_c hbx hx hlx).mono fun e w' ⟨r, he, hx', hr⟩ => ⟨r, he, hx', by rw [hr, ← iv_yes ⟨h1, h2⟩]⟩

theorem law_IntegerValues {w : World} {vx : Value} {lx : List Nat} {bx : Bool} {n : Int} (hx : Nl w vx lx) (h1 : -9223372036854775808 ≤ n) (h2 : n ≤ 9223372036854775807) :
    Calls Try.prog 6 #[.agg #[.bool bx, vx], .int .i64 n] w (Ret w fun r _ => r = .bool true) := by
  refine enter (args := [_, _]) Try.func6 rfl Try.ntmps6 rfl ?_
  refine WP_seq ?_
  refine WP_region ?_
  refine O_box _ rfl rfl rfl rfl (fun g1 w1 b1 e1 gl1 gh1 => ?_)
  have z1 := e1.size
  refine O_assign rfl rfl rfl ?_
  refine WL_end [(1, _), (2, _)] ⟨rfl, rfl, trivial⟩ ?_
  refine WP_seq ?_
  refine WP_seq ?_
  refine WP_region ?_
  refine O_call enters9 rfl rfl rfl (awake5_c) (fun v2 w2 e2 h2 => ?_)
  have z2 := e2.size
  obtain rfl := h2
  refine O_not rfl rfl rfl rfl ?_
  refine WL_end [(1, _), (2, _), (13, _)] ⟨rfl, rfl, rfl, trivial⟩ ?_
  refine WP_condF rfl ?_
  refine WP_skip ?_
  refine WP_seq ?_
  refine WP_seq ?_
  refine WP_region ?_
  refine O_field F24_1 rfl rfl rfl ?_
  refine O_loadC Try.underlying22 rfl rfl rfl rfl (b1.ext e2) rfl ?_
  refine N_len T22 rfl rfl rfl (hx.ext (e1.trans e2)) ?_
  refine O_gtr rfl rfl rfl rfl rfl ?_
  refine WL_end [(1, _), (2, _), (17, _)] ⟨rfl, rfl, rfl, trivial⟩ ?_
  refine WP_condD rfl (fun c17 => ?_) (fun c17 => ?_)
  · --
    refine WP_seq ?_
    refine WP_region ?_
    refine O_assign rfl rfl rfl ?_
    refine WL_end [(4, _)] ⟨rfl, trivial⟩ ?_
    refine WP_ret ?_
    refine ret1 Try.results6 rfl ?_
    exact ⟨_, rfl, (e1.trans e2), rfl⟩
  · --
    refine WP_skip ?_
    refine WP_seq ?_
    refine WP_region ?_
    refine O_field F24_0 rfl rfl rfl ?_
    refine O_loadC Try.underlying4 rfl rfl rfl rfl (b1.ext e2) rfl ?_
    refine O_field F24_1 rfl rfl rfl ?_
    refine O_loadC Try.underlying22 rfl rfl rfl rfl (b1.ext e2) rfl ?_
    refine O_call enters27 rfl rfl rfl (inat_c (hx.ext (e1.trans e2)) (by (try simp only [val_dig, List.length_take, List.length_nil, List.length_cons, List.length_append, List.length_replicate, List.length_set, List.length_map, List.length_drop]); omega)) (fun v3 w3 e3 h3 => ?_)
    have z3 := e3.size
    try simp only [val_dig] at h3
    obtain ⟨q3, rfl, hq3⟩ := h3
    have hlX := mk_len (a := 100) bx hx (by omega)
    generalize hX : mk bx (val lx) = X at hq3 hlX ⊢
    have hlN : (dig n.natAbs).length ≤ 2 := dig_len_of_lt (Nat.lt_of_le_of_lt (show n.natAbs ≤ 9223372036854775808 by omega) (by decide))
    refine O_alloc S24 rfl rfl (fun g4 w4 b4 e4 gl4 gh4 => ?_)
    have z4 := e4.size
    refine O_storeA (cs' := [_, _]) S24 rfl rfl rfl b4 rfl rfl (one_cons rfl (one_cons ((hq3.ext e4).nl).one one_nil)) rfl (fun w5 b5 q5 => ?_)
    have z5 := Nat.le_of_eq q5.size.symm
    have e5 : Ext w w5 := q5.ext (((e1.trans e2).trans e3).trans e4) (by omega)
    refine WL_end [(1, _), (2, _), (5, _)] ⟨rfl, rfl, rfl, trivial⟩ ?_
    refine WP_seq ?_
    refine WP_region ?_
    refine O_loadA (vs := [_, _]) S24 rfl rfl rfl b5 rfl rfl ?_
    refine O_call enters25 rfl rfl rfl (intv_c rfl ((hq3.ext e4).chgBk b4 (by decide) q5).nl (by (try simp only [val_dig, List.length_take, List.length_nil, List.length_cons, List.length_append, List.length_replicate, List.length_set, List.length_map, List.length_drop]); omega)) (fun v6 w6 e6 h6 => ?_)
    have z6 := e6.size
    try simp only [val_dig] at h6
    obtain rfl := h6
    refine O_move rfl rfl rfl ?_
    refine O_extract rfl rfl rfl rfl ?_
    refine O_extract rfl rfl rfl rfl ?_
    refine O_assign rfl rfl rfl ?_
    refine O_assign rfl rfl rfl ?_
    refine WL_end [(1, _), (2, _), (5, _), (6, _), (7, _)] ⟨rfl, rfl, rfl, rfl, rfl, trivial⟩ ?_
    refine WP_seq ?_
    refine WP_region ?_
    refine O_loadA (vs := [_, _]) S24 rfl rfl rfl (b5.ext e6) rfl rfl ?_
    refine O_call enters26 rfl rfl rfl (rintv_c rfl (((hq3.ext e4).chgBk b4 (by decide) q5).ext e6).nl (by (try simp only [val_dig, List.length_take, List.length_nil, List.length_cons, List.length_append, List.length_replicate, List.length_set, List.length_map, List.length_drop]); omega)) (fun v7 w7 e7 h7 => ?_)
    have z7 := e7.size
    try simp only [val_dig] at h7
    obtain rfl := h7
    refine O_move rfl rfl rfl ?_
    refine O_extract rfl rfl rfl rfl ?_
    refine O_extract rfl rfl rfl rfl ?_
    refine O_assign rfl rfl rfl ?_
    refine O_assign rfl rfl rfl ?_
    refine WL_end [(1, _), (2, _), (5, _), (6, _), (7, _), (8, _), (9, _)] ⟨rfl, rfl, rfl, rfl, rfl, rfl, rfl, trivial⟩ ?_
    refine WP_seq ?_
    refine WP_region ?_
    refine O_move rfl rfl rfl ?_
    refine O_call enters15 rfl rfl rfl (iof_c (by (try simp only [val_dig, List.length_take, List.length_nil, List.length_cons, List.length_append, List.length_replicate, List.length_set, List.length_map, List.length_drop]); omega) (by (try simp only [val_dig, List.length_take, List.length_nil, List.length_cons, List.length_append, List.length_replicate, List.length_set, List.length_map, List.length_drop]); omega)) (fun v8 w8 e8 h8 => ?_)
    have z8 := e8.size
    try simp only [val_dig] at h8
    obtain ⟨q8, rfl, hq8⟩ := h8
    refine O_call enters25 rfl rfl rfl (intN_c rfl hq8.nl (by (try simp only [val_dig, List.length_take, List.length_nil, List.length_cons, List.length_append, List.length_replicate, List.length_set, List.length_map, List.length_drop]); omega) h1 h2) (fun v9 w9 e9 h9 => ?_)
    have z9 := e9.size
    try simp only [val_dig] at h9
    obtain rfl := h9
    refine O_move rfl rfl rfl ?_
    refine O_extract rfl rfl rfl rfl ?_
    refine O_extract rfl rfl rfl rfl ?_
    refine O_assign rfl rfl rfl ?_
    refine O_assign rfl rfl rfl ?_
    refine WL_end [(1, _), (2, _), (5, _), (6, _), (7, _), (8, _), (9, _), (10, _), (11, _)] ⟨rfl, rfl, rfl, rfl, rfl, rfl, rfl, rfl, rfl, trivial⟩ ?_
    refine WP_seq ?_
    refine WP_sub [(1, _), (2, _), (5, _), (6, _), (7, _), (8, _), (9, _), (10, _), (11, _)] ⟨rfl, rfl, rfl, rfl, rfl, rfl, rfl, rfl, rfl, trivial⟩ ?_
    refine WP_anyR 43 [1, 2, 5, 6, 7, 8, 9, 10, 11] mixed rfl (by kernel_rfl) ?_
    apply AnyR_val [2] rfl (by kernel_rfl)
    · --
      intro y10 hy10
      have zy10 := hy10.size
      refine AllV_nil ?_
      refine O_loadA (vs := [_, _]) S24 rfl rfl rfl (((((((((b1.ext e2).ext e3).ext e4).chg q5 (by omega)).ext e6).ext e7).ext e8).ext e9).ext hy10) rfl rfl ?_
      exact WL_nil ⟨(Ext.refl _), rfl⟩
    apply AnyR_val [39] rfl (by kernel_rfl)
    · --
      intro y11 hy11
      have zy11 := hy11.size
      refine AllV_v ?_
      refine AllV_nil ?_
      refine O_call enters20 rfl rfl rfl (ivalid_c (hx.ext (((((e5.trans e6).trans e7).trans e8).trans e9).trans hy11))) (fun v12 w12 e12 h12 => ?_)
      have z12 := e12.size
      obtain rfl := h12
      exact WL_nil ⟨e12, rfl⟩
    apply AnyR_val [2] rfl (by kernel_rfl)
    · --
      intro y13 hy13
      have zy13 := hy13.size
      refine AllV_nil ?_
      refine O_loadA (vs := [_, _]) S24 rfl rfl rfl (((((((((b1.ext e2).ext e3).ext e4).chg q5 (by omega)).ext e6).ext e7).ext e8).ext e9).ext hy13) rfl rfl ?_
      exact WL_nil ⟨(Ext.refl _), rfl⟩
    apply AnyR_val [41] rfl (by kernel_rfl)
    · --
      intro y14 hy14
      have zy14 := hy14.size
      refine AllV_v ?_
      refine AllV_nil ?_
      refine O_call enters28 rfl rfl rfl (rivalid_c (hx.ext (((((e5.trans e6).trans e7).trans e8).trans e9).trans hy14))) (fun v15 w15 e15 h15 => ?_)
      have z15 := e15.size
      obtain rfl := h15
      exact WL_nil ⟨e15, rfl⟩
    apply AnyR_val [40, 42] rfl (by kernel_rfl)
    · --
      intro y16 hy16
      have zy16 := hy16.size
      refine AllV_v ?_
      refine AllV_v ?_
      refine AllV_nil ?_
      refine O_beql Try.underlying4 (t := true) rfl rfl rfl rfl (beq_self_eq_true _) ?_
      exact WL_nil ⟨(Ext.refl _), rfl⟩
    apply AnyR_val [43] rfl (by kernel_rfl)
    · --
      intro y17 hy17
      have zy17 := hy17.size
      refine AllV_v ?_
      refine AllV_nil ?_
      refine O_move rfl rfl rfl ?_
      exact WL_nil ⟨(Ext.refl _), rfl⟩
    apply AnyR_val [44, 5] rfl (by kernel_rfl)
    · --
      intro y18 hy18
      have zy18 := hy18.size
      refine AllV_v ?_
      refine AllV_nil ?_
      refine O_loadA (vs := [_, _]) S24 rfl rfl rfl (((((b5.ext e6).ext e7).ext e8).ext e9).ext hy18) rfl rfl ?_
      exact WL_nil ⟨(Ext.refl _), rfl⟩
    apply AnyR_val [44, 45] rfl (by kernel_rfl)
    · --
      intro y19 hy19
      have zy19 := hy19.size
      refine AllV_v ?_
      refine AllV_v ?_
      refine AllV_nil ?_
      refine O_call enters20 rfl rfl rfl (ivalidT_c rfl (((((((hq3.ext e4).chgBk b4 (by decide) q5).ext e6).ext e7).ext e8).ext e9).ext hy19).nl (by (try simp only [val_dig, List.length_take, List.length_nil, List.length_cons, List.length_append, List.length_replicate, List.length_set, List.length_map, List.length_drop]); omega)) (fun v20 w20 e20 h20 => ?_)
      have z20 := e20.size
      obtain rfl := h20
      exact WL_nil ⟨e20, rfl⟩
    apply AnyR_val [44, 46] rfl (by kernel_rfl)
    · --
      intro y21 hy21
      have zy21 := hy21.size
      refine AllV_v ?_
      refine AllV_v ?_
      refine AllV_nil ?_
      refine O_pickT rfl rfl rfl rfl ?_
      exact WL_nil ⟨(Ext.refl _), rfl⟩
    apply AnyR_val [47] rfl (by kernel_rfl)
    · --
      intro y22 hy22
      have zy22 := hy22.size
      refine AllV_v ?_
      refine AllV_nil ?_
      refine O_move rfl rfl rfl ?_
      exact WL_nil ⟨(Ext.refl _), rfl⟩
    apply AnyR_val [48, 5] rfl (by kernel_rfl)
    · --
      intro y23 hy23
      have zy23 := hy23.size
      refine AllV_v ?_
      refine AllV_nil ?_
      refine O_loadA (vs := [_, _]) S24 rfl rfl rfl (((((b5.ext e6).ext e7).ext e8).ext e9).ext hy23) rfl rfl ?_
      exact WL_nil ⟨(Ext.refl _), rfl⟩
    apply AnyR_val [48, 2] rfl (by kernel_rfl)
    · --
      intro y24 hy24
      have zy24 := hy24.size
      refine AllV_v ?_
      refine AllV_nil ?_
      refine O_field F24_0 rfl rfl rfl ?_
      exact WL_nil ⟨(Ext.refl _), rfl⟩
    apply AnyR_val [48, 50] rfl (by kernel_rfl)
    · --
      intro y25 hy25
      have zy25 := hy25.size
      refine AllV_v ?_
      refine AllV_v ?_
      refine AllV_nil ?_
      refine O_loadC Try.underlying4 rfl rfl rfl rfl (((((((((b1.ext e2).ext e3).ext e4).chg q5 (by omega)).ext e6).ext e7).ext e8).ext e9).ext hy25) rfl ?_
      exact WL_nil ⟨(Ext.refl _), rfl⟩
    apply AnyR_val [48, 2] rfl (by kernel_rfl)
    · --
      intro y26 hy26
      have zy26 := hy26.size
      refine AllV_v ?_
      refine AllV_nil ?_
      refine O_field F24_1 rfl rfl rfl ?_
      exact WL_nil ⟨(Ext.refl _), rfl⟩
    apply AnyR_val [48, 52] rfl (by kernel_rfl)
    · --
      intro y27 hy27
      have zy27 := hy27.size
      refine AllV_v ?_
      refine AllV_v ?_
      refine AllV_nil ?_
      refine O_loadC Try.underlying22 rfl rfl rfl rfl (((((((((b1.ext e2).ext e3).ext e4).chg q5 (by omega)).ext e6).ext e7).ext e8).ext e9).ext hy27) rfl ?_
      exact WL_nil ⟨(Ext.refl _), rfl⟩
    apply AnyR_rel (RelP (pAgg2 (pEq _) (pNo w9.heap.size 41 _))) [48, 51, 53] rfl (RelP.mono (pAgg2_mono pEq_mono pNo_mono)) (by kernel_rfl)
    · --
      intro y28 hy28
      have zy28 := hy28.size
      refine AllV_v ?_
      refine AllV_v ?_
      refine AllV_v ?_
      refine AllV_nil ?_
      refine O_call enters24 rfl rfl rfl (rinat_c (hx.ext (((((e5.trans e6).trans e7).trans e8).trans e9).trans hy28)) (by (try simp only [val_dig, List.length_take, List.length_nil, List.length_cons, List.length_append, List.length_replicate, List.length_set, List.length_map, List.length_drop]); omega)) (fun v29 w29 e29 h29 => ?_)
      have z29 := e29.size
      try simp only [val_dig] at h29
      obtain ⟨q29, rfl, hq29⟩ := h29
      rw [hX] at hq29 ⊢
      exact WL_nil ⟨e29, _, rfl, ⟨_, _, rfl, rfl, (hq29.mono (by omega))⟩⟩
    apply AnyR_val [48, 49, 54] rfl (by kernel_rfl)
    · --
      intro y30 hy30
      have zy30 := hy30.size
      refine AllV_v ?_
      refine AllV_v ?_
      refine AllV_r fun a31 b31 v31 la31 lb31 lc31 h31 ap31 => ?_
      clear ap31
      obtain ⟨v31_0, v31_1, rfl, rfl, h31_1⟩ := h31
      refine AllV_nil ?_
      refine O_call enters16 rfl rfl rfl (isame_c rfl (((((((hq3.ext e4).chgBk b4 (by decide) q5).ext e6).ext e7).ext e8).ext e9).ext hy30).nl h31_1.nl (by (try simp only [val_dig, List.length_take, List.length_nil, List.length_cons, List.length_append, List.length_replicate, List.length_set, List.length_map, List.length_drop]); omega) (by (try simp only [val_dig, List.length_take, List.length_nil, List.length_cons, List.length_append, List.length_replicate, List.length_set, List.length_map, List.length_drop]); omega) rfl) (fun v32 w32 e32 h32 => ?_)
      have z32 := e32.size
      obtain rfl := h32
      exact WL_nil ⟨e32, rfl⟩
    apply AnyR_val [48, 55] rfl (by kernel_rfl)
    · --
      intro y33 hy33
      have zy33 := hy33.size
      refine AllV_v ?_
      refine AllV_v ?_
      refine AllV_nil ?_
      refine O_pickT rfl rfl rfl rfl ?_
      exact WL_nil ⟨(Ext.refl _), rfl⟩
    apply AnyR_val [56] rfl (by kernel_rfl)
    · --
      intro y34 hy34
      have zy34 := hy34.size
      refine AllV_v ?_
      refine AllV_nil ?_
      refine O_move rfl rfl rfl ?_
      exact WL_nil ⟨(Ext.refl _), rfl⟩
    apply AnyR_val [57, 6] rfl (by kernel_rfl)
    · --
      intro y35 hy35
      have zy35 := hy35.size
      refine AllV_v ?_
      refine AllV_nil ?_
      refine O_move rfl rfl rfl ?_
      exact WL_nil ⟨(Ext.refl _), rfl⟩
    apply AnyR_val [57, 8] rfl (by kernel_rfl)
    · --
      intro y36 hy36
      have zy36 := hy36.size
      refine AllV_v ?_
      refine AllV_nil ?_
      refine O_move rfl rfl rfl ?_
      exact WL_nil ⟨(Ext.refl _), rfl⟩
    apply AnyR_val [57, 58, 59] rfl (by kernel_rfl)
    · --
      intro y37 hy37
      have zy37 := hy37.size
      refine AllV_v ?_
      refine AllV_v ?_
      refine AllV_v ?_
      refine AllV_nil ?_
      refine O_eql (t := true) rfl rfl rfl rfl (decide_eq_true rfl) ?_
      exact WL_nil ⟨(Ext.refl _), rfl⟩
    apply AnyR_val [57, 60] rfl (by kernel_rfl)
    · --
      intro y38 hy38
      have zy38 := hy38.size
      refine AllV_v ?_
      refine AllV_v ?_
      refine AllV_nil ?_
      refine O_pickT rfl rfl rfl rfl ?_
      exact WL_nil ⟨(Ext.refl _), rfl⟩
    apply AnyR_val [61] rfl (by kernel_rfl)
    · --
      intro y39 hy39
      have zy39 := hy39.size
      refine AllV_v ?_
      refine AllV_nil ?_
      refine O_move rfl rfl rfl ?_
      exact WL_nil ⟨(Ext.refl _), rfl⟩
    apply AnyR_val [62, 7] rfl (by kernel_rfl)
    · --
      intro y40 hy40
      have zy40 := hy40.size
      refine AllV_v ?_
      refine AllV_nil ?_
      refine O_move rfl rfl rfl ?_
      exact WL_nil ⟨(Ext.refl _), rfl⟩
    apply AnyR_val [62, 9] rfl (by kernel_rfl)
    · --
      intro y41 hy41
      have zy41 := hy41.size
      refine AllV_v ?_
      refine AllV_nil ?_
      refine O_move rfl rfl rfl ?_
      exact WL_nil ⟨(Ext.refl _), rfl⟩
    apply AnyR_val [62, 63, 64] rfl (by kernel_rfl)
    · --
      intro y42 hy42
      have zy42 := hy42.size
      refine AllV_v ?_
      refine AllV_v ?_
      refine AllV_v ?_
      refine AllV_nil ?_
      refine O_beql Try.underlying4 (t := true) rfl rfl rfl rfl (beq_self_eq_true _) ?_
      exact WL_nil ⟨(Ext.refl _), rfl⟩
    apply AnyR_val [62, 65] rfl (by kernel_rfl)
    · --
      intro y43 hy43
      have zy43 := hy43.size
      refine AllV_v ?_
      refine AllV_v ?_
      refine AllV_nil ?_
      refine O_pickT rfl rfl rfl rfl ?_
      exact WL_nil ⟨(Ext.refl _), rfl⟩
    apply AnyR_val [66] rfl (by kernel_rfl)
    · --
      intro y44 hy44
      have zy44 := hy44.size
      refine AllV_v ?_
      refine AllV_nil ?_
      refine O_move rfl rfl rfl ?_
      exact WL_nil ⟨(Ext.refl _), rfl⟩
    apply AnyR_val [67, 1] rfl (by kernel_rfl)
    · --
      intro y45 hy45
      have zy45 := hy45.size
      refine AllV_v ?_
      refine AllV_nil ?_
      refine O_move rfl rfl rfl ?_
      exact WL_nil ⟨(Ext.refl _), rfl⟩
    apply AnyR_rel (RelP (pAgg2 (pEq _) (pNo w9.heap.size 41 _))) [67, 68] rfl (RelP.mono (pAgg2_mono pEq_mono pNo_mono)) (by kernel_rfl)
    · --
      intro y46 hy46
      have zy46 := hy46.size
      refine AllV_v ?_
      refine AllV_v ?_
      refine AllV_nil ?_
      refine O_call enters15 rfl rfl rfl (iof_c (by (try simp only [val_dig, List.length_take, List.length_nil, List.length_cons, List.length_append, List.length_replicate, List.length_set, List.length_map, List.length_drop]); omega) (by (try simp only [val_dig, List.length_take, List.length_nil, List.length_cons, List.length_append, List.length_replicate, List.length_set, List.length_map, List.length_drop]); omega)) (fun v47 w47 e47 h47 => ?_)
      have z47 := e47.size
      try simp only [val_dig] at h47
      obtain ⟨q47, rfl, hq47⟩ := h47
      exact WL_nil ⟨e47, _, rfl, ⟨_, _, rfl, rfl, (hq47.mono (by omega))⟩⟩
    apply AnyR_val [67, 1] rfl (by kernel_rfl)
    · --
      intro y48 hy48
      have zy48 := hy48.size
      refine AllV_v ?_
      refine AllV_nil ?_
      refine O_move rfl rfl rfl ?_
      exact WL_nil ⟨(Ext.refl _), rfl⟩
    apply AnyR_rel (RelP (pAgg2 (pEq _) (pNo w9.heap.size 41 _))) [67, 70] rfl (RelP.mono (pAgg2_mono pEq_mono pNo_mono)) (by kernel_rfl)
    · --
      intro y49 hy49
      have zy49 := hy49.size
      refine AllV_v ?_
      refine AllV_v ?_
      refine AllV_nil ?_
      refine O_call enters29 rfl rfl rfl (riof_c (by (try simp only [val_dig, List.length_take, List.length_nil, List.length_cons, List.length_append, List.length_replicate, List.length_set, List.length_map, List.length_drop]); omega) (by (try simp only [val_dig, List.length_take, List.length_nil, List.length_cons, List.length_append, List.length_replicate, List.length_set, List.length_map, List.length_drop]); omega)) (fun v50 w50 e50 h50 => ?_)
      have z50 := e50.size
      try simp only [val_dig] at h50
      obtain ⟨q50, rfl, hq50⟩ := h50
      exact WL_nil ⟨e50, _, rfl, ⟨_, _, rfl, rfl, (hq50.mono (by omega))⟩⟩
    apply AnyR_val [67, 69, 71] rfl (by kernel_rfl)
    · --
      intro y51 hy51
      have zy51 := hy51.size
      refine AllV_v ?_
      refine AllV_r fun a52 b52 v52 la52 lb52 lc52 h52 ap52 => ?_
      clear ap52
      obtain ⟨v52_0, v52_1, rfl, rfl, h52_1⟩ := h52
      refine AllV_r fun a53 b53 v53 la53 lb53 lc53 h53 ap53 => ?_
      clear ap53
      obtain ⟨v53_0, v53_1, rfl, rfl, h53_1⟩ := h53
      refine AllV_nil ?_
      refine O_call enters16 rfl rfl rfl (isame_c rfl h52_1.nl h53_1.nl (by (try simp only [val_dig, List.length_take, List.length_nil, List.length_cons, List.length_append, List.length_replicate, List.length_set, List.length_map, List.length_drop]); omega) (by (try simp only [val_dig, List.length_take, List.length_nil, List.length_cons, List.length_append, List.length_replicate, List.length_set, List.length_map, List.length_drop]); omega) rfl) (fun v54 w54 e54 h54 => ?_)
      have z54 := e54.size
      obtain rfl := h54
      exact WL_nil ⟨e54, rfl⟩
    apply AnyR_val [67, 72] rfl (by kernel_rfl)
    · --
      intro y55 hy55
      have zy55 := hy55.size
      refine AllV_v ?_
      refine AllV_v ?_
      refine AllV_nil ?_
      refine O_pickT rfl rfl rfl rfl ?_
      exact WL_nil ⟨(Ext.refl _), rfl⟩
    apply AnyR_val [73] rfl (by kernel_rfl)
    · --
      intro y56 hy56
      have zy56 := hy56.size
      refine AllV_v ?_
      refine AllV_nil ?_
      refine O_move rfl rfl rfl ?_
      exact WL_nil ⟨(Ext.refl _), rfl⟩
    apply AnyR_val [74, 10] rfl (by kernel_rfl)
    · --
      intro y57 hy57
      have zy57 := hy57.size
      refine AllV_v ?_
      refine AllV_nil ?_
      refine O_move rfl rfl rfl ?_
      exact WL_nil ⟨(Ext.refl _), rfl⟩
    apply AnyR_val [74, 1] rfl (by kernel_rfl)
    · --
      intro y58 hy58
      have zy58 := hy58.size
      refine AllV_v ?_
      refine AllV_nil ?_
      refine O_move rfl rfl rfl ?_
      exact WL_nil ⟨(Ext.refl _), rfl⟩
    apply AnyR_val [74, 75, 76] rfl (by kernel_rfl)
    · --
      intro y59 hy59
      have zy59 := hy59.size
      refine AllV_v ?_
      refine AllV_v ?_
      refine AllV_v ?_
      refine AllV_nil ?_
      refine O_eql (t := true) rfl rfl rfl rfl (decide_eq_true rfl) ?_
      exact WL_nil ⟨(Ext.refl _), rfl⟩
    apply AnyR_val [74, 77] rfl (by kernel_rfl)
    · --
      intro y60 hy60
      have zy60 := hy60.size
      refine AllV_v ?_
      refine AllV_v ?_
      refine AllV_nil ?_
      refine O_pickT rfl rfl rfl rfl ?_
      exact WL_nil ⟨(Ext.refl _), rfl⟩
    apply AnyR_val [78] rfl (by kernel_rfl)
    · --
      intro y61 hy61
      have zy61 := hy61.size
      refine AllV_v ?_
      refine AllV_nil ?_
      refine O_move rfl rfl rfl ?_
      exact WL_nil ⟨(Ext.refl _), rfl⟩
    apply AnyR_val [79, 11] rfl (by kernel_rfl)
    · --
      intro y62 hy62
      have zy62 := hy62.size
      refine AllV_v ?_
      refine AllV_nil ?_
      refine O_move rfl rfl rfl ?_
      exact WL_nil ⟨(Ext.refl _), rfl⟩
    apply AnyR_val [79, 80] rfl (by kernel_rfl)
    · --
      intro y63 hy63
      have zy63 := hy63.size
      refine AllV_v ?_
      refine AllV_v ?_
      refine AllV_nil ?_
      refine O_pickT rfl rfl rfl rfl ?_
      exact WL_nil ⟨(Ext.refl _), rfl⟩
    refine AnyR_nil fun y64 hy64 => ?_
    have zy64 := hy64.size
    refine AllV_v ?_
    refine AllV_v ?_
    refine AllV_v ?_
    refine AllV_v ?_
    refine AllV_v ?_
    refine AllV_v ?_
    refine AllV_v ?_
    refine AllV_v ?_
    refine AllV_v ?_
    refine AllV_v ?_
    refine AllV_v ?_
    refine AllV_v ?_
    refine AllV_v ?_
    refine AllV_v ?_
    refine AllV_v ?_
    refine AllV_r fun a65 b65 v65 la65 lb65 lc65 h65 ap65 => ?_
    clear ap65
    obtain ⟨v65_0, v65_1, rfl, rfl, h65_1⟩ := h65
    refine AllV_v ?_
    refine AllV_v ?_
    refine AllV_v ?_
    refine AllV_v ?_
    refine AllV_v ?_
    refine AllV_v ?_
    refine AllV_v ?_
    refine AllV_v ?_
    refine AllV_v ?_
    refine AllV_v ?_
    refine AllV_v ?_
    refine AllV_v ?_
    refine AllV_v ?_
    refine AllV_v ?_
    refine AllV_r fun a66 b66 v66 la66 lb66 lc66 h66 ap66 => ?_
    obtain ⟨p66_65, _⟩ := ap66
    obtain ⟨v66_0, v66_1, rfl, rfl, h66_1⟩ := h66
    refine AllV_v ?_
    refine AllV_r fun a67 b67 v67 la67 lb67 lc67 h67 ap67 => ?_
    obtain ⟨p67_66, p67_65, _⟩ := ap67
    obtain ⟨v67_0, v67_1, rfl, rfl, h67_1⟩ := h67
    refine AllV_v ?_
    refine AllV_v ?_
    refine AllV_v ?_
    refine AllV_v ?_
    refine AllV_v ?_
    refine AllV_v ?_
    refine AllV_v ?_
    refine AllV_v ?_
    refine AllV_v ?_
    refine AllV_v ?_
    refine AllV_nil ?_
    refine O_assign rfl rfl rfl ?_
    refine WL_end [(4, _)] ⟨rfl, trivial⟩ ?_
    refine WP_ret ?_
    refine ret1 Try.results6 rfl ?_
    exact ⟨_, rfl, (((((e5.trans e6).trans e7).trans e8).trans e9).trans hy64), rfl⟩

end Go.Proofs.Ythbbcnlpfjbleaa
