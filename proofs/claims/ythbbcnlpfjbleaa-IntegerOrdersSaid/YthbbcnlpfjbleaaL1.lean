/-
  Walks.
-/
import Derived.Test.YthbbcnlpfjbleaaS4
set_option linter.unusedVariables false
set_option linter.unusedSimpArgs false
set_option maxRecDepth 100000
namespace Go.Proofs.Ythbbcnlpfjbleaa
open Go Go.RowKit
theorem law_IntegerOrders_T {w : World} {vx vy : Value} {lx ly : List Nat} {bx by_ : Bool} (hx : Nl w vx lx) (hy : Nl w vy ly) (h1 : lx.length ≤ 60) (h2 : ly.length ≤ 60) :
    Calls Try.prog 7 #[.agg #[.bool bx, vx], .agg #[.bool by_, vy]] w (Ret w fun r _ => r = .bool true) := by
  refine enter (args := [_, _]) Try.func7 rfl Try.ntmps7 rfl ?_
  refine WP_seq ?_
  refine WP_region ?_
  refine O_box _ rfl rfl rfl rfl (fun g1 w1 b1 e1 gl1 gh1 => ?_)
  have z1 := e1.size
  refine O_box _ rfl rfl rfl rfl (fun g2 w2 b2 e2 gl2 gh2 => ?_)
  have z2 := e2.size
  refine O_assign rfl rfl rfl ?_
  refine WL_end [(2, _), (3, _)] ⟨rfl, rfl, trivial⟩ ?_
  refine WP_seq ?_
  refine WP_seq ?_
  refine WP_region ?_
  refine O_call enters9 rfl rfl rfl (awake5_c) (fun v3 w3 e3 h3 => ?_)
  have z3 := e3.size
  obtain rfl := h3
  refine O_not rfl rfl rfl rfl ?_
  refine WL_end [(2, _), (3, _), (9, _)] ⟨rfl, rfl, rfl, trivial⟩ ?_
  refine WP_condF rfl ?_
  refine WP_skip ?_
  refine WP_seq ?_
  refine WP_region ?_
  refine O_loadA (vs := [_, _]) S24 rfl rfl rfl ((b1.ext e2).ext e3) rfl rfl ?_
  refine O_loadA (vs := [_, _]) S24 rfl rfl rfl (b2.ext e3) rfl rfl ?_
  refine O_call enters19 rfl rfl rfl (two_T (hx.ext ((e1.trans e2).trans e3)) (hy.ext ((e1.trans e2).trans e3)) (by (try simp only [val_dig, List.length_take, List.length_nil, List.length_cons, List.length_append, List.length_replicate, List.length_set, List.length_map, List.length_drop]); omega) (by (try simp only [val_dig, List.length_take, List.length_nil, List.length_cons, List.length_append, List.length_replicate, List.length_set, List.length_map, List.length_drop]); omega) (by (try simp only [val_dig, List.length_take, List.length_nil, List.length_cons, List.length_append, List.length_replicate, List.length_set, List.length_map, List.length_drop]); omega)) (fun v4 w4 e4 h4 => ?_)
  have z4 := e4.size
  try simp only [val_dig] at h4
  obtain ⟨q4, s4, rfl, hq4, hs4⟩ := h4
  have hlX := mk_len (a := 60) bx hx (by omega)
  have hlY := mk_len (a := 60) by_ hy (by omega)
  generalize mk bx (val lx) = X at hq4 hlX ⊢
  generalize mk by_ (val ly) = Y at hs4 hlY ⊢
  have hbd := icmp_bd X Y
  have hlS := sub_len hlX hlY
  have hlN := neg_len hlX
  have hlM := neg_len hlY
  refine O_move rfl rfl rfl ?_
  refine O_extract rfl rfl rfl rfl ?_
  refine O_extract rfl rfl rfl rfl ?_
  refine O_extract rfl rfl rfl rfl ?_
  refine O_alloc S24 rfl rfl (fun g5 w5 b5 e5 gl5 gh5 => ?_)
  have z5 := e5.size
  refine O_alloc S24 rfl rfl (fun g6 w6 b6 e6 gl6 gh6 => ?_)
  have z6 := e6.size
  refine O_storeA (cs' := [_, _]) S24 rfl rfl rfl (b5.ext e6) rfl rfl (one_cons rfl (one_cons (((hq4.ext e5).ext e6).nl).one one_nil)) rfl (fun w7 b7 q7 => ?_)
  have z7 := Nat.le_of_eq q7.size.symm
  have e7 : Ext w w7 := q7.ext (((((e1.trans e2).trans e3).trans e4).trans e5).trans e6) (by omega)
  refine O_storeA (cs' := [_, _]) S24 rfl rfl rfl (b6.chg q7 (by omega)) rfl rfl (one_cons rfl (one_cons ((((hs4.ext e5).ext e6).chgBk (b5.ext e6) (by decide) q7).nl).one one_nil)) rfl (fun w8 b8 q8 => ?_)
  have z8 := Nat.le_of_eq q8.size.symm
  have e8 : Ext w w8 := q8.ext e7 (by omega)
  refine O_assign rfl rfl rfl ?_
  refine WL_end [(5, _), (6, _), (7, _)] ⟨rfl, rfl, rfl, trivial⟩ ?_
  refine WP_seq ?_
  refine WP_seq ?_
  refine WP_region ?_
  refine O_move rfl rfl rfl ?_
  refine O_not rfl rfl rfl rfl ?_
  refine WL_end [(5, _), (6, _), (18, _)] ⟨rfl, rfl, rfl, trivial⟩ ?_
  refine WP_condF rfl ?_
  refine WP_skip ?_
  refine WP_seq ?_
  refine WP_sub [(5, _), (6, _)] ⟨rfl, rfl, trivial⟩ ?_
  refine WP_anyR 51 [5, 6] mixed rfl (by kernel_rfl) ?_
  apply AnyR_val [5] rfl (by kernel_rfl)
  · --
    intro y9 hy9
    have zy9 := hy9.size
    refine AllV_nil ?_
    refine O_loadA (vs := [_, _]) S24 rfl rfl rfl ((b7.chg q8 (by omega)).ext hy9) rfl rfl ?_
    exact WL_nil ⟨(Ext.refl _), rfl⟩
  apply AnyR_val [6] rfl (by kernel_rfl)
  · --
    intro y10 hy10
    have zy10 := hy10.size
    refine AllV_nil ?_
    refine O_loadA (vs := [_, _]) S24 rfl rfl rfl (b8.ext hy10) rfl rfl ?_
    exact WL_nil ⟨(Ext.refl _), rfl⟩
  apply AnyR_val [19, 20] rfl (by kernel_rfl)
  · --
    intro y11 hy11
    have zy11 := hy11.size
    refine AllV_v ?_
    refine AllV_v ?_
    refine AllV_nil ?_
    refine O_call enters30 rfl rfl rfl (icmp_c rfl (((((hq4.ext e5).ext e6).chgBk (b5.ext e6) (by decide) q7).chgBk (b6.chg q7 (by omega)) (by decide) q8).ext hy11).nl rfl (((((hs4.ext e5).ext e6).chgBk (b5.ext e6) (by decide) q7).chgBk (b6.chg q7 (by omega)) (by decide) q8).ext hy11).nl (by (try simp only [val_dig, List.length_take, List.length_nil, List.length_cons, List.length_append, List.length_replicate, List.length_set, List.length_map, List.length_drop]); omega) (by (try simp only [val_dig, List.length_take, List.length_nil, List.length_cons, List.length_append, List.length_replicate, List.length_set, List.length_map, List.length_drop]); omega)) (fun v12 w12 e12 h12 => ?_)
    have z12 := e12.size
    obtain rfl := h12
    exact WL_nil ⟨e12, rfl⟩
  apply AnyR_val [5] rfl (by kernel_rfl)
  · --
    intro y13 hy13
    have zy13 := hy13.size
    refine AllV_nil ?_
    refine O_loadA (vs := [_, _]) S24 rfl rfl rfl ((b7.chg q8 (by omega)).ext hy13) rfl rfl ?_
    exact WL_nil ⟨(Ext.refl _), rfl⟩
  apply AnyR_val [6] rfl (by kernel_rfl)
  · --
    intro y14 hy14
    have zy14 := hy14.size
    refine AllV_nil ?_
    refine O_loadA (vs := [_, _]) S24 rfl rfl rfl (b8.ext hy14) rfl rfl ?_
    exact WL_nil ⟨(Ext.refl _), rfl⟩
  apply AnyR_val [22, 23] rfl (by kernel_rfl)
  · --
    intro y15 hy15
    have zy15 := hy15.size
    refine AllV_v ?_
    refine AllV_v ?_
    refine AllV_nil ?_
    refine O_call enters31 rfl rfl rfl (ricmp_c rfl (((((hq4.ext e5).ext e6).chgBk (b5.ext e6) (by decide) q7).chgBk (b6.chg q7 (by omega)) (by decide) q8).ext hy15).nl rfl (((((hs4.ext e5).ext e6).chgBk (b5.ext e6) (by decide) q7).chgBk (b6.chg q7 (by omega)) (by decide) q8).ext hy15).nl (by (try simp only [val_dig, List.length_take, List.length_nil, List.length_cons, List.length_append, List.length_replicate, List.length_set, List.length_map, List.length_drop]); omega) (by (try simp only [val_dig, List.length_take, List.length_nil, List.length_cons, List.length_append, List.length_replicate, List.length_set, List.length_map, List.length_drop]); omega)) (fun v16 w16 e16 h16 => ?_)
    have z16 := e16.size
    obtain rfl := h16
    exact WL_nil ⟨e16, rfl⟩
  apply AnyR_val [21, 24] rfl (by kernel_rfl)
  · --
    intro y17 hy17
    have zy17 := hy17.size
    refine AllV_v ?_
    refine AllV_v ?_
    refine AllV_nil ?_
    refine O_eql (t := true) rfl rfl rfl rfl (decide_eq_true rfl) ?_
    exact WL_nil ⟨(Ext.refl _), rfl⟩
  apply AnyR_val [25] rfl (by kernel_rfl)
  · --
    intro y18 hy18
    have zy18 := hy18.size
    refine AllV_v ?_
    refine AllV_nil ?_
    refine O_move rfl rfl rfl ?_
    exact WL_nil ⟨(Ext.refl _), rfl⟩
  apply AnyR_val [26, 6] rfl (by kernel_rfl)
  · --
    intro y19 hy19
    have zy19 := hy19.size
    refine AllV_v ?_
    refine AllV_nil ?_
    refine O_loadA (vs := [_, _]) S24 rfl rfl rfl (b8.ext hy19) rfl rfl ?_
    exact WL_nil ⟨(Ext.refl _), rfl⟩
  apply AnyR_val [26, 5] rfl (by kernel_rfl)
  · --
    intro y20 hy20
    have zy20 := hy20.size
    refine AllV_v ?_
    refine AllV_nil ?_
    refine O_loadA (vs := [_, _]) S24 rfl rfl rfl ((b7.chg q8 (by omega)).ext hy20) rfl rfl ?_
    exact WL_nil ⟨(Ext.refl _), rfl⟩
  apply AnyR_val [26, 27, 28] rfl (by kernel_rfl)
  · --
    intro y21 hy21
    have zy21 := hy21.size
    refine AllV_v ?_
    refine AllV_v ?_
    refine AllV_v ?_
    refine AllV_nil ?_
    refine O_call enters30 rfl rfl rfl (icmp_c rfl (((((hs4.ext e5).ext e6).chgBk (b5.ext e6) (by decide) q7).chgBk (b6.chg q7 (by omega)) (by decide) q8).ext hy21).nl rfl (((((hq4.ext e5).ext e6).chgBk (b5.ext e6) (by decide) q7).chgBk (b6.chg q7 (by omega)) (by decide) q8).ext hy21).nl (by (try simp only [val_dig, List.length_take, List.length_nil, List.length_cons, List.length_append, List.length_replicate, List.length_set, List.length_map, List.length_drop]); omega) (by (try simp only [val_dig, List.length_take, List.length_nil, List.length_cons, List.length_append, List.length_replicate, List.length_set, List.length_map, List.length_drop]); omega)) (fun v22 w22 e22 h22 => ?_)
    have z22 := e22.size
    obtain rfl := h22
    exact WL_nil ⟨e22, rfl⟩
  apply AnyR_val [26, 5] rfl (by kernel_rfl)
  · --
    intro y23 hy23
    have zy23 := hy23.size
    refine AllV_v ?_
    refine AllV_nil ?_
    refine O_loadA (vs := [_, _]) S24 rfl rfl rfl ((b7.chg q8 (by omega)).ext hy23) rfl rfl ?_
    exact WL_nil ⟨(Ext.refl _), rfl⟩
  apply AnyR_val [26, 6] rfl (by kernel_rfl)
  · --
    intro y24 hy24
    have zy24 := hy24.size
    refine AllV_v ?_
    refine AllV_nil ?_
    refine O_loadA (vs := [_, _]) S24 rfl rfl rfl (b8.ext hy24) rfl rfl ?_
    exact WL_nil ⟨(Ext.refl _), rfl⟩
  apply AnyR_val [26, 30, 31] rfl (by kernel_rfl)
  · --
    intro y25 hy25
    have zy25 := hy25.size
    refine AllV_v ?_
    refine AllV_v ?_
    refine AllV_v ?_
    refine AllV_nil ?_
    refine O_call enters30 rfl rfl rfl (icmp_c rfl (((((hq4.ext e5).ext e6).chgBk (b5.ext e6) (by decide) q7).chgBk (b6.chg q7 (by omega)) (by decide) q8).ext hy25).nl rfl (((((hs4.ext e5).ext e6).chgBk (b5.ext e6) (by decide) q7).chgBk (b6.chg q7 (by omega)) (by decide) q8).ext hy25).nl (by (try simp only [val_dig, List.length_take, List.length_nil, List.length_cons, List.length_append, List.length_replicate, List.length_set, List.length_map, List.length_drop]); omega) (by (try simp only [val_dig, List.length_take, List.length_nil, List.length_cons, List.length_append, List.length_replicate, List.length_set, List.length_map, List.length_drop]); omega)) (fun v26 w26 e26 h26 => ?_)
    have z26 := e26.size
    obtain rfl := h26
    exact WL_nil ⟨e26, rfl⟩
  apply AnyR_val [26, 32] rfl (by kernel_rfl)
  · --
    intro y27 hy27
    have zy27 := hy27.size
    refine AllV_v ?_
    refine AllV_v ?_
    refine AllV_nil ?_
    refine O_neg rfl rfl rfl (wrap_i64_id (by omega) (by omega)) ?_
    exact WL_nil ⟨(Ext.refl _), rfl⟩
  apply AnyR_val [26, 29, 33] rfl (by kernel_rfl)
  · --
    intro y28 hy28
    have zy28 := hy28.size
    refine AllV_v ?_
    refine AllV_v ?_
    refine AllV_v ?_
    refine AllV_nil ?_
    refine O_eql (t := true) rfl rfl rfl rfl (decide_eq_true (by have := icmp_neg X Y; omega)) ?_
    exact WL_nil ⟨(Ext.refl _), rfl⟩
  apply AnyR_val [26, 34] rfl (by kernel_rfl)
  · --
    intro y29 hy29
    have zy29 := hy29.size
    refine AllV_v ?_
    refine AllV_v ?_
    refine AllV_nil ?_
    refine O_pickT rfl rfl rfl rfl ?_
    exact WL_nil ⟨(Ext.refl _), rfl⟩
  apply AnyR_val [35] rfl (by kernel_rfl)
  · --
    intro y30 hy30
    have zy30 := hy30.size
    refine AllV_v ?_
    refine AllV_nil ?_
    refine O_move rfl rfl rfl ?_
    exact WL_nil ⟨(Ext.refl _), rfl⟩
  apply AnyR_val [36, 5] rfl (by kernel_rfl)
  · --
    intro y31 hy31
    have zy31 := hy31.size
    refine AllV_v ?_
    refine AllV_nil ?_
    refine O_loadA (vs := [_, _]) S24 rfl rfl rfl ((b7.chg q8 (by omega)).ext hy31) rfl rfl ?_
    exact WL_nil ⟨(Ext.refl _), rfl⟩
  apply AnyR_val [36, 5] rfl (by kernel_rfl)
  · --
    intro y32 hy32
    have zy32 := hy32.size
    refine AllV_v ?_
    refine AllV_nil ?_
    refine O_loadA (vs := [_, _]) S24 rfl rfl rfl ((b7.chg q8 (by omega)).ext hy32) rfl rfl ?_
    exact WL_nil ⟨(Ext.refl _), rfl⟩
  apply AnyR_val [36, 37, 38] rfl (by kernel_rfl)
  · --
    intro y33 hy33
    have zy33 := hy33.size
    refine AllV_v ?_
    refine AllV_v ?_
    refine AllV_v ?_
    refine AllV_nil ?_
    refine O_call enters30 rfl rfl rfl (icmp_c rfl (((((hq4.ext e5).ext e6).chgBk (b5.ext e6) (by decide) q7).chgBk (b6.chg q7 (by omega)) (by decide) q8).ext hy33).nl rfl (((((hq4.ext e5).ext e6).chgBk (b5.ext e6) (by decide) q7).chgBk (b6.chg q7 (by omega)) (by decide) q8).ext hy33).nl (by (try simp only [val_dig, List.length_take, List.length_nil, List.length_cons, List.length_append, List.length_replicate, List.length_set, List.length_map, List.length_drop]); omega) (by (try simp only [val_dig, List.length_take, List.length_nil, List.length_cons, List.length_append, List.length_replicate, List.length_set, List.length_map, List.length_drop]); omega)) (fun v34 w34 e34 h34 => ?_)
    have z34 := e34.size
    obtain rfl := h34
    exact WL_nil ⟨e34, rfl⟩
  apply AnyR_val [36, 39] rfl (by kernel_rfl)
  · --
    intro y35 hy35
    have zy35 := hy35.size
    refine AllV_v ?_
    refine AllV_v ?_
    refine AllV_nil ?_
    refine O_eql (t := true) rfl rfl rfl rfl (decide_eq_true (icmp_self _)) ?_
    exact WL_nil ⟨(Ext.refl _), rfl⟩
  apply AnyR_val [36, 40] rfl (by kernel_rfl)
  · --
    intro y36 hy36
    have zy36 := hy36.size
    refine AllV_v ?_
    refine AllV_v ?_
    refine AllV_nil ?_
    refine O_pickT rfl rfl rfl rfl ?_
    exact WL_nil ⟨(Ext.refl _), rfl⟩
  apply AnyR_val [41] rfl (by kernel_rfl)
  · --
    intro y37 hy37
    have zy37 := hy37.size
    refine AllV_v ?_
    refine AllV_nil ?_
    refine O_move rfl rfl rfl ?_
    exact WL_nil ⟨(Ext.refl _), rfl⟩
  apply AnyR_val [42, 5] rfl (by kernel_rfl)
  · --
    intro y38 hy38
    have zy38 := hy38.size
    refine AllV_v ?_
    refine AllV_nil ?_
    refine O_loadA (vs := [_, _]) S24 rfl rfl rfl ((b7.chg q8 (by omega)).ext hy38) rfl rfl ?_
    exact WL_nil ⟨(Ext.refl _), rfl⟩
  apply AnyR_val [42, 43] rfl (by kernel_rfl)
  · --
    intro y39 hy39
    have zy39 := hy39.size
    refine AllV_v ?_
    refine AllV_v ?_
    refine AllV_nil ?_
    refine O_call enters32 rfl rfl rfl (isign_c rfl (((((hq4.ext e5).ext e6).chgBk (b5.ext e6) (by decide) q7).chgBk (b6.chg q7 (by omega)) (by decide) q8).ext hy39).nl (by (try simp only [val_dig, List.length_take, List.length_nil, List.length_cons, List.length_append, List.length_replicate, List.length_set, List.length_map, List.length_drop]); omega)) (fun v40 w40 e40 h40 => ?_)
    have z40 := e40.size
    obtain rfl := h40
    exact WL_nil ⟨e40, rfl⟩
  apply AnyR_val [42, 5] rfl (by kernel_rfl)
  · --
    intro y41 hy41
    have zy41 := hy41.size
    refine AllV_v ?_
    refine AllV_nil ?_
    refine O_loadA (vs := [_, _]) S24 rfl rfl rfl ((b7.chg q8 (by omega)).ext hy41) rfl rfl ?_
    exact WL_nil ⟨(Ext.refl _), rfl⟩
  apply AnyR_val [42, 45] rfl (by kernel_rfl)
  · --
    intro y42 hy42
    have zy42 := hy42.size
    refine AllV_v ?_
    refine AllV_v ?_
    refine AllV_nil ?_
    refine O_call enters33 rfl rfl rfl (risign_c rfl (((((hq4.ext e5).ext e6).chgBk (b5.ext e6) (by decide) q7).chgBk (b6.chg q7 (by omega)) (by decide) q8).ext hy42).nl (by (try simp only [val_dig, List.length_take, List.length_nil, List.length_cons, List.length_append, List.length_replicate, List.length_set, List.length_map, List.length_drop]); omega)) (fun v43 w43 e43 h43 => ?_)
    have z43 := e43.size
    obtain rfl := h43
    exact WL_nil ⟨e43, rfl⟩
  apply AnyR_val [42, 44, 46] rfl (by kernel_rfl)
  · --
    intro y44 hy44
    have zy44 := hy44.size
    refine AllV_v ?_
    refine AllV_v ?_
    refine AllV_v ?_
    refine AllV_nil ?_
    refine O_eql (t := true) rfl rfl rfl rfl (decide_eq_true rfl) ?_
    exact WL_nil ⟨(Ext.refl _), rfl⟩
  apply AnyR_val [42, 47] rfl (by kernel_rfl)
  · --
    intro y45 hy45
    have zy45 := hy45.size
    refine AllV_v ?_
    refine AllV_v ?_
    refine AllV_nil ?_
    refine O_pickT rfl rfl rfl rfl ?_
    exact WL_nil ⟨(Ext.refl _), rfl⟩
  apply AnyR_val [48] rfl (by kernel_rfl)
  · --
    intro y46 hy46
    have zy46 := hy46.size
    refine AllV_v ?_
    refine AllV_nil ?_
    refine O_move rfl rfl rfl ?_
    exact WL_nil ⟨(Ext.refl _), rfl⟩
  apply AnyR_val [49, 5] rfl (by kernel_rfl)
  · --
    intro y47 hy47
    have zy47 := hy47.size
    refine AllV_v ?_
    refine AllV_nil ?_
    refine O_loadA (vs := [_, _]) S24 rfl rfl rfl ((b7.chg q8 (by omega)).ext hy47) rfl rfl ?_
    exact WL_nil ⟨(Ext.refl _), rfl⟩
  apply AnyR_val [49, 6] rfl (by kernel_rfl)
  · --
    intro y48 hy48
    have zy48 := hy48.size
    refine AllV_v ?_
    refine AllV_nil ?_
    refine O_loadA (vs := [_, _]) S24 rfl rfl rfl (b8.ext hy48) rfl rfl ?_
    exact WL_nil ⟨(Ext.refl _), rfl⟩
  apply AnyR_rel (RelP (pAgg2 (pEq _) (pNo w8.heap.size 41 _))) [49, 50, 51] rfl (RelP.mono (pAgg2_mono pEq_mono pNo_mono)) (by kernel_rfl)
  · --
    intro y49 hy49
    have zy49 := hy49.size
    refine AllV_v ?_
    refine AllV_v ?_
    refine AllV_v ?_
    refine AllV_nil ?_
    refine O_call enters34 rfl rfl rfl (isub_c rfl (((((hq4.ext e5).ext e6).chgBk (b5.ext e6) (by decide) q7).chgBk (b6.chg q7 (by omega)) (by decide) q8).ext hy49).nl rfl (((((hs4.ext e5).ext e6).chgBk (b5.ext e6) (by decide) q7).chgBk (b6.chg q7 (by omega)) (by decide) q8).ext hy49).nl (by (try simp only [val_dig, List.length_take, List.length_nil, List.length_cons, List.length_append, List.length_replicate, List.length_set, List.length_map, List.length_drop]); omega) (by (try simp only [val_dig, List.length_take, List.length_nil, List.length_cons, List.length_append, List.length_replicate, List.length_set, List.length_map, List.length_drop]); omega)) (fun v50 w50 e50 h50 => ?_)
    have z50 := e50.size
    try simp only [val_dig] at h50
    obtain ⟨q50, rfl, hq50⟩ := h50
    exact WL_nil ⟨e50, _, rfl, ⟨_, _, rfl, rfl, (hq50.mono (by omega))⟩⟩
  apply AnyR_val [49, 52] rfl (by kernel_rfl)
  · --
    intro y51 hy51
    have zy51 := hy51.size
    refine AllV_v ?_
    refine AllV_r fun a52 b52 v52 la52 lb52 lc52 h52 ap52 => ?_
    clear ap52
    obtain ⟨v52_0, v52_1, rfl, rfl, h52_1⟩ := h52
    refine AllV_nil ?_
    refine O_call enters32 rfl rfl rfl (isign_c rfl h52_1.nl (by (try simp only [val_dig, List.length_take, List.length_nil, List.length_cons, List.length_append, List.length_replicate, List.length_set, List.length_map, List.length_drop]); omega)) (fun v53 w53 e53 h53 => ?_)
    have z53 := e53.size
    obtain rfl := h53
    exact WL_nil ⟨e53, rfl⟩
  apply AnyR_val [49, 5] rfl (by kernel_rfl)
  · --
    intro y54 hy54
    have zy54 := hy54.size
    refine AllV_v ?_
    refine AllV_nil ?_
    refine O_loadA (vs := [_, _]) S24 rfl rfl rfl ((b7.chg q8 (by omega)).ext hy54) rfl rfl ?_
    exact WL_nil ⟨(Ext.refl _), rfl⟩
  apply AnyR_val [49, 6] rfl (by kernel_rfl)
  · --
    intro y55 hy55
    have zy55 := hy55.size
    refine AllV_v ?_
    refine AllV_nil ?_
    refine O_loadA (vs := [_, _]) S24 rfl rfl rfl (b8.ext hy55) rfl rfl ?_
    exact WL_nil ⟨(Ext.refl _), rfl⟩
  apply AnyR_val [49, 54, 55] rfl (by kernel_rfl)
  · --
    intro y56 hy56
    have zy56 := hy56.size
    refine AllV_v ?_
    refine AllV_v ?_
    refine AllV_v ?_
    refine AllV_nil ?_
    refine O_call enters30 rfl rfl rfl (icmp_c rfl (((((hq4.ext e5).ext e6).chgBk (b5.ext e6) (by decide) q7).chgBk (b6.chg q7 (by omega)) (by decide) q8).ext hy56).nl rfl (((((hs4.ext e5).ext e6).chgBk (b5.ext e6) (by decide) q7).chgBk (b6.chg q7 (by omega)) (by decide) q8).ext hy56).nl (by (try simp only [val_dig, List.length_take, List.length_nil, List.length_cons, List.length_append, List.length_replicate, List.length_set, List.length_map, List.length_drop]); omega) (by (try simp only [val_dig, List.length_take, List.length_nil, List.length_cons, List.length_append, List.length_replicate, List.length_set, List.length_map, List.length_drop]); omega)) (fun v57 w57 e57 h57 => ?_)
    have z57 := e57.size
    obtain rfl := h57
    exact WL_nil ⟨e57, rfl⟩
  apply AnyR_val [49, 53, 56] rfl (by kernel_rfl)
  · --
    intro y58 hy58
    have zy58 := hy58.size
    refine AllV_v ?_
    refine AllV_v ?_
    refine AllV_v ?_
    refine AllV_nil ?_
    refine O_eql (t := true) rfl rfl rfl rfl (decide_eq_true (icmp_sign _ _)) ?_
    exact WL_nil ⟨(Ext.refl _), rfl⟩
  apply AnyR_val [49, 57] rfl (by kernel_rfl)
  · --
    intro y59 hy59
    have zy59 := hy59.size
    refine AllV_v ?_
    refine AllV_v ?_
    refine AllV_nil ?_
    refine O_pickT rfl rfl rfl rfl ?_
    exact WL_nil ⟨(Ext.refl _), rfl⟩
  apply AnyR_val [58] rfl (by kernel_rfl)
  · --
    intro y60 hy60
    have zy60 := hy60.size
    refine AllV_v ?_
    refine AllV_nil ?_
    refine O_move rfl rfl rfl ?_
    exact WL_nil ⟨(Ext.refl _), rfl⟩
  apply AnyR_val [59, 5] rfl (by kernel_rfl)
  · --
    intro y61 hy61
    have zy61 := hy61.size
    refine AllV_v ?_
    refine AllV_nil ?_
    refine O_loadA (vs := [_, _]) S24 rfl rfl rfl ((b7.chg q8 (by omega)).ext hy61) rfl rfl ?_
    exact WL_nil ⟨(Ext.refl _), rfl⟩
  apply AnyR_rel (RelP (pAgg2 (pEq _) (pNo w8.heap.size 41 _))) [59, 60] rfl (RelP.mono (pAgg2_mono pEq_mono pNo_mono)) (by kernel_rfl)
  · --
    intro y62 hy62
    have zy62 := hy62.size
    refine AllV_v ?_
    refine AllV_v ?_
    refine AllV_nil ?_
    refine O_call enters35 rfl rfl rfl (ineg_c rfl (((((hq4.ext e5).ext e6).chgBk (b5.ext e6) (by decide) q7).chgBk (b6.chg q7 (by omega)) (by decide) q8).ext hy62).nl (by (try simp only [val_dig, List.length_take, List.length_nil, List.length_cons, List.length_append, List.length_replicate, List.length_set, List.length_map, List.length_drop]); omega)) (fun v63 w63 e63 h63 => ?_)
    have z63 := e63.size
    try simp only [val_dig] at h63
    obtain ⟨q63, rfl, hq63⟩ := h63
    exact WL_nil ⟨e63, _, rfl, ⟨_, _, rfl, rfl, (hq63.mono (by omega))⟩⟩
  apply AnyR_val [59, 6] rfl (by kernel_rfl)
  · --
    intro y64 hy64
    have zy64 := hy64.size
    refine AllV_v ?_
    refine AllV_nil ?_
    refine O_loadA (vs := [_, _]) S24 rfl rfl rfl (b8.ext hy64) rfl rfl ?_
    exact WL_nil ⟨(Ext.refl _), rfl⟩
  apply AnyR_rel (RelP (pAgg2 (pEq _) (pNo w8.heap.size 41 _))) [59, 62] rfl (RelP.mono (pAgg2_mono pEq_mono pNo_mono)) (by kernel_rfl)
  · --
    intro y65 hy65
    have zy65 := hy65.size
    refine AllV_v ?_
    refine AllV_v ?_
    refine AllV_nil ?_
    refine O_call enters35 rfl rfl rfl (ineg_c rfl (((((hs4.ext e5).ext e6).chgBk (b5.ext e6) (by decide) q7).chgBk (b6.chg q7 (by omega)) (by decide) q8).ext hy65).nl (by (try simp only [val_dig, List.length_take, List.length_nil, List.length_cons, List.length_append, List.length_replicate, List.length_set, List.length_map, List.length_drop]); omega)) (fun v66 w66 e66 h66 => ?_)
    have z66 := e66.size
    try simp only [val_dig] at h66
    obtain ⟨q66, rfl, hq66⟩ := h66
    exact WL_nil ⟨e66, _, rfl, ⟨_, _, rfl, rfl, (hq66.mono (by omega))⟩⟩
  apply AnyR_val [59, 61, 63] rfl (by kernel_rfl)
  · --
    intro y67 hy67
    have zy67 := hy67.size
    refine AllV_v ?_
    refine AllV_r fun a68 b68 v68 la68 lb68 lc68 h68 ap68 => ?_
    clear ap68
    obtain ⟨v68_0, v68_1, rfl, rfl, h68_1⟩ := h68
    refine AllV_r fun a69 b69 v69 la69 lb69 lc69 h69 ap69 => ?_
    clear ap69
    obtain ⟨v69_0, v69_1, rfl, rfl, h69_1⟩ := h69
    refine AllV_nil ?_
    refine O_call enters30 rfl rfl rfl (icmp_c rfl h68_1.nl rfl h69_1.nl (by (try simp only [val_dig, List.length_take, List.length_nil, List.length_cons, List.length_append, List.length_replicate, List.length_set, List.length_map, List.length_drop]); omega) (by (try simp only [val_dig, List.length_take, List.length_nil, List.length_cons, List.length_append, List.length_replicate, List.length_set, List.length_map, List.length_drop]); omega)) (fun v70 w70 e70 h70 => ?_)
    have z70 := e70.size
    obtain rfl := h70
    exact WL_nil ⟨e70, rfl⟩
  apply AnyR_val [59, 6] rfl (by kernel_rfl)
  · --
    intro y71 hy71
    have zy71 := hy71.size
    refine AllV_v ?_
    refine AllV_nil ?_
    refine O_loadA (vs := [_, _]) S24 rfl rfl rfl (b8.ext hy71) rfl rfl ?_
    exact WL_nil ⟨(Ext.refl _), rfl⟩
  apply AnyR_val [59, 5] rfl (by kernel_rfl)
  · --
    intro y72 hy72
    have zy72 := hy72.size
    refine AllV_v ?_
    refine AllV_nil ?_
    refine O_loadA (vs := [_, _]) S24 rfl rfl rfl ((b7.chg q8 (by omega)).ext hy72) rfl rfl ?_
    exact WL_nil ⟨(Ext.refl _), rfl⟩
  apply AnyR_val [59, 65, 66] rfl (by kernel_rfl)
  · --
    intro y73 hy73
    have zy73 := hy73.size
    refine AllV_v ?_
    refine AllV_v ?_
    refine AllV_v ?_
    refine AllV_nil ?_
    refine O_call enters30 rfl rfl rfl (icmp_c rfl (((((hs4.ext e5).ext e6).chgBk (b5.ext e6) (by decide) q7).chgBk (b6.chg q7 (by omega)) (by decide) q8).ext hy73).nl rfl (((((hq4.ext e5).ext e6).chgBk (b5.ext e6) (by decide) q7).chgBk (b6.chg q7 (by omega)) (by decide) q8).ext hy73).nl (by (try simp only [val_dig, List.length_take, List.length_nil, List.length_cons, List.length_append, List.length_replicate, List.length_set, List.length_map, List.length_drop]); omega) (by (try simp only [val_dig, List.length_take, List.length_nil, List.length_cons, List.length_append, List.length_replicate, List.length_set, List.length_map, List.length_drop]); omega)) (fun v74 w74 e74 h74 => ?_)
    have z74 := e74.size
    obtain rfl := h74
    exact WL_nil ⟨e74, rfl⟩
  apply AnyR_val [59, 64, 67] rfl (by kernel_rfl)
  · --
    intro y75 hy75
    have zy75 := hy75.size
    refine AllV_v ?_
    refine AllV_v ?_
    refine AllV_v ?_
    refine AllV_nil ?_
    refine O_eql (t := true) rfl rfl rfl rfl (decide_eq_true (icmp_negneg _ _)) ?_
    exact WL_nil ⟨(Ext.refl _), rfl⟩
  apply AnyR_val [59, 68] rfl (by kernel_rfl)
  · --
    intro y76 hy76
    have zy76 := hy76.size
    refine AllV_v ?_
    refine AllV_v ?_
    refine AllV_nil ?_
    refine O_pickT rfl rfl rfl rfl ?_
    exact WL_nil ⟨(Ext.refl _), rfl⟩
  refine AnyR_nil fun y77 hy77 => ?_
  have zy77 := hy77.size
  refine AllV_v ?_
  refine AllV_v ?_
  refine AllV_v ?_
  refine AllV_v ?_
  refine AllV_v ?_
  refine AllV_v ?_
  refine AllV_v ?_
  refine AllV_v ?_
  refine AllV_v ?_
  refine AllV_v ?_
  refine AllV_v ?_
  refine AllV_v ?_
  refine AllV_v ?_
  refine AllV_v ?_
  refine AllV_v ?_
  refine AllV_v ?_
  refine AllV_v ?_
  refine AllV_v ?_
  refine AllV_v ?_
  refine AllV_v ?_
  refine AllV_v ?_
  refine AllV_v ?_
  refine AllV_v ?_
  refine AllV_v ?_
  refine AllV_v ?_
  refine AllV_v ?_
  refine AllV_v ?_
  refine AllV_v ?_
  refine AllV_v ?_
  refine AllV_v ?_
  refine AllV_v ?_
  refine AllV_v ?_
  refine AllV_v ?_
  refine AllV_r fun a78 b78 v78 la78 lb78 lc78 h78 ap78 => ?_
  clear ap78
  obtain ⟨v78_0, v78_1, rfl, rfl, h78_1⟩ := h78
  refine AllV_v ?_
  refine AllV_v ?_
  refine AllV_v ?_
  refine AllV_v ?_
  refine AllV_v ?_
  refine AllV_v ?_
  refine AllV_v ?_
  refine AllV_v ?_
  refine AllV_r fun a79 b79 v79 la79 lb79 lc79 h79 ap79 => ?_
  obtain ⟨p79_78, _⟩ := ap79
  obtain ⟨v79_0, v79_1, rfl, rfl, h79_1⟩ := h79
  refine AllV_v ?_
  refine AllV_r fun a80 b80 v80 la80 lb80 lc80 h80 ap80 => ?_
  obtain ⟨p80_79, p80_78, _⟩ := ap80
  obtain ⟨v80_0, v80_1, rfl, rfl, h80_1⟩ := h80
  refine AllV_v ?_
  refine AllV_v ?_
  refine AllV_v ?_
  refine AllV_v ?_
  refine AllV_v ?_
  refine AllV_v ?_
  refine AllV_nil ?_
  refine O_assign rfl rfl rfl ?_
  refine WL_end [(4, _)] ⟨rfl, trivial⟩ ?_
  refine WP_ret ?_
  refine ret1 Try.results7 rfl ?_
  exact ⟨_, rfl, (e8.trans hy77), rfl⟩

theorem law_IntegerOrders_F {w : World} {vx vy : Value} {lx ly : List Nat} {bx by_ : Bool} (hx : Nl w vx lx) (hy : Nl w vy ly) (h : (60 : Int) < (lx.length : Int) ∨ (60 : Int) < (ly.length : Int)) :
    Calls Try.prog 7 #[.agg #[.bool bx, vx], .agg #[.bool by_, vy]] w (Ret w fun r _ => r = .bool true) := by
  refine enter (args := [_, _]) Try.func7 rfl Try.ntmps7 rfl ?_
  refine WP_seq ?_
  refine WP_region ?_
  refine O_box _ rfl rfl rfl rfl (fun g1 w1 b1 e1 gl1 gh1 => ?_)
  have z1 := e1.size
  refine O_box _ rfl rfl rfl rfl (fun g2 w2 b2 e2 gl2 gh2 => ?_)
  have z2 := e2.size
  refine O_assign rfl rfl rfl ?_
  refine WL_end [(2, _), (3, _)] ⟨rfl, rfl, trivial⟩ ?_
  refine WP_seq ?_
  refine WP_seq ?_
  refine WP_region ?_
  refine O_call enters9 rfl rfl rfl (awake5_c) (fun v3 w3 e3 h3 => ?_)
  have z3 := e3.size
  obtain rfl := h3
  refine O_not rfl rfl rfl rfl ?_
  refine WL_end [(2, _), (3, _), (9, _)] ⟨rfl, rfl, rfl, trivial⟩ ?_
  refine WP_condF rfl ?_
  refine WP_skip ?_
  refine WP_seq ?_
  refine WP_region ?_
  refine O_loadA (vs := [_, _]) S24 rfl rfl rfl ((b1.ext e2).ext e3) rfl rfl ?_
  refine O_loadA (vs := [_, _]) S24 rfl rfl rfl (b2.ext e3) rfl rfl ?_
  refine O_call enters19 rfl rfl rfl (two_F (hx.ext ((e1.trans e2).trans e3)) (hy.ext ((e1.trans e2).trans e3)) (by (try simp only [val_dig, List.length_take, List.length_nil, List.length_cons, List.length_append, List.length_replicate, List.length_set, List.length_map, List.length_drop]); omega) (by (try simp only [val_dig, List.length_take, List.length_nil, List.length_cons, List.length_append, List.length_replicate, List.length_set, List.length_map, List.length_drop]); omega)) (fun v4 w4 e4 h4 => ?_)
  have z4 := e4.size
  try simp only [val_dig] at h4
  obtain ⟨_, b4, _, d4, rfl, ho4, hp4, hc4, hd4⟩ := h4
  refine O_move rfl rfl rfl ?_
  refine O_extract rfl rfl rfl rfl ?_
  refine O_extract rfl rfl rfl rfl ?_
  refine O_extract rfl rfl rfl rfl ?_
  refine O_alloc S24 rfl rfl (fun g5 w5 b5 e5 gl5 gh5 => ?_)
  have z5 := e5.size
  refine O_alloc S24 rfl rfl (fun g6 w6 b6 e6 gl6 gh6 => ?_)
  have z6 := e6.size
  refine O_storeA (cs' := [_, _]) S24 rfl rfl rfl (b5.ext e6) rfl rfl (one_cons rfl (one_cons (And.intro ho4 hc4).1 one_nil)) rfl (fun w7 b7 q7 => ?_)
  have z7 := Nat.le_of_eq q7.size.symm
  have e7 : Ext w w7 := q7.ext (((((e1.trans e2).trans e3).trans e4).trans e5).trans e6) (by omega)
  refine O_storeA (cs' := [_, _]) S24 rfl rfl rfl (b6.chg q7 (by omega)) rfl rfl (one_cons rfl (one_cons (And.intro hp4 hd4).1 one_nil)) rfl (fun w8 b8 q8 => ?_)
  have z8 := Nat.le_of_eq q8.size.symm
  have e8 : Ext w w8 := q8.ext e7 (by omega)
  refine O_assign rfl rfl rfl ?_
  refine WL_end [(5, _), (6, _), (7, _)] ⟨rfl, rfl, rfl, trivial⟩ ?_
  refine WP_seq ?_
  refine WP_seq ?_
  refine WP_region ?_
  refine O_move rfl rfl rfl ?_
  refine O_not rfl rfl rfl rfl ?_
  refine WL_end [(5, _), (6, _), (18, _)] ⟨rfl, rfl, rfl, trivial⟩ ?_
  refine WP_condT rfl ?_
  refine WP_seq ?_
  refine WP_region ?_
  refine O_assign rfl rfl rfl ?_
  refine WL_end [(4, _)] ⟨rfl, trivial⟩ ?_
  refine WP_ret ?_
  refine ret1 Try.results7 rfl ?_
  exact ⟨_, rfl, e8, rfl⟩

theorem law_IntegerOrders {w : World} {vx vy : Value} {lx ly : List Nat} {bx by_ : Bool} (hx : Nl w vx lx) (hy : Nl w vy ly) : Calls Try.prog 7 #[.agg #[.bool bx, vx], .agg #[.bool by_, vy]] w (Ret w fun r _ => r = .bool true) := by
  by_cases h1 : lx.length ≤ 60
  · by_cases h2 : ly.length ≤ 60
    · exact law_IntegerOrders_T hx hy h1 h2
    · exact law_IntegerOrders_F hx hy (by omega)
  · exact law_IntegerOrders_F hx hy (by omega)

end Go.Proofs.Ythbbcnlpfjbleaa
