/-
  Walks.
-/
import Derived.Test.YtoccimigjjndpaaU0
set_option linter.unusedVariables false
set_option linter.unusedSimpArgs false
set_option maxRecDepth 100000
namespace Go.Proofs.Ytoccimigjjndpaa
open Go Go.RowKit
theorem small_bd (i : Nat) (h : i ≤ 40) : (Tr.small i).1 + (Tr.small i).2 + 1 ≤ 1000000000000000 := by
  have h1 := Tr.small_mono' h
  have h2 := Tr.small_mono' (show i + 1 ≤ 41 by omega)
  have h3 : (Tr.small (i + 1)).1 = (Tr.small i).2 := rfl
  have h4 : (Tr.small 40).1 = 267914295 := by decide +kernel
  have h5 : (Tr.small 41).1 = 433494436 := by decide +kernel
  omega
theorem smallest_c {w : World} {h : Nat} (hh : h ≤ 40) :
    Calls Try.prog 35 #[.int .i64 (h : Nat)] w (Ret w fun r _ => r = .int .i64 ((Tr.small h).1 : Nat)) := by
 refine enter (args := [_]) Try.func35 rfl Try.ntmps35 rfl ?_
 refine WP_seq ?_
 refine WP_region ?_
 refine O_assign rfl rfl rfl ?_
 refine WL_end [(0, _)] ⟨rfl, trivial⟩ ?_
 refine WP_seq ?_
 refine WP_region ?_
 refine O_assign rfl rfl rfl ?_
 refine O_assign rfl rfl rfl ?_
 refine WL_end [(0, _), (3, _), (4, _)] ⟨rfl, rfl, rfl, trivial⟩ ?_
 refine WP_seq ?_
 refine WP_seq ?_
 refine WP_region ?_
 refine O_move rfl rfl rfl ?_
 refine O_move rfl rfl rfl ?_
 refine WL_end [(3, _), (4, _), (5, _), (6, _)] ⟨rfl, rfl, rfl, rfl, trivial⟩ ?_
 refine WP_block ?_
 refine WP_loop (S := Nat) (fun i => [(3, .int .i64 ((Tr.small i).1 : Nat)), (4, .int .i64 ((Tr.small i).2 : Nat)), (5, .int .i64 (h : Nat)), (6, .int .i64 (i : Nat))]) (fun i w' => Ext w w' ∧ i ≤ h) (fun i => h - i) 0 ⟨rfl, rfl, rfl, rfl, trivial⟩ ⟨(Ext.refl _), Nat.zero_le _⟩ ?_
 rintro i w9 ⟨hE, hi⟩
 have hs1 := small_bd i (by omega)
 have hs2 : Tr.small (i + 1) = ((Tr.small i).2, (Tr.small i).1 + (Tr.small i).2 + 1) := rfl
 refine WP_seq ?_
 refine WP_region ?_
 refine O_lss rfl rfl rfl rfl rfl ?_
 refine WL_end [(3, _), (4, _), (5, _), (6, _), (7, _)] ⟨rfl, rfl, rfl, rfl, rfl, trivial⟩ ?_
 refine WP_seq ?_
 refine WP_condD rfl (fun c7 => ?_) (fun c7 => ?_)
 · --
  refine WP_skip ?_
  refine WP_seq ?_
  refine WP_block ?_
  refine WP_region ?_
  refine O_move rfl rfl rfl ?_
  refine O_move rfl rfl rfl ?_
  refine O_move rfl rfl rfl ?_
  refine O_add (r := (((Tr.small i).1 + (Tr.small i).2 : Nat) : Int)) rfl rfl rfl rfl (by rw [IntKind.wrap_i64]; omega) ?_
  refine O_add (r := (((Tr.small i).1 + (Tr.small i).2 + 1 : Nat) : Int)) rfl rfl rfl rfl (by rw [IntKind.wrap_i64]; omega) ?_
  refine O_assign rfl rfl rfl ?_
  refine O_assign rfl rfl rfl ?_
  refine WL_end [(3, _), (4, _), (5, _), (6, _)] ⟨rfl, rfl, rfl, rfl, trivial⟩ ?_
  refine WP_region ?_
  refine O_add rfl rfl rfl rfl (wrap_i64_id (by omega) (by omega)) ?_
  refine O_move rfl rfl rfl ?_
  refine WL_end [(3, _), (4, _), (5, _), (6, _)] ⟨rfl, rfl, rfl, rfl, trivial⟩ ?_
  exact ⟨i + 1, ⟨by rw [hs2]; rfl, by rw [hs2]; rfl, rfl, rfl, trivial⟩, ⟨hE, by omega⟩, by omega⟩
 · --
  refine WP_exit ?_
  refine inBlk_hit ?_
  refine WP_seq ?_
  refine WP_region ?_
  refine O_move rfl rfl rfl ?_
  refine O_assign rfl rfl rfl ?_
  refine WL_end [(2, _)] ⟨rfl, trivial⟩ ?_
  refine WP_ret ?_
  refine ret1 Try.results35 rfl ?_
  have e : i = h := by omega
  exact ⟨_, rfl, hE, by rw [e]⟩

theorem balances_F {w : World} {v : Value} {l : List Int} {many : Int} (hl : SlM fI w v l) (hll : ¬ l.length ≤ 120) :
    Calls Try.prog 6 #[v, .int .i64 many] w (Ret w fun r _ => r = .bool true) := by
 refine enter (args := [v, _]) Try.func6 rfl Try.ntmps6 rfl ?_
 refine WP_seq ?_
 refine WP_region ?_
 refine O_assign rfl rfl rfl ?_
 refine WL_end [(0, _), (1, _)] ⟨rfl, rfl, trivial⟩ ?_
 refine WP_seq ?_
 refine WP_seq ?_
 refine WP_region ?_
 refine O_call enters15 rfl rfl rfl (awake_c) (fun v1 w1 e1 h1 => ?_)
 have z1 := e1.size
 obtain rfl := h1
 refine O_not rfl rfl rfl rfl ?_
 refine WL_end [(0, _), (1, _), (11, _)] ⟨rfl, rfl, rfl, trivial⟩ ?_
 refine WP_condF rfl ?_
 refine WP_skip ?_
 refine WP_seq ?_
 refine WP_seq ?_
 refine WP_region ?_
 refine O_move rfl rfl rfl ?_
 refine O_call enters16 rfl rfl rfl (light_F (hl.ext e1) hll) (fun v2 w2 e2 h2 => ?_)
 have z2 := e2.size
 obtain rfl := h2
 refine O_not rfl rfl rfl rfl ?_
 refine WL_end [(0, _), (1, _), (14, _)] ⟨rfl, rfl, rfl, trivial⟩ ?_
 refine WP_condT rfl ?_
 refine WP_seq ?_
 refine WP_region ?_
 refine O_assign rfl rfl rfl ?_
 refine WL_end [(4, _)] ⟨rfl, trivial⟩ ?_
 refine WP_ret ?_
 refine ret1 Try.results6 rfl ?_
 exact ⟨_, rfl, (e1.trans e2), rfl⟩
set_option maxHeartbeats 2000000 in
theorem balances_T {w : World} {v : Value} {l : List Int} {many : Int} (hl : SlM fI w v l) (hll : l.length ≤ 120) :
    Calls Try.prog 6 #[v, .int .i64 many] w (Ret w fun r _ => r = .bool true) := by
 refine enter (args := [v, _]) Try.func6 rfl Try.ntmps6 rfl ?_
 refine WP_seq ?_
 refine WP_region ?_
 refine O_assign rfl rfl rfl ?_
 refine WL_end [(0, _), (1, _)] ⟨rfl, rfl, trivial⟩ ?_
 refine WP_seq ?_
 refine WP_seq ?_
 refine WP_region ?_
 refine O_call enters15 rfl rfl rfl (awake_c) (fun v1 w1 e1 h1 => ?_)
 have z1 := e1.size
 obtain rfl := h1
 refine O_not rfl rfl rfl rfl ?_
 refine WL_end [(0, _), (1, _), (11, _)] ⟨rfl, rfl, rfl, trivial⟩ ?_
 refine WP_condF rfl ?_
 refine WP_skip ?_
 refine WP_seq ?_
 refine WP_seq ?_
 refine WP_region ?_
 refine O_move rfl rfl rfl ?_
 refine O_call enters16 rfl rfl rfl (light_T (hl.ext e1) hll) (fun v2 w2 e2 h2 => ?_)
 have z2 := e2.size
 obtain rfl := h2
 refine O_not rfl rfl rfl rfl ?_
 refine WL_end [(0, _), (1, _), (14, _)] ⟨rfl, rfl, rfl, trivial⟩ ?_
 refine WP_condF rfl ?_
 refine WP_skip ?_
 refine WP_seq ?_
 refine WP_region ?_
 refine O_move rfl rfl rfl ?_
 refine O_move rfl rfl rfl ?_
 refine O_call enters18 rfl rfl rfl (modN_c (by decide) (by decide)) (fun v3 w3 e3 h3 => ?_)
 have z3 := e3.size
 obtain ⟨m, rfl, hm⟩ := h3
 refine O_call enters17 rfl rfl rfl (grow_c (hl.ext ((e1.trans e2).trans e3)) hll (by (try simp only [lens]); omega)) (fun v4 w4 e4 h4 => ?_)
 have z4 := e4.size
 obtain ⟨gx, gf, rs, ts, rfl, ⟨ps, vr, vl, lv, hx, hF, hr, hv, hLL, hG, hps, hrs, hgx⟩, hlen⟩ := h4
 refine O_move rfl rfl rfl ?_
 refine O_extract rfl rfl rfl rfl ?_
 refine O_extract rfl rfl rfl rfl ?_
 refine O_assign rfl rfl rfl ?_
 refine O_assign rfl rfl rfl ?_
 refine WL_end [(5, _), (6, _)] ⟨rfl, rfl, trivial⟩ ?_
 refine WP_seq ?_
 refine WP_seq ?_
 refine WP_region ?_
 refine O_move rfl rfl rfl ?_
 refine O_not rfl rfl rfl rfl ?_
 refine WL_end [(5, _), (23, _)] ⟨rfl, rfl, trivial⟩ ?_
 refine WP_condF rfl ?_
 refine WP_skip ?_
 refine WP_seq ?_
 refine WP_seq ?_
 refine WP_region ?_
 refine O_move rfl rfl rfl ?_
 refine O_nilCheck rfl rfl rfl ?_
 refine O_field F32_1 rfl rfl rfl ?_
 refine O_loadC Try.underlying22 rfl rfl rfl rfl hx rfl ?_
 refine M_len M22 rfl rfl rfl hr.sl ?_
 refine O_move rfl rfl rfl ?_
 refine WL_end [(5, _), (27, _), (28, _), (29, _)] ⟨rfl, rfl, rfl, rfl, trivial⟩ ?_
 refine WP_block ?_
 have k5 := hx
 have k6 := hF
 have k7 := hr
 have k8 := hv
 have k9 := hLL
 refine WP_loop (S := Nat) (fun kn => [(5, .pointer (some ⟨gx, 0, none⟩)), (27, vr), (28, .int .i64 (rs.length : Nat)), (29, .int .i64 (kn : Nat))]) (fun kn w' => Ext w w' ∧ Ext w4 w' ∧ kn ≤ rs.length) (fun kn => rs.length - kn) 0 ⟨rfl, rfl, rfl, rfl, trivial⟩ ⟨(((e1.trans e2).trans e3).trans e4), Ext.refl _, Nat.zero_le _⟩ ?_
 rintro kn w9 ⟨hE, hEg, hkn⟩
 have zE := hE.size
 have zEg := hEg.size
 refine WP_seq ?_
 refine WP_region ?_
 refine O_lss rfl rfl rfl rfl rfl ?_
 refine WL_end [(5, _), (27, _), (28, _), (29, _), (30, _)] ⟨rfl, rfl, rfl, rfl, rfl, trivial⟩ ?_
 refine WP_seq ?_
 refine WP_condD rfl (fun c30 => ?_) (fun c30 => ?_)
 · --
  refine WP_skip ?_
  refine WP_seq ?_
  refine WP_block ?_
  refine WP_seq ?_
  have hk2 : kn < rs.length := by omega
  have hk3 : kn < ts.length := by have := hG.1; omega
  have hk4 : kn < lv.length := by have := hLL.1; omega
  have hlvl : lv.length ≤ rs.length := by have := hLL.1; have := hG.1; omega
  obtain ⟨hRk, hOk, hAk, hCk⟩ := hG.at_ hk2 hk3
  have h40 := bigB ts[kn] hAk (by omega)
  have henk := Tr.env_length ts[kn]
  have hz : (((ts[kn].ht : Nat) : Int) = 0) ↔ (((ts[kn].env.length : Nat) : Int) = 0) := by
    have h1 := ts[kn].ht_le
    have h2 := @Tr.ht_zero ts[kn]
    have h3 := @Tr.cnt_zero ts[kn]
    rw [henk]
    constructor
    · intro h; have := h3.2 (h2.1 (by omega)); omega
    · intro h; omega
  have hsm := Tr.small_le hAk
  · --
   skip
   refine WP_region ?_
   refine O_move rfl rfl rfl ?_
   refine M_index M22 rfl rfl rfl rfl (k7.ext hEg).sl kn rfl hk2 ?_
   refine M_load Try.underlying3 rfl rfl rfl rfl (k7.ext hEg).sl hk2 ?_
   refine O_assign rfl rfl rfl ?_
   refine O_assign rfl rfl rfl ?_
   refine WL_end [(5, _), (7, _), (8, _), (27, _), (28, _), (29, _)] ⟨rfl, rfl, rfl, rfl, rfl, rfl, trivial⟩ ?_
   refine WP_seq ?_
   refine WP_region ?_
   refine O_move rfl rfl rfl ?_
   refine O_nilCheck rfl rfl rfl ?_
   refine O_field F32_0 rfl rfl rfl ?_
   refine O_loadC Try.underlying29 rfl rfl rfl rfl (k5.ext hEg) rfl ?_
   refine O_move rfl rfl rfl ?_
   refine O_call enters25 rfl rfl rfl (Height_G (k6.ext hEg) hRk) (fun v10 w10 e10 h10 => ?_)
   have z10 := e10.size
   obtain rfl := h10
   refine O_assign rfl rfl rfl ?_
   refine WL_end [(5, _), (7, _), (8, _), (9, _), (27, _), (28, _), (29, _)] ⟨rfl, rfl, rfl, rfl, rfl, rfl, rfl, trivial⟩ ?_
   refine WP_seq ?_
   refine WP_sub [(5, _), (7, _), (8, _), (9, _), (27, _), (28, _), (29, _)] ⟨rfl, rfl, rfl, rfl, rfl, rfl, rfl, trivial⟩ ?_
   refine WP_anyR 42 [5, 7, 8, 9, 27, 28, 29] mixed rfl (by kernel_rfl) ?_
   apply AnyR_val [5] rfl (by kernel_rfl)
   · --
    intro y11 hy11
    have zy11 := hy11.size
    refine AllV_nil ?_
    refine O_move rfl rfl rfl ?_
    exact WL_nil ⟨(Ext.refl _), rfl⟩
   apply AnyR_val [40] rfl (by kernel_rfl)
   · --
    intro y12 hy12
    have zy12 := hy12.size
    refine AllV_v ?_
    refine AllV_nil ?_
    refine O_nilCheck rfl rfl rfl ?_
    exact WL_nil ⟨(Ext.refl _), rfl⟩
   apply AnyR_val [41] rfl (by kernel_rfl)
   · --
    intro y13 hy13
    have zy13 := hy13.size
    refine AllV_v ?_
    refine AllV_nil ?_
    refine O_field F32_0 rfl rfl rfl ?_
    exact WL_nil ⟨(Ext.refl _), rfl⟩
   apply AnyR_val [42] rfl (by kernel_rfl)
   · --
    intro y14 hy14
    have zy14 := hy14.size
    refine AllV_v ?_
    refine AllV_nil ?_
    refine O_loadC Try.underlying29 rfl rfl rfl rfl (((k5.ext hEg).ext e10).ext hy14) rfl ?_
    exact WL_nil ⟨(Ext.refl _), rfl⟩
   apply AnyR_val [8] rfl (by kernel_rfl)
   · --
    intro y15 hy15
    have zy15 := hy15.size
    refine AllV_nil ?_
    refine O_move rfl rfl rfl ?_
    exact WL_nil ⟨(Ext.refl _), rfl⟩
   apply AnyR_val [43, 44] rfl (by kernel_rfl)
   · --
    intro y16 hy16
    have zy16 := hy16.size
    refine AllV_v ?_
    refine AllV_v ?_
    refine AllV_nil ?_
    refine O_call enters34 rfl rfl rfl (Balanced_G (((k6.ext hEg).ext e10).ext hy16) hRk hOk hAk (by (try simp only [lens]); omega)) (fun v17 w17 e17 h17 => ?_)
    have z17 := e17.size
    obtain rfl := h17
    exact WL_nil ⟨e17, rfl⟩
   apply AnyR_val [45] rfl (by kernel_rfl)
   · --
    intro y18 hy18
    have zy18 := hy18.size
    refine AllV_v ?_
    refine AllV_nil ?_
    refine O_not rfl rfl rfl rfl ?_
    exact WL_nil ⟨(Ext.refl _), rfl⟩
   apply AnyR_val [46] rfl (by kernel_rfl)
   · --
    intro y19 hy19
    have zy19 := hy19.size
    refine AllV_v ?_
    refine AllV_nil ?_
    refine O_move rfl rfl rfl ?_
    exact WL_nil ⟨(Ext.refl _), rfl⟩
   apply AnyR_val [47, 9] rfl (by kernel_rfl)
   · --
    intro y20 hy20
    have zy20 := hy20.size
    refine AllV_v ?_
    refine AllV_nil ?_
    refine O_move rfl rfl rfl ?_
    exact WL_nil ⟨(Ext.refl _), rfl⟩
   apply AnyR_val [47, 48] rfl (by kernel_rfl)
   · --
    intro y21 hy21
    have zy21 := hy21.size
    refine AllV_v ?_
    refine AllV_v ?_
    refine AllV_nil ?_
    refine O_lss (t := false) rfl rfl rfl rfl (decide_eq_false (by omega)) ?_
    exact WL_nil ⟨(Ext.refl _), rfl⟩
   apply AnyR_val [47, 49] rfl (by kernel_rfl)
   · --
    intro y22 hy22
    have zy22 := hy22.size
    refine AllV_v ?_
    refine AllV_v ?_
    refine AllV_nil ?_
    refine O_pickF rfl rfl rfl rfl ?_
    exact WL_nil ⟨(Ext.refl _), rfl⟩
   apply AnyR_val [50] rfl (by kernel_rfl)
   · --
    intro y23 hy23
    have zy23 := hy23.size
    refine AllV_v ?_
    refine AllV_nil ?_
    refine O_move rfl rfl rfl ?_
    exact WL_nil ⟨(Ext.refl _), rfl⟩
   apply AnyR_val [51, 9] rfl (by kernel_rfl)
   · --
    intro y24 hy24
    have zy24 := hy24.size
    refine AllV_v ?_
    refine AllV_nil ?_
    refine O_move rfl rfl rfl ?_
    exact WL_nil ⟨(Ext.refl _), rfl⟩
   apply AnyR_val [51, 52] rfl (by kernel_rfl)
   · --
    intro y25 hy25
    have zy25 := hy25.size
    refine AllV_v ?_
    refine AllV_v ?_
    refine AllV_nil ?_
    refine O_gtr (t := false) rfl rfl rfl rfl (decide_eq_false (by omega)) ?_
    exact WL_nil ⟨(Ext.refl _), rfl⟩
   apply AnyR_val [51, 53] rfl (by kernel_rfl)
   · --
    intro y26 hy26
    have zy26 := hy26.size
    refine AllV_v ?_
    refine AllV_v ?_
    refine AllV_nil ?_
    refine O_pickF rfl rfl rfl rfl ?_
    exact WL_nil ⟨(Ext.refl _), rfl⟩
   apply AnyR_val [54] rfl (by kernel_rfl)
   · --
    intro y27 hy27
    have zy27 := hy27.size
    refine AllV_v ?_
    refine AllV_nil ?_
    refine O_move rfl rfl rfl ?_
    exact WL_nil ⟨(Ext.refl _), rfl⟩
   apply AnyR_val [55, 5] rfl (by kernel_rfl)
   · --
    intro y28 hy28
    have zy28 := hy28.size
    refine AllV_v ?_
    refine AllV_nil ?_
    refine O_move rfl rfl rfl ?_
    exact WL_nil ⟨(Ext.refl _), rfl⟩
   apply AnyR_val [55, 56] rfl (by kernel_rfl)
   · --
    intro y29 hy29
    have zy29 := hy29.size
    refine AllV_v ?_
    refine AllV_v ?_
    refine AllV_nil ?_
    refine O_nilCheck rfl rfl rfl ?_
    exact WL_nil ⟨(Ext.refl _), rfl⟩
   apply AnyR_val [55, 57] rfl (by kernel_rfl)
   · --
    intro y30 hy30
    have zy30 := hy30.size
    refine AllV_v ?_
    refine AllV_v ?_
    refine AllV_nil ?_
    refine O_field F32_2 rfl rfl rfl ?_
    exact WL_nil ⟨(Ext.refl _), rfl⟩
   apply AnyR_val [55, 58] rfl (by kernel_rfl)
   · --
    intro y31 hy31
    have zy31 := hy31.size
    refine AllV_v ?_
    refine AllV_v ?_
    refine AllV_nil ?_
    refine O_loadC Try.underlying30 rfl rfl rfl rfl (((k5.ext hEg).ext e10).ext hy31) rfl ?_
    exact WL_nil ⟨(Ext.refl _), rfl⟩
   apply AnyR_val [55, 7] rfl (by kernel_rfl)
   · --
    intro y32 hy32
    have zy32 := hy32.size
    refine AllV_v ?_
    refine AllV_nil ?_
    refine O_move rfl rfl rfl ?_
    exact WL_nil ⟨(Ext.refl _), rfl⟩
   apply AnyR_val [55, 59, 60] rfl (by kernel_rfl)
   · --
    intro y33 hy33
    have zy33 := hy33.size
    refine AllV_v ?_
    refine AllV_v ?_
    refine AllV_v ?_
    refine AllV_nil ?_
    refine M_index M30 rfl rfl rfl rfl (((k8.ext hEg).ext e10).ext hy33).sl kn rfl hk4 ?_
    exact WL_nil ⟨(Ext.refl _), rfl⟩
   apply AnyR_val [55, 61] rfl (by kernel_rfl)
   · --
    intro y34 hy34
    have zy34 := hy34.size
    refine AllV_v ?_
    refine AllV_v ?_
    refine AllV_nil ?_
    refine M_load Try.underlying34 rfl rfl rfl rfl (((k8.ext hEg).ext e10).ext hy34).sl hk4 ?_
    exact WL_nil ⟨(Ext.refl _), rfl⟩
   apply AnyR_val [55, 62] rfl (by kernel_rfl)
   · --
    intro y35 hy35
    have zy35 := hy35.size
    refine AllV_v ?_
    refine AllV_v ?_
    refine AllV_nil ?_
    refine B_len Ebind rfl rfl rfl ((((k9.ext hEg).ext e10).ext hy35).at_ hk4 hk3).sl ?_
    exact WL_nil ⟨(Ext.refl _), rfl⟩
   apply AnyR_val [55, 9] rfl (by kernel_rfl)
   · --
    intro y36 hy36
    have zy36 := hy36.size
    refine AllV_v ?_
    refine AllV_nil ?_
    refine O_move rfl rfl rfl ?_
    exact WL_nil ⟨(Ext.refl _), rfl⟩
   apply AnyR_val [55, 64] rfl (by kernel_rfl)
   · --
    intro y37 hy37
    have zy37 := hy37.size
    refine AllV_v ?_
    refine AllV_v ?_
    refine AllV_nil ?_
    refine O_call enters35 rfl rfl rfl (smallest_c h40) (fun v38 w38 e38 h38 => ?_)
    have z38 := e38.size
    obtain rfl := h38
    exact WL_nil ⟨e38, rfl⟩
   apply AnyR_val [55, 63, 65] rfl (by kernel_rfl)
   · --
    intro y39 hy39
    have zy39 := hy39.size
    refine AllV_v ?_
    refine AllV_v ?_
    refine AllV_v ?_
    refine AllV_nil ?_
    refine O_lss (t := false) rfl rfl rfl rfl (decide_eq_false (by rw [henk]; omega)) ?_
    exact WL_nil ⟨(Ext.refl _), rfl⟩
   apply AnyR_val [55, 66] rfl (by kernel_rfl)
   · --
    intro y40 hy40
    have zy40 := hy40.size
    refine AllV_v ?_
    refine AllV_v ?_
    refine AllV_nil ?_
    refine O_pickF rfl rfl rfl rfl ?_
    exact WL_nil ⟨(Ext.refl _), rfl⟩
   apply AnyR_val [67] rfl (by kernel_rfl)
   · --
    intro y41 hy41
    have zy41 := hy41.size
    refine AllV_v ?_
    refine AllV_nil ?_
    refine O_move rfl rfl rfl ?_
    exact WL_nil ⟨(Ext.refl _), rfl⟩
   apply AnyR_val [68, 9] rfl (by kernel_rfl)
   · --
    intro y42 hy42
    have zy42 := hy42.size
    refine AllV_v ?_
    refine AllV_nil ?_
    refine O_move rfl rfl rfl ?_
    exact WL_nil ⟨(Ext.refl _), rfl⟩
   apply AnyR_val [68, 69] rfl (by kernel_rfl)
   · --
    intro y43 hy43
    have zy43 := hy43.size
    refine AllV_v ?_
    refine AllV_v ?_
    refine AllV_nil ?_
    refine O_eql rfl rfl rfl rfl rfl ?_
    exact WL_nil ⟨(Ext.refl _), rfl⟩
   apply AnyR_val [68, 5] rfl (by kernel_rfl)
   · --
    intro y44 hy44
    have zy44 := hy44.size
    refine AllV_v ?_
    refine AllV_nil ?_
    refine O_move rfl rfl rfl ?_
    exact WL_nil ⟨(Ext.refl _), rfl⟩
   apply AnyR_val [68, 71] rfl (by kernel_rfl)
   · --
    intro y45 hy45
    have zy45 := hy45.size
    refine AllV_v ?_
    refine AllV_v ?_
    refine AllV_nil ?_
    refine O_nilCheck rfl rfl rfl ?_
    exact WL_nil ⟨(Ext.refl _), rfl⟩
   apply AnyR_val [68, 72] rfl (by kernel_rfl)
   · --
    intro y46 hy46
    have zy46 := hy46.size
    refine AllV_v ?_
    refine AllV_v ?_
    refine AllV_nil ?_
    refine O_field F32_2 rfl rfl rfl ?_
    exact WL_nil ⟨(Ext.refl _), rfl⟩
   apply AnyR_val [68, 73] rfl (by kernel_rfl)
   · --
    intro y47 hy47
    have zy47 := hy47.size
    refine AllV_v ?_
    refine AllV_v ?_
    refine AllV_nil ?_
    refine O_loadC Try.underlying30 rfl rfl rfl rfl (((k5.ext hEg).ext e10).ext hy47) rfl ?_
    exact WL_nil ⟨(Ext.refl _), rfl⟩
   apply AnyR_val [68, 7] rfl (by kernel_rfl)
   · --
    intro y48 hy48
    have zy48 := hy48.size
    refine AllV_v ?_
    refine AllV_nil ?_
    refine O_move rfl rfl rfl ?_
    exact WL_nil ⟨(Ext.refl _), rfl⟩
   apply AnyR_val [68, 74, 75] rfl (by kernel_rfl)
   · --
    intro y49 hy49
    have zy49 := hy49.size
    refine AllV_v ?_
    refine AllV_v ?_
    refine AllV_v ?_
    refine AllV_nil ?_
    refine M_index M30 rfl rfl rfl rfl (((k8.ext hEg).ext e10).ext hy49).sl kn rfl hk4 ?_
    exact WL_nil ⟨(Ext.refl _), rfl⟩
   apply AnyR_val [68, 76] rfl (by kernel_rfl)
   · --
    intro y50 hy50
    have zy50 := hy50.size
    refine AllV_v ?_
    refine AllV_v ?_
    refine AllV_nil ?_
    refine M_load Try.underlying34 rfl rfl rfl rfl (((k8.ext hEg).ext e10).ext hy50).sl hk4 ?_
    exact WL_nil ⟨(Ext.refl _), rfl⟩
   apply AnyR_val [68, 77] rfl (by kernel_rfl)
   · --
    intro y51 hy51
    have zy51 := hy51.size
    refine AllV_v ?_
    refine AllV_v ?_
    refine AllV_nil ?_
    refine B_len Ebind rfl rfl rfl ((((k9.ext hEg).ext e10).ext hy51).at_ hk4 hk3).sl ?_
    exact WL_nil ⟨(Ext.refl _), rfl⟩
   apply AnyR_val [68, 78] rfl (by kernel_rfl)
   · --
    intro y52 hy52
    have zy52 := hy52.size
    refine AllV_v ?_
    refine AllV_v ?_
    refine AllV_nil ?_
    refine O_eql rfl rfl rfl rfl rfl ?_
    exact WL_nil ⟨(Ext.refl _), rfl⟩
   apply AnyR_val [68, 70, 79] rfl (by kernel_rfl)
   · --
    intro y53 hy53
    have zy53 := hy53.size
    refine AllV_v ?_
    refine AllV_v ?_
    refine AllV_v ?_
    refine AllV_nil ?_
    refine O_bneq Try.underlying4 (t := false) rfl rfl rfl rfl (by rw [show decide (((ts[kn].ht : Nat) : Int) = 0) = decide (((ts[kn].env.length : Nat) : Int) = 0) from decide_eq_decide.2 hz]; simp) ?_
    exact WL_nil ⟨(Ext.refl _), rfl⟩
   apply AnyR_val [68, 80] rfl (by kernel_rfl)
   · --
    intro y54 hy54
    have zy54 := hy54.size
    refine AllV_v ?_
    refine AllV_v ?_
    refine AllV_nil ?_
    refine O_pickF rfl rfl rfl rfl ?_
    exact WL_nil ⟨(Ext.refl _), rfl⟩
   refine AnyR_nil fun y55 hy55 => ?_
   have zy55 := hy55.size
   refine AllV_v ?_
   refine AllV_v ?_
   refine AllV_v ?_
   refine AllV_v ?_
   refine AllV_v ?_
   refine AllV_v ?_
   refine AllV_v ?_
   refine AllV_v ?_
   refine AllV_v ?_
   refine AllV_v ?_
   refine AllV_v ?_
   refine AllV_v ?_
   refine AllV_v ?_
   refine AllV_v ?_
   refine AllV_v ?_
   refine AllV_v ?_
   refine AllV_v ?_
   refine AllV_v ?_
   refine AllV_v ?_
   refine AllV_v ?_
   refine AllV_v ?_
   refine AllV_v ?_
   refine AllV_v ?_
   refine AllV_v ?_
   refine AllV_v ?_
   refine AllV_v ?_
   refine AllV_v ?_
   refine AllV_v ?_
   refine AllV_v ?_
   refine AllV_v ?_
   refine AllV_v ?_
   refine AllV_v ?_
   refine AllV_v ?_
   refine AllV_v ?_
   refine AllV_v ?_
   refine AllV_v ?_
   refine AllV_v ?_
   refine AllV_v ?_
   refine AllV_v ?_
   refine AllV_v ?_
   refine AllV_v ?_
   refine AllV_v ?_
   refine AllV_nil ?_
   refine WL_end [(5, _), (27, _), (28, _), (29, _), (81, _)] ⟨rfl, rfl, rfl, rfl, rfl, trivial⟩ ?_
   refine WP_condF rfl ?_
   refine WP_skip ?_
   refine WP_region ?_
   refine O_add rfl rfl rfl rfl (wrap_i64_id (by omega) (by omega)) ?_
   refine O_move rfl rfl rfl ?_
   refine WL_end [(5, _), (27, _), (28, _), (29, _)] ⟨rfl, rfl, rfl, rfl, trivial⟩ ?_
   exact ⟨kn + 1, ⟨rfl, rfl, rfl, rfl, trivial⟩, ⟨((hE.trans e10).trans hy55), hEg.trans (e10.trans hy55), by omega⟩, by omega⟩
 · --
  refine WP_exit ?_
  refine inBlk_hit ?_
  refine WP_seq ?_
  refine WP_region ?_
  refine O_assign rfl rfl rfl ?_
  refine WL_end [(4, _)] ⟨rfl, trivial⟩ ?_
  refine WP_ret ?_
  refine ret1 Try.results6 rfl ?_
  exact ⟨_, rfl, hE, rfl⟩

theorem law_TreeBalances {w : World} {v : Value} {l : List Int} {many : Int} (hl : SlM fI w v l) : Calls Try.prog 6 #[v, .int .i64 many] w (Ret w fun r _ => r = .bool true) := by
  by_cases hll : l.length ≤ 120
  · exact balances_T hl hll
  · exact balances_F hl hll

end Go.Proofs.Ytoccimigjjndpaa
