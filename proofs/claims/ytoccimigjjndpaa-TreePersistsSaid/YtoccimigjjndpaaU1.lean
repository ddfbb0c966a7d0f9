/-
  Walks.
-/
import Derived.Test.YtoccimigjjndpaaU0
set_option linter.unusedVariables false
set_option linter.unusedSimpArgs false
set_option maxRecDepth 100000
namespace Go.Proofs.Ytoccimigjjndpaa
open Go Go.RowKit
theorem persists_F {w : World} {v : Value} {l : List Int} {many : Int} (hl : SlM fI w v l) (hll : ¬ l.length ≤ 120) :
    Calls Try.prog 3 #[v, .int .i64 many] w (Ret w fun r _ => r = .bool true) := by
 refine enter (args := [v, _]) Try.func3 rfl Try.ntmps3 rfl ?_
 refine WP_seq ?_
 refine WP_region ?_
 refine O_assign rfl rfl rfl ?_
 refine WL_end [(0, _), (1, _)] ⟨rfl, rfl, trivial⟩ ?_
 refine WP_seq ?_
 refine WP_seq ?_
 refine WP_region ?_
 refine O_call enters15 rfl rfl rfl (awake_c) (fun v1 w1 e1 h1 => ?_)
 have z1 := e1.size
 obtain rfl := h1
 refine O_not rfl rfl rfl rfl ?_
 refine WL_end [(0, _), (1, _), (10, _)] ⟨rfl, rfl, rfl, trivial⟩ ?_
 refine WP_condF rfl ?_
 refine WP_skip ?_
 refine WP_seq ?_
 refine WP_seq ?_
 refine WP_region ?_
 refine O_move rfl rfl rfl ?_
 refine O_call enters16 rfl rfl rfl (light_F (hl.ext e1) hll) (fun v2 w2 e2 h2 => ?_)
 have z2 := e2.size
 obtain rfl := h2
 refine O_not rfl rfl rfl rfl ?_
 refine WL_end [(0, _), (1, _), (13, _)] ⟨rfl, rfl, rfl, trivial⟩ ?_
 refine WP_condT rfl ?_
 refine WP_seq ?_
 refine WP_region ?_
 refine O_assign rfl rfl rfl ?_
 refine WL_end [(4, _)] ⟨rfl, trivial⟩ ?_
 refine WP_ret ?_
 refine ret1 Try.results3 rfl ?_
 exact ⟨_, rfl, (e1.trans e2), rfl⟩
set_option maxHeartbeats 2000000 in
theorem persists_T {w : World} {v : Value} {l : List Int} {many : Int} (hl : SlM fI w v l) (hll : l.length ≤ 120) :
    Calls Try.prog 3 #[v, .int .i64 many] w (Ret w fun r _ => r = .bool true) := by
 refine enter (args := [v, _]) Try.func3 rfl Try.ntmps3 rfl ?_
 refine WP_seq ?_
 refine WP_region ?_
 refine O_assign rfl rfl rfl ?_
 refine WL_end [(0, _), (1, _)] ⟨rfl, rfl, trivial⟩ ?_
 refine WP_seq ?_
 refine WP_seq ?_
 refine WP_region ?_
 refine O_call enters15 rfl rfl rfl (awake_c) (fun v1 w1 e1 h1 => ?_)
 have z1 := e1.size
 obtain rfl := h1
 refine O_not rfl rfl rfl rfl ?_
 refine WL_end [(0, _), (1, _), (10, _)] ⟨rfl, rfl, rfl, trivial⟩ ?_
 refine WP_condF rfl ?_
 refine WP_skip ?_
 refine WP_seq ?_
 refine WP_seq ?_
 refine WP_region ?_
 refine O_move rfl rfl rfl ?_
 refine O_call enters16 rfl rfl rfl (light_T (hl.ext e1) hll) (fun v2 w2 e2 h2 => ?_)
 have z2 := e2.size
 obtain rfl := h2
 refine O_not rfl rfl rfl rfl ?_
 refine WL_end [(0, _), (1, _), (13, _)] ⟨rfl, rfl, rfl, trivial⟩ ?_
 refine WP_condF rfl ?_
 refine WP_skip ?_
 refine WP_seq ?_
 refine WP_region ?_
 refine O_move rfl rfl rfl ?_
 refine O_move rfl rfl rfl ?_
 refine O_call enters18 rfl rfl rfl (modN_c (by decide) (by decide)) (fun v3 w3 e3 h3 => ?_)
 have z3 := e3.size
 obtain ⟨m, rfl, hm⟩ := h3
 refine O_call enters17 rfl rfl rfl (grow_c (hl.ext ((e1.trans e2).trans e3)) hll (by (try simp only [lens]); omega)) (fun v4 w4 e4 h4 => ?_)
 have z4 := e4.size
 obtain ⟨gx, gf, rs, ts, rfl, ⟨ps, vr, vl, lv, hx, hF, hr, hv, hLL, hG, hps, hrs, hgx⟩, hlen⟩ := h4
 refine O_move rfl rfl rfl ?_
 refine O_extract rfl rfl rfl rfl ?_
 refine O_extract rfl rfl rfl rfl ?_
 refine O_assign rfl rfl rfl ?_
 refine O_assign rfl rfl rfl ?_
 refine WL_end [(5, _), (6, _)] ⟨rfl, rfl, trivial⟩ ?_
 refine WP_seq ?_
 refine WP_seq ?_
 refine WP_region ?_
 refine O_move rfl rfl rfl ?_
 refine O_not rfl rfl rfl rfl ?_
 refine WL_end [(5, _), (22, _)] ⟨rfl, rfl, trivial⟩ ?_
 refine WP_condF rfl ?_
 refine WP_skip ?_
 refine WP_seq ?_
 refine WP_seq ?_
 refine WP_region ?_
 refine O_move rfl rfl rfl ?_
 refine O_nilCheck rfl rfl rfl ?_
 refine O_field F32_1 rfl rfl rfl ?_
 refine O_loadC Try.underlying22 rfl rfl rfl rfl hx rfl ?_
 refine M_len M22 rfl rfl rfl hr.sl ?_
 refine O_move rfl rfl rfl ?_
 refine WL_end [(5, _), (26, _), (27, _), (28, _)] ⟨rfl, rfl, rfl, rfl, trivial⟩ ?_
 refine WP_block ?_
 have k5 := hx
 have k6 := hF
 have k7 := hr
 have k8 := hv
 have k9 := hLL
 refine WP_loop (S := Nat) (fun kn => [(5, .pointer (some ⟨gx, 0, none⟩)), (26, vr), (27, .int .i64 (rs.length : Nat)), (28, .int .i64 (kn : Nat))]) (fun kn w' => Ext w w' ∧ Ext w4 w' ∧ kn ≤ rs.length) (fun kn => rs.length - kn) 0 ⟨rfl, rfl, rfl, rfl, trivial⟩ ⟨(((e1.trans e2).trans e3).trans e4), Ext.refl _, Nat.zero_le _⟩ ?_
 rintro kn w9 ⟨hE, hEg, hkn⟩
 have zE := hE.size
 have zEg := hEg.size
 refine WP_seq ?_
 refine WP_region ?_
 refine O_lss rfl rfl rfl rfl rfl ?_
 refine WL_end [(5, _), (26, _), (27, _), (28, _), (29, _)] ⟨rfl, rfl, rfl, rfl, rfl, trivial⟩ ?_
 refine WP_seq ?_
 refine WP_condD rfl (fun c29 => ?_) (fun c29 => ?_)
 · --
  refine WP_skip ?_
  refine WP_seq ?_
  refine WP_block ?_
  refine WP_seq ?_
  have hk2 : kn < rs.length := by omega
  have hk3 : kn < ts.length := by have := hG.1; omega
  have hk4 : kn < lv.length := by have := hLL.1; omega
  have hlvl : lv.length ≤ rs.length := by have := hLL.1; have := hG.1; omega
  obtain ⟨hRk, hOk, hAk, hCk⟩ := hG.at_ hk2 hk3
  have h40 := bigB ts[kn] hAk (by omega)
  have henk := Tr.env_length ts[kn]
  · --
   skip
   refine WP_region ?_
   refine O_move rfl rfl rfl ?_
   refine M_index M22 rfl rfl rfl rfl (k7.ext hEg).sl kn rfl hk2 ?_
   refine M_load Try.underlying3 rfl rfl rfl rfl (k7.ext hEg).sl hk2 ?_
   refine O_assign rfl rfl rfl ?_
   refine O_assign rfl rfl rfl ?_
   refine WL_end [(5, _), (7, _), (8, _), (26, _), (27, _), (28, _)] ⟨rfl, rfl, rfl, rfl, rfl, rfl, trivial⟩ ?_
   refine WP_seq ?_
   refine WP_sub [(5, _), (7, _), (8, _), (26, _), (27, _), (28, _)] ⟨rfl, rfl, rfl, rfl, rfl, rfl, trivial⟩ ?_
   refine WP_anyR 32 [5, 7, 8, 26, 27, 28] mixed rfl (by kernel_rfl) ?_
   apply AnyR_val [5] rfl (by kernel_rfl)
   · --
    intro y10 hy10
    have zy10 := hy10.size
    refine AllV_nil ?_
    refine O_move rfl rfl rfl ?_
    exact WL_nil ⟨(Ext.refl _), rfl⟩
   apply AnyR_val [33] rfl (by kernel_rfl)
   · --
    intro y11 hy11
    have zy11 := hy11.size
    refine AllV_v ?_
    refine AllV_nil ?_
    refine O_nilCheck rfl rfl rfl ?_
    exact WL_nil ⟨(Ext.refl _), rfl⟩
   apply AnyR_val [34] rfl (by kernel_rfl)
   · --
    intro y12 hy12
    have zy12 := hy12.size
    refine AllV_v ?_
    refine AllV_nil ?_
    refine O_field F32_0 rfl rfl rfl ?_
    exact WL_nil ⟨(Ext.refl _), rfl⟩
   apply AnyR_val [35] rfl (by kernel_rfl)
   · --
    intro y13 hy13
    have zy13 := hy13.size
    refine AllV_v ?_
    refine AllV_nil ?_
    refine O_loadC Try.underlying29 rfl rfl rfl rfl ((k5.ext hEg).ext hy13) rfl ?_
    exact WL_nil ⟨(Ext.refl _), rfl⟩
   apply AnyR_val [8] rfl (by kernel_rfl)
   · --
    intro y14 hy14
    have zy14 := hy14.size
    refine AllV_nil ?_
    refine O_move rfl rfl rfl ?_
    exact WL_nil ⟨(Ext.refl _), rfl⟩
   apply AnyR_rel (OwBR (ts[kn].env)) [36, 37] rfl OwBR.mono (by kernel_rfl)
   · --
    intro y15 hy15
    have zy15 := hy15.size
    refine AllV_v ?_
    refine AllV_v ?_
    refine AllV_nil ?_
    refine O_call enters20 rfl rfl rfl (List_G ((k6.ext hEg).ext hy15) hRk (by (try simp only [lens]); omega)) (fun v16 w16 e16 h16 => ?_)
    have z16 := e16.size
    exact WL_nil ⟨e16, _, rfl, ((h16).mono (Nat.zero_le _))⟩
   apply AnyR_val [5] rfl (by kernel_rfl)
   · --
    intro y17 hy17
    have zy17 := hy17.size
    refine AllV_nil ?_
    refine O_move rfl rfl rfl ?_
    exact WL_nil ⟨(Ext.refl _), rfl⟩
   apply AnyR_val [39] rfl (by kernel_rfl)
   · --
    intro y18 hy18
    have zy18 := hy18.size
    refine AllV_v ?_
    refine AllV_nil ?_
    refine O_nilCheck rfl rfl rfl ?_
    exact WL_nil ⟨(Ext.refl _), rfl⟩
   apply AnyR_val [40] rfl (by kernel_rfl)
   · --
    intro y19 hy19
    have zy19 := hy19.size
    refine AllV_v ?_
    refine AllV_nil ?_
    refine O_field F32_2 rfl rfl rfl ?_
    exact WL_nil ⟨(Ext.refl _), rfl⟩
   apply AnyR_val [41] rfl (by kernel_rfl)
   · --
    intro y20 hy20
    have zy20 := hy20.size
    refine AllV_v ?_
    refine AllV_nil ?_
    refine O_loadC Try.underlying30 rfl rfl rfl rfl ((k5.ext hEg).ext hy20) rfl ?_
    exact WL_nil ⟨(Ext.refl _), rfl⟩
   apply AnyR_val [7] rfl (by kernel_rfl)
   · --
    intro y21 hy21
    have zy21 := hy21.size
    refine AllV_nil ?_
    refine O_move rfl rfl rfl ?_
    exact WL_nil ⟨(Ext.refl _), rfl⟩
   apply AnyR_val [42, 43] rfl (by kernel_rfl)
   · --
    intro y22 hy22
    have zy22 := hy22.size
    refine AllV_v ?_
    refine AllV_v ?_
    refine AllV_nil ?_
    refine M_index M30 rfl rfl rfl rfl ((k8.ext hEg).ext hy22).sl kn rfl hk4 ?_
    exact WL_nil ⟨(Ext.refl _), rfl⟩
   apply AnyR_val [44] rfl (by kernel_rfl)
   · --
    intro y23 hy23
    have zy23 := hy23.size
    refine AllV_v ?_
    refine AllV_nil ?_
    refine M_load Try.underlying34 rfl rfl rfl rfl ((k8.ext hEg).ext hy23).sl hk4 ?_
    exact WL_nil ⟨(Ext.refl _), rfl⟩
   apply AnyR_val [38, 45] rfl (by kernel_rfl)
   · --
    intro y24 hy24
    have zy24 := hy24.size
    refine AllV_r fun a25 b25 v25 la25 lb25 lc25 h25 ap25 => ?_
    clear ap25
    have h25 : OwB 0 _ v25 _ := h25
    refine AllV_v ?_
    refine AllV_nil ?_
    refine O_call enters19 rfl rfl rfl (same_T h25.sl (((k9.ext hEg).ext hy24).at_ hk4 hk3).sl (by (try simp only [lens]); omega) rfl) (fun v26 w26 e26 h26 => ?_)
    have z26 := e26.size
    obtain rfl := h26
    exact WL_nil ⟨e26, rfl⟩
   apply AnyR_val [46] rfl (by kernel_rfl)
   · --
    intro y27 hy27
    have zy27 := hy27.size
    refine AllV_v ?_
    refine AllV_nil ?_
    refine O_not rfl rfl rfl rfl ?_
    exact WL_nil ⟨(Ext.refl _), rfl⟩
   apply AnyR_val [47] rfl (by kernel_rfl)
   · --
    intro y28 hy28
    have zy28 := hy28.size
    refine AllV_v ?_
    refine AllV_nil ?_
    refine O_move rfl rfl rfl ?_
    exact WL_nil ⟨(Ext.refl _), rfl⟩
   apply AnyR_val [48, 5] rfl (by kernel_rfl)
   · --
    intro y29 hy29
    have zy29 := hy29.size
    refine AllV_v ?_
    refine AllV_nil ?_
    refine O_move rfl rfl rfl ?_
    exact WL_nil ⟨(Ext.refl _), rfl⟩
   apply AnyR_val [48, 49] rfl (by kernel_rfl)
   · --
    intro y30 hy30
    have zy30 := hy30.size
    refine AllV_v ?_
    refine AllV_v ?_
    refine AllV_nil ?_
    refine O_nilCheck rfl rfl rfl ?_
    exact WL_nil ⟨(Ext.refl _), rfl⟩
   apply AnyR_val [48, 50] rfl (by kernel_rfl)
   · --
    intro y31 hy31
    have zy31 := hy31.size
    refine AllV_v ?_
    refine AllV_v ?_
    refine AllV_nil ?_
    refine O_field F32_0 rfl rfl rfl ?_
    exact WL_nil ⟨(Ext.refl _), rfl⟩
   apply AnyR_val [48, 51] rfl (by kernel_rfl)
   · --
    intro y32 hy32
    have zy32 := hy32.size
    refine AllV_v ?_
    refine AllV_v ?_
    refine AllV_nil ?_
    refine O_loadC Try.underlying29 rfl rfl rfl rfl ((k5.ext hEg).ext hy32) rfl ?_
    exact WL_nil ⟨(Ext.refl _), rfl⟩
   apply AnyR_val [48, 8] rfl (by kernel_rfl)
   · --
    intro y33 hy33
    have zy33 := hy33.size
    refine AllV_v ?_
    refine AllV_nil ?_
    refine O_move rfl rfl rfl ?_
    exact WL_nil ⟨(Ext.refl _), rfl⟩
   apply AnyR_val [48, 52, 53] rfl (by kernel_rfl)
   · --
    intro y34 hy34
    have zy34 := hy34.size
    refine AllV_v ?_
    refine AllV_v ?_
    refine AllV_v ?_
    refine AllV_nil ?_
    refine O_call enters21 rfl rfl rfl (Count_G ((k6.ext hEg).ext hy34) hRk) (fun v35 w35 e35 h35 => ?_)
    have z35 := e35.size
    obtain rfl := h35
    exact WL_nil ⟨e35, rfl⟩
   apply AnyR_val [48, 5] rfl (by kernel_rfl)
   · --
    intro y36 hy36
    have zy36 := hy36.size
    refine AllV_v ?_
    refine AllV_nil ?_
    refine O_move rfl rfl rfl ?_
    exact WL_nil ⟨(Ext.refl _), rfl⟩
   apply AnyR_val [48, 55] rfl (by kernel_rfl)
   · --
    intro y37 hy37
    have zy37 := hy37.size
    refine AllV_v ?_
    refine AllV_v ?_
    refine AllV_nil ?_
    refine O_nilCheck rfl rfl rfl ?_
    exact WL_nil ⟨(Ext.refl _), rfl⟩
   apply AnyR_val [48, 56] rfl (by kernel_rfl)
   · --
    intro y38 hy38
    have zy38 := hy38.size
    refine AllV_v ?_
    refine AllV_v ?_
    refine AllV_nil ?_
    refine O_field F32_2 rfl rfl rfl ?_
    exact WL_nil ⟨(Ext.refl _), rfl⟩
   apply AnyR_val [48, 57] rfl (by kernel_rfl)
   · --
    intro y39 hy39
    have zy39 := hy39.size
    refine AllV_v ?_
    refine AllV_v ?_
    refine AllV_nil ?_
    refine O_loadC Try.underlying30 rfl rfl rfl rfl ((k5.ext hEg).ext hy39) rfl ?_
    exact WL_nil ⟨(Ext.refl _), rfl⟩
   apply AnyR_val [48, 7] rfl (by kernel_rfl)
   · --
    intro y40 hy40
    have zy40 := hy40.size
    refine AllV_v ?_
    refine AllV_nil ?_
    refine O_move rfl rfl rfl ?_
    exact WL_nil ⟨(Ext.refl _), rfl⟩
   apply AnyR_val [48, 58, 59] rfl (by kernel_rfl)
   · --
    intro y41 hy41
    have zy41 := hy41.size
    refine AllV_v ?_
    refine AllV_v ?_
    refine AllV_v ?_
    refine AllV_nil ?_
    refine M_index M30 rfl rfl rfl rfl ((k8.ext hEg).ext hy41).sl kn rfl hk4 ?_
    exact WL_nil ⟨(Ext.refl _), rfl⟩
   apply AnyR_val [48, 60] rfl (by kernel_rfl)
   · --
    intro y42 hy42
    have zy42 := hy42.size
    refine AllV_v ?_
    refine AllV_v ?_
    refine AllV_nil ?_
    refine M_load Try.underlying34 rfl rfl rfl rfl ((k8.ext hEg).ext hy42).sl hk4 ?_
    exact WL_nil ⟨(Ext.refl _), rfl⟩
   apply AnyR_val [48, 61] rfl (by kernel_rfl)
   · --
    intro y43 hy43
    have zy43 := hy43.size
    refine AllV_v ?_
    refine AllV_v ?_
    refine AllV_nil ?_
    refine B_len Ebind rfl rfl rfl (((k9.ext hEg).ext hy43).at_ hk4 hk3).sl ?_
    exact WL_nil ⟨(Ext.refl _), rfl⟩
   apply AnyR_val [48, 54, 62] rfl (by kernel_rfl)
   · --
    intro y44 hy44
    have zy44 := hy44.size
    refine AllV_v ?_
    refine AllV_v ?_
    refine AllV_v ?_
    refine AllV_nil ?_
    refine O_neq (t := false) rfl rfl rfl rfl (decide_eq_false (fun h => h (by rw [henk]))) ?_
    exact WL_nil ⟨(Ext.refl _), rfl⟩
   apply AnyR_val [48, 63] rfl (by kernel_rfl)
   · --
    intro y45 hy45
    have zy45 := hy45.size
    refine AllV_v ?_
    refine AllV_v ?_
    refine AllV_nil ?_
    refine O_pickF rfl rfl rfl rfl ?_
    exact WL_nil ⟨(Ext.refl _), rfl⟩
   refine AnyR_nil fun y46 hy46 => ?_
   have zy46 := hy46.size
   refine AllV_v ?_
   refine AllV_v ?_
   refine AllV_v ?_
   refine AllV_v ?_
   refine AllV_v ?_
   refine AllV_r fun a47 b47 v47 la47 lb47 lc47 h47 ap47 => ?_
   clear ap47
   have h47 : OwB 0 _ v47 _ := h47
   refine AllV_v ?_
   refine AllV_v ?_
   refine AllV_v ?_
   refine AllV_v ?_
   refine AllV_v ?_
   refine AllV_v ?_
   refine AllV_v ?_
   refine AllV_v ?_
   refine AllV_v ?_
   refine AllV_v ?_
   refine AllV_v ?_
   refine AllV_v ?_
   refine AllV_v ?_
   refine AllV_v ?_
   refine AllV_v ?_
   refine AllV_v ?_
   refine AllV_v ?_
   refine AllV_v ?_
   refine AllV_v ?_
   refine AllV_v ?_
   refine AllV_v ?_
   refine AllV_v ?_
   refine AllV_v ?_
   refine AllV_v ?_
   refine AllV_v ?_
   refine AllV_v ?_
   refine AllV_nil ?_
   refine WL_end [(5, _), (26, _), (27, _), (28, _), (64, _)] ⟨rfl, rfl, rfl, rfl, rfl, trivial⟩ ?_
   refine WP_condF rfl ?_
   refine WP_skip ?_
   refine WP_region ?_
   refine O_add rfl rfl rfl rfl (wrap_i64_id (by omega) (by omega)) ?_
   refine O_move rfl rfl rfl ?_
   refine WL_end [(5, _), (26, _), (27, _), (28, _)] ⟨rfl, rfl, rfl, rfl, trivial⟩ ?_
   exact ⟨kn + 1, ⟨rfl, rfl, rfl, rfl, trivial⟩, ⟨(hE.trans hy46), hEg.trans hy46, by omega⟩, by omega⟩
 · --
  refine WP_exit ?_
  refine inBlk_hit ?_
  refine WP_seq ?_
  refine WP_region ?_
  refine O_assign rfl rfl rfl ?_
  refine WL_end [(4, _)] ⟨rfl, trivial⟩ ?_
  refine WP_ret ?_
  refine ret1 Try.results3 rfl ?_
  exact ⟨_, rfl, hE, rfl⟩

theorem law_TreePersists {w : World} {v : Value} {l : List Int} {many : Int} (hl : SlM fI w v l) : Calls Try.prog 3 #[v, .int .i64 many] w (Ret w fun r _ => r = .bool true) := by
  by_cases hll : l.length ≤ 120
  · exact persists_T hl hll
  · exact persists_F hl hll

end Go.Proofs.Ytoccimigjjndpaa
