/-
  Walks.
-/
import Derived.Test.YtoccimigjjndpaaU0
set_option linter.unusedVariables false
set_option linter.unusedSimpArgs false
set_option maxRecDepth 100000
namespace Go.Proofs.Ytoccimigjjndpaa
open Go Go.RowKit
theorem parts_F1 {w : World} {v v2 : Value} {l l2 : List Int} {many : Int} (hl : SlM fI w v l) (hl2 : SlM fI w v2 l2) (hll : ¬ l.length ≤ 120) :
    Calls Try.prog 4 #[v, v2, .int .i64 many] w (Ret w fun r _ => r = .bool true) := by
 refine enter (args := [v, v2, _]) Try.func4 rfl Try.ntmps4 rfl ?_
 refine WP_seq ?_
 refine WP_region ?_
 refine O_assign rfl rfl rfl ?_
 refine WL_end [(0, _), (1, _), (2, _)] ⟨rfl, rfl, rfl, trivial⟩ ?_
 refine WP_seq ?_
 refine WP_seq ?_
 refine WP_region ?_
 refine O_call enters15 rfl rfl rfl (awake_c) (fun v1 w1 e1 h1 => ?_)
 have z1 := e1.size
 obtain rfl := h1
 refine O_not rfl rfl rfl rfl ?_
 refine WL_end [(0, _), (1, _), (2, _), (21, _)] ⟨rfl, rfl, rfl, rfl, trivial⟩ ?_
 refine WP_condF rfl ?_
 refine WP_skip ?_
 refine WP_seq ?_
 refine WP_seq ?_
 refine WP_region ?_
 refine O_move rfl rfl rfl ?_
 refine O_call enters16 rfl rfl rfl (light_F (hl.ext e1) hll) (fun v2 w2 e2 h2 => ?_)
 have z2 := e2.size
 obtain rfl := h2
 refine O_not rfl rfl rfl rfl ?_
 refine O_move rfl rfl rfl ?_
 refine O_skip rfl rfl ?_
 refine O_skip rfl rfl ?_
 refine O_skip rfl rfl ?_
 refine O_pickT rfl rfl rfl rfl ?_
 refine WL_end [(0, _), (1, _), (2, _), (29, _)] ⟨rfl, rfl, rfl, rfl, trivial⟩ ?_
 refine WP_condT rfl ?_
 refine WP_seq ?_
 refine WP_region ?_
 refine O_assign rfl rfl rfl ?_
 refine WL_end [(6, _)] ⟨rfl, trivial⟩ ?_
 refine WP_ret ?_
 refine ret1 Try.results4 rfl ?_
 exact ⟨_, rfl, (e1.trans e2), rfl⟩
theorem parts_F2 {w : World} {v v2 : Value} {l l2 : List Int} {many : Int} (hl : SlM fI w v l) (hl2 : SlM fI w v2 l2) (hll : l.length ≤ 120) (hll2 : ¬ l2.length ≤ 120) :
    Calls Try.prog 4 #[v, v2, .int .i64 many] w (Ret w fun r _ => r = .bool true) := by
 refine enter (args := [v, v2, _]) Try.func4 rfl Try.ntmps4 rfl ?_
 refine WP_seq ?_
 refine WP_region ?_
 refine O_assign rfl rfl rfl ?_
 refine WL_end [(0, _), (1, _), (2, _)] ⟨rfl, rfl, rfl, trivial⟩ ?_
 refine WP_seq ?_
 refine WP_seq ?_
 refine WP_region ?_
 refine O_call enters15 rfl rfl rfl (awake_c) (fun v1 w1 e1 h1 => ?_)
 have z1 := e1.size
 obtain rfl := h1
 refine O_not rfl rfl rfl rfl ?_
 refine WL_end [(0, _), (1, _), (2, _), (21, _)] ⟨rfl, rfl, rfl, rfl, trivial⟩ ?_
 refine WP_condF rfl ?_
 refine WP_skip ?_
 refine WP_seq ?_
 refine WP_seq ?_
 refine WP_region ?_
 refine O_move rfl rfl rfl ?_
 refine O_call enters16 rfl rfl rfl (light_T (hl.ext e1) hll) (fun v2 w2 e2 h2 => ?_)
 have z2 := e2.size
 obtain rfl := h2
 refine O_not rfl rfl rfl rfl ?_
 refine O_move rfl rfl rfl ?_
 refine O_move rfl rfl rfl ?_
 refine O_call enters16 rfl rfl rfl (light_F (hl2.ext (e1.trans e2)) hll2) (fun v3 w3 e3 h3 => ?_)
 have z3 := e3.size
 obtain rfl := h3
 refine O_not rfl rfl rfl rfl ?_
 refine O_pickF rfl rfl rfl rfl ?_
 refine WL_end [(0, _), (1, _), (2, _), (29, _)] ⟨rfl, rfl, rfl, rfl, trivial⟩ ?_
 refine WP_condT rfl ?_
 refine WP_seq ?_
 refine WP_region ?_
 refine O_assign rfl rfl rfl ?_
 refine WL_end [(6, _)] ⟨rfl, trivial⟩ ?_
 refine WP_ret ?_
 refine ret1 Try.results4 rfl ?_
 exact ⟨_, rfl, ((e1.trans e2).trans e3), rfl⟩
theorem same_F {w : World} {u v : Value} {a b : Env} (hs : SlB w u a) (hv : SlB w v b) (hl : a.length ≤ 1000000000) (h : ¬ a = b) : Calls Try.prog 19 #[u, v] w (Ret w fun r _ => r = .bool false) :=
  (same_c hs hv hl).mono fun _ w' ⟨r, he, hx', hr⟩ => ⟨r, he, hx', by rw [hr, decide_eq_false h]⟩
set_option maxHeartbeats 4000000 in
theorem parts_T {w : World} {v v2 : Value} {l l2 : List Int} {many : Int} (hl : SlM fI w v l) (hl2 : SlM fI w v2 l2) (hll : l.length ≤ 120) (hll2 : l2.length ≤ 120) :
    Calls Try.prog 4 #[v, v2, .int .i64 many] w (Ret w fun r _ => r = .bool true) := by
 refine enter (args := [v, v2, _]) Try.func4 rfl Try.ntmps4 rfl ?_
 refine WP_seq ?_
 refine WP_region ?_
 refine O_assign rfl rfl rfl ?_
 refine WL_end [(0, _), (1, _), (2, _)] ⟨rfl, rfl, rfl, trivial⟩ ?_
 refine WP_seq ?_
 refine WP_seq ?_
 refine WP_region ?_
 refine O_call enters15 rfl rfl rfl (awake_c) (fun v1 w1 e1 h1 => ?_)
 have z1 := e1.size
 obtain rfl := h1
 refine O_not rfl rfl rfl rfl ?_
 refine WL_end [(0, _), (1, _), (2, _), (21, _)] ⟨rfl, rfl, rfl, rfl, trivial⟩ ?_
 refine WP_condF rfl ?_
 refine WP_skip ?_
 refine WP_seq ?_
 refine WP_seq ?_
 refine WP_region ?_
 refine O_move rfl rfl rfl ?_
 refine O_call enters16 rfl rfl rfl (light_T (hl.ext e1) hll) (fun v2 w2 e2 h2 => ?_)
 have z2 := e2.size
 obtain rfl := h2
 refine O_not rfl rfl rfl rfl ?_
 refine O_move rfl rfl rfl ?_
 refine O_move rfl rfl rfl ?_
 refine O_call enters16 rfl rfl rfl (light_T (hl2.ext (e1.trans e2)) hll2) (fun v3 w3 e3 h3 => ?_)
 have z3 := e3.size
 obtain rfl := h3
 refine O_not rfl rfl rfl rfl ?_
 refine O_pickF rfl rfl rfl rfl ?_
 refine WL_end [(0, _), (1, _), (2, _), (29, _)] ⟨rfl, rfl, rfl, rfl, trivial⟩ ?_
 refine WP_condF rfl ?_
 refine WP_skip ?_
 refine WP_seq ?_
 refine WP_region ?_
 refine O_move rfl rfl rfl ?_
 refine O_move rfl rfl rfl ?_
 refine O_call enters18 rfl rfl rfl (modN_c (by decide) (by decide)) (fun v4 w4 e4 h4 => ?_)
 have z4 := e4.size
 obtain ⟨m, rfl, hm⟩ := h4
 refine O_call enters17 rfl rfl rfl (grow_c (hl.ext (((e1.trans e2).trans e3).trans e4)) hll (by (try simp only [lens]); omega)) (fun v5 w5 e5 h5 => ?_)
 have z5 := e5.size
 obtain ⟨gx, gf, rs, ts, rfl, ⟨ps, vr, vl, lv, hx, hF, hr, hv, hLL, hG, hps, hrs, hgx⟩, hlen⟩ := h5
 have hBB : w.heap.size ≤ w4.heap.size := by omega
 refine O_move rfl rfl rfl ?_
 refine O_extract rfl rfl rfl rfl ?_
 refine O_extract rfl rfl rfl rfl ?_
 refine O_assign rfl rfl rfl ?_
 refine O_assign rfl rfl rfl ?_
 refine WL_end [(1, _), (7, _), (8, _)] ⟨rfl, rfl, rfl, trivial⟩ ?_
 refine WP_seq ?_
 refine WP_seq ?_
 refine WP_region ?_
 refine O_move rfl rfl rfl ?_
 refine O_not rfl rfl rfl rfl ?_
 refine WL_end [(1, _), (7, _), (38, _)] ⟨rfl, rfl, rfl, trivial⟩ ?_
 refine WP_condF rfl ?_
 refine WP_skip ?_
 refine WP_seq ?_
 refine WP_region ?_
 refine O_move rfl rfl rfl ?_
 refine O_call enters22 rfl rfl rfl (newtape_c (hl2.ext ((((e1.trans e2).trans e3).trans e4).trans e5))) (fun v6 w6 e6 h6 => ?_)
 have z6 := e6.size
 obtain ⟨tp, rfl, hB0, ht0, ht1⟩ := h6
 have htp : w.heap.size ≤ tp := by omega
 refine O_assign rfl rfl rfl ?_
 refine WL_end [(7, _), (9, _)] ⟨rfl, rfl, trivial⟩ ?_
 refine WP_seq ?_
 obtain ⟨kn, hkn⟩ : ∃ kn : Nat, rs.length = kn + 1 := ⟨rs.length - 1, by omega⟩
 have hk2 : kn < rs.length := by omega
 have hk3 : kn < ts.length := by have := hG.1; omega
 have hk4 : kn < lv.length := by have := hLL.1; omega
 have hlvl : lv.length ≤ rs.length := by have := hLL.1; have := hG.1; omega
 obtain ⟨hRk, hOk, hAk, hCk⟩ := hG.at_ hk2 hk3
 have h40 := bigB ts[kn] hAk (by omega)
 have henk := Tr.env_length ts[kn]
 have hlve : lv.length = rs.length := by have := hLL.1; have := hG.1; omega
 · --
  skip
  refine WP_sub [(7, _), (9, _)] ⟨rfl, rfl, trivial⟩ ?_
  refine WP_anyR 25 [7, 9] mixed rfl (by kernel_rfl) ?_
  apply AnyR_val [7] rfl (by kernel_rfl)
  · --
   intro y7 hy7
   have zy7 := hy7.size
   refine AllV_nil ?_
   refine O_move rfl rfl rfl ?_
   exact WL_nil ⟨(Ext.refl _), rfl⟩
  apply AnyR_val [41] rfl (by kernel_rfl)
  · --
   intro y8 hy8
   have zy8 := hy8.size
   refine AllV_v ?_
   refine AllV_nil ?_
   refine O_nilCheck rfl rfl rfl ?_
   exact WL_nil ⟨(Ext.refl _), rfl⟩
  apply AnyR_val [42] rfl (by kernel_rfl)
  · --
   intro y9 hy9
   have zy9 := hy9.size
   refine AllV_v ?_
   refine AllV_nil ?_
   refine O_field F32_1 rfl rfl rfl ?_
   exact WL_nil ⟨(Ext.refl _), rfl⟩
  apply AnyR_val [43] rfl (by kernel_rfl)
  · --
   intro y10 hy10
   have zy10 := hy10.size
   refine AllV_v ?_
   refine AllV_nil ?_
   refine O_loadC Try.underlying22 rfl rfl rfl rfl ((hx.ext e6).ext hy10) rfl ?_
   exact WL_nil ⟨(Ext.refl _), rfl⟩
  apply AnyR_val [7] rfl (by kernel_rfl)
  · --
   intro y11 hy11
   have zy11 := hy11.size
   refine AllV_nil ?_
   refine O_move rfl rfl rfl ?_
   exact WL_nil ⟨(Ext.refl _), rfl⟩
  apply AnyR_val [45] rfl (by kernel_rfl)
  · --
   intro y12 hy12
   have zy12 := hy12.size
   refine AllV_v ?_
   refine AllV_nil ?_
   refine O_nilCheck rfl rfl rfl ?_
   exact WL_nil ⟨(Ext.refl _), rfl⟩
  apply AnyR_val [46] rfl (by kernel_rfl)
  · --
   intro y13 hy13
   have zy13 := hy13.size
   refine AllV_v ?_
   refine AllV_nil ?_
   refine O_field F32_1 rfl rfl rfl ?_
   exact WL_nil ⟨(Ext.refl _), rfl⟩
  apply AnyR_val [47] rfl (by kernel_rfl)
  · --
   intro y14 hy14
   have zy14 := hy14.size
   refine AllV_v ?_
   refine AllV_nil ?_
   refine O_loadC Try.underlying22 rfl rfl rfl rfl ((hx.ext e6).ext hy14) rfl ?_
   exact WL_nil ⟨(Ext.refl _), rfl⟩
  apply AnyR_val [48] rfl (by kernel_rfl)
  · --
   intro y15 hy15
   have zy15 := hy15.size
   refine AllV_v ?_
   refine AllV_nil ?_
   refine M_len M22 rfl rfl rfl ((hr.ext e6).ext hy15).sl ?_
   exact WL_nil ⟨(Ext.refl _), rfl⟩
  apply AnyR_val [49] rfl (by kernel_rfl)
  · --
   intro y16 hy16
   have zy16 := hy16.size
   refine AllV_v ?_
   refine AllV_nil ?_
   refine O_sub (r := ((kn : Nat) : Int)) rfl rfl rfl rfl (by rw [IntKind.wrap_i64]; omega) ?_
   exact WL_nil ⟨(Ext.refl _), rfl⟩
  apply AnyR_val [44, 50] rfl (by kernel_rfl)
  · --
   intro y17 hy17
   have zy17 := hy17.size
   refine AllV_v ?_
   refine AllV_v ?_
   refine AllV_nil ?_
   refine M_index M22 rfl rfl rfl rfl ((hr.ext e6).ext hy17).sl kn rfl hk2 ?_
   exact WL_nil ⟨(Ext.refl _), rfl⟩
  apply AnyR_val [51] rfl (by kernel_rfl)
  · --
   intro y18 hy18
   have zy18 := hy18.size
   refine AllV_v ?_
   refine AllV_nil ?_
   refine M_load Try.underlying3 rfl rfl rfl rfl ((hr.ext e6).ext hy18).sl hk2 ?_
   exact WL_nil ⟨(Ext.refl _), rfl⟩
  apply AnyR_val [7] rfl (by kernel_rfl)
  · --
   intro y19 hy19
   have zy19 := hy19.size
   refine AllV_nil ?_
   refine O_move rfl rfl rfl ?_
   exact WL_nil ⟨(Ext.refl _), rfl⟩
  apply AnyR_val [53] rfl (by kernel_rfl)
  · --
   intro y20 hy20
   have zy20 := hy20.size
   refine AllV_v ?_
   refine AllV_nil ?_
   refine O_nilCheck rfl rfl rfl ?_
   exact WL_nil ⟨(Ext.refl _), rfl⟩
  apply AnyR_val [54] rfl (by kernel_rfl)
  · --
   intro y21 hy21
   have zy21 := hy21.size
   refine AllV_v ?_
   refine AllV_nil ?_
   refine O_field F32_2 rfl rfl rfl ?_
   exact WL_nil ⟨(Ext.refl _), rfl⟩
  apply AnyR_val [55] rfl (by kernel_rfl)
  · --
   intro y22 hy22
   have zy22 := hy22.size
   refine AllV_v ?_
   refine AllV_nil ?_
   refine O_loadC Try.underlying30 rfl rfl rfl rfl ((hx.ext e6).ext hy22) rfl ?_
   exact WL_nil ⟨(Ext.refl _), rfl⟩
  apply AnyR_val [7] rfl (by kernel_rfl)
  · --
   intro y23 hy23
   have zy23 := hy23.size
   refine AllV_nil ?_
   refine O_move rfl rfl rfl ?_
   exact WL_nil ⟨(Ext.refl _), rfl⟩
  apply AnyR_val [57] rfl (by kernel_rfl)
  · --
   intro y24 hy24
   have zy24 := hy24.size
   refine AllV_v ?_
   refine AllV_nil ?_
   refine O_nilCheck rfl rfl rfl ?_
   exact WL_nil ⟨(Ext.refl _), rfl⟩
  apply AnyR_val [58] rfl (by kernel_rfl)
  · --
   intro y25 hy25
   have zy25 := hy25.size
   refine AllV_v ?_
   refine AllV_nil ?_
   refine O_field F32_2 rfl rfl rfl ?_
   exact WL_nil ⟨(Ext.refl _), rfl⟩
  apply AnyR_val [59] rfl (by kernel_rfl)
  · --
   intro y26 hy26
   have zy26 := hy26.size
   refine AllV_v ?_
   refine AllV_nil ?_
   refine O_loadC Try.underlying30 rfl rfl rfl rfl ((hx.ext e6).ext hy26) rfl ?_
   exact WL_nil ⟨(Ext.refl _), rfl⟩
  apply AnyR_val [60] rfl (by kernel_rfl)
  · --
   intro y27 hy27
   have zy27 := hy27.size
   refine AllV_v ?_
   refine AllV_nil ?_
   refine M_len M30 rfl rfl rfl ((hv.ext e6).ext hy27).sl ?_
   exact WL_nil ⟨(Ext.refl _), rfl⟩
  apply AnyR_val [61] rfl (by kernel_rfl)
  · --
   intro y28 hy28
   have zy28 := hy28.size
   refine AllV_v ?_
   refine AllV_nil ?_
   refine O_sub (r := ((kn : Nat) : Int)) rfl rfl rfl rfl (by rw [IntKind.wrap_i64]; omega) ?_
   exact WL_nil ⟨(Ext.refl _), rfl⟩
  apply AnyR_val [56, 62] rfl (by kernel_rfl)
  · --
   intro y29 hy29
   have zy29 := hy29.size
   refine AllV_v ?_
   refine AllV_v ?_
   refine AllV_nil ?_
   refine M_index M30 rfl rfl rfl rfl ((hv.ext e6).ext hy29).sl kn rfl hk4 ?_
   exact WL_nil ⟨(Ext.refl _), rfl⟩
  apply AnyR_val [63] rfl (by kernel_rfl)
  · --
   intro y30 hy30
   have zy30 := hy30.size
   refine AllV_v ?_
   refine AllV_nil ?_
   refine M_load Try.underlying34 rfl rfl rfl rfl ((hv.ext e6).ext hy30).sl hk4 ?_
   exact WL_nil ⟨(Ext.refl _), rfl⟩
  apply AnyR_val [52] rfl (by kernel_rfl)
  · --
   intro y31 hy31
   have zy31 := hy31.size
   refine AllV_v ?_
   refine AllV_nil ?_
   refine O_assign rfl rfl rfl ?_
   exact WL_nil ⟨(Ext.refl _), rfl⟩
  refine AnyR_nil fun y32 hy32 => ?_
  have zy32 := hy32.size
  refine AllV_v ?_
  refine AllV_v ?_
  refine AllV_v ?_
  refine AllV_v ?_
  refine AllV_v ?_
  refine AllV_v ?_
  refine AllV_v ?_
  refine AllV_v ?_
  refine AllV_v ?_
  refine AllV_v ?_
  refine AllV_v ?_
  refine AllV_v ?_
  refine AllV_v ?_
  refine AllV_v ?_
  refine AllV_v ?_
  refine AllV_v ?_
  refine AllV_v ?_
  refine AllV_v ?_
  refine AllV_v ?_
  refine AllV_v ?_
  refine AllV_v ?_
  refine AllV_v ?_
  refine AllV_v ?_
  refine AllV_v ?_
  refine AllV_v ?_
  refine AllV_nil ?_
  refine O_assign rfl rfl rfl ?_
  refine WL_end [(7, _), (9, _), (10, _), (11, _)] ⟨rfl, rfl, rfl, rfl, trivial⟩ ?_
  refine WP_seq ?_
  refine WP_block ?_
  refine WP_loop (S := Nat × List Part × Int × Tr × Value) (fun (a, ps9, i9, t9, u9) => [(7, .pointer (some ⟨gx, 0, none⟩)), (9, .pointer (some ⟨tp, 0, none⟩)), (10, .int .i64 i9), (11, u9)]) (fun (a, ps9, i9, t9, u9) w' => Ext w w' ∧ Bk w' tp 100 [v2, .int .i64 (a : Nat)] ∧ Bk w' gx 32 [.pointer (some ⟨gf, 0, none⟩), vr, vl] ∧ FG w4.heap.size w' gf ps9 ∧ Rep ps9 i9 t9 ∧ t9.Ord ∧ t9.Avl ∧ OwB 0 w' u9 t9.env ∧ t9.cnt ≤ 1000 + a ∧ ps9.length ≤ 100000 + 200 * a ∧ a ≤ l2.length) (fun (a, ps9, i9, t9, u9) => l2.length - a) (0, ps, rs[kn], ts[kn], lv[kn]) ⟨rfl, rfl, rfl, rfl, trivial⟩ ⟨((((((e1.trans e2).trans e3).trans e4).trans e5).trans e6).trans hy32), (hB0.ext hy32), ((hx.ext e6).ext hy32), ((hF.ext e6).ext hy32), hRk, hOk, hAk, ((((hLL.ext e6).ext hy32).at_ hk4 hk3).mono (Nat.zero_le _)), by omega, by omega, Nat.zero_le _⟩ ?_
  rintro ⟨a, ps9, i9, t9, u9⟩ w9 ⟨hE, hB, hx9, hF9, hR9, hO9, hA9, hu9, hc9, hp9, ha⟩
  show WP _ _ _ _ _ [(7, .pointer (some ⟨gx, 0, none⟩)), (9, .pointer (some ⟨tp, 0, none⟩)), (10, .int .i64 i9), (11, u9)] _
  have zE := hE.size
  have h40 := bigB t9 hA9 (by omega)
  have hen := Tr.env_length t9
  refine WP_seq ?_
  refine WP_seq ?_
  refine WP_region ?_
  refine O_move rfl rfl rfl ?_
  refine O_call enters23 rfl rfl rfl (more_c hl2 hE hB) (fun v33 w33 e33 h33 => ?_)
  have z33 := e33.size
  obtain rfl := h33
  refine WL_end [(7, _), (9, _), (10, _), (11, _), (66, _)] ⟨rfl, rfl, rfl, rfl, rfl, trivial⟩ ?_
  refine WP_condD rfl (fun c66 => ?_) (fun c66 => ?_)
  · --
   refine WP_skip ?_
   refine WP_block ?_
   refine WP_seq ?_
   refine WP_sub [(7, _), (9, _), (10, _), (11, _)] ⟨rfl, rfl, rfl, rfl, trivial⟩ ?_
   refine WP_anyR 10 [7, 9, 10, 11] mixed rfl (by kernel_rfl) ?_
   apply AnyR_val [7] rfl (by kernel_rfl)
   · --
    intro y34 hy34
    have zy34 := hy34.size
    refine AllV_nil ?_
    refine O_move rfl rfl rfl ?_
    exact WL_nil ⟨(Ext.refl _), rfl⟩
   apply AnyR_val [67] rfl (by kernel_rfl)
   · --
    intro y35 hy35
    have zy35 := hy35.size
    refine AllV_v ?_
    refine AllV_nil ?_
    refine O_nilCheck rfl rfl rfl ?_
    exact WL_nil ⟨(Ext.refl _), rfl⟩
   apply AnyR_val [68] rfl (by kernel_rfl)
   · --
    intro y36 hy36
    have zy36 := hy36.size
    refine AllV_v ?_
    refine AllV_nil ?_
    refine O_field F32_0 rfl rfl rfl ?_
    exact WL_nil ⟨(Ext.refl _), rfl⟩
   apply AnyR_val [69] rfl (by kernel_rfl)
   · --
    intro y37 hy37
    have zy37 := hy37.size
    refine AllV_v ?_
    refine AllV_nil ?_
    refine O_loadC Try.underlying29 rfl rfl rfl rfl ((hx9.ext e33).ext hy37) rfl ?_
    exact WL_nil ⟨(Ext.refl _), rfl⟩
   apply AnyR_val [70] rfl (by kernel_rfl)
   · --
    intro y38 hy38
    have zy38 := hy38.size
    refine AllV_v ?_
    refine AllV_nil ?_
    refine O_call enters24 rfl rfl rfl (Size_G ((hF9.ext e33).ext hy38)) (fun v39 w39 e39 h39 => ?_)
    have z39 := e39.size
    obtain rfl := h39
    exact WL_nil ⟨e39, rfl⟩
   apply AnyR_val [7] rfl (by kernel_rfl)
   · --
    intro y40 hy40
    have zy40 := hy40.size
    refine AllV_nil ?_
    refine O_move rfl rfl rfl ?_
    exact WL_nil ⟨(Ext.refl _), rfl⟩
   apply AnyR_val [72] rfl (by kernel_rfl)
   · --
    intro y41 hy41
    have zy41 := hy41.size
    refine AllV_v ?_
    refine AllV_nil ?_
    refine O_nilCheck rfl rfl rfl ?_
    exact WL_nil ⟨(Ext.refl _), rfl⟩
   apply AnyR_val [73] rfl (by kernel_rfl)
   · --
    intro y42 hy42
    have zy42 := hy42.size
    refine AllV_v ?_
    refine AllV_nil ?_
    refine O_field F32_0 rfl rfl rfl ?_
    exact WL_nil ⟨(Ext.refl _), rfl⟩
   apply AnyR_val [74] rfl (by kernel_rfl)
   · --
    intro y43 hy43
    have zy43 := hy43.size
    refine AllV_v ?_
    refine AllV_nil ?_
    refine O_loadC Try.underlying29 rfl rfl rfl rfl ((hx9.ext e33).ext hy43) rfl ?_
    exact WL_nil ⟨(Ext.refl _), rfl⟩
   apply AnyR_val [10] rfl (by kernel_rfl)
   · --
    intro y44 hy44
    have zy44 := hy44.size
    refine AllV_nil ?_
    refine O_move rfl rfl rfl ?_
    exact WL_nil ⟨(Ext.refl _), rfl⟩
   refine AnyR_nil fun y45 hy45 => ?_
   have zy45 := hy45.size
   refine AllV_v ?_
   refine AllV_v ?_
   refine AllV_v ?_
   refine AllV_v ?_
   refine AllV_v ?_
   refine AllV_v ?_
   refine AllV_v ?_
   refine AllV_v ?_
   refine AllV_v ?_
   refine AllV_v ?_
   refine AllV_nil ?_
   refine O_call enters25 rfl rfl rfl (Height_G ((hF9.ext e33).ext hy45) hR9) (fun v46 w46 e46 h46 => ?_)
   have z46 := e46.size
   obtain rfl := h46
   refine O_assign rfl rfl rfl ?_
   refine O_assign rfl rfl rfl ?_
   refine WL_end [(7, _), (9, _), (10, _), (11, _), (12, _), (13, _)] ⟨rfl, rfl, rfl, rfl, rfl, rfl, trivial⟩ ?_
   refine WP_seq ?_
   refine WP_region ?_
   refine O_move rfl rfl rfl ?_
   refine O_callNm enters26 rfl rfl rfl (name_c hl2 (((hE.trans e33).trans hy45).trans e46) htp (((hB.ext e33).ext hy45).ext e46) (by omega) (by omega)) (fun s47 a47 w47 hE47 hT47 hB47 h147 h247 h347 => ?_)
   have zE47 := hE47.size
   have zT47 := hT47.size
   refine O_assign rfl rfl rfl ?_
   refine WL_end [(7, _), (9, _), (10, _), (11, _), (12, _), (13, _), (14, _)] ⟨rfl, rfl, rfl, rfl, rfl, rfl, rfl, trivial⟩ ?_
   refine WP_seq ?_
   refine WP_region ?_
   refine O_assign rfl rfl rfl ?_
   refine WL_end [(7, _), (9, _), (10, _), (11, _), (12, _), (13, _), (14, _)] ⟨rfl, rfl, rfl, rfl, rfl, rfl, rfl, trivial⟩ ?_
   refine WP_seq ?_
   refine WP_region ?_
   refine O_assign rfl rfl rfl ?_
   refine WL_end [(7, _), (9, _), (10, _), (11, _), (12, _), (13, _), (14, _)] ⟨rfl, rfl, rfl, rfl, rfl, rfl, rfl, trivial⟩ ?_
   refine WP_seq ?_
   refine WP_seq ?_
   refine WP_region ?_
   refine O_move rfl rfl rfl ?_
   have zx48 := (hE47).size
   refine O_callT (k := _) enters27 rfl rfl rfl (next_c hl2 hE47 htp hB47 (by omega) (by omega) (by decide) (by decide)) (fun r48 a48 w48 hr48 hs48 hE48 hT48 hB48 h148 h248 h348 => ?_)
   have zE48 := hE48.size
   have zT48 := hT48.size
   refine O_eql rfl rfl rfl rfl rfl ?_
   refine WL_end [(7, _), (9, _), (10, _), (11, _), (12, _), (13, _), (14, _), (82, _)] ⟨rfl, rfl, rfl, rfl, rfl, rfl, rfl, rfl, trivial⟩ ?_
   refine WP_condD rfl (fun c82 => ?_) (fun c82 => ?_)
   · --
    refine WP_seq ?_
    refine WP_region ?_
    refine O_move rfl rfl rfl ?_
    have zx49 := (hE48).size
    refine O_callT (k := _) enters27 rfl rfl rfl (next_c hl2 hE48 htp hB48 (by omega) (by omega) (by decide) (by decide)) (fun r49 a49 w49 hr49 hs49 hE49 hT49 hB49 h149 h249 h349 => ?_)
    have zE49 := hE49.size
    have zT49 := hT49.size
    refine O_assign rfl rfl rfl ?_
    refine WL_end [(7, _), (9, _), (10, _), (11, _), (12, _), (13, _), (14, _), (17, _)] ⟨rfl, rfl, rfl, rfl, rfl, rfl, rfl, rfl, trivial⟩ ?_
    refine WP_region ?_
    refine O_move rfl rfl rfl ?_
    refine O_nilCheck rfl rfl rfl ?_
    refine O_field F32_0 rfl rfl rfl ?_
    refine O_loadC Try.underlying29 rfl rfl rfl rfl ((((((hx9.ext e33).ext hy45).ext e46).extT hT47 (by decide)).extT hT48 (by decide)).extT hT49 (by decide)) rfl ?_
    refine O_move rfl rfl rfl ?_
    refine O_move rfl rfl rfl ?_
    refine O_move rfl rfl rfl ?_
    have hGB := (((((((hF9.ext e33).ext hy45).ext e46).extT' hT47 (by decide)).extT' hT48 (by decide)).extT' hT49 (by decide))).lt
    refine O_callU enters28 rfl rfl rfl (Set_U ((((((hF9.ext e33).ext hy45).ext e46).extT' hT47 (by decide)).extT' hT48 (by decide)).extT' hT49 (by decide)) (by have := ((((((hF9.ext e33).ext hy45).ext e46).extT' hT47 (by decide)).extT' hT48 (by decide)).extT' hT49 (by decide)).lt; omega) hR9 hO9 hA9 (by omega) (by omega) _ _) (fun qs50 i50 t50 w50 hT50 hb50 hF50 hq50 hR50 hO50 hA50 hv50 hs50 => ?_)
    have zT50 := hT50.size
    have hbe50 := hb50 _ hE49 hBB
    refine O_move rfl rfl rfl ?_
    refine O_move rfl rfl rfl ?_
    refine O_move rfl rfl rfl ?_
    refine O_call enters29 rfl rfl rfl (RSet_c (((((((hu9.ext e33).ext hy45).ext e46).extT hT47 (by decide)).extT hT48 (by decide)).extT hT49 (by decide)).extT hT50 (by decide)).sl (by (try simp only [lens]); omega)) (fun v51 w51 e51 h51 => ?_)
    have z51 := e51.size
    refine O_assign rfl rfl rfl ?_
    refine O_assign rfl rfl rfl ?_
    refine WL_end [(7, _), (9, _), (10, _), (11, _), (12, _), (13, _), (15, _), (16, _)] ⟨rfl, rfl, rfl, rfl, rfl, rfl, rfl, rfl, trivial⟩ ?_
    refine WP_seq ?_
    have hqn := hq50
    by_cases hqe : t9.env = eset t9.env s47 r49
    · --
     obtain ⟨hi9, hqs9⟩ := hs50 hqe
     have hql : qs50.length = 0 := by rw [hqs9]; rfl
     refine WP_region ?_
     refine O_move rfl rfl rfl ?_
     refine O_nilCheck rfl rfl rfl ?_
     refine O_field F32_0 rfl rfl rfl ?_
     refine O_loadC Try.underlying29 rfl rfl rfl rfl ((((((((hx9.ext e33).ext hy45).ext e46).extT hT47 (by decide)).extT hT48 (by decide)).extT hT49 (by decide)).extT hT50 (by decide)).ext e51) rfl ?_
     refine O_call enters24 rfl rfl rfl (Size_G (hF50.ext e51)) (fun v52 w52 e52 h52 => ?_)
     have z52 := e52.size
     obtain rfl := h52
     refine O_move rfl rfl rfl ?_
     refine O_sub (r := ((qs50.length : Nat) : Int)) rfl rfl rfl rfl (by rw [IntKind.wrap_i64]; (try simp only [List.length_append]); omega) ?_
     refine O_assign rfl rfl rfl ?_
     refine WL_end [(7, _), (9, _), (10, _), (11, _), (13, _), (15, _), (16, _), (18, _)] ⟨rfl, rfl, rfl, rfl, rfl, rfl, rfl, rfl, trivial⟩ ?_
     refine WP_seq ?_
     refine WP_region ?_
     refine O_move rfl rfl rfl ?_
     refine O_move rfl rfl rfl ?_
     refine O_call enters19 rfl rfl rfl (same_T (((((((((hu9.ext e33).ext hy45).ext e46).extT hT47 (by decide)).extT hT48 (by decide)).extT hT49 (by decide)).extT hT50 (by decide)).ext e51).ext e52).sl (h51.ext e52).sl (by (try simp only [lens]); omega) hqe) (fun v53 w53 e53 h53 => ?_)
     have z53 := e53.size
     obtain rfl := h53
     refine O_assign rfl rfl rfl ?_
     refine WL_end [(7, _), (9, _), (10, _), (13, _), (15, _), (16, _), (18, _), (19, _)] ⟨rfl, rfl, rfl, rfl, rfl, rfl, rfl, rfl, trivial⟩ ?_
     refine WP_seq ?_
     refine WP_seq ?_
     refine WP_region ?_
     refine O_move rfl rfl rfl ?_
     refine O_lss (t := false) rfl rfl rfl rfl (decide_eq_false (by omega)) ?_
     refine O_move rfl rfl rfl ?_
     refine O_move rfl rfl rfl ?_
     refine O_move rfl rfl rfl ?_
     refine O_add rfl rfl rfl rfl (wrap_i64_id (by omega) (by omega)) ?_
     refine O_mul rfl rfl rfl rfl (wrap_i64_id (by omega) (by omega)) ?_
     refine O_gtr (t := false) rfl rfl rfl rfl (decide_eq_false (by omega)) ?_
     refine O_pickF rfl rfl rfl rfl ?_
     refine O_move rfl rfl rfl ?_
     refine O_move rfl rfl rfl ?_
     refine O_move rfl rfl rfl ?_
     refine O_move rfl rfl rfl ?_
     refine O_move rfl rfl rfl ?_
     refine O_neq (t := false) rfl rfl rfl rfl (decide_eq_false (fun h => h hi9)) ?_
     refine O_move rfl rfl rfl ?_
     refine O_move rfl rfl rfl ?_
     refine O_neq (t := false) rfl rfl rfl rfl (decide_eq_false (by omega)) ?_
     refine O_pickF rfl rfl rfl rfl ?_
     refine O_pickT rfl rfl rfl rfl ?_
     refine O_pickF rfl rfl rfl rfl ?_
     refine O_move rfl rfl rfl ?_
     refine O_move rfl rfl rfl ?_
     refine O_not rfl rfl rfl rfl ?_
     refine O_move rfl rfl rfl ?_
     refine O_skip rfl rfl ?_
     refine O_skip rfl rfl ?_
     refine O_skip rfl rfl ?_
     refine O_pickF rfl rfl rfl rfl ?_
     refine O_pickF rfl rfl rfl rfl ?_
     refine WL_end [(7, _), (9, _), (15, _), (16, _), (152, _)] ⟨rfl, rfl, rfl, rfl, rfl, trivial⟩ ?_
     refine WP_condF rfl ?_
     refine WP_skip ?_
     refine WP_region ?_
     refine O_move rfl rfl rfl ?_
     refine O_move rfl rfl rfl ?_
     refine O_assign rfl rfl rfl ?_
     refine O_assign rfl rfl rfl ?_
     refine WL_end [(7, _), (9, _), (10, _), (11, _)] ⟨rfl, rfl, rfl, rfl, trivial⟩ ?_
     have hcn := Tr.env_length t50
     rw [hv50] at hcn
     have hcn2 := eset_len t9.env s47 r49
     have hcn3 := Tr.env_length t9
     exact ⟨(_, ps9 ++ qs50, i50, t50, v51), ⟨rfl, rfl, rfl, rfl, trivial⟩, ⟨(((hbe50.trans e51).trans e52).trans e53), ((((hB49.extT hT50 (by decide)).ext e51).ext e52).ext e53), ((((((((((hx9.ext e33).ext hy45).ext e46).extT hT47 (by decide)).extT hT48 (by decide)).extT hT49 (by decide)).extT hT50 (by decide)).ext e51).ext e52).ext e53), (((hF50.ext e51).ext e52).ext e53), hR50, hO50, hA50, by rw [hv50]; exact (((h51.ext e52).ext e53)).mono (Nat.zero_le _), by omega, by simp only [List.length_append]; omega, by omega⟩, by dsimp only; omega⟩
    · --
     skip
     refine WP_region ?_
     refine O_move rfl rfl rfl ?_
     refine O_nilCheck rfl rfl rfl ?_
     refine O_field F32_0 rfl rfl rfl ?_
     refine O_loadC Try.underlying29 rfl rfl rfl rfl ((((((((hx9.ext e33).ext hy45).ext e46).extT hT47 (by decide)).extT hT48 (by decide)).extT hT49 (by decide)).extT hT50 (by decide)).ext e51) rfl ?_
     refine O_call enters24 rfl rfl rfl (Size_G (hF50.ext e51)) (fun v54 w54 e54 h54 => ?_)
     have z54 := e54.size
     obtain rfl := h54
     refine O_move rfl rfl rfl ?_
     refine O_sub (r := ((qs50.length : Nat) : Int)) rfl rfl rfl rfl (by rw [IntKind.wrap_i64]; (try simp only [List.length_append]); omega) ?_
     refine O_assign rfl rfl rfl ?_
     refine WL_end [(7, _), (9, _), (10, _), (11, _), (13, _), (15, _), (16, _), (18, _)] ⟨rfl, rfl, rfl, rfl, rfl, rfl, rfl, rfl, trivial⟩ ?_
     refine WP_seq ?_
     refine WP_region ?_
     refine O_move rfl rfl rfl ?_
     refine O_move rfl rfl rfl ?_
     refine O_call enters19 rfl rfl rfl (same_F (((((((((hu9.ext e33).ext hy45).ext e46).extT hT47 (by decide)).extT hT48 (by decide)).extT hT49 (by decide)).extT hT50 (by decide)).ext e51).ext e54).sl (h51.ext e54).sl (by (try simp only [lens]); omega) hqe) (fun v55 w55 e55 h55 => ?_)
     have z55 := e55.size
     obtain rfl := h55
     refine O_assign rfl rfl rfl ?_
     refine WL_end [(7, _), (9, _), (10, _), (13, _), (15, _), (16, _), (18, _), (19, _)] ⟨rfl, rfl, rfl, rfl, rfl, rfl, rfl, rfl, trivial⟩ ?_
     refine WP_seq ?_
     refine WP_seq ?_
     refine WP_region ?_
     refine O_move rfl rfl rfl ?_
     refine O_lss (t := false) rfl rfl rfl rfl (decide_eq_false (by omega)) ?_
     refine O_move rfl rfl rfl ?_
     refine O_move rfl rfl rfl ?_
     refine O_move rfl rfl rfl ?_
     refine O_add rfl rfl rfl rfl (wrap_i64_id (by omega) (by omega)) ?_
     refine O_mul rfl rfl rfl rfl (wrap_i64_id (by omega) (by omega)) ?_
     refine O_gtr (t := false) rfl rfl rfl rfl (decide_eq_false (by omega)) ?_
     refine O_pickF rfl rfl rfl rfl ?_
     refine O_move rfl rfl rfl ?_
     refine O_move rfl rfl rfl ?_
     refine O_move rfl rfl rfl ?_
     refine O_skip rfl rfl ?_
     refine O_skip rfl rfl ?_
     refine O_skip rfl rfl ?_
     refine O_skip rfl rfl ?_
     refine O_skipU rfl rfl rfl ?_
     refine O_skipU rfl rfl rfl ?_
     refine O_skip rfl rfl ?_
     refine O_pickF rfl rfl rfl rfl ?_
     refine O_pickF rfl rfl rfl rfl ?_
     refine O_move rfl rfl rfl ?_
     refine O_move rfl rfl rfl ?_
     refine O_not rfl rfl rfl rfl ?_
     refine O_move rfl rfl rfl ?_
     refine O_move rfl rfl rfl ?_
     refine O_move rfl rfl rfl ?_
     refine O_eql (t := false) rfl rfl rfl rfl (decide_eq_false (fun h => hqe ((congrArg Tr.env (Rep.fun_ hR9.more (h ▸ hR50))).trans hv50))) ?_
     refine O_pickT rfl rfl rfl rfl ?_
     refine O_pickF rfl rfl rfl rfl ?_
     refine WL_end [(7, _), (9, _), (15, _), (16, _), (152, _)] ⟨rfl, rfl, rfl, rfl, rfl, trivial⟩ ?_
     refine WP_condF rfl ?_
     refine WP_skip ?_
     refine WP_region ?_
     refine O_move rfl rfl rfl ?_
     refine O_move rfl rfl rfl ?_
     refine O_assign rfl rfl rfl ?_
     refine O_assign rfl rfl rfl ?_
     refine WL_end [(7, _), (9, _), (10, _), (11, _)] ⟨rfl, rfl, rfl, rfl, trivial⟩ ?_
     have hcn := Tr.env_length t50
     rw [hv50] at hcn
     have hcn2 := eset_len t9.env s47 r49
     have hcn3 := Tr.env_length t9
     exact ⟨(_, ps9 ++ qs50, i50, t50, v51), ⟨rfl, rfl, rfl, rfl, trivial⟩, ⟨(((hbe50.trans e51).trans e54).trans e55), ((((hB49.extT hT50 (by decide)).ext e51).ext e54).ext e55), ((((((((((hx9.ext e33).ext hy45).ext e46).extT hT47 (by decide)).extT hT48 (by decide)).extT hT49 (by decide)).extT hT50 (by decide)).ext e51).ext e54).ext e55), (((hF50.ext e51).ext e54).ext e55), hR50, hO50, hA50, by rw [hv50]; exact (((h51.ext e54).ext e55)).mono (Nat.zero_le _), by omega, by simp only [List.length_append]; omega, by omega⟩, by dsimp only; omega⟩
   · --
    refine WP_seq ?_
    by_cases hs : egot t9.env s47
    · --
     skip
     refine WP_region ?_
     refine O_move rfl rfl rfl ?_
     refine O_nilCheck rfl rfl rfl ?_
     refine O_field F32_0 rfl rfl rfl ?_
     refine O_loadC Try.underlying29 rfl rfl rfl rfl (((((hx9.ext e33).ext hy45).ext e46).extT hT47 (by decide)).extT hT48 (by decide)) rfl ?_
     refine O_move rfl rfl rfl ?_
     refine O_move rfl rfl rfl ?_
     have hGB := ((((((hF9.ext e33).ext hy45).ext e46).extT' hT47 (by decide)).extT' hT48 (by decide))).lt
     refine O_callU enters30 rfl rfl rfl (Drop_UT (((((hF9.ext e33).ext hy45).ext e46).extT' hT47 (by decide)).extT' hT48 (by decide)) (by have := (((((hF9.ext e33).ext hy45).ext e46).extT' hT47 (by decide)).extT' hT48 (by decide)).lt; omega) hR9 hO9 hA9 (by omega) (by omega) _ hs) (fun qs56 i56 t56 w56 hT56 hb56 hF56 hq56 hR56 hO56 hA56 hv56 hs56 => ?_)
     have zT56 := hT56.size
     have hbe56 := hb56 _ hE48 hBB
     refine O_move rfl rfl rfl ?_
     refine O_extract rfl rfl rfl rfl ?_
     refine O_extract rfl rfl rfl rfl ?_
     refine O_assign rfl rfl rfl ?_
     refine WL_end [(7, _), (9, _), (10, _), (11, _), (12, _), (13, _), (14, _), (15, _)] ⟨rfl, rfl, rfl, rfl, rfl, rfl, rfl, rfl, trivial⟩ ?_
     refine WP_region ?_
     refine O_move rfl rfl rfl ?_
     refine O_move rfl rfl rfl ?_
     refine O_call enters31 rfl rfl rfl (RDrop_some ((((((hu9.ext e33).ext hy45).ext e46).extT hT47 (by decide)).extT hT48 (by decide)).extT hT56 (by decide)).sl (by (try simp only [lens]); omega) hs) (fun v57 w57 e57 h57 => ?_)
     have z57 := e57.size
     try simp only [val_dig] at h57
     obtain ⟨e9, rfl, he9⟩ := h57
     refine O_move rfl rfl rfl ?_
     refine O_extract rfl rfl rfl rfl ?_
     refine O_extract rfl rfl rfl rfl ?_
     refine O_assign rfl rfl rfl ?_
     refine WL_end [(7, _), (9, _), (10, _), (11, _), (12, _), (13, _), (15, _), (16, _)] ⟨rfl, rfl, rfl, rfl, rfl, rfl, rfl, rfl, trivial⟩ ?_
     refine WP_seq ?_
     have hqn := hq56
     by_cases hqe : t9.env = edrop t9.env s47
     · --
      obtain ⟨hi9, hqs9⟩ := hs56 hqe
      have hql : qs56.length = 0 := by rw [hqs9]; rfl
      refine WP_region ?_
      refine O_move rfl rfl rfl ?_
      refine O_nilCheck rfl rfl rfl ?_
      refine O_field F32_0 rfl rfl rfl ?_
      refine O_loadC Try.underlying29 rfl rfl rfl rfl (((((((hx9.ext e33).ext hy45).ext e46).extT hT47 (by decide)).extT hT48 (by decide)).extT hT56 (by decide)).ext e57) rfl ?_
      refine O_call enters24 rfl rfl rfl (Size_G (hF56.ext e57)) (fun v58 w58 e58 h58 => ?_)
      have z58 := e58.size
      obtain rfl := h58
      refine O_move rfl rfl rfl ?_
      refine O_sub (r := ((qs56.length : Nat) : Int)) rfl rfl rfl rfl (by rw [IntKind.wrap_i64]; (try simp only [List.length_append]); omega) ?_
      refine O_assign rfl rfl rfl ?_
      refine WL_end [(7, _), (9, _), (10, _), (11, _), (13, _), (15, _), (16, _), (18, _)] ⟨rfl, rfl, rfl, rfl, rfl, rfl, rfl, rfl, trivial⟩ ?_
      refine WP_seq ?_
      refine WP_region ?_
      refine O_move rfl rfl rfl ?_
      refine O_move rfl rfl rfl ?_
      refine O_call enters19 rfl rfl rfl (same_T ((((((((hu9.ext e33).ext hy45).ext e46).extT hT47 (by decide)).extT hT48 (by decide)).extT hT56 (by decide)).ext e57).ext e58).sl (he9.ext e58).sl (by (try simp only [lens]); omega) hqe) (fun v59 w59 e59 h59 => ?_)
      have z59 := e59.size
      obtain rfl := h59
      refine O_assign rfl rfl rfl ?_
      refine WL_end [(7, _), (9, _), (10, _), (13, _), (15, _), (16, _), (18, _), (19, _)] ⟨rfl, rfl, rfl, rfl, rfl, rfl, rfl, rfl, trivial⟩ ?_
      refine WP_seq ?_
      refine WP_seq ?_
      refine WP_region ?_
      refine O_move rfl rfl rfl ?_
      refine O_lss (t := false) rfl rfl rfl rfl (decide_eq_false (by omega)) ?_
      refine O_move rfl rfl rfl ?_
      refine O_move rfl rfl rfl ?_
      refine O_move rfl rfl rfl ?_
      refine O_add rfl rfl rfl rfl (wrap_i64_id (by omega) (by omega)) ?_
      refine O_mul rfl rfl rfl rfl (wrap_i64_id (by omega) (by omega)) ?_
      refine O_gtr (t := false) rfl rfl rfl rfl (decide_eq_false (by omega)) ?_
      refine O_pickF rfl rfl rfl rfl ?_
      refine O_move rfl rfl rfl ?_
      refine O_move rfl rfl rfl ?_
      refine O_move rfl rfl rfl ?_
      refine O_move rfl rfl rfl ?_
      refine O_move rfl rfl rfl ?_
      refine O_neq (t := false) rfl rfl rfl rfl (decide_eq_false (fun h => h hi9)) ?_
      refine O_move rfl rfl rfl ?_
      refine O_move rfl rfl rfl ?_
      refine O_neq (t := false) rfl rfl rfl rfl (decide_eq_false (by omega)) ?_
      refine O_pickF rfl rfl rfl rfl ?_
      refine O_pickT rfl rfl rfl rfl ?_
      refine O_pickF rfl rfl rfl rfl ?_
      refine O_move rfl rfl rfl ?_
      refine O_move rfl rfl rfl ?_
      refine O_not rfl rfl rfl rfl ?_
      refine O_move rfl rfl rfl ?_
      refine O_skip rfl rfl ?_
      refine O_skip rfl rfl ?_
      refine O_skip rfl rfl ?_
      refine O_pickF rfl rfl rfl rfl ?_
      refine O_pickF rfl rfl rfl rfl ?_
      refine WL_end [(7, _), (9, _), (15, _), (16, _), (152, _)] ⟨rfl, rfl, rfl, rfl, rfl, trivial⟩ ?_
      refine WP_condF rfl ?_
      refine WP_skip ?_
      refine WP_region ?_
      refine O_move rfl rfl rfl ?_
      refine O_move rfl rfl rfl ?_
      refine O_assign rfl rfl rfl ?_
      refine O_assign rfl rfl rfl ?_
      refine WL_end [(7, _), (9, _), (10, _), (11, _)] ⟨rfl, rfl, rfl, rfl, trivial⟩ ?_
      have hcn := Tr.env_length t56
      rw [hv56] at hcn
      have hcn2 := edrop_len_le t9.env s47
      have hcn3 := Tr.env_length t9
      exact ⟨(_, ps9 ++ qs56, i56, t56, e9), ⟨rfl, rfl, rfl, rfl, trivial⟩, ⟨(((hbe56.trans e57).trans e58).trans e59), ((((hB48.extT hT56 (by decide)).ext e57).ext e58).ext e59), (((((((((hx9.ext e33).ext hy45).ext e46).extT hT47 (by decide)).extT hT48 (by decide)).extT hT56 (by decide)).ext e57).ext e58).ext e59), (((hF56.ext e57).ext e58).ext e59), hR56, hO56, hA56, by rw [hv56]; exact (((he9.ext e58).ext e59)).mono (Nat.zero_le _), by omega, by simp only [List.length_append]; omega, by omega⟩, by dsimp only; omega⟩
     · --
      skip
      refine WP_region ?_
      refine O_move rfl rfl rfl ?_
      refine O_nilCheck rfl rfl rfl ?_
      refine O_field F32_0 rfl rfl rfl ?_
      refine O_loadC Try.underlying29 rfl rfl rfl rfl (((((((hx9.ext e33).ext hy45).ext e46).extT hT47 (by decide)).extT hT48 (by decide)).extT hT56 (by decide)).ext e57) rfl ?_
      refine O_call enters24 rfl rfl rfl (Size_G (hF56.ext e57)) (fun v60 w60 e60 h60 => ?_)
      have z60 := e60.size
      obtain rfl := h60
      refine O_move rfl rfl rfl ?_
      refine O_sub (r := ((qs56.length : Nat) : Int)) rfl rfl rfl rfl (by rw [IntKind.wrap_i64]; (try simp only [List.length_append]); omega) ?_
      refine O_assign rfl rfl rfl ?_
      refine WL_end [(7, _), (9, _), (10, _), (11, _), (13, _), (15, _), (16, _), (18, _)] ⟨rfl, rfl, rfl, rfl, rfl, rfl, rfl, rfl, trivial⟩ ?_
      refine WP_seq ?_
      refine WP_region ?_
      refine O_move rfl rfl rfl ?_
      refine O_move rfl rfl rfl ?_
      refine O_call enters19 rfl rfl rfl (same_F ((((((((hu9.ext e33).ext hy45).ext e46).extT hT47 (by decide)).extT hT48 (by decide)).extT hT56 (by decide)).ext e57).ext e60).sl (he9.ext e60).sl (by (try simp only [lens]); omega) hqe) (fun v61 w61 e61 h61 => ?_)
      have z61 := e61.size
      obtain rfl := h61
      refine O_assign rfl rfl rfl ?_
      refine WL_end [(7, _), (9, _), (10, _), (13, _), (15, _), (16, _), (18, _), (19, _)] ⟨rfl, rfl, rfl, rfl, rfl, rfl, rfl, rfl, trivial⟩ ?_
      refine WP_seq ?_
      refine WP_seq ?_
      refine WP_region ?_
      refine O_move rfl rfl rfl ?_
      refine O_lss (t := false) rfl rfl rfl rfl (decide_eq_false (by omega)) ?_
      refine O_move rfl rfl rfl ?_
      refine O_move rfl rfl rfl ?_
      refine O_move rfl rfl rfl ?_
      refine O_add rfl rfl rfl rfl (wrap_i64_id (by omega) (by omega)) ?_
      refine O_mul rfl rfl rfl rfl (wrap_i64_id (by omega) (by omega)) ?_
      refine O_gtr (t := false) rfl rfl rfl rfl (decide_eq_false (by omega)) ?_
      refine O_pickF rfl rfl rfl rfl ?_
      refine O_move rfl rfl rfl ?_
      refine O_move rfl rfl rfl ?_
      refine O_move rfl rfl rfl ?_
      refine O_skip rfl rfl ?_
      refine O_skip rfl rfl ?_
      refine O_skip rfl rfl ?_
      refine O_skip rfl rfl ?_
      refine O_skipU rfl rfl rfl ?_
      refine O_skipU rfl rfl rfl ?_
      refine O_skip rfl rfl ?_
      refine O_pickF rfl rfl rfl rfl ?_
      refine O_pickF rfl rfl rfl rfl ?_
      refine O_move rfl rfl rfl ?_
      refine O_move rfl rfl rfl ?_
      refine O_not rfl rfl rfl rfl ?_
      refine O_move rfl rfl rfl ?_
      refine O_move rfl rfl rfl ?_
      refine O_move rfl rfl rfl ?_
      refine O_eql (t := false) rfl rfl rfl rfl (decide_eq_false (fun h => hqe ((congrArg Tr.env (Rep.fun_ hR9.more (h ▸ hR56))).trans hv56))) ?_
      refine O_pickT rfl rfl rfl rfl ?_
      refine O_pickF rfl rfl rfl rfl ?_
      refine WL_end [(7, _), (9, _), (15, _), (16, _), (152, _)] ⟨rfl, rfl, rfl, rfl, rfl, trivial⟩ ?_
      refine WP_condF rfl ?_
      refine WP_skip ?_
      refine WP_region ?_
      refine O_move rfl rfl rfl ?_
      refine O_move rfl rfl rfl ?_
      refine O_assign rfl rfl rfl ?_
      refine O_assign rfl rfl rfl ?_
      refine WL_end [(7, _), (9, _), (10, _), (11, _)] ⟨rfl, rfl, rfl, rfl, trivial⟩ ?_
      have hcn := Tr.env_length t56
      rw [hv56] at hcn
      have hcn2 := edrop_len_le t9.env s47
      have hcn3 := Tr.env_length t9
      exact ⟨(_, ps9 ++ qs56, i56, t56, e9), ⟨rfl, rfl, rfl, rfl, trivial⟩, ⟨(((hbe56.trans e57).trans e60).trans e61), ((((hB48.extT hT56 (by decide)).ext e57).ext e60).ext e61), (((((((((hx9.ext e33).ext hy45).ext e46).extT hT47 (by decide)).extT hT48 (by decide)).extT hT56 (by decide)).ext e57).ext e60).ext e61), (((hF56.ext e57).ext e60).ext e61), hR56, hO56, hA56, by rw [hv56]; exact (((he9.ext e60).ext e61)).mono (Nat.zero_le _), by omega, by simp only [List.length_append]; omega, by omega⟩, by dsimp only; omega⟩
    · --
     skip
     refine WP_region ?_
     refine O_move rfl rfl rfl ?_
     refine O_nilCheck rfl rfl rfl ?_
     refine O_field F32_0 rfl rfl rfl ?_
     refine O_loadC Try.underlying29 rfl rfl rfl rfl (((((hx9.ext e33).ext hy45).ext e46).extT hT47 (by decide)).extT hT48 (by decide)) rfl ?_
     refine O_move rfl rfl rfl ?_
     refine O_move rfl rfl rfl ?_
     refine O_call enters30 rfl rfl rfl (Drop_UF (((((hF9.ext e33).ext hy45).ext e46).extT' hT47 (by decide)).extT' hT48 (by decide)) hR9 hO9 _ hs) (fun v62 w62 e62 h62 => ?_)
     have z62 := e62.size
     try simp only [val_dig] at h62
     obtain rfl := h62
     refine O_move rfl rfl rfl ?_
     refine O_extract rfl rfl rfl rfl ?_
     refine O_extract rfl rfl rfl rfl ?_
     refine O_assign rfl rfl rfl ?_
     refine WL_end [(7, _), (9, _), (10, _), (11, _), (12, _), (13, _), (14, _), (15, _)] ⟨rfl, rfl, rfl, rfl, rfl, rfl, rfl, rfl, trivial⟩ ?_
     refine WP_region ?_
     refine O_move rfl rfl rfl ?_
     refine O_move rfl rfl rfl ?_
     refine O_call enters31 rfl rfl rfl (RDrop_none ((((((hu9.ext e33).ext hy45).ext e46).extT hT47 (by decide)).extT hT48 (by decide)).ext e62).sl (by (try simp only [lens]); omega) hs) (fun v63 w63 e63 h63 => ?_)
     have z63 := e63.size
     obtain rfl := h63
     refine O_move rfl rfl rfl ?_
     refine O_extract rfl rfl rfl rfl ?_
     refine O_extract rfl rfl rfl rfl ?_
     refine O_assign rfl rfl rfl ?_
     refine WL_end [(7, _), (9, _), (10, _), (11, _), (12, _), (13, _), (15, _), (16, _)] ⟨rfl, rfl, rfl, rfl, rfl, rfl, rfl, rfl, trivial⟩ ?_
     refine WP_seq ?_
     refine WP_region ?_
     refine O_move rfl rfl rfl ?_
     refine O_nilCheck rfl rfl rfl ?_
     refine O_field F32_0 rfl rfl rfl ?_
     refine O_loadC Try.underlying29 rfl rfl rfl rfl (((((((hx9.ext e33).ext hy45).ext e46).extT hT47 (by decide)).extT hT48 (by decide)).ext e62).ext e63) rfl ?_
     refine O_call enters24 rfl rfl rfl (Size_G (((((((hF9.ext e33).ext hy45).ext e46).extT' hT47 (by decide)).extT' hT48 (by decide)).ext e62).ext e63)) (fun v64 w64 e64 h64 => ?_)
     have z64 := e64.size
     obtain rfl := h64
     refine O_move rfl rfl rfl ?_
     refine O_sub (r := (0 : Int)) rfl rfl rfl rfl (by rw [IntKind.wrap_i64]; (try simp only [List.length_append]); omega) ?_
     refine O_assign rfl rfl rfl ?_
     refine WL_end [(7, _), (9, _), (10, _), (11, _), (13, _), (15, _), (16, _), (18, _)] ⟨rfl, rfl, rfl, rfl, rfl, rfl, rfl, rfl, trivial⟩ ?_
     refine WP_seq ?_
     refine WP_region ?_
     refine O_move rfl rfl rfl ?_
     refine O_move rfl rfl rfl ?_
     refine O_call enters19 rfl rfl rfl (same_T ((((((((hu9.ext e33).ext hy45).ext e46).extT hT47 (by decide)).extT hT48 (by decide)).ext e62).ext e63).ext e64).sl ((((((((hu9.ext e33).ext hy45).ext e46).extT hT47 (by decide)).extT hT48 (by decide)).ext e62).ext e63).ext e64).sl (by (try simp only [lens]); omega) rfl) (fun v65 w65 e65 h65 => ?_)
     have z65 := e65.size
     obtain rfl := h65
     refine O_assign rfl rfl rfl ?_
     refine WL_end [(7, _), (9, _), (10, _), (13, _), (15, _), (16, _), (18, _), (19, _)] ⟨rfl, rfl, rfl, rfl, rfl, rfl, rfl, rfl, trivial⟩ ?_
     refine WP_seq ?_
     refine WP_seq ?_
     refine WP_region ?_
     refine O_move rfl rfl rfl ?_
     refine O_lss (t := false) rfl rfl rfl rfl (decide_eq_false (by omega)) ?_
     refine O_move rfl rfl rfl ?_
     refine O_move rfl rfl rfl ?_
     refine O_move rfl rfl rfl ?_
     refine O_add rfl rfl rfl rfl (wrap_i64_id (by omega) (by omega)) ?_
     refine O_mul rfl rfl rfl rfl (wrap_i64_id (by omega) (by omega)) ?_
     refine O_gtr (t := false) rfl rfl rfl rfl (decide_eq_false (by omega)) ?_
     refine O_pickF rfl rfl rfl rfl ?_
     refine O_move rfl rfl rfl ?_
     refine O_move rfl rfl rfl ?_
     refine O_move rfl rfl rfl ?_
     refine O_move rfl rfl rfl ?_
     refine O_move rfl rfl rfl ?_
     refine O_neq (t := false) rfl rfl rfl rfl (decide_eq_false (fun h => h rfl)) ?_
     refine O_move rfl rfl rfl ?_
     refine O_move rfl rfl rfl ?_
     refine O_neq (t := false) rfl rfl rfl rfl (decide_eq_false (by omega)) ?_
     refine O_pickF rfl rfl rfl rfl ?_
     refine O_pickT rfl rfl rfl rfl ?_
     refine O_pickF rfl rfl rfl rfl ?_
     refine O_move rfl rfl rfl ?_
     refine O_move rfl rfl rfl ?_
     refine O_not rfl rfl rfl rfl ?_
     refine O_move rfl rfl rfl ?_
     refine O_skip rfl rfl ?_
     refine O_skip rfl rfl ?_
     refine O_skip rfl rfl ?_
     refine O_pickF rfl rfl rfl rfl ?_
     refine O_pickF rfl rfl rfl rfl ?_
     refine WL_end [(7, _), (9, _), (15, _), (16, _), (152, _)] ⟨rfl, rfl, rfl, rfl, rfl, trivial⟩ ?_
     refine WP_condF rfl ?_
     refine WP_skip ?_
     refine WP_region ?_
     refine O_move rfl rfl rfl ?_
     refine O_move rfl rfl rfl ?_
     refine O_assign rfl rfl rfl ?_
     refine O_assign rfl rfl rfl ?_
     refine WL_end [(7, _), (9, _), (10, _), (11, _)] ⟨rfl, rfl, rfl, rfl, trivial⟩ ?_
     exact ⟨(_, ps9, i9, t9, u9), ⟨rfl, rfl, rfl, rfl, trivial⟩, ⟨((((hE48.trans e62).trans e63).trans e64).trans e65), ((((hB48.ext e62).ext e63).ext e64).ext e65), (((((((((hx9.ext e33).ext hy45).ext e46).extT hT47 (by decide)).extT hT48 (by decide)).ext e62).ext e63).ext e64).ext e65), (((((((((hF9.ext e33).ext hy45).ext e46).extT' hT47 (by decide)).extT' hT48 (by decide)).ext e62).ext e63).ext e64).ext e65), hR9, hO9, hA9, (((((((((hu9.ext e33).ext hy45).ext e46).extT hT47 (by decide)).extT hT48 (by decide)).ext e62).ext e63).ext e64).ext e65), by omega, by omega, by omega⟩, by dsimp only; omega⟩
  · --
   refine WP_exit ?_
   refine inBlk_hit ?_
   refine WP_seq ?_
   refine WP_region ?_
   refine O_move rfl rfl rfl ?_
   refine O_nilCheck rfl rfl rfl ?_
   refine O_field F32_0 rfl rfl rfl ?_
   refine O_loadC Try.underlying29 rfl rfl rfl rfl (hx9.ext e33) rfl ?_
   refine O_move rfl rfl rfl ?_
   refine O_call enters20 rfl rfl rfl (List_G (hF9.ext e33) hR9 (by (try simp only [lens]); omega)) (fun v66 w66 e66 h66 => ?_)
   have z66 := e66.size
   refine O_move rfl rfl rfl ?_
   refine O_call enters19 rfl rfl rfl (same_T h66.sl ((hu9.ext e33).ext e66).sl (by (try simp only [lens]); omega) rfl) (fun v67 w67 e67 h67 => ?_)
   have z67 := e67.size
   obtain rfl := h67
   refine O_assign rfl rfl rfl ?_
   refine WL_end [(6, _)] ⟨rfl, trivial⟩ ?_
   refine WP_ret ?_
   refine ret1 Try.results4 rfl ?_
   exact ⟨_, rfl, (((hE.trans e33).trans e66).trans e67), rfl⟩

theorem law_TreeParts {w : World} {v v2 : Value} {l l2 : List Int} {many : Int} (hl : SlM fI w v l) (hl2 : SlM fI w v2 l2) : Calls Try.prog 4 #[v, v2, .int .i64 many] w (Ret w fun r _ => r = .bool true) := by
  by_cases hll : l.length ≤ 120
  · by_cases hll2 : l2.length ≤ 120
    · exact parts_T hl hl2 hll hll2
    · exact parts_F2 hl hl2 hll hll2
  · exact parts_F1 hl hl2 hll

end Go.Proofs.Ytoccimigjjndpaa
