/-
  Walks.
-/
import Derived.Test.YtoccimigjjndpaaU0
import Derived.Test.YtoccimigjjndpaaMore
set_option linter.unusedVariables false
set_option linter.unusedSimpArgs false
set_option maxRecDepth 100000
namespace Go.Proofs.Ytoccimigjjndpaa
open Go Go.RowKit
theorem finds_F1 {w : World} {v : Value} {l : List Int} {s : ByteArray} {x which : Int} (hl : SlM fI w v l) (hx1 : -9223372036854775808 ≤ x) (hx2 : x ≤ 9223372036854775807) (hll : ¬ l.length ≤ 120) :
    Calls Try.prog 7 #[v, .string s, .int .i64 x, .int .i64 which] w (Ret w fun r _ => r = .bool true) := by
 refine enter (args := [v, _, _, _]) Try.func7 rfl Try.ntmps7 rfl ?_
 refine WP_seq ?_
 refine WP_region ?_
 refine O_assign rfl rfl rfl ?_
 refine WL_end [(0, _), (1, _), (2, _), (3, _)] ⟨rfl, rfl, rfl, rfl, trivial⟩ ?_
 refine WP_seq ?_
 refine WP_seq ?_
 refine WP_region ?_
 refine O_call enters15 rfl rfl rfl (awake_c) (fun v1 w1 e1 h1 => ?_)
 have z1 := e1.size
 obtain rfl := h1
 refine O_not rfl rfl rfl rfl ?_
 refine WL_end [(0, _), (1, _), (2, _), (3, _), (28, _)] ⟨rfl, rfl, rfl, rfl, rfl, trivial⟩ ?_
 refine WP_condF rfl ?_
 refine WP_skip ?_
 refine WP_seq ?_
 refine WP_seq ?_
 refine WP_region ?_
 refine O_move rfl rfl rfl ?_
 refine O_call enters16 rfl rfl rfl (light_F (hl.ext e1) hll) (fun v2 w2 e2 h2 => ?_)
 have z2 := e2.size
 obtain rfl := h2
 refine O_not rfl rfl rfl rfl ?_
 refine O_move rfl rfl rfl ?_
 refine O_skip rfl rfl ?_
 refine O_skip rfl rfl ?_
 refine O_skip rfl rfl ?_
 refine O_pickT rfl rfl rfl rfl ?_
 refine WL_end [(0, _), (1, _), (2, _), (3, _), (36, _)] ⟨rfl, rfl, rfl, rfl, rfl, trivial⟩ ?_
 refine WP_condT rfl ?_
 refine WP_seq ?_
 refine WP_region ?_
 refine O_assign rfl rfl rfl ?_
 refine WL_end [(8, _)] ⟨rfl, trivial⟩ ?_
 refine WP_ret ?_
 refine ret1 Try.results7 rfl ?_
 exact ⟨_, rfl, (e1.trans e2), rfl⟩
theorem finds_F2 {w : World} {v : Value} {l : List Int} {s : ByteArray} {x which : Int} (hl : SlM fI w v l) (hx1 : -9223372036854775808 ≤ x) (hx2 : x ≤ 9223372036854775807) (hll : l.length ≤ 120) (hs : ¬ s.size ≤ 100) :
    Calls Try.prog 7 #[v, .string s, .int .i64 x, .int .i64 which] w (Ret w fun r _ => r = .bool true) := by
 refine enter (args := [v, _, _, _]) Try.func7 rfl Try.ntmps7 rfl ?_
 refine WP_seq ?_
 refine WP_region ?_
 refine O_assign rfl rfl rfl ?_
 refine WL_end [(0, _), (1, _), (2, _), (3, _)] ⟨rfl, rfl, rfl, rfl, trivial⟩ ?_
 refine WP_seq ?_
 refine WP_seq ?_
 refine WP_region ?_
 refine O_call enters15 rfl rfl rfl (awake_c) (fun v1 w1 e1 h1 => ?_)
 have z1 := e1.size
 obtain rfl := h1
 refine O_not rfl rfl rfl rfl ?_
 refine WL_end [(0, _), (1, _), (2, _), (3, _), (28, _)] ⟨rfl, rfl, rfl, rfl, rfl, trivial⟩ ?_
 refine WP_condF rfl ?_
 refine WP_skip ?_
 refine WP_seq ?_
 refine WP_seq ?_
 refine WP_region ?_
 refine O_move rfl rfl rfl ?_
 refine O_call enters16 rfl rfl rfl (light_T (hl.ext e1) hll) (fun v2 w2 e2 h2 => ?_)
 have z2 := e2.size
 obtain rfl := h2
 refine O_not rfl rfl rfl rfl ?_
 refine O_move rfl rfl rfl ?_
 refine O_move rfl rfl rfl ?_
 refine O_lenS Try.underlying9 rfl rfl rfl ?_
 refine O_gtr (t := true) rfl rfl rfl rfl (decide_eq_true (by omega)) ?_
 refine O_pickF rfl rfl rfl rfl ?_
 refine WL_end [(0, _), (1, _), (2, _), (3, _), (36, _)] ⟨rfl, rfl, rfl, rfl, rfl, trivial⟩ ?_
 refine WP_condT rfl ?_
 refine WP_seq ?_
 refine WP_region ?_
 refine O_assign rfl rfl rfl ?_
 refine WL_end [(8, _)] ⟨rfl, trivial⟩ ?_
 refine WP_ret ?_
 refine ret1 Try.results7 rfl ?_
 exact ⟨_, rfl, (e1.trans e2), rfl⟩
theorem At_none {w : World} {B g : Nat} {ps : List Part} (hF : FG B w g ps) {i : Int} {t : Tr} (hR : Rep ps i t) (hc : t.cnt ≤ 10000000) {x : Int} (hx1 : -9223372036854775808 ≤ x) (hx2 : x ≤ 9223372036854775807) (hn : Tr.nth t.env x = none) : Calls Try.prog 39 #[.pointer (some ⟨g, 0, none⟩), .int .i64 i, .int .i64 x] w (Ret w fun r _ => r = .tuple #[.agg #[.string ByteArray.empty, .int .i64 0], .bool false]) :=
  (At_G hF hR hc hx1 hx2).mono fun _ w' ⟨r, he, hx', hr⟩ => ⟨r, he, hx', by rw [hr, hn]⟩
theorem At_some {w : World} {B g : Nat} {ps : List Part} (hF : FG B w g ps) {i : Int} {t : Tr} (hR : Rep ps i t) (hc : t.cnt ≤ 10000000) {x : Int} (hx1 : -9223372036854775808 ≤ x) (hx2 : x ≤ 9223372036854775807) {b : Bd} (hn : Tr.nth t.env x = some b) : Calls Try.prog 39 #[.pointer (some ⟨g, 0, none⟩), .int .i64 i, .int .i64 x] w (Ret w fun r _ => r = .tuple #[.agg #[.string b.1, .int .i64 b.2], .bool true]) :=
  (At_G hF hR hc hx1 hx2).mono fun _ w' ⟨r, he, hx', hr⟩ => ⟨r, he, hx', by rw [hr, hn]⟩
set_option maxHeartbeats 4000000 in
theorem finds_T {w : World} {v : Value} {l : List Int} {s : ByteArray} {x which : Int} (hl : SlM fI w v l) (hx1 : -9223372036854775808 ≤ x) (hx2 : x ≤ 9223372036854775807) (hll : l.length ≤ 120) (hs : s.size ≤ 100) :
    Calls Try.prog 7 #[v, .string s, .int .i64 x, .int .i64 which] w (Ret w fun r _ => r = .bool true) := by
 refine enter (args := [v, _, _, _]) Try.func7 rfl Try.ntmps7 rfl ?_
 refine WP_seq ?_
 refine WP_region ?_
 refine O_assign rfl rfl rfl ?_
 refine WL_end [(0, _), (1, _), (2, _), (3, _)] ⟨rfl, rfl, rfl, rfl, trivial⟩ ?_
 refine WP_seq ?_
 refine WP_seq ?_
 refine WP_region ?_
 refine O_call enters15 rfl rfl rfl (awake_c) (fun v1 w1 e1 h1 => ?_)
 have z1 := e1.size
 obtain rfl := h1
 refine O_not rfl rfl rfl rfl ?_
 refine WL_end [(0, _), (1, _), (2, _), (3, _), (28, _)] ⟨rfl, rfl, rfl, rfl, rfl, trivial⟩ ?_
 refine WP_condF rfl ?_
 refine WP_skip ?_
 refine WP_seq ?_
 refine WP_seq ?_
 refine WP_region ?_
 refine O_move rfl rfl rfl ?_
 refine O_call enters16 rfl rfl rfl (light_T (hl.ext e1) hll) (fun v2 w2 e2 h2 => ?_)
 have z2 := e2.size
 obtain rfl := h2
 refine O_not rfl rfl rfl rfl ?_
 refine O_move rfl rfl rfl ?_
 refine O_move rfl rfl rfl ?_
 refine O_lenS Try.underlying9 rfl rfl rfl ?_
 refine O_gtr (t := false) rfl rfl rfl rfl (decide_eq_false (by omega)) ?_
 refine O_pickF rfl rfl rfl rfl ?_
 refine WL_end [(0, _), (1, _), (2, _), (3, _), (36, _)] ⟨rfl, rfl, rfl, rfl, rfl, trivial⟩ ?_
 refine WP_condF rfl ?_
 refine WP_skip ?_
 refine WP_seq ?_
 refine WP_region ?_
 refine O_move rfl rfl rfl ?_
 refine O_call enters17 rfl rfl rfl (grow_c (m := 0) (hl.ext (e1.trans e2)) hll (by (try simp only [lens]); omega)) (fun v3 w3 e3 h3 => ?_)
 have z3 := e3.size
 obtain ⟨gx, gf, rs, ts, rfl, ⟨ps, vr, vl, lv, hx, hF, hr, hv, hLL, hG, hps, hrs, hgx⟩, hlen⟩ := h3
 refine O_move rfl rfl rfl ?_
 refine O_extract rfl rfl rfl rfl ?_
 refine O_extract rfl rfl rfl rfl ?_
 refine O_assign rfl rfl rfl ?_
 refine O_assign rfl rfl rfl ?_
 refine WL_end [(1, _), (2, _), (3, _), (9, _), (10, _)] ⟨rfl, rfl, rfl, rfl, rfl, trivial⟩ ?_
 refine WP_seq ?_
 refine WP_seq ?_
 refine WP_region ?_
 refine O_move rfl rfl rfl ?_
 refine O_not rfl rfl rfl rfl ?_
 refine WL_end [(1, _), (2, _), (3, _), (9, _), (43, _)] ⟨rfl, rfl, rfl, rfl, rfl, trivial⟩ ?_
 refine WP_condF rfl ?_
 refine WP_skip ?_
 refine WP_seq ?_
 refine WP_region ?_
 refine O_move rfl rfl rfl ?_
 refine O_move rfl rfl rfl ?_
 refine O_nilCheck rfl rfl rfl ?_
 refine O_field F32_1 rfl rfl rfl ?_
 refine O_loadC Try.underlying22 rfl rfl rfl rfl hx rfl ?_
 refine M_len M22 rfl rfl rfl hr.sl ?_
 refine O_call enters18 rfl rfl rfl (modN_c (by (try simp only [lens]); omega) (by (try simp only [lens]); omega)) (fun v4 w4 e4 h4 => ?_)
 have z4 := e4.size
 obtain ⟨kn, rfl, hkn⟩ := h4
 have hk2 : kn < rs.length := by omega
 have hk3 : kn < ts.length := by have := hG.1; omega
 have hk4 : kn < lv.length := by have := hLL.1; omega
 have hlvl : lv.length ≤ rs.length := by have := hLL.1; have := hG.1; omega
 obtain ⟨hRk, hOk, hAk, hCk⟩ := hG.at_ hk2 hk3
 have h40 := bigB ts[kn] hAk (by omega)
 have henk := Tr.env_length ts[kn]
 have hnmk := hG.nm hk2 hk3
 refine O_assign rfl rfl rfl ?_
 refine WL_end [(1, _), (2, _), (9, _), (11, _)] ⟨rfl, rfl, rfl, rfl, trivial⟩ ?_
 refine WP_seq ?_
 refine WP_sub [(1, _), (2, _), (9, _), (11, _)] ⟨rfl, rfl, rfl, rfl, trivial⟩ ?_
 refine WP_anyR 15 [1, 2, 9, 11] mixed rfl (by kernel_rfl) ?_
 apply AnyR_val [9] rfl (by kernel_rfl)
 · --
  intro y5 hy5
  have zy5 := hy5.size
  refine AllV_nil ?_
  refine O_move rfl rfl rfl ?_
  exact WL_nil ⟨(Ext.refl _), rfl⟩
 apply AnyR_val [51] rfl (by kernel_rfl)
 · --
  intro y6 hy6
  have zy6 := hy6.size
  refine AllV_v ?_
  refine AllV_nil ?_
  refine O_nilCheck rfl rfl rfl ?_
  exact WL_nil ⟨(Ext.refl _), rfl⟩
 apply AnyR_val [52] rfl (by kernel_rfl)
 · --
  intro y7 hy7
  have zy7 := hy7.size
  refine AllV_v ?_
  refine AllV_nil ?_
  refine O_field F32_1 rfl rfl rfl ?_
  exact WL_nil ⟨(Ext.refl _), rfl⟩
 apply AnyR_val [53] rfl (by kernel_rfl)
 · --
  intro y8 hy8
  have zy8 := hy8.size
  refine AllV_v ?_
  refine AllV_nil ?_
  refine O_loadC Try.underlying22 rfl rfl rfl rfl ((hx.ext e4).ext hy8) rfl ?_
  exact WL_nil ⟨(Ext.refl _), rfl⟩
 apply AnyR_val [11] rfl (by kernel_rfl)
 · --
  intro y9 hy9
  have zy9 := hy9.size
  refine AllV_nil ?_
  refine O_move rfl rfl rfl ?_
  exact WL_nil ⟨(Ext.refl _), rfl⟩
 apply AnyR_val [54, 55] rfl (by kernel_rfl)
 · --
  intro y10 hy10
  have zy10 := hy10.size
  refine AllV_v ?_
  refine AllV_v ?_
  refine AllV_nil ?_
  refine M_index M22 rfl rfl rfl rfl ((hr.ext e4).ext hy10).sl kn rfl hk2 ?_
  exact WL_nil ⟨(Ext.refl _), rfl⟩
 apply AnyR_val [56] rfl (by kernel_rfl)
 · --
  intro y11 hy11
  have zy11 := hy11.size
  refine AllV_v ?_
  refine AllV_nil ?_
  refine M_load Try.underlying3 rfl rfl rfl rfl ((hr.ext e4).ext hy11).sl hk2 ?_
  exact WL_nil ⟨(Ext.refl _), rfl⟩
 apply AnyR_val [9] rfl (by kernel_rfl)
 · --
  intro y12 hy12
  have zy12 := hy12.size
  refine AllV_nil ?_
  refine O_move rfl rfl rfl ?_
  exact WL_nil ⟨(Ext.refl _), rfl⟩
 apply AnyR_val [58] rfl (by kernel_rfl)
 · --
  intro y13 hy13
  have zy13 := hy13.size
  refine AllV_v ?_
  refine AllV_nil ?_
  refine O_nilCheck rfl rfl rfl ?_
  exact WL_nil ⟨(Ext.refl _), rfl⟩
 apply AnyR_val [59] rfl (by kernel_rfl)
 · --
  intro y14 hy14
  have zy14 := hy14.size
  refine AllV_v ?_
  refine AllV_nil ?_
  refine O_field F32_2 rfl rfl rfl ?_
  exact WL_nil ⟨(Ext.refl _), rfl⟩
 apply AnyR_val [60] rfl (by kernel_rfl)
 · --
  intro y15 hy15
  have zy15 := hy15.size
  refine AllV_v ?_
  refine AllV_nil ?_
  refine O_loadC Try.underlying30 rfl rfl rfl rfl ((hx.ext e4).ext hy15) rfl ?_
  exact WL_nil ⟨(Ext.refl _), rfl⟩
 apply AnyR_val [11] rfl (by kernel_rfl)
 · --
  intro y16 hy16
  have zy16 := hy16.size
  refine AllV_nil ?_
  refine O_move rfl rfl rfl ?_
  exact WL_nil ⟨(Ext.refl _), rfl⟩
 apply AnyR_val [61, 62] rfl (by kernel_rfl)
 · --
  intro y17 hy17
  have zy17 := hy17.size
  refine AllV_v ?_
  refine AllV_v ?_
  refine AllV_nil ?_
  refine M_index M30 rfl rfl rfl rfl ((hv.ext e4).ext hy17).sl kn rfl hk4 ?_
  exact WL_nil ⟨(Ext.refl _), rfl⟩
 apply AnyR_val [63] rfl (by kernel_rfl)
 · --
  intro y18 hy18
  have zy18 := hy18.size
  refine AllV_v ?_
  refine AllV_nil ?_
  refine M_load Try.underlying34 rfl rfl rfl rfl ((hv.ext e4).ext hy18).sl hk4 ?_
  exact WL_nil ⟨(Ext.refl _), rfl⟩
 apply AnyR_val [57] rfl (by kernel_rfl)
 · --
  intro y19 hy19
  have zy19 := hy19.size
  refine AllV_v ?_
  refine AllV_nil ?_
  refine O_assign rfl rfl rfl ?_
  exact WL_nil ⟨(Ext.refl _), rfl⟩
 refine AnyR_nil fun y20 hy20 => ?_
 have zy20 := hy20.size
 refine AllV_v ?_
 refine AllV_v ?_
 refine AllV_v ?_
 refine AllV_v ?_
 refine AllV_v ?_
 refine AllV_v ?_
 refine AllV_v ?_
 refine AllV_v ?_
 refine AllV_v ?_
 refine AllV_v ?_
 refine AllV_v ?_
 refine AllV_v ?_
 refine AllV_v ?_
 refine AllV_v ?_
 refine AllV_v ?_
 refine AllV_nil ?_
 refine O_assign rfl rfl rfl ?_
 refine WL_end [(1, _), (2, _), (9, _), (12, _), (13, _)] ⟨rfl, rfl, rfl, rfl, rfl, trivial⟩ ?_
 refine WP_seq ?_
 refine WP_region ?_
 have hEW : Ext w y20 := ((((e1.trans e2).trans e3).trans e4).trans hy20)
 have zEW := hEW.size
 have k22 := (hl.ext ((((e1.trans e2).trans e3).trans e4).trans hy20))
 have k23 := ((hx.ext e4).ext hy20)
 have k24 := ((hF.ext e4).ext hy20)
 have k25 := ((hr.ext e4).ext hy20)
 have k26 := ((hv.ext e4).ext hy20)
 have k27 := ((hLL.ext e4).ext hy20)
 refine O_move rfl rfl rfl ?_
 refine M_lit M52 rfl rfl fS [_, _, _, _] (by intro a _; rfl) rfl rfl rfl rfl rfl (fun v28 w28 o28 e28 => ?_)
 have z28 := e28.size
 refine O_assign rfl rfl rfl ?_
 refine WL_end [(2, _), (9, _), (12, _), (13, _), (14, _)] ⟨rfl, rfl, rfl, rfl, rfl, trivial⟩ ?_
 refine WP_seq ?_
 refine WP_seq ?_
 refine WP_region ?_
 refine O_move rfl rfl rfl ?_
 refine B_len Ebind rfl rfl rfl ((k27.ext e28).at_ hk4 hk3).sl ?_
 refine O_move rfl rfl rfl ?_
 refine WL_end [(2, _), (9, _), (12, _), (13, _), (14, _), (67, _), (68, _), (69, _)] ⟨rfl, rfl, rfl, rfl, rfl, rfl, rfl, rfl, trivial⟩ ?_
 refine WP_block ?_
 refine WP_loop (S := Nat × Value × List ByteArray) (fun (j, vn, ns) => [(2, .int .i64 x), (9, .pointer (some ⟨gx, 0, none⟩)), (12, .int .i64 rs[kn]), (13, lv[kn]), (14, vn), (67, lv[kn]), (68, .int .i64 (ts[kn].env.length : Nat)), (69, .int .i64 (j : Nat))]) (fun (j, vn, ns) w' => Ext y20 w' ∧ OwM fS y20.heap.size 9 w' vn ns ∧ j ≤ ts[kn].env.length ∧ ns.length = 4 + 2 * j) (fun (j, vn, ns) => ts[kn].env.length - j) (0, v28, [_, _, _, _]) ⟨rfl, rfl, rfl, rfl, rfl, rfl, rfl, rfl, trivial⟩ ⟨e28, o28, Nat.zero_le _, by simp⟩ ?_
 rintro ⟨j, vn, ns⟩ w9 ⟨hE, hvn, hj, hnl⟩
 show WP _ _ _ _ _ [(2, .int .i64 x), (9, .pointer (some ⟨gx, 0, none⟩)), (12, .int .i64 rs[kn]), (13, lv[kn]), (14, vn), (67, lv[kn]), (68, .int .i64 (ts[kn].env.length : Nat)), (69, .int .i64 (j : Nat))] _
 have zE := hE.size
 refine WP_seq ?_
 refine WP_region ?_
 refine O_lss rfl rfl rfl rfl rfl ?_
 refine WL_end [(2, _), (9, _), (12, _), (13, _), (14, _), (67, _), (68, _), (69, _), (70, _)] ⟨rfl, rfl, rfl, rfl, rfl, rfl, rfl, rfl, rfl, trivial⟩ ?_
 refine WP_seq ?_
 refine WP_condD rfl (fun c70 => ?_) (fun c70 => ?_)
 · --
  refine WP_skip ?_
  refine WP_seq ?_
  refine WP_block ?_
  refine WP_seq ?_
  have hj1 : j < ts[kn].env.length := by omega
  have hjs := hnmk _ (List.getElem_mem hj1)
  · --
   skip
   refine WP_region ?_
   refine B_index Ebind rfl rfl rfl rfl ((k27.ext hE).at_ hk4 hk3).sl j rfl hj1 (fun _ => ?_)
   refine K_load S54 rfl rfl rfl (SlB.row (j := j) ((k27.ext hE).at_ hk4 hk3).sl hj1) rfl ?_
   refine O_alloc S54 rfl rfl (fun g29 w29 b29 e29 gl29 gh29 => ?_)
   have z29 := e29.size
   refine O_storeA (cs' := [_, _]) S54 rfl rfl rfl b29 rfl rfl (one_cons rfl (one_cons rfl one_nil)) rfl (fun w30 b30 q30 => ?_)
   have z30 := Nat.le_of_eq q30.size.symm
   have e30 : Ext y20 w30 := q30.ext (hE.trans e29) (by omega)
   refine WL_end [(2, _), (9, _), (12, _), (13, _), (14, _), (16, _), (67, _), (68, _), (69, _)] ⟨rfl, rfl, rfl, rfl, rfl, rfl, rfl, rfl, rfl, trivial⟩ ?_
   refine WP_region ?_
   refine O_move rfl rfl rfl ?_
   refine O_field F54_0 rfl rfl rfl ?_
   refine O_loadC Try.underlying9 rfl rfl rfl rfl b30 rfl ?_
   refine O_field F54_0 rfl rfl rfl ?_
   refine O_loadC Try.underlying9 rfl rfl rfl rfl b30 rfl ?_
   refine O_saddX rfl rfl rfl rfl (by have : (ByteArray.mk #[97]).size = 1 := rfl; omega) ?_
   refine M_lit M52 rfl rfl fS [_, _] (by intro a _; rfl) rfl rfl rfl rfl rfl (fun v31 w31 o31 e31 => ?_)
   have z31 := e31.size
   refine M_append M52 rfl rfl rfl rfl rfl (((hvn.ext e29).extT (Chg.toT q30 b29) (by decide)).ext e31) o31.sl (by simp) (by intro a _; rfl) (by simp only [List.length_cons, List.length_nil]; omega) rfl (by omega) (fun v32 w32 o32 r32 q32 => ?_)
   have e32 : Ext y20 w32 := (((hvn.ext e29).extT (Chg.toT q30 b29) (by decide)).ext e31).ext_grown r32 (e30.trans e31) (by omega)
   have z32 := r32.size
   have x32 := OwM.grownT (((hvn.ext e29).extT (Chg.toT q30 b29) (by decide)).ext e31) r32
   refine O_assign rfl rfl rfl ?_
   refine WL_end [(2, _), (9, _), (12, _), (13, _), (14, _), (67, _), (68, _), (69, _)] ⟨rfl, rfl, rfl, rfl, rfl, rfl, rfl, rfl, trivial⟩ ?_
   refine WP_region ?_
   refine O_add rfl rfl rfl rfl (wrap_i64_id (by omega) (by omega)) ?_
   refine O_move rfl rfl rfl ?_
   refine WL_end [(2, _), (9, _), (12, _), (13, _), (14, _), (67, _), (68, _), (69, _)] ⟨rfl, rfl, rfl, rfl, rfl, rfl, rfl, rfl, trivial⟩ ?_
   exact ⟨(j + 1, _, _), ⟨rfl, rfl, rfl, rfl, rfl, rfl, rfl, rfl, trivial⟩, ⟨e32, o32, by omega, by simp only [List.length_append, List.length_cons, List.length_nil]; omega⟩, by dsimp only; omega⟩
 · --
  refine WP_exit ?_
  refine inBlk_hit ?_
  refine WP_seq ?_
  refine WP_seq ?_
  refine WP_region ?_
  refine O_move rfl rfl rfl ?_
  refine M_len M52 rfl rfl rfl hvn.sl ?_
  refine O_move rfl rfl rfl ?_
  refine WL_end [(2, _), (9, _), (12, _), (13, _), (82, _), (83, _), (84, _)] ⟨rfl, rfl, rfl, rfl, rfl, rfl, rfl, trivial⟩ ?_
  refine WP_block ?_
  refine WP_loop (S := Nat) (fun j => [(2, .int .i64 x), (9, .pointer (some ⟨gx, 0, none⟩)), (12, .int .i64 rs[kn]), (13, lv[kn]), (82, vn), (83, .int .i64 (ns.length : Nat)), (84, .int .i64 (j : Nat))]) (fun j w' => Ext y20 w' ∧ OwM fS y20.heap.size 9 w' vn ns ∧ j ≤ ns.length) (fun j => ns.length - j) 0 ⟨rfl, rfl, rfl, rfl, rfl, rfl, rfl, trivial⟩ ⟨hE, hvn, Nat.zero_le _⟩ ?_
  rintro j w8 ⟨hE8, hvn8, hj8⟩
  have zE8 := hE8.size
  refine WP_seq ?_
  refine WP_region ?_
  refine O_lss rfl rfl rfl rfl rfl ?_
  refine WL_end [(2, _), (9, _), (12, _), (13, _), (82, _), (83, _), (84, _), (85, _)] ⟨rfl, rfl, rfl, rfl, rfl, rfl, rfl, rfl, trivial⟩ ?_
  refine WP_seq ?_
  refine WP_condD rfl (fun c85 => ?_) (fun c85 => ?_)
  · --
   refine WP_skip ?_
   refine WP_seq ?_
   refine WP_block ?_
   refine WP_seq ?_
   have hj1 : j < ns.length := by omega
   · --
    skip
    refine WP_region ?_
    refine M_index M52 rfl rfl rfl rfl hvn8.sl j rfl hj1 ?_
    refine M_load Try.underlying9 rfl rfl rfl rfl hvn8.sl hj1 ?_
    refine O_assign rfl rfl rfl ?_
    refine WL_end [(2, _), (9, _), (12, _), (13, _), (18, _), (82, _), (83, _), (84, _)] ⟨rfl, rfl, rfl, rfl, rfl, rfl, rfl, rfl, trivial⟩ ?_
    refine WP_seq ?_
    refine WP_region ?_
    refine O_move rfl rfl rfl ?_
    refine O_nilCheck rfl rfl rfl ?_
    refine O_field F32_0 rfl rfl rfl ?_
    refine O_loadC Try.underlying29 rfl rfl rfl rfl (k23.ext hE8) rfl ?_
    refine O_move rfl rfl rfl ?_
    refine O_move rfl rfl rfl ?_
    refine O_call enters33 rfl rfl rfl (Get_G (k24.ext hE8) hRk hOk _) (fun v33 w33 e33 h33 => ?_)
    have z33 := e33.size
    try simp only [val_dig] at h33
    obtain rfl := h33
    refine O_move rfl rfl rfl ?_
    refine O_extract rfl rfl rfl rfl ?_
    refine O_extract rfl rfl rfl rfl ?_
    refine O_assign rfl rfl rfl ?_
    refine O_assign rfl rfl rfl ?_
    refine WL_end [(2, _), (9, _), (12, _), (13, _), (18, _), (19, _), (20, _), (82, _), (83, _), (84, _)] ⟨rfl, rfl, rfl, rfl, rfl, rfl, rfl, rfl, rfl, rfl, trivial⟩ ?_
    refine WP_seq ?_
    refine WP_region ?_
    refine O_move rfl rfl rfl ?_
    refine O_move rfl rfl rfl ?_
    refine O_call enters36 rfl rfl rfl (RGet_c ((k27.ext (hE8.trans e33)).at_ hk4 hk3).sl (by (try simp only [lens]); omega)) (fun v34 w34 e34 h34 => ?_)
    have z34 := e34.size
    try simp only [val_dig] at h34
    obtain rfl := h34
    refine O_move rfl rfl rfl ?_
    refine O_extract rfl rfl rfl rfl ?_
    refine O_extract rfl rfl rfl rfl ?_
    refine O_assign rfl rfl rfl ?_
    refine O_assign rfl rfl rfl ?_
    refine WL_end [(2, _), (9, _), (12, _), (13, _), (18, _), (19, _), (20, _), (21, _), (22, _), (82, _), (83, _), (84, _)] ⟨rfl, rfl, rfl, rfl, rfl, rfl, rfl, rfl, rfl, rfl, rfl, rfl, trivial⟩ ?_
    refine WP_seq ?_
    refine WP_region ?_
    refine O_move rfl rfl rfl ?_
    refine O_move rfl rfl rfl ?_
    refine O_neq (t := false) rfl rfl rfl rfl (decide_eq_false (fun h => h rfl)) ?_
    refine O_move rfl rfl rfl ?_
    refine O_move rfl rfl rfl ?_
    refine O_move rfl rfl rfl ?_
    refine O_bneq Try.underlying4 (t := false) rfl rfl rfl rfl (by simp) ?_
    refine O_pickF rfl rfl rfl rfl ?_
    refine O_move rfl rfl rfl ?_
    refine O_move rfl rfl rfl ?_
    refine O_nilCheck rfl rfl rfl ?_
    refine O_field F32_0 rfl rfl rfl ?_
    refine O_loadC Try.underlying29 rfl rfl rfl rfl (k23.ext ((hE8.trans e33).trans e34)) rfl ?_
    refine O_move rfl rfl rfl ?_
    refine O_move rfl rfl rfl ?_
    refine O_call enters37 rfl rfl rfl (Rank_G (k24.ext ((hE8.trans e33).trans e34)) hRk hOk (by (try simp only [lens]); omega) _) (fun v35 w35 e35 h35 => ?_)
    have z35 := e35.size
    obtain rfl := h35
    refine O_move rfl rfl rfl ?_
    refine O_move rfl rfl rfl ?_
    refine O_call enters38 rfl rfl rfl (RRank_c ((k27.ext (((hE8.trans e33).trans e34).trans e35)).at_ hk4 hk3).sl (by (try simp only [lens]); omega)) (fun v36 w36 e36 h36 => ?_)
    have z36 := e36.size
    obtain rfl := h36
    refine O_neq (t := false) rfl rfl rfl rfl (decide_eq_false (fun h => h rfl)) ?_
    refine O_pickF rfl rfl rfl rfl ?_
    refine WL_end [(2, _), (9, _), (12, _), (13, _), (82, _), (83, _), (84, _), (124, _)] ⟨rfl, rfl, rfl, rfl, rfl, rfl, rfl, rfl, trivial⟩ ?_
    refine WP_condF rfl ?_
    refine WP_skip ?_
    refine WP_region ?_
    refine O_add rfl rfl rfl rfl (wrap_i64_id (by omega) (by omega)) ?_
    refine O_move rfl rfl rfl ?_
    refine WL_end [(2, _), (9, _), (12, _), (13, _), (82, _), (83, _), (84, _)] ⟨rfl, rfl, rfl, rfl, rfl, rfl, rfl, trivial⟩ ?_
    exact ⟨j + 1, ⟨rfl, rfl, rfl, rfl, rfl, rfl, rfl, trivial⟩, ⟨((((hE8.trans e33).trans e34).trans e35).trans e36), ((((hvn8.ext e33).ext e34).ext e35).ext e36), by omega⟩, by omega⟩
  · --
   refine WP_exit ?_
   refine inBlk_hit ?_
   refine WP_seq ?_
   refine WP_seq ?_
   refine WP_region ?_
   refine O_move rfl rfl rfl ?_
   refine O_move rfl rfl rfl ?_
   refine O_move rfl rfl rfl ?_
   refine B_len Ebind rfl rfl rfl ((k27.ext hE8).at_ hk4 hk3).sl ?_
   refine O_add rfl rfl rfl rfl (wrap_i64_id (by omega) (by omega)) ?_
   refine O_call enters18 rfl rfl rfl (modN_c (by (try simp only [lens]); omega) (by (try simp only [lens]); omega)) (fun v37 w37 e37 h37 => ?_)
   have z37 := e37.size
   obtain ⟨k2, rfl, hk2⟩ := h37
   refine O_move rfl rfl rfl ?_
   refine B_len Ebind rfl rfl rfl ((k27.ext (hE8.trans e37)).at_ hk4 hk3).sl ?_
   refine O_sub rfl rfl rfl rfl (wrap_i64_id (by omega) (by omega)) ?_
   refine M_lit M22 rfl rfl fI [x, (k2 : Int), -1, 0, (ts[kn].env.length : Int) - 1] (by intro a _; rfl) rfl rfl rfl rfl rfl (fun v38 w38 o38 e38 => ?_)
   have z38 := e38.size
   refine M_len M22 rfl rfl rfl o38.sl ?_
   refine O_move rfl rfl rfl ?_
   refine WL_end [(9, _), (12, _), (13, _), (135, _), (136, _), (137, _)] ⟨rfl, rfl, rfl, rfl, rfl, rfl, trivial⟩ ?_
   refine WP_block ?_
   refine WP_loop (S := Nat) (fun j => [(9, .pointer (some ⟨gx, 0, none⟩)), (12, .int .i64 rs[kn]), (13, lv[kn]), (135, v38), (136, .int .i64 ((([x, (k2 : Int), -1, 0, (ts[kn].env.length : Int) - 1] : List Int).length : Nat) : Int)), (137, .int .i64 (j : Nat))]) (fun j w' => Ext y20 w' ∧ OwM fI y20.heap.size 3 w' v38 [x, (k2 : Int), -1, 0, (ts[kn].env.length : Int) - 1] ∧ j ≤ 5) (fun j => 5 - j) 0 ⟨rfl, rfl, rfl, rfl, rfl, rfl, trivial⟩ ⟨((hE8.trans e37).trans e38), (o38).mono (by omega), Nat.zero_le _⟩ ?_
   rintro j w7 ⟨hE7, hxs7, hj7⟩
   have zE7 := hE7.size
   refine WP_seq ?_
   refine WP_region ?_
   refine O_lss rfl rfl rfl rfl rfl ?_
   refine WL_end [(9, _), (12, _), (13, _), (135, _), (136, _), (137, _), (138, _)] ⟨rfl, rfl, rfl, rfl, rfl, rfl, rfl, trivial⟩ ?_
   refine WP_seq ?_
   refine WP_condD rfl (fun c138 => ?_) (fun c138 => ?_)
   · --
    refine WP_skip ?_
    refine WP_seq ?_
    refine WP_block ?_
    refine WP_seq ?_
    have hj5 : j < ([x, (k2 : Int), -1, 0, (ts[kn].env.length : Int) - 1] : List Int).length := by omega
    have hj6 : j < 5 := hj5
    · --
     skip
     refine WP_region ?_
     refine M_index M22 rfl rfl rfl rfl hxs7.sl j rfl hj5 ?_
     refine M_load Try.underlying3 rfl rfl rfl rfl hxs7.sl hj5 ?_
     have hyb : ∀ y ∈ ([x, (k2 : Int), -1, 0, (ts[kn].env.length : Int) - 1] : List Int), -9223372036854775808 ≤ y ∧ y ≤ 9223372036854775807 := by
       intro y hy
       simp only [List.mem_cons, List.not_mem_nil, or_false] at hy
       rcases hy with rfl | rfl | rfl | rfl | rfl <;> omega
     obtain ⟨hy1, hy2⟩ := hyb _ (List.getElem_mem hj5)
     generalize ([x, (k2 : Int), -1, 0, (ts[kn].env.length : Int) - 1] : List Int)[j] = y at hy1 hy2 ⊢
     refine O_assign rfl rfl rfl ?_
     refine WL_end [(9, _), (12, _), (13, _), (24, _), (135, _), (136, _), (137, _)] ⟨rfl, rfl, rfl, rfl, rfl, rfl, rfl, trivial⟩ ?_
     refine WP_seq ?_
     rcases hn : Tr.nth ts[kn].env y with _ | b
     by_cases hy0 : 0 ≤ y
     · --
      have hy5 : ¬ y < (ts[kn].env.length : Int) := by
        intro h
        unfold Tr.nth at hn
        rw [if_pos hy0, List.getElem?_eq_getElem (by omega)] at hn
        cases hn
      refine WP_region ?_
      refine O_move rfl rfl rfl ?_
      refine O_nilCheck rfl rfl rfl ?_
      refine O_field F32_0 rfl rfl rfl ?_
      refine O_loadC Try.underlying29 rfl rfl rfl rfl (k23.ext hE7) rfl ?_
      refine O_move rfl rfl rfl ?_
      refine O_move rfl rfl rfl ?_
      refine O_call enters39 rfl rfl rfl (At_none (k24.ext hE7) hRk (by (try simp only [lens]); omega) hy1 hy2 hn) (fun v39 w39 e39 h39 => ?_)
      have z39 := e39.size
      obtain rfl := h39
      refine O_move rfl rfl rfl ?_
      refine O_extract rfl rfl rfl rfl ?_
      refine O_extract rfl rfl rfl rfl ?_
      refine O_alloc S54 rfl rfl (fun g40 w40 b40 e40 gl40 gh40 => ?_)
      have z40 := e40.size
      refine O_storeA (cs' := [_, _]) S54 rfl rfl rfl b40 rfl rfl (one_cons rfl (one_cons rfl one_nil)) rfl (fun w41 b41 q41 => ?_)
      have z41 := Nat.le_of_eq q41.size.symm
      have e41 : Ext y20 w41 := q41.ext ((hE7.trans e39).trans e40) (by omega)
      refine O_assign rfl rfl rfl ?_
      refine WL_end [(9, _), (12, _), (13, _), (24, _), (25, _), (26, _), (135, _), (136, _), (137, _)] ⟨rfl, rfl, rfl, rfl, rfl, rfl, rfl, rfl, rfl, trivial⟩ ?_
      refine WP_seq ?_
      refine WP_sub [(9, _), (12, _), (13, _), (24, _), (25, _), (26, _), (135, _), (136, _), (137, _)] ⟨rfl, rfl, rfl, rfl, rfl, rfl, rfl, rfl, rfl, trivial⟩ ?_
      refine WP_anyR 30 [9, 12, 13, 24, 25, 26, 135, 136, 137] mixed rfl (by kernel_rfl) ?_
      apply AnyR_val [26] rfl (by kernel_rfl)
      · --
       intro y42 hy42
       have zy42 := hy42.size
       refine AllV_nil ?_
       refine O_move rfl rfl rfl ?_
       exact WL_nil ⟨(Ext.refl _), rfl⟩
      apply AnyR_val [24] rfl (by kernel_rfl)
      · --
       intro y43 hy43
       have zy43 := hy43.size
       refine AllV_nil ?_
       refine O_move rfl rfl rfl ?_
       exact WL_nil ⟨(Ext.refl _), rfl⟩
      apply AnyR_val [152] rfl (by kernel_rfl)
      · --
       intro y44 hy44
       have zy44 := hy44.size
       refine AllV_v ?_
       refine AllV_nil ?_
       refine O_geq (t := true) rfl rfl rfl rfl (decide_eq_true hy0) ?_
       exact WL_nil ⟨(Ext.refl _), rfl⟩
      apply AnyR_val [153] rfl (by kernel_rfl)
      · --
       intro y45 hy45
       have zy45 := hy45.size
       refine AllV_v ?_
       refine AllV_nil ?_
       refine O_move rfl rfl rfl ?_
       exact WL_nil ⟨(Ext.refl _), rfl⟩
      apply AnyR_val [154, 24] rfl (by kernel_rfl)
      · --
       intro y46 hy46
       have zy46 := hy46.size
       refine AllV_v ?_
       refine AllV_nil ?_
       refine O_move rfl rfl rfl ?_
       exact WL_nil ⟨(Ext.refl _), rfl⟩
      apply AnyR_val [154, 13] rfl (by kernel_rfl)
      · --
       intro y47 hy47
       have zy47 := hy47.size
       refine AllV_v ?_
       refine AllV_nil ?_
       refine O_move rfl rfl rfl ?_
       exact WL_nil ⟨(Ext.refl _), rfl⟩
      apply AnyR_val [154, 156] rfl (by kernel_rfl)
      · --
       intro y48 hy48
       have zy48 := hy48.size
       refine AllV_v ?_
       refine AllV_v ?_
       refine AllV_nil ?_
       refine B_len Ebind rfl rfl rfl ((k27.ext (e41.trans hy48)).at_ hk4 hk3).sl ?_
       exact WL_nil ⟨(Ext.refl _), rfl⟩
      apply AnyR_val [154, 155, 157] rfl (by kernel_rfl)
      · --
       intro y49 hy49
       have zy49 := hy49.size
       refine AllV_v ?_
       refine AllV_v ?_
       refine AllV_v ?_
       refine AllV_nil ?_
       refine O_lss (t := false) rfl rfl rfl rfl (decide_eq_false hy5) ?_
       exact WL_nil ⟨(Ext.refl _), rfl⟩
      apply AnyR_val [154, 158] rfl (by kernel_rfl)
      · --
       intro y50 hy50
       have zy50 := hy50.size
       refine AllV_v ?_
       refine AllV_v ?_
       refine AllV_nil ?_
       refine O_pickT rfl rfl rfl rfl ?_
       exact WL_nil ⟨(Ext.refl _), rfl⟩
      apply AnyR_val [151, 159] rfl (by kernel_rfl)
      · --
       intro y51 hy51
       have zy51 := hy51.size
       refine AllV_v ?_
       refine AllV_v ?_
       refine AllV_nil ?_
       refine O_bneq Try.underlying4 (t := false) rfl rfl rfl rfl rfl ?_
       exact WL_nil ⟨(Ext.refl _), rfl⟩
      apply AnyR_val [160] rfl (by kernel_rfl)
      · --
       intro y52 hy52
       have zy52 := hy52.size
       refine AllV_v ?_
       refine AllV_nil ?_
       refine O_move rfl rfl rfl ?_
       exact WL_nil ⟨(Ext.refl _), rfl⟩
      apply AnyR_val [161, 26] rfl (by kernel_rfl)
      · --
       intro y53 hy53
       have zy53 := hy53.size
       refine AllV_v ?_
       refine AllV_nil ?_
       refine O_move rfl rfl rfl ?_
       exact WL_nil ⟨(Ext.refl _), rfl⟩
      apply AnyR_val [161, 162] rfl (by kernel_rfl)
      · --
       intro y54 hy54
       have zy54 := hy54.size
       refine AllV_v ?_
       refine AllV_v ?_
       refine AllV_nil ?_
       refine O_move rfl rfl rfl ?_
       exact WL_nil ⟨(Ext.refl _), rfl⟩
      apply AnyR_val [163, 25] rfl (by kernel_rfl)
      · --
       intro y55 hy55
       have zy55 := hy55.size
       refine AllV_v ?_
       refine AllV_nil ?_
       refine O_skip rfl rfl ?_
       exact WL_nil ⟨(Ext.refl _), rfl⟩
      apply AnyR_val [163, 13] rfl (by kernel_rfl)
      · --
       intro y56 hy56
       have zy56 := hy56.size
       refine AllV_v ?_
       refine AllV_nil ?_
       refine O_skip rfl rfl ?_
       exact WL_nil ⟨(Ext.refl _), rfl⟩
      apply AnyR_val [163, 24] rfl (by kernel_rfl)
      · --
       intro y57 hy57
       have zy57 := hy57.size
       refine AllV_v ?_
       refine AllV_nil ?_
       refine O_skip rfl rfl ?_
       exact WL_nil ⟨(Ext.refl _), rfl⟩
      apply AnyR_val [163, 165, 166] rfl (by kernel_rfl)
      · --
       intro y58 hy58
       have zy58 := hy58.size
       refine AllV_v ?_
       refine AllV_v ?_
       refine AllV_v ?_
       refine AllV_nil ?_
       refine O_skip rfl rfl ?_
       exact WL_nil ⟨(Ext.refl _), rfl⟩
      apply AnyR_val [163, 167] rfl (by kernel_rfl)
      · --
       intro y59 hy59
       have zy59 := hy59.size
       refine AllV_v ?_
       refine AllV_v ?_
       refine AllV_nil ?_
       refine O_skip rfl rfl ?_
       exact WL_nil ⟨(Ext.refl _), rfl⟩
      apply AnyR_val [163, 164, 168] rfl (by kernel_rfl)
      · --
       intro y60 hy60
       have zy60 := hy60.size
       refine AllV_v ?_
       refine AllV_v ?_
       refine AllV_v ?_
       refine AllV_nil ?_
       refine O_skip rfl rfl ?_
       exact WL_nil ⟨(Ext.refl _), rfl⟩
      apply AnyR_val [161, 163, 169] rfl (by kernel_rfl)
      · --
       intro y61 hy61
       have zy61 := hy61.size
       refine AllV_v ?_
       refine AllV_v ?_
       refine AllV_v ?_
       refine AllV_nil ?_
       refine O_pickF rfl rfl rfl rfl ?_
       exact WL_nil ⟨(Ext.refl _), rfl⟩
      apply AnyR_val [161, 170] rfl (by kernel_rfl)
      · --
       intro y62 hy62
       have zy62 := hy62.size
       refine AllV_v ?_
       refine AllV_v ?_
       refine AllV_nil ?_
       refine O_pickF rfl rfl rfl rfl ?_
       exact WL_nil ⟨(Ext.refl _), rfl⟩
      apply AnyR_val [171] rfl (by kernel_rfl)
      · --
       intro y63 hy63
       have zy63 := hy63.size
       refine AllV_v ?_
       refine AllV_nil ?_
       refine O_move rfl rfl rfl ?_
       exact WL_nil ⟨(Ext.refl _), rfl⟩
      apply AnyR_val [172, 26] rfl (by kernel_rfl)
      · --
       intro y64 hy64
       have zy64 := hy64.size
       refine AllV_v ?_
       refine AllV_nil ?_
       refine O_move rfl rfl rfl ?_
       exact WL_nil ⟨(Ext.refl _), rfl⟩
      apply AnyR_val [172, 173] rfl (by kernel_rfl)
      · --
       intro y65 hy65
       have zy65 := hy65.size
       refine AllV_v ?_
       refine AllV_v ?_
       refine AllV_nil ?_
       refine O_not rfl rfl rfl rfl ?_
       exact WL_nil ⟨(Ext.refl _), rfl⟩
      apply AnyR_val [172, 174] rfl (by kernel_rfl)
      · --
       intro y66 hy66
       have zy66 := hy66.size
       refine AllV_v ?_
       refine AllV_v ?_
       refine AllV_nil ?_
       refine O_move rfl rfl rfl ?_
       exact WL_nil ⟨(Ext.refl _), rfl⟩
      apply AnyR_val [175, 25] rfl (by kernel_rfl)
      · --
       intro y67 hy67
       have zy67 := hy67.size
       refine AllV_v ?_
       refine AllV_nil ?_
       refine O_loadA (vs := [_, _]) S54 rfl rfl rfl (b41.ext hy67) rfl rfl ?_
       exact WL_nil ⟨(Ext.refl _), rfl⟩
      apply AnyR_val [175] rfl (by kernel_rfl)
      · --
       intro y68 hy68
       have zy68 := hy68.size
       refine AllV_v ?_
       refine AllV_nil ?_
       refine O_build (cs := [_, _]) B54 rfl rfl rfl cells_nil rfl ?_
       exact WL_nil ⟨(Ext.refl _), rfl⟩
      apply AnyR_val [175, 176, 177] rfl (by kernel_rfl)
      · --
       intro y69 hy69
       have zy69 := hy69.size
       refine AllV_v ?_
       refine AllV_v ?_
       refine AllV_v ?_
       refine AllV_nil ?_
       refine B_neqB (a := (ByteArray.empty, 0)) (b := (ByteArray.empty, 0)) (tb := false) Qbind rfl rfl rfl rfl (by rw [decide_eq_true rfl]; rfl) ?_
       exact WL_nil ⟨(Ext.refl _), rfl⟩
      apply AnyR_val [172, 175, 178] rfl (by kernel_rfl)
      · --
       intro y70 hy70
       have zy70 := hy70.size
       refine AllV_v ?_
       refine AllV_v ?_
       refine AllV_v ?_
       refine AllV_nil ?_
       refine O_pickT rfl rfl rfl rfl ?_
       exact WL_nil ⟨(Ext.refl _), rfl⟩
      apply AnyR_val [172, 179] rfl (by kernel_rfl)
      · --
       intro y71 hy71
       have zy71 := hy71.size
       refine AllV_v ?_
       refine AllV_v ?_
       refine AllV_nil ?_
       refine O_pickF rfl rfl rfl rfl ?_
       exact WL_nil ⟨(Ext.refl _), rfl⟩
      refine AnyR_nil fun y72 hy72 => ?_
      have zy72 := hy72.size
      refine AllV_v ?_
      refine AllV_v ?_
      refine AllV_v ?_
      refine AllV_v ?_
      refine AllV_v ?_
      refine AllV_v ?_
      refine AllV_v ?_
      refine AllV_v ?_
      refine AllV_v ?_
      refine AllV_v ?_
      refine AllV_v ?_
      refine AllV_v ?_
      refine AllV_v ?_
      refine AllV_v ?_
      refine AllV_v ?_
      refine AllV_v ?_
      refine AllV_v ?_
      refine AllV_v ?_
      refine AllV_v ?_
      refine AllV_v ?_
      refine AllV_v ?_
      refine AllV_v ?_
      refine AllV_v ?_
      refine AllV_v ?_
      refine AllV_v ?_
      refine AllV_v ?_
      refine AllV_v ?_
      refine AllV_v ?_
      refine AllV_v ?_
      refine AllV_v ?_
      refine AllV_nil ?_
      refine WL_end [(9, _), (12, _), (13, _), (135, _), (136, _), (137, _), (180, _)] ⟨rfl, rfl, rfl, rfl, rfl, rfl, rfl, trivial⟩ ?_
      refine WP_condF rfl ?_
      refine WP_skip ?_
      refine WP_region ?_
      refine O_add rfl rfl rfl rfl (wrap_i64_id (by omega) (by omega)) ?_
      refine O_move rfl rfl rfl ?_
      refine WL_end [(9, _), (12, _), (13, _), (135, _), (136, _), (137, _)] ⟨rfl, rfl, rfl, rfl, rfl, rfl, trivial⟩ ?_
      exact ⟨j + 1, ⟨rfl, rfl, rfl, rfl, rfl, rfl, trivial⟩, ⟨(e41.trans hy72), ((((hxs7.ext e39).ext e40).extT (Chg.toT q41 b40) (by decide)).ext hy72), by omega⟩, by omega⟩
     · --
      skip
      refine WP_region ?_
      refine O_move rfl rfl rfl ?_
      refine O_nilCheck rfl rfl rfl ?_
      refine O_field F32_0 rfl rfl rfl ?_
      refine O_loadC Try.underlying29 rfl rfl rfl rfl (k23.ext hE7) rfl ?_
      refine O_move rfl rfl rfl ?_
      refine O_move rfl rfl rfl ?_
      refine O_call enters39 rfl rfl rfl (At_none (k24.ext hE7) hRk (by (try simp only [lens]); omega) hy1 hy2 hn) (fun v73 w73 e73 h73 => ?_)
      have z73 := e73.size
      obtain rfl := h73
      refine O_move rfl rfl rfl ?_
      refine O_extract rfl rfl rfl rfl ?_
      refine O_extract rfl rfl rfl rfl ?_
      refine O_alloc S54 rfl rfl (fun g74 w74 b74 e74 gl74 gh74 => ?_)
      have z74 := e74.size
      refine O_storeA (cs' := [_, _]) S54 rfl rfl rfl b74 rfl rfl (one_cons rfl (one_cons rfl one_nil)) rfl (fun w75 b75 q75 => ?_)
      have z75 := Nat.le_of_eq q75.size.symm
      have e75 : Ext y20 w75 := q75.ext ((hE7.trans e73).trans e74) (by omega)
      refine O_assign rfl rfl rfl ?_
      refine WL_end [(9, _), (12, _), (13, _), (24, _), (25, _), (26, _), (135, _), (136, _), (137, _)] ⟨rfl, rfl, rfl, rfl, rfl, rfl, rfl, rfl, rfl, trivial⟩ ?_
      refine WP_seq ?_
      refine WP_sub [(9, _), (12, _), (13, _), (24, _), (25, _), (26, _), (135, _), (136, _), (137, _)] ⟨rfl, rfl, rfl, rfl, rfl, rfl, rfl, rfl, rfl, trivial⟩ ?_
      refine WP_anyR 30 [9, 12, 13, 24, 25, 26, 135, 136, 137] mixed rfl (by kernel_rfl) ?_
      apply AnyR_val [26] rfl (by kernel_rfl)
      · --
       intro y76 hy76
       have zy76 := hy76.size
       refine AllV_nil ?_
       refine O_move rfl rfl rfl ?_
       exact WL_nil ⟨(Ext.refl _), rfl⟩
      apply AnyR_val [24] rfl (by kernel_rfl)
      · --
       intro y77 hy77
       have zy77 := hy77.size
       refine AllV_nil ?_
       refine O_move rfl rfl rfl ?_
       exact WL_nil ⟨(Ext.refl _), rfl⟩
      apply AnyR_val [152] rfl (by kernel_rfl)
      · --
       intro y78 hy78
       have zy78 := hy78.size
       refine AllV_v ?_
       refine AllV_nil ?_
       refine O_geq (t := false) rfl rfl rfl rfl (decide_eq_false hy0) ?_
       exact WL_nil ⟨(Ext.refl _), rfl⟩
      apply AnyR_val [153] rfl (by kernel_rfl)
      · --
       intro y79 hy79
       have zy79 := hy79.size
       refine AllV_v ?_
       refine AllV_nil ?_
       refine O_move rfl rfl rfl ?_
       exact WL_nil ⟨(Ext.refl _), rfl⟩
      apply AnyR_val [154, 24] rfl (by kernel_rfl)
      · --
       intro y80 hy80
       have zy80 := hy80.size
       refine AllV_v ?_
       refine AllV_nil ?_
       refine O_skip rfl rfl ?_
       exact WL_nil ⟨(Ext.refl _), rfl⟩
      apply AnyR_val [154, 13] rfl (by kernel_rfl)
      · --
       intro y81 hy81
       have zy81 := hy81.size
       refine AllV_v ?_
       refine AllV_nil ?_
       refine O_skip rfl rfl ?_
       exact WL_nil ⟨(Ext.refl _), rfl⟩
      apply AnyR_val [154, 156] rfl (by kernel_rfl)
      · --
       intro y82 hy82
       have zy82 := hy82.size
       refine AllV_v ?_
       refine AllV_v ?_
       refine AllV_nil ?_
       refine O_skip rfl rfl ?_
       exact WL_nil ⟨(Ext.refl _), rfl⟩
      apply AnyR_val [154, 155, 157] rfl (by kernel_rfl)
      · --
       intro y83 hy83
       have zy83 := hy83.size
       refine AllV_v ?_
       refine AllV_v ?_
       refine AllV_v ?_
       refine AllV_nil ?_
       refine O_skip rfl rfl ?_
       exact WL_nil ⟨(Ext.refl _), rfl⟩
      apply AnyR_val [154, 158] rfl (by kernel_rfl)
      · --
       intro y84 hy84
       have zy84 := hy84.size
       refine AllV_v ?_
       refine AllV_v ?_
       refine AllV_nil ?_
       refine O_pickF rfl rfl rfl rfl ?_
       exact WL_nil ⟨(Ext.refl _), rfl⟩
      apply AnyR_val [151, 159] rfl (by kernel_rfl)
      · --
       intro y85 hy85
       have zy85 := hy85.size
       refine AllV_v ?_
       refine AllV_v ?_
       refine AllV_nil ?_
       refine O_bneq Try.underlying4 (t := false) rfl rfl rfl rfl rfl ?_
       exact WL_nil ⟨(Ext.refl _), rfl⟩
      apply AnyR_val [160] rfl (by kernel_rfl)
      · --
       intro y86 hy86
       have zy86 := hy86.size
       refine AllV_v ?_
       refine AllV_nil ?_
       refine O_move rfl rfl rfl ?_
       exact WL_nil ⟨(Ext.refl _), rfl⟩
      apply AnyR_val [161, 26] rfl (by kernel_rfl)
      · --
       intro y87 hy87
       have zy87 := hy87.size
       refine AllV_v ?_
       refine AllV_nil ?_
       refine O_move rfl rfl rfl ?_
       exact WL_nil ⟨(Ext.refl _), rfl⟩
      apply AnyR_val [161, 162] rfl (by kernel_rfl)
      · --
       intro y88 hy88
       have zy88 := hy88.size
       refine AllV_v ?_
       refine AllV_v ?_
       refine AllV_nil ?_
       refine O_move rfl rfl rfl ?_
       exact WL_nil ⟨(Ext.refl _), rfl⟩
      apply AnyR_val [163, 25] rfl (by kernel_rfl)
      · --
       intro y89 hy89
       have zy89 := hy89.size
       refine AllV_v ?_
       refine AllV_nil ?_
       refine O_skip rfl rfl ?_
       exact WL_nil ⟨(Ext.refl _), rfl⟩
      apply AnyR_val [163, 13] rfl (by kernel_rfl)
      · --
       intro y90 hy90
       have zy90 := hy90.size
       refine AllV_v ?_
       refine AllV_nil ?_
       refine O_skip rfl rfl ?_
       exact WL_nil ⟨(Ext.refl _), rfl⟩
      apply AnyR_val [163, 24] rfl (by kernel_rfl)
      · --
       intro y91 hy91
       have zy91 := hy91.size
       refine AllV_v ?_
       refine AllV_nil ?_
       refine O_skip rfl rfl ?_
       exact WL_nil ⟨(Ext.refl _), rfl⟩
      apply AnyR_val [163, 165, 166] rfl (by kernel_rfl)
      · --
       intro y92 hy92
       have zy92 := hy92.size
       refine AllV_v ?_
       refine AllV_v ?_
       refine AllV_v ?_
       refine AllV_nil ?_
       refine O_skip rfl rfl ?_
       exact WL_nil ⟨(Ext.refl _), rfl⟩
      apply AnyR_val [163, 167] rfl (by kernel_rfl)
      · --
       intro y93 hy93
       have zy93 := hy93.size
       refine AllV_v ?_
       refine AllV_v ?_
       refine AllV_nil ?_
       refine O_skip rfl rfl ?_
       exact WL_nil ⟨(Ext.refl _), rfl⟩
      apply AnyR_val [163, 164, 168] rfl (by kernel_rfl)
      · --
       intro y94 hy94
       have zy94 := hy94.size
       refine AllV_v ?_
       refine AllV_v ?_
       refine AllV_v ?_
       refine AllV_nil ?_
       refine O_skip rfl rfl ?_
       exact WL_nil ⟨(Ext.refl _), rfl⟩
      apply AnyR_val [161, 163, 169] rfl (by kernel_rfl)
      · --
       intro y95 hy95
       have zy95 := hy95.size
       refine AllV_v ?_
       refine AllV_v ?_
       refine AllV_v ?_
       refine AllV_nil ?_
       refine O_pickF rfl rfl rfl rfl ?_
       exact WL_nil ⟨(Ext.refl _), rfl⟩
      apply AnyR_val [161, 170] rfl (by kernel_rfl)
      · --
       intro y96 hy96
       have zy96 := hy96.size
       refine AllV_v ?_
       refine AllV_v ?_
       refine AllV_nil ?_
       refine O_pickF rfl rfl rfl rfl ?_
       exact WL_nil ⟨(Ext.refl _), rfl⟩
      apply AnyR_val [171] rfl (by kernel_rfl)
      · --
       intro y97 hy97
       have zy97 := hy97.size
       refine AllV_v ?_
       refine AllV_nil ?_
       refine O_move rfl rfl rfl ?_
       exact WL_nil ⟨(Ext.refl _), rfl⟩
      apply AnyR_val [172, 26] rfl (by kernel_rfl)
      · --
       intro y98 hy98
       have zy98 := hy98.size
       refine AllV_v ?_
       refine AllV_nil ?_
       refine O_move rfl rfl rfl ?_
       exact WL_nil ⟨(Ext.refl _), rfl⟩
      apply AnyR_val [172, 173] rfl (by kernel_rfl)
      · --
       intro y99 hy99
       have zy99 := hy99.size
       refine AllV_v ?_
       refine AllV_v ?_
       refine AllV_nil ?_
       refine O_not rfl rfl rfl rfl ?_
       exact WL_nil ⟨(Ext.refl _), rfl⟩
      apply AnyR_val [172, 174] rfl (by kernel_rfl)
      · --
       intro y100 hy100
       have zy100 := hy100.size
       refine AllV_v ?_
       refine AllV_v ?_
       refine AllV_nil ?_
       refine O_move rfl rfl rfl ?_
       exact WL_nil ⟨(Ext.refl _), rfl⟩
      apply AnyR_val [175, 25] rfl (by kernel_rfl)
      · --
       intro y101 hy101
       have zy101 := hy101.size
       refine AllV_v ?_
       refine AllV_nil ?_
       refine O_loadA (vs := [_, _]) S54 rfl rfl rfl (b75.ext hy101) rfl rfl ?_
       exact WL_nil ⟨(Ext.refl _), rfl⟩
      apply AnyR_val [175] rfl (by kernel_rfl)
      · --
       intro y102 hy102
       have zy102 := hy102.size
       refine AllV_v ?_
       refine AllV_nil ?_
       refine O_build (cs := [_, _]) B54 rfl rfl rfl cells_nil rfl ?_
       exact WL_nil ⟨(Ext.refl _), rfl⟩
      apply AnyR_val [175, 176, 177] rfl (by kernel_rfl)
      · --
       intro y103 hy103
       have zy103 := hy103.size
       refine AllV_v ?_
       refine AllV_v ?_
       refine AllV_v ?_
       refine AllV_nil ?_
       refine B_neqB (a := (ByteArray.empty, 0)) (b := (ByteArray.empty, 0)) (tb := false) Qbind rfl rfl rfl rfl (by rw [decide_eq_true rfl]; rfl) ?_
       exact WL_nil ⟨(Ext.refl _), rfl⟩
      apply AnyR_val [172, 175, 178] rfl (by kernel_rfl)
      · --
       intro y104 hy104
       have zy104 := hy104.size
       refine AllV_v ?_
       refine AllV_v ?_
       refine AllV_v ?_
       refine AllV_nil ?_
       refine O_pickT rfl rfl rfl rfl ?_
       exact WL_nil ⟨(Ext.refl _), rfl⟩
      apply AnyR_val [172, 179] rfl (by kernel_rfl)
      · --
       intro y105 hy105
       have zy105 := hy105.size
       refine AllV_v ?_
       refine AllV_v ?_
       refine AllV_nil ?_
       refine O_pickF rfl rfl rfl rfl ?_
       exact WL_nil ⟨(Ext.refl _), rfl⟩
      refine AnyR_nil fun y106 hy106 => ?_
      have zy106 := hy106.size
      refine AllV_v ?_
      refine AllV_v ?_
      refine AllV_v ?_
      refine AllV_v ?_
      refine AllV_v ?_
      refine AllV_v ?_
      refine AllV_v ?_
      refine AllV_v ?_
      refine AllV_v ?_
      refine AllV_v ?_
      refine AllV_v ?_
      refine AllV_v ?_
      refine AllV_v ?_
      refine AllV_v ?_
      refine AllV_v ?_
      refine AllV_v ?_
      refine AllV_v ?_
      refine AllV_v ?_
      refine AllV_v ?_
      refine AllV_v ?_
      refine AllV_v ?_
      refine AllV_v ?_
      refine AllV_v ?_
      refine AllV_v ?_
      refine AllV_v ?_
      refine AllV_v ?_
      refine AllV_v ?_
      refine AllV_v ?_
      refine AllV_v ?_
      refine AllV_v ?_
      refine AllV_nil ?_
      refine WL_end [(9, _), (12, _), (13, _), (135, _), (136, _), (137, _), (180, _)] ⟨rfl, rfl, rfl, rfl, rfl, rfl, rfl, trivial⟩ ?_
      refine WP_condF rfl ?_
      refine WP_skip ?_
      refine WP_region ?_
      refine O_add rfl rfl rfl rfl (wrap_i64_id (by omega) (by omega)) ?_
      refine O_move rfl rfl rfl ?_
      refine WL_end [(9, _), (12, _), (13, _), (135, _), (136, _), (137, _)] ⟨rfl, rfl, rfl, rfl, rfl, rfl, trivial⟩ ?_
      exact ⟨j + 1, ⟨rfl, rfl, rfl, rfl, rfl, rfl, trivial⟩, ⟨(e75.trans hy106), ((((hxs7.ext e73).ext e74).extT (Chg.toT q75 b74) (by decide)).ext hy106), by omega⟩, by omega⟩
     · --
      have hy0 : 0 ≤ y := by
        unfold Tr.nth at hn
        split at hn
        · assumption
        · cases hn
      unfold Tr.nth at hn
      rw [if_pos hy0] at hn
      obtain ⟨hy5, hyb⟩ := List.getElem?_eq_some_iff.1 hn
      have hn : Tr.nth ts[kn].env y = some b := by unfold Tr.nth; rw [if_pos hy0]; exact hn
      refine WP_region ?_
      refine O_move rfl rfl rfl ?_
      refine O_nilCheck rfl rfl rfl ?_
      refine O_field F32_0 rfl rfl rfl ?_
      refine O_loadC Try.underlying29 rfl rfl rfl rfl (k23.ext hE7) rfl ?_
      refine O_move rfl rfl rfl ?_
      refine O_move rfl rfl rfl ?_
      refine O_call enters39 rfl rfl rfl (At_some (k24.ext hE7) hRk (by (try simp only [lens]); omega) hy1 hy2 hn) (fun v107 w107 e107 h107 => ?_)
      have z107 := e107.size
      obtain rfl := h107
      refine O_move rfl rfl rfl ?_
      refine O_extract rfl rfl rfl rfl ?_
      refine O_extract rfl rfl rfl rfl ?_
      refine O_alloc S54 rfl rfl (fun g108 w108 b108 e108 gl108 gh108 => ?_)
      have z108 := e108.size
      refine O_storeA (cs' := [_, _]) S54 rfl rfl rfl b108 rfl rfl (one_cons rfl (one_cons rfl one_nil)) rfl (fun w109 b109 q109 => ?_)
      have z109 := Nat.le_of_eq q109.size.symm
      have e109 : Ext y20 w109 := q109.ext ((hE7.trans e107).trans e108) (by omega)
      refine O_assign rfl rfl rfl ?_
      refine WL_end [(9, _), (12, _), (13, _), (24, _), (25, _), (26, _), (135, _), (136, _), (137, _)] ⟨rfl, rfl, rfl, rfl, rfl, rfl, rfl, rfl, rfl, trivial⟩ ?_
      refine WP_seq ?_
      refine WP_sub [(9, _), (12, _), (13, _), (24, _), (25, _), (26, _), (135, _), (136, _), (137, _)] ⟨rfl, rfl, rfl, rfl, rfl, rfl, rfl, rfl, rfl, trivial⟩ ?_
      refine WP_anyR 30 [9, 12, 13, 24, 25, 26, 135, 136, 137] mixed rfl (by kernel_rfl) ?_
      apply AnyR_val [26] rfl (by kernel_rfl)
      · --
       intro y110 hy110
       have zy110 := hy110.size
       refine AllV_nil ?_
       refine O_move rfl rfl rfl ?_
       exact WL_nil ⟨(Ext.refl _), rfl⟩
      apply AnyR_val [24] rfl (by kernel_rfl)
      · --
       intro y111 hy111
       have zy111 := hy111.size
       refine AllV_nil ?_
       refine O_move rfl rfl rfl ?_
       exact WL_nil ⟨(Ext.refl _), rfl⟩
      apply AnyR_val [152] rfl (by kernel_rfl)
      · --
       intro y112 hy112
       have zy112 := hy112.size
       refine AllV_v ?_
       refine AllV_nil ?_
       refine O_geq (t := true) rfl rfl rfl rfl (decide_eq_true hy0) ?_
       exact WL_nil ⟨(Ext.refl _), rfl⟩
      apply AnyR_val [153] rfl (by kernel_rfl)
      · --
       intro y113 hy113
       have zy113 := hy113.size
       refine AllV_v ?_
       refine AllV_nil ?_
       refine O_move rfl rfl rfl ?_
       exact WL_nil ⟨(Ext.refl _), rfl⟩
      apply AnyR_val [154, 24] rfl (by kernel_rfl)
      · --
       intro y114 hy114
       have zy114 := hy114.size
       refine AllV_v ?_
       refine AllV_nil ?_
       refine O_move rfl rfl rfl ?_
       exact WL_nil ⟨(Ext.refl _), rfl⟩
      apply AnyR_val [154, 13] rfl (by kernel_rfl)
      · --
       intro y115 hy115
       have zy115 := hy115.size
       refine AllV_v ?_
       refine AllV_nil ?_
       refine O_move rfl rfl rfl ?_
       exact WL_nil ⟨(Ext.refl _), rfl⟩
      apply AnyR_val [154, 156] rfl (by kernel_rfl)
      · --
       intro y116 hy116
       have zy116 := hy116.size
       refine AllV_v ?_
       refine AllV_v ?_
       refine AllV_nil ?_
       refine B_len Ebind rfl rfl rfl ((k27.ext (e109.trans hy116)).at_ hk4 hk3).sl ?_
       exact WL_nil ⟨(Ext.refl _), rfl⟩
      apply AnyR_val [154, 155, 157] rfl (by kernel_rfl)
      · --
       intro y117 hy117
       have zy117 := hy117.size
       refine AllV_v ?_
       refine AllV_v ?_
       refine AllV_v ?_
       refine AllV_nil ?_
       refine O_lss (t := true) rfl rfl rfl rfl (decide_eq_true (by omega)) ?_
       exact WL_nil ⟨(Ext.refl _), rfl⟩
      apply AnyR_val [154, 158] rfl (by kernel_rfl)
      · --
       intro y118 hy118
       have zy118 := hy118.size
       refine AllV_v ?_
       refine AllV_v ?_
       refine AllV_nil ?_
       refine O_pickT rfl rfl rfl rfl ?_
       exact WL_nil ⟨(Ext.refl _), rfl⟩
      apply AnyR_val [151, 159] rfl (by kernel_rfl)
      · --
       intro y119 hy119
       have zy119 := hy119.size
       refine AllV_v ?_
       refine AllV_v ?_
       refine AllV_nil ?_
       refine O_bneq Try.underlying4 (t := false) rfl rfl rfl rfl rfl ?_
       exact WL_nil ⟨(Ext.refl _), rfl⟩
      apply AnyR_val [160] rfl (by kernel_rfl)
      · --
       intro y120 hy120
       have zy120 := hy120.size
       refine AllV_v ?_
       refine AllV_nil ?_
       refine O_move rfl rfl rfl ?_
       exact WL_nil ⟨(Ext.refl _), rfl⟩
      apply AnyR_val [161, 26] rfl (by kernel_rfl)
      · --
       intro y121 hy121
       have zy121 := hy121.size
       refine AllV_v ?_
       refine AllV_nil ?_
       refine O_move rfl rfl rfl ?_
       exact WL_nil ⟨(Ext.refl _), rfl⟩
      apply AnyR_val [161, 162] rfl (by kernel_rfl)
      · --
       intro y122 hy122
       have zy122 := hy122.size
       refine AllV_v ?_
       refine AllV_v ?_
       refine AllV_nil ?_
       refine O_move rfl rfl rfl ?_
       exact WL_nil ⟨(Ext.refl _), rfl⟩
      apply AnyR_val [163, 25] rfl (by kernel_rfl)
      · --
       intro y123 hy123
       have zy123 := hy123.size
       refine AllV_v ?_
       refine AllV_nil ?_
       refine O_loadA (vs := [_, _]) S54 rfl rfl rfl (b109.ext hy123) rfl rfl ?_
       exact WL_nil ⟨(Ext.refl _), rfl⟩
      apply AnyR_val [163, 13] rfl (by kernel_rfl)
      · --
       intro y124 hy124
       have zy124 := hy124.size
       refine AllV_v ?_
       refine AllV_nil ?_
       refine O_move rfl rfl rfl ?_
       exact WL_nil ⟨(Ext.refl _), rfl⟩
      apply AnyR_val [163, 24] rfl (by kernel_rfl)
      · --
       intro y125 hy125
       have zy125 := hy125.size
       refine AllV_v ?_
       refine AllV_nil ?_
       refine O_move rfl rfl rfl ?_
       exact WL_nil ⟨(Ext.refl _), rfl⟩
      apply AnyR_val [163, 165, 166] rfl (by kernel_rfl)
      · --
       intro y126 hy126
       have zy126 := hy126.size
       refine AllV_v ?_
       refine AllV_v ?_
       refine AllV_v ?_
       refine AllV_nil ?_
       refine B_index Ebind rfl rfl rfl rfl ((k27.ext (e109.trans hy126)).at_ hk4 hk3).sl y.toNat (by omega) hy5 (fun _ => ?_)
       exact WL_nil ⟨(Ext.refl _), rfl⟩
      apply AnyR_val [163, 167] rfl (by kernel_rfl)
      · --
       intro y127 hy127
       have zy127 := hy127.size
       refine AllV_v ?_
       refine AllV_v ?_
       refine AllV_nil ?_
       refine K_load S54 rfl rfl rfl (SlB.row (j := y.toNat) ((k27.ext (e109.trans hy127)).at_ hk4 hk3).sl hy5) rfl ?_
       exact WL_nil ⟨(Ext.refl _), rfl⟩
      apply AnyR_val [163, 164, 168] rfl (by kernel_rfl)
      · --
       intro y128 hy128
       have zy128 := hy128.size
       refine AllV_v ?_
       refine AllV_v ?_
       refine AllV_v ?_
       refine AllV_nil ?_
       refine B_neqB (a := b) (b := ts[kn].env[y.toNat]) (tb := false) Qbind rfl rfl rfl rfl (by rw [decide_eq_true hyb.symm]; rfl) ?_
       exact WL_nil ⟨(Ext.refl _), rfl⟩
      apply AnyR_val [161, 163, 169] rfl (by kernel_rfl)
      · --
       intro y129 hy129
       have zy129 := hy129.size
       refine AllV_v ?_
       refine AllV_v ?_
       refine AllV_v ?_
       refine AllV_nil ?_
       refine O_pickT rfl rfl rfl rfl ?_
       exact WL_nil ⟨(Ext.refl _), rfl⟩
      apply AnyR_val [161, 170] rfl (by kernel_rfl)
      · --
       intro y130 hy130
       have zy130 := hy130.size
       refine AllV_v ?_
       refine AllV_v ?_
       refine AllV_nil ?_
       refine O_pickF rfl rfl rfl rfl ?_
       exact WL_nil ⟨(Ext.refl _), rfl⟩
      apply AnyR_val [171] rfl (by kernel_rfl)
      · --
       intro y131 hy131
       have zy131 := hy131.size
       refine AllV_v ?_
       refine AllV_nil ?_
       refine O_move rfl rfl rfl ?_
       exact WL_nil ⟨(Ext.refl _), rfl⟩
      apply AnyR_val [172, 26] rfl (by kernel_rfl)
      · --
       intro y132 hy132
       have zy132 := hy132.size
       refine AllV_v ?_
       refine AllV_nil ?_
       refine O_move rfl rfl rfl ?_
       exact WL_nil ⟨(Ext.refl _), rfl⟩
      apply AnyR_val [172, 173] rfl (by kernel_rfl)
      · --
       intro y133 hy133
       have zy133 := hy133.size
       refine AllV_v ?_
       refine AllV_v ?_
       refine AllV_nil ?_
       refine O_not rfl rfl rfl rfl ?_
       exact WL_nil ⟨(Ext.refl _), rfl⟩
      apply AnyR_val [172, 174] rfl (by kernel_rfl)
      · --
       intro y134 hy134
       have zy134 := hy134.size
       refine AllV_v ?_
       refine AllV_v ?_
       refine AllV_nil ?_
       refine O_move rfl rfl rfl ?_
       exact WL_nil ⟨(Ext.refl _), rfl⟩
      apply AnyR_val [175, 25] rfl (by kernel_rfl)
      · --
       intro y135 hy135
       have zy135 := hy135.size
       refine AllV_v ?_
       refine AllV_nil ?_
       refine O_skip rfl rfl ?_
       exact WL_nil ⟨(Ext.refl _), rfl⟩
      apply AnyR_val [175] rfl (by kernel_rfl)
      · --
       intro y136 hy136
       have zy136 := hy136.size
       refine AllV_v ?_
       refine AllV_nil ?_
       refine O_skip rfl rfl ?_
       exact WL_nil ⟨(Ext.refl _), rfl⟩
      apply AnyR_val [175, 176, 177] rfl (by kernel_rfl)
      · --
       intro y137 hy137
       have zy137 := hy137.size
       refine AllV_v ?_
       refine AllV_v ?_
       refine AllV_v ?_
       refine AllV_nil ?_
       refine O_skip rfl rfl ?_
       exact WL_nil ⟨(Ext.refl _), rfl⟩
      apply AnyR_val [172, 175, 178] rfl (by kernel_rfl)
      · --
       intro y138 hy138
       have zy138 := hy138.size
       refine AllV_v ?_
       refine AllV_v ?_
       refine AllV_v ?_
       refine AllV_nil ?_
       refine O_pickF rfl rfl rfl rfl ?_
       exact WL_nil ⟨(Ext.refl _), rfl⟩
      apply AnyR_val [172, 179] rfl (by kernel_rfl)
      · --
       intro y139 hy139
       have zy139 := hy139.size
       refine AllV_v ?_
       refine AllV_v ?_
       refine AllV_nil ?_
       refine O_pickF rfl rfl rfl rfl ?_
       exact WL_nil ⟨(Ext.refl _), rfl⟩
      refine AnyR_nil fun y140 hy140 => ?_
      have zy140 := hy140.size
      refine AllV_v ?_
      refine AllV_v ?_
      refine AllV_v ?_
      refine AllV_v ?_
      refine AllV_v ?_
      refine AllV_v ?_
      refine AllV_v ?_
      refine AllV_v ?_
      refine AllV_v ?_
      refine AllV_v ?_
      refine AllV_v ?_
      refine AllV_v ?_
      refine AllV_v ?_
      refine AllV_v ?_
      refine AllV_v ?_
      refine AllV_v ?_
      refine AllV_v ?_
      refine AllV_v ?_
      refine AllV_v ?_
      refine AllV_v ?_
      refine AllV_v ?_
      refine AllV_v ?_
      refine AllV_v ?_
      refine AllV_v ?_
      refine AllV_v ?_
      refine AllV_v ?_
      refine AllV_v ?_
      refine AllV_v ?_
      refine AllV_v ?_
      refine AllV_v ?_
      refine AllV_nil ?_
      refine WL_end [(9, _), (12, _), (13, _), (135, _), (136, _), (137, _), (180, _)] ⟨rfl, rfl, rfl, rfl, rfl, rfl, rfl, trivial⟩ ?_
      refine WP_condF rfl ?_
      refine WP_skip ?_
      refine WP_region ?_
      refine O_add rfl rfl rfl rfl (wrap_i64_id (by omega) (by omega)) ?_
      refine O_move rfl rfl rfl ?_
      refine WL_end [(9, _), (12, _), (13, _), (135, _), (136, _), (137, _)] ⟨rfl, rfl, rfl, rfl, rfl, rfl, trivial⟩ ?_
      exact ⟨j + 1, ⟨rfl, rfl, rfl, rfl, rfl, rfl, trivial⟩, ⟨(e109.trans hy140), ((((hxs7.ext e107).ext e108).extT (Chg.toT q109 b108) (by decide)).ext hy140), by omega⟩, by omega⟩
   · --
    refine WP_exit ?_
    refine inBlk_hit ?_
    refine WP_seq ?_
    refine WP_region ?_
    refine O_assign rfl rfl rfl ?_
    refine WL_end [(8, _)] ⟨rfl, trivial⟩ ?_
    refine WP_ret ?_
    refine ret1 Try.results7 rfl ?_
    exact ⟨_, rfl, hEW.trans hE7, rfl⟩

theorem law_TreeFinds {w : World} {v : Value} {l : List Int} {s : ByteArray} {x which : Int} (hl : SlM fI w v l) (hx1 : -9223372036854775808 ≤ x) (hx2 : x ≤ 9223372036854775807) : Calls Try.prog 7 #[v, .string s, .int .i64 x, .int .i64 which] w (Ret w fun r _ => r = .bool true) := by
  by_cases hll : l.length ≤ 120
  · by_cases hs : s.size ≤ 100
    · exact finds_T hl hx1 hx2 hll hs
    · exact finds_F2 hl hx1 hx2 hll hs
  · exact finds_F1 hl hx1 hx2 hll

end Go.Proofs.Ytoccimigjjndpaa
