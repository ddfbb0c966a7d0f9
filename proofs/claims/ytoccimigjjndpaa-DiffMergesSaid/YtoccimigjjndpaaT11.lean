/-
  Walks.
-/
import Derived.Test.YtoccimigjjndpaaT10
import Derived.Test.YtoccimigjjndpaaGs
import Derived.Test.YtoccimigjjndpaaPlain
import Derived.Test.YtoccimigjjndpaaGrw
set_option linter.unusedVariables false
set_option linter.unusedSimpArgs false
set_option maxRecDepth 100000
namespace Go.Proofs.Ytoccimigjjndpaa
open Go Go.RowKit
theorem light_c {w : World} {v : Value} {l : List Int} (hl : SlM fI w v l) :
    Calls Try.prog 16 #[v] w (Ret w fun r _ => r = .bool (decide (((l.length : Nat) : Int) ≤ 120))) := by
 refine enter (args := [v]) Try.func16 rfl Try.ntmps16 rfl ?_
 refine WP_seq ?_
 refine WP_region ?_
 refine O_assign rfl rfl rfl ?_
 refine WL_end [(0, _)] ⟨rfl, trivial⟩ ?_
 refine WP_seq ?_
 refine WP_region ?_
 refine O_move rfl rfl rfl ?_
 refine M_len M22 rfl rfl rfl hl ?_
 refine O_leq rfl rfl rfl rfl rfl ?_
 refine O_assign rfl rfl rfl ?_
 refine WL_end [(2, _)] ⟨rfl, trivial⟩ ?_
 refine WP_ret ?_
 refine ret1 Try.results16 rfl ?_
 exact ⟨_, rfl, (Ext.refl _), rfl⟩
theorem light_T {w : World} {v : Value} {l : List Int} (hl : SlM fI w v l) (h : l.length ≤ 120) : Calls Try.prog 16 #[v] w (Ret w fun r _ => r = .bool true) :=
  (light_c hl).mono fun _ w' ⟨r, he, hx', hr⟩ => ⟨r, he, hx', by rw [hr, decide_eq_true (by omega)]⟩
theorem light_F {w : World} {v : Value} {l : List Int} (hl : SlM fI w v l) (h : ¬ l.length ≤ 120) : Calls Try.prog 16 #[v] w (Ret w fun r _ => r = .bool false) :=
  (light_c hl).mono fun _ w' ⟨r, he, hx', hr⟩ => ⟨r, he, hx', by rw [hr, decide_eq_false (by omega)]⟩
theorem mod_c {w : World} {v n : Int} (hn : 0 < n) (hn2 : n ≤ 1000000) :
    Calls Try.prog 18 #[.int .i64 v, .int .i64 n] w (Ret w fun r _ => r = .int .i64 (v % n)) := by
 obtain ⟨m1, m2, m3, m4⟩ := tmod_fix (v := v) hn
 refine enter (args := [_, _]) Try.func18 rfl Try.ntmps18 rfl ?_
 refine WP_seq ?_
 refine WP_region ?_
 refine O_assign rfl rfl rfl ?_
 refine WL_end [(0, _), (1, _)] ⟨rfl, rfl, trivial⟩ ?_
 refine WP_seq ?_
 refine WP_region ?_
 refine O_move rfl rfl rfl ?_
 refine O_move rfl rfl rfl ?_
 refine O_rem rfl rfl rfl rfl (by omega) rfl ?_
 refine O_assign rfl rfl rfl ?_
 refine WL_end [(1, _), (5, _)] ⟨rfl, rfl, trivial⟩ ?_
 refine WP_seq ?_
 refine WP_seq ?_
 refine WP_region ?_
 refine O_move rfl rfl rfl ?_
 refine O_lss rfl rfl rfl rfl rfl ?_
 refine WL_end [(1, _), (5, _), (10, _)] ⟨rfl, rfl, rfl, trivial⟩ ?_
 refine WP_condD rfl (fun c10 => ?_) (fun c10 => ?_)
 · --
  refine WP_region ?_
  refine O_move rfl rfl rfl ?_
  refine O_move rfl rfl rfl ?_
  refine O_add rfl rfl rfl rfl (wrap_i64_id (by omega) (by omega)) ?_
  refine O_assign rfl rfl rfl ?_
  refine WL_end [(5, _)] ⟨rfl, trivial⟩ ?_
  refine WP_seq ?_
  refine WP_region ?_
  refine O_move rfl rfl rfl ?_
  refine O_assign rfl rfl rfl ?_
  refine WL_end [(4, _)] ⟨rfl, trivial⟩ ?_
  refine WP_ret ?_
  refine ret1 Try.results18 rfl ?_
  exact ⟨_, rfl, Ext.refl _, by rw [m3 c10]⟩
 · --
  refine WP_skip ?_
  refine WP_seq ?_
  refine WP_region ?_
  refine O_move rfl rfl rfl ?_
  refine O_assign rfl rfl rfl ?_
  refine WL_end [(4, _)] ⟨rfl, trivial⟩ ?_
  refine WP_ret ?_
  refine ret1 Try.results18 rfl ?_
  exact ⟨_, rfl, Ext.refl _, by rw [m4 c10]⟩
theorem newtape_c {w : World} {v : Value} {l : List Int} (hl : SlM fI w v l) :
    Calls Try.prog 22 #[v] w (Ret w fun r w' => ∃ tp, r = .pointer (some ⟨tp, 0, none⟩) ∧ Bk w' tp 100 [v, .int .i64 ((0 : Nat) : Int)] ∧ w.heap.size ≤ tp ∧ tp < w'.heap.size) := by
 refine enter (args := [v]) Try.func22 rfl Try.ntmps22 rfl ?_
 refine WP_seq ?_
 refine WP_region ?_
 refine O_assign rfl rfl rfl ?_
 refine WL_end [(0, _)] ⟨rfl, trivial⟩ ?_
 refine WP_seq ?_
 refine WP_region ?_
 refine O_move rfl rfl rfl ?_
 refine O_build (cs := [_, _]) B100 rfl rfl rfl (cells_cons (hl).cells1 cells_nil) rfl ?_
 refine O_box _ rfl rfl rfl rfl (fun g1 w1 b1 e1 gl1 gh1 => ?_)
 have z1 := e1.size
 refine O_assign rfl rfl rfl ?_
 refine WL_end [(2, _)] ⟨rfl, trivial⟩ ?_
 refine WP_ret ?_
 refine ret1 Try.results22 rfl ?_
 exact ⟨_, rfl, e1, g1, rfl, b1, gl1, gh1⟩
theorem more_c {w0 w : World} {tp a : Nat} {v : Value} {l : List Int} (hl : SlM fI w0 v l) (hE : Ext w0 w) (hB : Bk w tp 100 [v, .int .i64 (a : Nat)]) :
    Calls Try.prog 23 #[.pointer (some ⟨tp, 0, none⟩)] w (Ret w fun r _ => r = .bool (decide (a < l.length))) := by
 have zE := hE.size
 refine enter (args := [_]) Try.func23 rfl Try.ntmps23 rfl ?_
 refine WP_seq ?_
 refine WP_region ?_
 refine O_assign rfl rfl rfl ?_
 refine WL_end [(0, _)] ⟨rfl, trivial⟩ ?_
 refine WP_seq ?_
 refine WP_sub [(0, _)] ⟨rfl, trivial⟩ ?_
 refine WP_anyR 9 [0] mixed rfl (by kernel_rfl) ?_
 apply AnyR_val [0] rfl (by kernel_rfl)
 · --
  intro y1 hy1
  have zy1 := hy1.size
  refine AllV_nil ?_
  refine O_move rfl rfl rfl ?_
  exact WL_nil ⟨(Ext.refl _), rfl⟩
 apply AnyR_val [3] rfl (by kernel_rfl)
 · --
  intro y2 hy2
  have zy2 := hy2.size
  refine AllV_v ?_
  refine AllV_nil ?_
  refine O_nilCheck rfl rfl rfl ?_
  exact WL_nil ⟨(Ext.refl _), rfl⟩
 apply AnyR_val [4] rfl (by kernel_rfl)
 · --
  intro y3 hy3
  have zy3 := hy3.size
  refine AllV_v ?_
  refine AllV_nil ?_
  refine O_field F100_1 rfl rfl rfl ?_
  exact WL_nil ⟨(Ext.refl _), rfl⟩
 apply AnyR_val [5] rfl (by kernel_rfl)
 · --
  intro y4 hy4
  have zy4 := hy4.size
  refine AllV_v ?_
  refine AllV_nil ?_
  refine O_loadC Try.underlying3 rfl rfl rfl rfl (hB.ext hy4) rfl ?_
  exact WL_nil ⟨(Ext.refl _), rfl⟩
 apply AnyR_val [0] rfl (by kernel_rfl)
 · --
  intro y5 hy5
  have zy5 := hy5.size
  refine AllV_nil ?_
  refine O_move rfl rfl rfl ?_
  exact WL_nil ⟨(Ext.refl _), rfl⟩
 apply AnyR_val [7] rfl (by kernel_rfl)
 · --
  intro y6 hy6
  have zy6 := hy6.size
  refine AllV_v ?_
  refine AllV_nil ?_
  refine O_nilCheck rfl rfl rfl ?_
  exact WL_nil ⟨(Ext.refl _), rfl⟩
 apply AnyR_val [8] rfl (by kernel_rfl)
 · --
  intro y7 hy7
  have zy7 := hy7.size
  refine AllV_v ?_
  refine AllV_nil ?_
  refine O_field F100_0 rfl rfl rfl ?_
  exact WL_nil ⟨(Ext.refl _), rfl⟩
 apply AnyR_val [9] rfl (by kernel_rfl)
 · --
  intro y8 hy8
  have zy8 := hy8.size
  refine AllV_v ?_
  refine AllV_nil ?_
  refine O_loadC Try.underlying22 rfl rfl rfl rfl (hB.ext hy8) rfl ?_
  exact WL_nil ⟨(Ext.refl _), rfl⟩
 apply AnyR_val [10] rfl (by kernel_rfl)
 · --
  intro y9 hy9
  have zy9 := hy9.size
  refine AllV_v ?_
  refine AllV_nil ?_
  refine M_len M22 rfl rfl rfl (hl.ext (hE.trans hy9)) ?_
  exact WL_nil ⟨(Ext.refl _), rfl⟩
 refine AnyR_nil fun y10 hy10 => ?_
 have zy10 := hy10.size
 refine AllV_v ?_
 refine AllV_v ?_
 refine AllV_v ?_
 refine AllV_v ?_
 refine AllV_v ?_
 refine AllV_v ?_
 refine AllV_v ?_
 refine AllV_v ?_
 refine AllV_v ?_
 refine AllV_nil ?_
 refine O_lss rfl rfl rfl rfl rfl ?_
 refine O_assign rfl rfl rfl ?_
 refine WL_end [(2, _)] ⟨rfl, trivial⟩ ?_
 refine WP_ret ?_
 refine ret1 Try.results23 rfl ?_
 exact ⟨_, rfl, hy10, congrArg Value.bool (decide_eq_decide.2 ⟨fun h => by omega, fun h => by omega⟩)⟩
theorem next_c {w0 w : World} {tp a : Nat} {v : Value} {l : List Int} (hl : SlM fI w0 v l) (hE : Ext w0 w) (htp : w0.heap.size ≤ tp) (hB : Bk w tp 100 [v, .int .i64 (a : Nat)]) (ha : a ≤ l.length) (hll : l.length ≤ 100000) {n : Int} (hn : 0 < n) (hn2 : n ≤ 1000000) :
    Calls Try.prog 27 #[.pointer (some ⟨tp, 0, none⟩), .int .i64 n] w (RTape fI w0 w tp v l.length n a) := by
 have zE := hE.size
 refine enter (args := [_, _]) Try.func27 rfl Try.ntmps27 rfl ?_
 refine WP_seq ?_
 refine WP_region ?_
 refine O_assign rfl rfl rfl ?_
 refine WL_end [(0, _), (1, _)] ⟨rfl, rfl, trivial⟩ ?_
 refine WP_seq ?_
 refine WP_seq ?_
 refine WP_sub [(0, _), (1, _)] ⟨rfl, rfl, trivial⟩ ?_
 refine WP_anyR 9 [0, 1] mixed rfl (by kernel_rfl) ?_
 apply AnyR_val [0] rfl (by kernel_rfl)
 · --
  intro y1 hy1
  have zy1 := hy1.size
  refine AllV_nil ?_
  refine O_move rfl rfl rfl ?_
  exact WL_nil ⟨(Ext.refl _), rfl⟩
 apply AnyR_val [5] rfl (by kernel_rfl)
 · --
  intro y2 hy2
  have zy2 := hy2.size
  refine AllV_v ?_
  refine AllV_nil ?_
  refine O_nilCheck rfl rfl rfl ?_
  exact WL_nil ⟨(Ext.refl _), rfl⟩
 apply AnyR_val [6] rfl (by kernel_rfl)
 · --
  intro y3 hy3
  have zy3 := hy3.size
  refine AllV_v ?_
  refine AllV_nil ?_
  refine O_field F100_1 rfl rfl rfl ?_
  exact WL_nil ⟨(Ext.refl _), rfl⟩
 apply AnyR_val [7] rfl (by kernel_rfl)
 · --
  intro y4 hy4
  have zy4 := hy4.size
  refine AllV_v ?_
  refine AllV_nil ?_
  refine O_loadC Try.underlying3 rfl rfl rfl rfl (hB.ext hy4) rfl ?_
  exact WL_nil ⟨(Ext.refl _), rfl⟩
 apply AnyR_val [0] rfl (by kernel_rfl)
 · --
  intro y5 hy5
  have zy5 := hy5.size
  refine AllV_nil ?_
  refine O_move rfl rfl rfl ?_
  exact WL_nil ⟨(Ext.refl _), rfl⟩
 apply AnyR_val [9] rfl (by kernel_rfl)
 · --
  intro y6 hy6
  have zy6 := hy6.size
  refine AllV_v ?_
  refine AllV_nil ?_
  refine O_nilCheck rfl rfl rfl ?_
  exact WL_nil ⟨(Ext.refl _), rfl⟩
 apply AnyR_val [10] rfl (by kernel_rfl)
 · --
  intro y7 hy7
  have zy7 := hy7.size
  refine AllV_v ?_
  refine AllV_nil ?_
  refine O_field F100_0 rfl rfl rfl ?_
  exact WL_nil ⟨(Ext.refl _), rfl⟩
 apply AnyR_val [11] rfl (by kernel_rfl)
 · --
  intro y8 hy8
  have zy8 := hy8.size
  refine AllV_v ?_
  refine AllV_nil ?_
  refine O_loadC Try.underlying22 rfl rfl rfl rfl (hB.ext hy8) rfl ?_
  exact WL_nil ⟨(Ext.refl _), rfl⟩
 apply AnyR_val [12] rfl (by kernel_rfl)
 · --
  intro y9 hy9
  have zy9 := hy9.size
  refine AllV_v ?_
  refine AllV_nil ?_
  refine M_len M22 rfl rfl rfl (hl.ext (hE.trans hy9)) ?_
  exact WL_nil ⟨(Ext.refl _), rfl⟩
 refine AnyR_nil fun y10 hy10 => ?_
 have zy10 := hy10.size
 refine AllV_v ?_
 refine AllV_v ?_
 refine AllV_v ?_
 refine AllV_v ?_
 refine AllV_v ?_
 refine AllV_v ?_
 refine AllV_v ?_
 refine AllV_v ?_
 refine AllV_v ?_
 refine AllV_nil ?_
 refine O_geq rfl rfl rfl rfl rfl ?_
 refine WL_end [(0, _), (1, _), (14, _)] ⟨rfl, rfl, rfl, trivial⟩ ?_
 refine WP_condD rfl (fun c14 => ?_) (fun c14 => ?_)
 · --
  refine WP_seq ?_
  refine WP_region ?_
  refine O_assign rfl rfl rfl ?_
  refine WL_end [(4, _)] ⟨rfl, trivial⟩ ?_
  refine WP_ret ?_
  refine ret1 Try.results27 rfl ?_
  exact ⟨0, a, rfl, Int.le_refl _, hn, (hE.trans hy10), (show ExtT TTY _ _ from (Ext.toT hy10)), (hB.ext hy10), Nat.le_refl _, fun h => by omega, ha⟩
 · --
  refine WP_skip ?_
  refine WP_seq ?_
  have hlt : a < l.length := by omega
  · --
   skip
   refine WP_region ?_
   refine O_move rfl rfl rfl ?_
   refine O_nilCheck rfl rfl rfl ?_
   refine O_field F100_1 rfl rfl rfl ?_
   refine O_loadC Try.underlying3 rfl rfl rfl rfl (hB.ext hy10) rfl ?_
   refine O_add (r := ((a + 1 : Nat) : Int)) rfl rfl rfl rfl (by rw [IntKind.wrap_i64]; omega) ?_
   refine O_nilCheck rfl rfl rfl ?_
   refine O_field F100_1 rfl rfl rfl ?_
   refine O_storeC (cs' := [_, _]) one3 rfl rfl rfl rfl (hB.ext hy10) rfl rfl (fun w11 b11 q11 => ?_)
   have z11 := Nat.le_of_eq q11.size.symm
   have e11 : Ext w0 w11 := q11.ext (hE.trans hy10) (by omega)
   refine WL_end [(0, _), (1, _)] ⟨rfl, rfl, trivial⟩ ?_
   refine WP_seq ?_
   refine WP_sub [(0, _), (1, _)] ⟨rfl, rfl, trivial⟩ ?_
   refine WP_anyR 12 [0, 1] mixed rfl (by kernel_rfl) ?_
   apply AnyR_val [0] rfl (by kernel_rfl)
   · --
    intro y12 hy12
    have zy12 := hy12.size
    refine AllV_nil ?_
    refine O_move rfl rfl rfl ?_
    exact WL_nil ⟨(Ext.refl _), rfl⟩
   apply AnyR_val [22] rfl (by kernel_rfl)
   · --
    intro y13 hy13
    have zy13 := hy13.size
    refine AllV_v ?_
    refine AllV_nil ?_
    refine O_nilCheck rfl rfl rfl ?_
    exact WL_nil ⟨(Ext.refl _), rfl⟩
   apply AnyR_val [23] rfl (by kernel_rfl)
   · --
    intro y14 hy14
    have zy14 := hy14.size
    refine AllV_v ?_
    refine AllV_nil ?_
    refine O_field F100_0 rfl rfl rfl ?_
    exact WL_nil ⟨(Ext.refl _), rfl⟩
   apply AnyR_val [24] rfl (by kernel_rfl)
   · --
    intro y15 hy15
    have zy15 := hy15.size
    refine AllV_v ?_
    refine AllV_nil ?_
    refine O_loadC Try.underlying22 rfl rfl rfl rfl (b11.ext hy15) rfl ?_
    exact WL_nil ⟨(Ext.refl _), rfl⟩
   apply AnyR_val [0] rfl (by kernel_rfl)
   · --
    intro y16 hy16
    have zy16 := hy16.size
    refine AllV_nil ?_
    refine O_move rfl rfl rfl ?_
    exact WL_nil ⟨(Ext.refl _), rfl⟩
   apply AnyR_val [26] rfl (by kernel_rfl)
   · --
    intro y17 hy17
    have zy17 := hy17.size
    refine AllV_v ?_
    refine AllV_nil ?_
    refine O_nilCheck rfl rfl rfl ?_
    exact WL_nil ⟨(Ext.refl _), rfl⟩
   apply AnyR_val [27] rfl (by kernel_rfl)
   · --
    intro y18 hy18
    have zy18 := hy18.size
    refine AllV_v ?_
    refine AllV_nil ?_
    refine O_field F100_1 rfl rfl rfl ?_
    exact WL_nil ⟨(Ext.refl _), rfl⟩
   apply AnyR_val [28] rfl (by kernel_rfl)
   · --
    intro y19 hy19
    have zy19 := hy19.size
    refine AllV_v ?_
    refine AllV_nil ?_
    refine O_loadC Try.underlying3 rfl rfl rfl rfl (b11.ext hy19) rfl ?_
    exact WL_nil ⟨(Ext.refl _), rfl⟩
   apply AnyR_val [29] rfl (by kernel_rfl)
   · --
    intro y20 hy20
    have zy20 := hy20.size
    refine AllV_v ?_
    refine AllV_nil ?_
    refine O_sub (r := ((a : Nat) : Int)) rfl rfl rfl rfl (by rw [IntKind.wrap_i64]; omega) ?_
    exact WL_nil ⟨(Ext.refl _), rfl⟩
   apply AnyR_val [25, 30] rfl (by kernel_rfl)
   · --
    intro y21 hy21
    have zy21 := hy21.size
    refine AllV_v ?_
    refine AllV_v ?_
    refine AllV_nil ?_
    refine M_index M22 rfl rfl rfl rfl (hl.ext (e11.trans hy21)) a rfl hlt ?_
    exact WL_nil ⟨(Ext.refl _), rfl⟩
   apply AnyR_val [31] rfl (by kernel_rfl)
   · --
    intro y22 hy22
    have zy22 := hy22.size
    refine AllV_v ?_
    refine AllV_nil ?_
    refine M_load Try.underlying3 rfl rfl rfl rfl (hl.ext (e11.trans hy22)) hlt ?_
    exact WL_nil ⟨(Ext.refl _), rfl⟩
   apply AnyR_val [1] rfl (by kernel_rfl)
   · --
    intro y23 hy23
    have zy23 := hy23.size
    refine AllV_nil ?_
    refine O_move rfl rfl rfl ?_
    exact WL_nil ⟨(Ext.refl _), rfl⟩
   refine AnyR_nil fun y24 hy24 => ?_
   have zy24 := hy24.size
   refine AllV_v ?_
   refine AllV_v ?_
   refine AllV_v ?_
   refine AllV_v ?_
   refine AllV_v ?_
   refine AllV_v ?_
   refine AllV_v ?_
   refine AllV_v ?_
   refine AllV_v ?_
   refine AllV_v ?_
   refine AllV_v ?_
   refine AllV_v ?_
   refine AllV_nil ?_
   refine O_call enters18 rfl rfl rfl (mod_c hn hn2) (fun v25 w25 e25 h25 => ?_)
   have z25 := e25.size
   obtain rfl := h25
   refine O_assign rfl rfl rfl ?_
   refine WL_end [(4, _)] ⟨rfl, trivial⟩ ?_
   refine WP_ret ?_
   refine ret1 Try.results27 rfl ?_
   exact ⟨_, a + 1, rfl, Int.emod_nonneg _ (by omega), Int.emod_lt_of_pos _ hn, ((e11.trans hy24).trans e25), (show ExtT TTY _ _ from (ExtT.trans (ExtT.trans (by first | exact ExtT.trans (Ext.toT hy10) ((Chg.toT q11 (hB.ext hy10)).mono (by decide)) | exact ExtT.chgNew (Ext.toT hy10) q11 (by omega)) (Ext.toT hy24)) (Ext.toT e25))), ((b11.ext hy24).ext e25), by omega, fun _ => by omega, by omega⟩
theorem name_c {w0 w : World} {tp a : Nat} {v : Value} {l : List Int} (hl : SlM fI w0 v l) (hE : Ext w0 w) (htp : w0.heap.size ≤ tp) (hB : Bk w tp 100 [v, .int .i64 (a : Nat)]) (ha : a ≤ l.length) (hll : l.length ≤ 100000) :
    Calls Try.prog 26 #[.pointer (some ⟨tp, 0, none⟩)] w (RName w0 w tp v l.length a) := by
 have zE := hE.size
 refine enter (args := [_]) Try.func26 rfl Try.ntmps26 rfl ?_
 refine WP_seq ?_
 refine WP_region ?_
 refine O_assign rfl rfl rfl ?_
 refine WL_end [(0, _)] ⟨rfl, trivial⟩ ?_
 refine WP_seq ?_
 refine WP_region ?_
 refine O_move rfl rfl rfl ?_
 have zx1 := (hE).size
 refine O_callT (k := _) enters27 rfl rfl rfl (next_c hl hE htp hB (by omega) (by omega) (by decide) (by decide)) (fun r1 a1 w1 hr1 hs1 hE1 hT1 hB1 h11 h21 h31 => ?_)
 have zE1 := hE1.size
 have zT1 := hT1.size
 refine O_assign rfl rfl rfl ?_
 refine WL_end [(3, _)] ⟨rfl, trivial⟩ ?_
 refine WP_seq ?_
 refine WP_region ?_
 refine O_move rfl rfl rfl ?_
 refine O_rem rfl rfl rfl rfl (by decide) rfl ?_
 refine O_conv Try.underlying3 Try.underlying5 rfl rfl rfl rfl ?_
 refine O_add rfl rfl rfl rfl rfl ?_
 refine O_move rfl rfl rfl ?_
 refine O_quo rfl rfl rfl rfl (by decide) rfl ?_
 refine O_conv Try.underlying3 Try.underlying5 rfl rfl rfl rfl ?_
 refine O_add rfl rfl rfl rfl rfl ?_
 refine M_lit M93 rfl rfl fB [_, _] (by intro a _; rfl) rfl rfl rfl rfl rfl (fun v2 w2 o2 e2 => ?_)
 have z2 := e2.size
 refine M_toStrX Try.underlying93 Try.underlying5 Try.underlying9 rfl rfl rfl o2.sl (fun s15 hzs15 => ?_)
 simp only [List.length_cons, List.length_nil] at hzs15
 refine O_assign rfl rfl rfl ?_
 refine WL_end [(2, _)] ⟨rfl, trivial⟩ ?_
 refine WP_ret ?_
 refine ret1 Try.results26 rfl ?_
 exact ⟨_, a1, rfl, by omega, (hE1.trans e2), (show ExtT TTY _ _ from (ExtT.trans (hT1.mono (by decide)) (Ext.toT e2))), (hB1.ext e2), by omega, fun h => by omega, by omega⟩

end Go.Proofs.Ytoccimigjjndpaa
