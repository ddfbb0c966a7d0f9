/-
  Walks.
-/
import Derived.Test.YtoccimigjjndpaaU5
set_option linter.unusedVariables false
set_option linter.unusedSimpArgs false
set_option maxRecDepth 100000
namespace Go.Proofs.Ytoccimigjjndpaa
open Go Go.RowKit
theorem OwB.fm {w : World} {g r B : Nat} {ps : List Part} {v : Value} {l : Env} (h : OwB B w v l) (hF : Fo w g r ps) : l ≠ [] → ¬ FM g r (vblk v) := by
  intro hn
  obtain ⟨⟨_, h2⟩, _⟩ := h
  rcases h2 with ⟨rfl, h3⟩ | ⟨k, cap, cur, rfl, _, hh, _⟩
  · exact absurd (by simpa using h3) hn
  · exact hF.fm (e := 54) hh (by decide)
theorem Build_O {w : World} {B g : Nat} {ps : List Part} (hF : FG B w g ps) {u : Value} {l : Env} {B' : Nat} (hB : B ≤ w.heap.size) (hO : OwB B' w u l) (ha : Asc l) (hb : ps.length + 2 * l.length ≤ 100000000) (hc : l.length ≤ 10000000) : Calls Try.prog 40 #[.pointer (some ⟨g, 0, none⟩), u] w (FRetG (fun i => .tuple #[.int .i64 i, .int .i64 0]) B g ps (bld l) (2 * l.length - 1) w) :=
  calls_G hF hB fun r hr => Build_T hr hO.sl hc ha (hO.fm hr) hb
theorem Build_R {w : World} {B g : Nat} {ps : List Part} (hF : FG B w g ps) {u : Value} {l : Env} (hB : B ≤ w.heap.size) (hO : SlB w u l) (hlt : l ≠ [] → vblk u < B) (ha : Asc l) (hb : ps.length + 2 * l.length ≤ 100000000) (hc : l.length ≤ 10000000) : Calls Try.prog 40 #[.pointer (some ⟨g, 0, none⟩), u] w (FRetG (fun i => .tuple #[.int .i64 i, .int .i64 0]) B g ps (bld l) (2 * l.length - 1) w) := by
  obtain ⟨r, hr, h1, h2⟩ := hF
  refine (Build_T hr hO hc ha (fun hn => by have h3 := hlt hn; rintro (h | h) <;> omega) hb).mono fun e w' hR => ?_
  obtain ⟨r', qs, i, he, hs, hF', hq, hR'⟩ := hR
  refine ⟨qs, i, he, hs.toT hr, fun w0 k1 k2 => hs.base k1 (by omega) (by omega), ⟨r', hF', h1, ?_⟩, hq, hR'⟩
  rcases hs.2 with h | h <;> omega
theorem Build_N {w : World} {B g : Nat} {ps : List Part} (hF : FG B w g ps) {u : Value} {l : Env} (hO : SlB w u l) (ha : ¬ Asc l) (hc : l.length ≤ 10000000) : Calls Try.prog 40 #[.pointer (some ⟨g, 0, none⟩), u] w (Ret w fun r _ => r = .tuple #[.int .i64 (-1), .int .i64 1]) := by
  obtain ⟨r, hr, _⟩ := hF
  exact Build_F hr hO hc ha
theorem builds_F1 {w : World} {u v : Value} {l : List Int} {raw : Env} (hu : SlB w u raw) (hl : SlM fI w v l) (hr : ¬ raw.length ≤ 60) :
    Calls Try.prog 8 #[u, v] w (Ret w fun r _ => r = .bool true) := by
 refine enter (args := [u, v]) Try.func8 rfl Try.ntmps8 rfl ?_
 refine WP_seq ?_
 refine WP_region ?_
 refine O_assign rfl rfl rfl ?_
 refine WL_end [(0, _), (1, _)] ⟨rfl, rfl, trivial⟩ ?_
 refine WP_seq ?_
 refine WP_seq ?_
 refine WP_region ?_
 refine O_call enters15 rfl rfl rfl (awake_c) (fun v1 w1 e1 h1 => ?_)
 have z1 := e1.size
 obtain rfl := h1
 refine O_not rfl rfl rfl rfl ?_
 refine WL_end [(0, _), (1, _), (15, _)] ⟨rfl, rfl, rfl, trivial⟩ ?_
 refine WP_condF rfl ?_
 refine WP_skip ?_
 refine WP_seq ?_
 refine WP_seq ?_
 refine WP_region ?_
 refine O_move rfl rfl rfl ?_
 refine B_len Ebind rfl rfl rfl (hu.ext e1) ?_
 refine O_gtr (t := true) rfl rfl rfl rfl (decide_eq_true (by omega)) ?_
 refine O_move rfl rfl rfl ?_
 refine O_skip rfl rfl ?_
 refine O_skip rfl rfl ?_
 refine O_skip rfl rfl ?_
 refine O_pickT rfl rfl rfl rfl ?_
 refine WL_end [(0, _), (1, _), (23, _)] ⟨rfl, rfl, rfl, trivial⟩ ?_
 refine WP_condT rfl ?_
 refine WP_seq ?_
 refine WP_region ?_
 refine O_assign rfl rfl rfl ?_
 refine WL_end [(4, _)] ⟨rfl, trivial⟩ ?_
 refine WP_ret ?_
 refine ret1 Try.results8 rfl ?_
 exact ⟨_, rfl, e1, rfl⟩
theorem builds_F2 {w : World} {u v : Value} {l : List Int} {raw : Env} (hu : SlB w u raw) (hl : SlM fI w v l) (hr : raw.length ≤ 60) (hll : ¬ l.length ≤ 120) :
    Calls Try.prog 8 #[u, v] w (Ret w fun r _ => r = .bool true) := by
 refine enter (args := [u, v]) Try.func8 rfl Try.ntmps8 rfl ?_
 refine WP_seq ?_
 refine WP_region ?_
 refine O_assign rfl rfl rfl ?_
 refine WL_end [(0, _), (1, _)] ⟨rfl, rfl, trivial⟩ ?_
 refine WP_seq ?_
 refine WP_seq ?_
 refine WP_region ?_
 refine O_call enters15 rfl rfl rfl (awake_c) (fun v1 w1 e1 h1 => ?_)
 have z1 := e1.size
 obtain rfl := h1
 refine O_not rfl rfl rfl rfl ?_
 refine WL_end [(0, _), (1, _), (15, _)] ⟨rfl, rfl, rfl, trivial⟩ ?_
 refine WP_condF rfl ?_
 refine WP_skip ?_
 refine WP_seq ?_
 refine WP_seq ?_
 refine WP_region ?_
 refine O_move rfl rfl rfl ?_
 refine B_len Ebind rfl rfl rfl (hu.ext e1) ?_
 refine O_gtr (t := false) rfl rfl rfl rfl (decide_eq_false (by omega)) ?_
 refine O_move rfl rfl rfl ?_
 refine O_move rfl rfl rfl ?_
 refine O_call enters16 rfl rfl rfl (light_F (hl.ext e1) hll) (fun v2 w2 e2 h2 => ?_)
 have z2 := e2.size
 obtain rfl := h2
 refine O_not rfl rfl rfl rfl ?_
 refine O_pickF rfl rfl rfl rfl ?_
 refine WL_end [(0, _), (1, _), (23, _)] ⟨rfl, rfl, rfl, trivial⟩ ?_
 refine WP_condT rfl ?_
 refine WP_seq ?_
 refine WP_region ?_
 refine O_assign rfl rfl rfl ?_
 refine WL_end [(4, _)] ⟨rfl, trivial⟩ ?_
 refine WP_ret ?_
 refine ret1 Try.results8 rfl ?_
 exact ⟨_, rfl, (e1.trans e2), rfl⟩
set_option maxHeartbeats 4000000 in
theorem builds_T {w : World} {u v : Value} {l : List Int} {raw : Env} (hu : SlB w u raw) (hl : SlM fI w v l) (hr : raw.length ≤ 60) (hll : l.length ≤ 120) :
    Calls Try.prog 8 #[u, v] w (Ret w fun r _ => r = .bool true) := by
 refine enter (args := [u, v]) Try.func8 rfl Try.ntmps8 rfl ?_
 refine WP_seq ?_
 refine WP_region ?_
 refine O_assign rfl rfl rfl ?_
 refine WL_end [(0, _), (1, _)] ⟨rfl, rfl, trivial⟩ ?_
 refine WP_seq ?_
 refine WP_seq ?_
 refine WP_region ?_
 refine O_call enters15 rfl rfl rfl (awake_c) (fun v1 w1 e1 h1 => ?_)
 have z1 := e1.size
 obtain rfl := h1
 refine O_not rfl rfl rfl rfl ?_
 refine WL_end [(0, _), (1, _), (15, _)] ⟨rfl, rfl, rfl, trivial⟩ ?_
 refine WP_condF rfl ?_
 refine WP_skip ?_
 refine WP_seq ?_
 refine WP_seq ?_
 refine WP_region ?_
 refine O_move rfl rfl rfl ?_
 refine B_len Ebind rfl rfl rfl (hu.ext e1) ?_
 refine O_gtr (t := false) rfl rfl rfl rfl (decide_eq_false (by omega)) ?_
 refine O_move rfl rfl rfl ?_
 refine O_move rfl rfl rfl ?_
 refine O_call enters16 rfl rfl rfl (light_T (hl.ext e1) hll) (fun v2 w2 e2 h2 => ?_)
 have z2 := e2.size
 obtain rfl := h2
 refine O_not rfl rfl rfl rfl ?_
 refine O_pickF rfl rfl rfl rfl ?_
 refine WL_end [(0, _), (1, _), (23, _)] ⟨rfl, rfl, rfl, trivial⟩ ?_
 refine WP_condF rfl ?_
 refine WP_skip ?_
 refine WP_seq ?_
 refine WP_region ?_
 refine O_assign rfl rfl rfl ?_
 refine WL_end [(0, _), (1, _), (5, _)] ⟨rfl, rfl, rfl, trivial⟩ ?_
 refine WP_seq ?_
 refine WP_seq ?_
 refine WP_region ?_
 refine O_move rfl rfl rfl ?_
 refine B_len Ebind rfl rfl rfl (hu.ext (e1.trans e2)) ?_
 refine O_move rfl rfl rfl ?_
 refine WL_end [(0, _), (1, _), (5, _), (25, _), (26, _)] ⟨rfl, rfl, rfl, rfl, rfl, trivial⟩ ?_
 refine WP_block ?_
 refine WP_loop (S := Nat × Bool) (fun (i, b) => [(0, u), (1, v), (5, .bool b), (25, .int .i64 (raw.length : Nat)), (26, .int .i64 (i : Nat))]) (fun (i, b) w' => Ext w w' ∧ i ≤ raw.length ∧ (b = true ↔ ∀ j (h : j + 1 < raw.length), j + 1 < i → nlt raw[j].1 (raw[j + 1]'h).1 = true)) (fun (i, b) => raw.length - i) (0, true) ⟨rfl, rfl, rfl, rfl, rfl, trivial⟩ ⟨(e1.trans e2), Nat.zero_le _, fun _ j _ h => absurd h (Nat.not_lt_zero _), fun _ => rfl⟩ ?_
 rintro ⟨i, b⟩ w9 ⟨hE, hi, hbi⟩
 show WP _ _ _ _ _ [(0, u), (1, v), (5, .bool b), (25, .int .i64 (raw.length : Nat)), (26, .int .i64 (i : Nat))] _
 have zE := hE.size
 refine WP_seq ?_
 refine WP_region ?_
 refine O_lss rfl rfl rfl rfl rfl ?_
 refine WL_end [(0, _), (1, _), (5, _), (25, _), (26, _), (27, _)] ⟨rfl, rfl, rfl, rfl, rfl, rfl, trivial⟩ ?_
 refine WP_seq ?_
 refine WP_condD rfl (fun c27 => ?_) (fun c27 => ?_)
 · --
  refine WP_skip ?_
  refine WP_seq ?_
  refine WP_block ?_
  refine WP_seq ?_
  refine WP_region ?_
  refine O_move rfl rfl rfl ?_
  refine O_assign rfl rfl rfl ?_
  refine WL_end [(0, _), (1, _), (5, _), (6, _), (25, _), (26, _)] ⟨rfl, rfl, rfl, rfl, rfl, rfl, trivial⟩ ?_
  refine WP_seq ?_
  refine WP_seq ?_
  have hi1 : i < raw.length := by omega
  · --
   skip
   refine WP_region ?_
   refine O_move rfl rfl rfl ?_
   refine O_move rfl rfl rfl ?_
   refine B_index Ebind rfl rfl rfl rfl (hu.ext hE) i rfl hi1 (fun _ => ?_)
   refine K_field F54_0 rfl rfl rfl ?_
   refine B_cell Try.underlying9 rfl rfl rfl rfl (SlB.row (j := i) (hu.ext hE) hi1) rfl ?_
   refine O_lenS Try.underlying9 rfl rfl rfl ?_
   refine O_gtr rfl rfl rfl rfl rfl ?_
   refine WL_end [(0, _), (1, _), (5, _), (6, _), (25, _), (26, _), (35, _)] ⟨rfl, rfl, rfl, rfl, rfl, rfl, rfl, trivial⟩ ?_
   refine WP_condD rfl (fun c35 => ?_) (fun c35 => ?_)
   · --
    refine WP_seq ?_
    refine WP_region ?_
    refine O_assign rfl rfl rfl ?_
    refine WL_end [(4, _)] ⟨rfl, trivial⟩ ?_
    refine WP_ret ?_
    refine inBlk_ret ?_
    refine inBlk_ret ?_
    refine ret1 Try.results8 rfl ?_
    exact ⟨_, rfl, hE, rfl⟩
   · --
    refine WP_skip ?_
    have hi2 : i - 1 < raw.length := by omega
    cases b
    rotate_left
    by_cases hi0 : i = 0
    rotate_right
    · --
     skip
     refine WP_sub [(0, _), (1, _), (5, _), (6, _), (25, _), (26, _)] ⟨rfl, rfl, rfl, rfl, rfl, rfl, trivial⟩ ?_
     refine WP_anyR 16 [0, 1, 5, 6, 25, 26] mixed rfl (by kernel_rfl) ?_
     apply AnyR_val [5] rfl (by kernel_rfl)
     · --
      intro y3 hy3
      have zy3 := hy3.size
      refine AllV_nil ?_
      refine O_move rfl rfl rfl ?_
      exact WL_nil ⟨(Ext.refl _), rfl⟩
     apply AnyR_val [36] rfl (by kernel_rfl)
     · --
      intro y4 hy4
      have zy4 := hy4.size
      refine AllV_v ?_
      refine AllV_nil ?_
      refine O_move rfl rfl rfl ?_
      exact WL_nil ⟨(Ext.refl _), rfl⟩
     apply AnyR_val [37, 6] rfl (by kernel_rfl)
     · --
      intro y5 hy5
      have zy5 := hy5.size
      refine AllV_v ?_
      refine AllV_nil ?_
      refine O_skip rfl rfl ?_
      exact WL_nil ⟨(Ext.refl _), rfl⟩
     apply AnyR_val [37, 38] rfl (by kernel_rfl)
     · --
      intro y6 hy6
      have zy6 := hy6.size
      refine AllV_v ?_
      refine AllV_v ?_
      refine AllV_nil ?_
      refine O_skip rfl rfl ?_
      exact WL_nil ⟨(Ext.refl _), rfl⟩
     apply AnyR_val [37, 39] rfl (by kernel_rfl)
     · --
      intro y7 hy7
      have zy7 := hy7.size
      refine AllV_v ?_
      refine AllV_v ?_
      refine AllV_nil ?_
      refine O_skip rfl rfl ?_
      exact WL_nil ⟨(Ext.refl _), rfl⟩
     apply AnyR_val [40, 0] rfl (by kernel_rfl)
     · --
      intro y8 hy8
      have zy8 := hy8.size
      refine AllV_v ?_
      refine AllV_nil ?_
      refine O_skipU rfl rfl rfl ?_
      exact WL_nil ⟨(Ext.refl _), rfl⟩
     apply AnyR_val [40, 6] rfl (by kernel_rfl)
     · --
      intro y9 hy9
      have zy9 := hy9.size
      refine AllV_v ?_
      refine AllV_nil ?_
      refine O_skipU rfl rfl rfl ?_
      exact WL_nil ⟨(Ext.refl _), rfl⟩
     apply AnyR_val [40, 42] rfl (by kernel_rfl)
     · --
      intro y10 hy10
      have zy10 := hy10.size
      refine AllV_v ?_
      refine AllV_v ?_
      refine AllV_nil ?_
      refine O_skipU rfl rfl rfl ?_
      exact WL_nil ⟨(Ext.refl _), rfl⟩
     apply AnyR_val [40, 41, 43] rfl (by kernel_rfl)
     · --
      intro y11 hy11
      have zy11 := hy11.size
      refine AllV_v ?_
      refine AllV_v ?_
      refine AllV_v ?_
      refine AllV_nil ?_
      refine O_skipU rfl rfl rfl ?_
      exact WL_nil ⟨(Ext.refl _), rfl⟩
     apply AnyR_val [40, 44] rfl (by kernel_rfl)
     · --
      intro y12 hy12
      have zy12 := hy12.size
      refine AllV_v ?_
      refine AllV_v ?_
      refine AllV_nil ?_
      refine O_skipU rfl rfl rfl ?_
      exact WL_nil ⟨(Ext.refl _), rfl⟩
     apply AnyR_val [40, 45] rfl (by kernel_rfl)
     · --
      intro y13 hy13
      have zy13 := hy13.size
      refine AllV_v ?_
      refine AllV_v ?_
      refine AllV_nil ?_
      refine O_skipU rfl rfl rfl ?_
      exact WL_nil ⟨(Ext.refl _), rfl⟩
     apply AnyR_val [40, 0] rfl (by kernel_rfl)
     · --
      intro y14 hy14
      have zy14 := hy14.size
      refine AllV_v ?_
      refine AllV_nil ?_
      refine O_skipU rfl rfl rfl ?_
      exact WL_nil ⟨(Ext.refl _), rfl⟩
     apply AnyR_val [40, 6] rfl (by kernel_rfl)
     · --
      intro y15 hy15
      have zy15 := hy15.size
      refine AllV_v ?_
      refine AllV_nil ?_
      refine O_skipU rfl rfl rfl ?_
      exact WL_nil ⟨(Ext.refl _), rfl⟩
     apply AnyR_val [40, 47, 48] rfl (by kernel_rfl)
     · --
      intro y16 hy16
      have zy16 := hy16.size
      refine AllV_v ?_
      refine AllV_v ?_
      refine AllV_v ?_
      refine AllV_nil ?_
      refine O_skipU rfl rfl rfl ?_
      exact WL_nil ⟨(Ext.refl _), rfl⟩
     apply AnyR_val [40, 49] rfl (by kernel_rfl)
     · --
      intro y17 hy17
      have zy17 := hy17.size
      refine AllV_v ?_
      refine AllV_v ?_
      refine AllV_nil ?_
      refine O_skipU rfl rfl rfl ?_
      exact WL_nil ⟨(Ext.refl _), rfl⟩
     apply AnyR_val [40, 50] rfl (by kernel_rfl)
     · --
      intro y18 hy18
      have zy18 := hy18.size
      refine AllV_v ?_
      refine AllV_v ?_
      refine AllV_nil ?_
      refine O_skipU rfl rfl rfl ?_
      exact WL_nil ⟨(Ext.refl _), rfl⟩
     refine AnyR_nil fun y19 hy19 => ?_
     have zy19 := hy19.size
     refine AllV_v ?_
     refine AllV_v ?_
     refine AllV_v ?_
     refine AllV_v ?_
     refine AllV_v ?_
     refine AllV_v ?_
     refine AllV_v ?_
     refine AllV_v ?_
     refine AllV_v ?_
     refine AllV_v ?_
     refine AllV_v ?_
     refine AllV_v ?_
     refine AllV_v ?_
     refine AllV_v ?_
     refine AllV_v ?_
     refine AllV_v ?_
     refine AllV_nil ?_
     refine O_skipU rfl rfl rfl ?_
     refine O_skip rfl rfl ?_
     refine O_pickF rfl rfl rfl rfl ?_
     refine O_assign rfl rfl rfl ?_
     refine WL_end [(0, _), (1, _), (5, _), (25, _), (26, _)] ⟨rfl, rfl, rfl, rfl, rfl, trivial⟩ ?_
     refine WP_region ?_
     refine O_add rfl rfl rfl rfl (wrap_i64_id (by omega) (by omega)) ?_
     refine O_move rfl rfl rfl ?_
     refine WL_end [(0, _), (1, _), (5, _), (25, _), (26, _)] ⟨rfl, rfl, rfl, rfl, rfl, trivial⟩ ?_
     exact ⟨(i + 1, false), ⟨rfl, rfl, rfl, rfl, rfl, trivial⟩, ⟨(hE.trans hy19), by omega, (fun h => by cases h), fun h => hbi.2 fun j hj1 hj2 => h j hj1 (by omega)⟩, by dsimp only; omega⟩
    · --
     skip
     refine WP_sub [(0, _), (1, _), (5, _), (6, _), (25, _), (26, _)] ⟨rfl, rfl, rfl, rfl, rfl, rfl, trivial⟩ ?_
     refine WP_anyR 16 [0, 1, 5, 6, 25, 26] mixed rfl (by kernel_rfl) ?_
     apply AnyR_val [5] rfl (by kernel_rfl)
     · --
      intro y20 hy20
      have zy20 := hy20.size
      refine AllV_nil ?_
      refine O_move rfl rfl rfl ?_
      exact WL_nil ⟨(Ext.refl _), rfl⟩
     apply AnyR_val [36] rfl (by kernel_rfl)
     · --
      intro y21 hy21
      have zy21 := hy21.size
      refine AllV_v ?_
      refine AllV_nil ?_
      refine O_move rfl rfl rfl ?_
      exact WL_nil ⟨(Ext.refl _), rfl⟩
     apply AnyR_val [37, 6] rfl (by kernel_rfl)
     · --
      intro y22 hy22
      have zy22 := hy22.size
      refine AllV_v ?_
      refine AllV_nil ?_
      refine O_move rfl rfl rfl ?_
      exact WL_nil ⟨(Ext.refl _), rfl⟩
     apply AnyR_val [37, 38] rfl (by kernel_rfl)
     · --
      intro y23 hy23
      have zy23 := hy23.size
      refine AllV_v ?_
      refine AllV_v ?_
      refine AllV_nil ?_
      refine O_eql (t := true) rfl rfl rfl rfl (decide_eq_true (by omega)) ?_
      exact WL_nil ⟨(Ext.refl _), rfl⟩
     apply AnyR_val [37, 39] rfl (by kernel_rfl)
     · --
      intro y24 hy24
      have zy24 := hy24.size
      refine AllV_v ?_
      refine AllV_v ?_
      refine AllV_nil ?_
      refine O_move rfl rfl rfl ?_
      exact WL_nil ⟨(Ext.refl _), rfl⟩
     apply AnyR_val [40, 0] rfl (by kernel_rfl)
     · --
      intro y25 hy25
      have zy25 := hy25.size
      refine AllV_v ?_
      refine AllV_nil ?_
      refine O_skip rfl rfl ?_
      exact WL_nil ⟨(Ext.refl _), rfl⟩
     apply AnyR_val [40, 6] rfl (by kernel_rfl)
     · --
      intro y26 hy26
      have zy26 := hy26.size
      refine AllV_v ?_
      refine AllV_nil ?_
      refine O_skip rfl rfl ?_
      exact WL_nil ⟨(Ext.refl _), rfl⟩
     apply AnyR_val [40, 42] rfl (by kernel_rfl)
     · --
      intro y27 hy27
      have zy27 := hy27.size
      refine AllV_v ?_
      refine AllV_v ?_
      refine AllV_nil ?_
      refine O_skip rfl rfl ?_
      exact WL_nil ⟨(Ext.refl _), rfl⟩
     apply AnyR_val [40, 41, 43] rfl (by kernel_rfl)
     · --
      intro y28 hy28
      have zy28 := hy28.size
      refine AllV_v ?_
      refine AllV_v ?_
      refine AllV_v ?_
      refine AllV_nil ?_
      refine O_skip rfl rfl ?_
      exact WL_nil ⟨(Ext.refl _), rfl⟩
     apply AnyR_val [40, 44] rfl (by kernel_rfl)
     · --
      intro y29 hy29
      have zy29 := hy29.size
      refine AllV_v ?_
      refine AllV_v ?_
      refine AllV_nil ?_
      refine O_skip rfl rfl ?_
      exact WL_nil ⟨(Ext.refl _), rfl⟩
     apply AnyR_val [40, 45] rfl (by kernel_rfl)
     · --
      intro y30 hy30
      have zy30 := hy30.size
      refine AllV_v ?_
      refine AllV_v ?_
      refine AllV_nil ?_
      refine O_skip rfl rfl ?_
      exact WL_nil ⟨(Ext.refl _), rfl⟩
     apply AnyR_val [40, 0] rfl (by kernel_rfl)
     · --
      intro y31 hy31
      have zy31 := hy31.size
      refine AllV_v ?_
      refine AllV_nil ?_
      refine O_skip rfl rfl ?_
      exact WL_nil ⟨(Ext.refl _), rfl⟩
     apply AnyR_val [40, 6] rfl (by kernel_rfl)
     · --
      intro y32 hy32
      have zy32 := hy32.size
      refine AllV_v ?_
      refine AllV_nil ?_
      refine O_skip rfl rfl ?_
      exact WL_nil ⟨(Ext.refl _), rfl⟩
     apply AnyR_val [40, 47, 48] rfl (by kernel_rfl)
     · --
      intro y33 hy33
      have zy33 := hy33.size
      refine AllV_v ?_
      refine AllV_v ?_
      refine AllV_v ?_
      refine AllV_nil ?_
      refine O_skip rfl rfl ?_
      exact WL_nil ⟨(Ext.refl _), rfl⟩
     apply AnyR_val [40, 49] rfl (by kernel_rfl)
     · --
      intro y34 hy34
      have zy34 := hy34.size
      refine AllV_v ?_
      refine AllV_v ?_
      refine AllV_nil ?_
      refine O_skip rfl rfl ?_
      exact WL_nil ⟨(Ext.refl _), rfl⟩
     apply AnyR_val [40, 50] rfl (by kernel_rfl)
     · --
      intro y35 hy35
      have zy35 := hy35.size
      refine AllV_v ?_
      refine AllV_v ?_
      refine AllV_nil ?_
      refine O_skip rfl rfl ?_
      exact WL_nil ⟨(Ext.refl _), rfl⟩
     refine AnyR_nil fun y36 hy36 => ?_
     have zy36 := hy36.size
     refine AllV_v ?_
     refine AllV_v ?_
     refine AllV_v ?_
     refine AllV_v ?_
     refine AllV_v ?_
     refine AllV_v ?_
     refine AllV_v ?_
     refine AllV_v ?_
     refine AllV_v ?_
     refine AllV_v ?_
     refine AllV_v ?_
     refine AllV_v ?_
     refine AllV_v ?_
     refine AllV_v ?_
     refine AllV_v ?_
     refine AllV_v ?_
     refine AllV_nil ?_
     refine O_skip rfl rfl ?_
     refine O_pickT rfl rfl rfl rfl ?_
     refine O_pickT rfl rfl rfl rfl ?_
     refine O_assign rfl rfl rfl ?_
     refine WL_end [(0, _), (1, _), (5, _), (25, _), (26, _)] ⟨rfl, rfl, rfl, rfl, rfl, trivial⟩ ?_
     refine WP_region ?_
     refine O_add rfl rfl rfl rfl (wrap_i64_id (by omega) (by omega)) ?_
     refine O_move rfl rfl rfl ?_
     refine WL_end [(0, _), (1, _), (5, _), (25, _), (26, _)] ⟨rfl, rfl, rfl, rfl, rfl, trivial⟩ ?_
     exact ⟨(i + 1, true), ⟨rfl, rfl, rfl, rfl, rfl, trivial⟩, ⟨(hE.trans hy36), by omega, (fun _ j hj1 hj2 => by omega), fun _ => rfl⟩, by dsimp only; omega⟩
    · --
     skip
     refine WP_sub [(0, _), (1, _), (5, _), (6, _), (25, _), (26, _)] ⟨rfl, rfl, rfl, rfl, rfl, rfl, trivial⟩ ?_
     refine WP_anyR 16 [0, 1, 5, 6, 25, 26] mixed rfl (by kernel_rfl) ?_
     apply AnyR_val [5] rfl (by kernel_rfl)
     · --
      intro y37 hy37
      have zy37 := hy37.size
      refine AllV_nil ?_
      refine O_move rfl rfl rfl ?_
      exact WL_nil ⟨(Ext.refl _), rfl⟩
     apply AnyR_val [36] rfl (by kernel_rfl)
     · --
      intro y38 hy38
      have zy38 := hy38.size
      refine AllV_v ?_
      refine AllV_nil ?_
      refine O_move rfl rfl rfl ?_
      exact WL_nil ⟨(Ext.refl _), rfl⟩
     apply AnyR_val [37, 6] rfl (by kernel_rfl)
     · --
      intro y39 hy39
      have zy39 := hy39.size
      refine AllV_v ?_
      refine AllV_nil ?_
      refine O_move rfl rfl rfl ?_
      exact WL_nil ⟨(Ext.refl _), rfl⟩
     apply AnyR_val [37, 38] rfl (by kernel_rfl)
     · --
      intro y40 hy40
      have zy40 := hy40.size
      refine AllV_v ?_
      refine AllV_v ?_
      refine AllV_nil ?_
      refine O_eql (t := false) rfl rfl rfl rfl (decide_eq_false (by omega)) ?_
      exact WL_nil ⟨(Ext.refl _), rfl⟩
     apply AnyR_val [37, 39] rfl (by kernel_rfl)
     · --
      intro y41 hy41
      have zy41 := hy41.size
      refine AllV_v ?_
      refine AllV_v ?_
      refine AllV_nil ?_
      refine O_move rfl rfl rfl ?_
      exact WL_nil ⟨(Ext.refl _), rfl⟩
     apply AnyR_val [40, 0] rfl (by kernel_rfl)
     · --
      intro y42 hy42
      have zy42 := hy42.size
      refine AllV_v ?_
      refine AllV_nil ?_
      refine O_move rfl rfl rfl ?_
      exact WL_nil ⟨(Ext.refl _), rfl⟩
     apply AnyR_val [40, 6] rfl (by kernel_rfl)
     · --
      intro y43 hy43
      have zy43 := hy43.size
      refine AllV_v ?_
      refine AllV_nil ?_
      refine O_move rfl rfl rfl ?_
      exact WL_nil ⟨(Ext.refl _), rfl⟩
     apply AnyR_val [40, 42] rfl (by kernel_rfl)
     · --
      intro y44 hy44
      have zy44 := hy44.size
      refine AllV_v ?_
      refine AllV_v ?_
      refine AllV_nil ?_
      refine O_sub (r := ((i - 1 : Nat) : Int)) rfl rfl rfl rfl (by rw [IntKind.wrap_i64]; omega) ?_
      exact WL_nil ⟨(Ext.refl _), rfl⟩
     apply AnyR_val [40, 41, 43] rfl (by kernel_rfl)
     · --
      intro y45 hy45
      have zy45 := hy45.size
      refine AllV_v ?_
      refine AllV_v ?_
      refine AllV_v ?_
      refine AllV_nil ?_
      refine B_index Ebind rfl rfl rfl rfl (hu.ext (hE.trans hy45)) (i - 1) rfl hi2 (fun _ => ?_)
      exact WL_nil ⟨(Ext.refl _), rfl⟩
     apply AnyR_val [40, 44] rfl (by kernel_rfl)
     · --
      intro y46 hy46
      have zy46 := hy46.size
      refine AllV_v ?_
      refine AllV_v ?_
      refine AllV_nil ?_
      refine K_field F54_0 rfl rfl rfl ?_
      exact WL_nil ⟨(Ext.refl _), rfl⟩
     apply AnyR_val [40, 45] rfl (by kernel_rfl)
     · --
      intro y47 hy47
      have zy47 := hy47.size
      refine AllV_v ?_
      refine AllV_v ?_
      refine AllV_nil ?_
      refine B_cell Try.underlying9 rfl rfl rfl rfl (SlB.row (j := (i - 1)) (hu.ext (hE.trans hy47)) hi2) rfl ?_
      exact WL_nil ⟨(Ext.refl _), rfl⟩
     apply AnyR_val [40, 0] rfl (by kernel_rfl)
     · --
      intro y48 hy48
      have zy48 := hy48.size
      refine AllV_v ?_
      refine AllV_nil ?_
      refine O_move rfl rfl rfl ?_
      exact WL_nil ⟨(Ext.refl _), rfl⟩
     apply AnyR_val [40, 6] rfl (by kernel_rfl)
     · --
      intro y49 hy49
      have zy49 := hy49.size
      refine AllV_v ?_
      refine AllV_nil ?_
      refine O_move rfl rfl rfl ?_
      exact WL_nil ⟨(Ext.refl _), rfl⟩
     apply AnyR_val [40, 47, 48] rfl (by kernel_rfl)
     · --
      intro y50 hy50
      have zy50 := hy50.size
      refine AllV_v ?_
      refine AllV_v ?_
      refine AllV_v ?_
      refine AllV_nil ?_
      refine B_index Ebind rfl rfl rfl rfl (hu.ext (hE.trans hy50)) i rfl hi1 (fun _ => ?_)
      exact WL_nil ⟨(Ext.refl _), rfl⟩
     apply AnyR_val [40, 49] rfl (by kernel_rfl)
     · --
      intro y51 hy51
      have zy51 := hy51.size
      refine AllV_v ?_
      refine AllV_v ?_
      refine AllV_nil ?_
      refine K_field F54_0 rfl rfl rfl ?_
      exact WL_nil ⟨(Ext.refl _), rfl⟩
     apply AnyR_val [40, 50] rfl (by kernel_rfl)
     · --
      intro y52 hy52
      have zy52 := hy52.size
      refine AllV_v ?_
      refine AllV_v ?_
      refine AllV_nil ?_
      refine B_cell Try.underlying9 rfl rfl rfl rfl (SlB.row (j := i) (hu.ext (hE.trans hy52)) hi1) rfl ?_
      exact WL_nil ⟨(Ext.refl _), rfl⟩
     refine AnyR_nil fun y53 hy53 => ?_
     have zy53 := hy53.size
     refine AllV_v ?_
     refine AllV_v ?_
     refine AllV_v ?_
     refine AllV_v ?_
     refine AllV_v ?_
     refine AllV_v ?_
     refine AllV_v ?_
     refine AllV_v ?_
     refine AllV_v ?_
     refine AllV_v ?_
     refine AllV_v ?_
     refine AllV_v ?_
     refine AllV_v ?_
     refine AllV_v ?_
     refine AllV_v ?_
     refine AllV_v ?_
     refine AllV_nil ?_
     refine O_slss rfl rfl rfl rfl ?_
     refine O_pickF rfl rfl rfl rfl ?_
     refine O_pickT rfl rfl rfl rfl ?_
     refine O_assign rfl rfl rfl ?_
     refine WL_end [(0, _), (1, _), (5, _), (25, _), (26, _)] ⟨rfl, rfl, rfl, rfl, rfl, trivial⟩ ?_
     refine WP_region ?_
     refine O_add rfl rfl rfl rfl (wrap_i64_id (by omega) (by omega)) ?_
     refine O_move rfl rfl rfl ?_
     refine WL_end [(0, _), (1, _), (5, _), (25, _), (26, _)] ⟨rfl, rfl, rfl, rfl, rfl, trivial⟩ ?_
     exact ⟨(i + 1, _), ⟨rfl, rfl, rfl, rfl, rfl, trivial⟩, ⟨(hE.trans hy53), by omega, (fun h j hj1 hj2 => by
       by_cases e : j + 1 = i
       · subst e; exact h
       · exact hbi.1 rfl j hj1 (by omega)), fun h => by
       have := h (i - 1) (by omega) (by omega)
       simp only [show i - 1 + 1 = i from by omega] at this
       exact this⟩, by dsimp only; omega⟩
 · --
  refine WP_exit ?_
  refine inBlk_hit ?_
  refine WP_seq ?_
  refine WP_region ?_
  refine O_move rfl rfl rfl ?_
  refine O_call enters17 rfl rfl rfl (grow_c (m := 0) (hl.ext hE) hll (by (try simp only [lens]); omega)) (fun v54 w54 e54 h54 => ?_)
  have z54 := e54.size
  obtain ⟨gx, gf, rs, ts, rfl, ⟨ps, vr, vl, lv, hx, hF, hr, hv, hLL, hG, hps, hrs, hgx⟩, hlen⟩ := h54
  have hasc : b = true ↔ Asc raw := ⟨fun h => asc_of fun j hj => hbi.1 h j hj (by omega), fun h => hbi.2 fun j hj _ => asc_get h hj⟩
  obtain ⟨kn, hkn⟩ : ∃ kn : Nat, rs.length = kn + 1 := ⟨rs.length - 1, by omega⟩
  have hk2 : kn < rs.length := by omega
  have hk3 : kn < ts.length := by have := hG.1; omega
  have hk4 : kn < lv.length := by have := hLL.1; omega
  have hlvl : lv.length ≤ rs.length := by have := hLL.1; have := hG.1; omega
  obtain ⟨hRk, hOk, hAk, hCk⟩ := hG.at_ hk2 hk3
  have h40 := bigB ts[kn] hAk (by omega)
  have henk := Tr.env_length ts[kn]
  have hlve : lv.length = rs.length := by have := hLL.1; have := hG.1; omega
  have hBB : w.heap.size ≤ w9.heap.size := by omega
  refine O_move rfl rfl rfl ?_
  refine O_extract rfl rfl rfl rfl ?_
  refine O_extract rfl rfl rfl rfl ?_
  refine O_assign rfl rfl rfl ?_
  refine O_assign rfl rfl rfl ?_
  refine WL_end [(0, _), (5, _), (7, _), (8, _)] ⟨rfl, rfl, rfl, rfl, trivial⟩ ?_
  refine WP_seq ?_
  refine WP_seq ?_
  refine WP_region ?_
  refine O_move rfl rfl rfl ?_
  refine O_not rfl rfl rfl rfl ?_
  refine WL_end [(0, _), (5, _), (7, _), (62, _)] ⟨rfl, rfl, rfl, rfl, trivial⟩ ?_
  refine WP_condF rfl ?_
  refine WP_skip ?_
  refine WP_seq ?_
  refine WP_sub [(0, _), (5, _), (7, _)] ⟨rfl, rfl, rfl, trivial⟩ ?_
  refine WP_anyR 10 [0, 5, 7] mixed rfl (by kernel_rfl) ?_
  apply AnyR_val [7] rfl (by kernel_rfl)
  · --
   intro y55 hy55
   have zy55 := hy55.size
   refine AllV_nil ?_
   refine O_move rfl rfl rfl ?_
   exact WL_nil ⟨(Ext.refl _), rfl⟩
  apply AnyR_val [63] rfl (by kernel_rfl)
  · --
   intro y56 hy56
   have zy56 := hy56.size
   refine AllV_v ?_
   refine AllV_nil ?_
   refine O_nilCheck rfl rfl rfl ?_
   exact WL_nil ⟨(Ext.refl _), rfl⟩
  apply AnyR_val [64] rfl (by kernel_rfl)
  · --
   intro y57 hy57
   have zy57 := hy57.size
   refine AllV_v ?_
   refine AllV_nil ?_
   refine O_field F32_2 rfl rfl rfl ?_
   exact WL_nil ⟨(Ext.refl _), rfl⟩
  apply AnyR_val [65] rfl (by kernel_rfl)
  · --
   intro y58 hy58
   have zy58 := hy58.size
   refine AllV_v ?_
   refine AllV_nil ?_
   refine O_loadC Try.underlying30 rfl rfl rfl rfl (hx.ext hy58) rfl ?_
   exact WL_nil ⟨(Ext.refl _), rfl⟩
  apply AnyR_val [7] rfl (by kernel_rfl)
  · --
   intro y59 hy59
   have zy59 := hy59.size
   refine AllV_nil ?_
   refine O_move rfl rfl rfl ?_
   exact WL_nil ⟨(Ext.refl _), rfl⟩
  apply AnyR_val [67] rfl (by kernel_rfl)
  · --
   intro y60 hy60
   have zy60 := hy60.size
   refine AllV_v ?_
   refine AllV_nil ?_
   refine O_nilCheck rfl rfl rfl ?_
   exact WL_nil ⟨(Ext.refl _), rfl⟩
  apply AnyR_val [68] rfl (by kernel_rfl)
  · --
   intro y61 hy61
   have zy61 := hy61.size
   refine AllV_v ?_
   refine AllV_nil ?_
   refine O_field F32_2 rfl rfl rfl ?_
   exact WL_nil ⟨(Ext.refl _), rfl⟩
  apply AnyR_val [69] rfl (by kernel_rfl)
  · --
   intro y62 hy62
   have zy62 := hy62.size
   refine AllV_v ?_
   refine AllV_nil ?_
   refine O_loadC Try.underlying30 rfl rfl rfl rfl (hx.ext hy62) rfl ?_
   exact WL_nil ⟨(Ext.refl _), rfl⟩
  apply AnyR_val [70] rfl (by kernel_rfl)
  · --
   intro y63 hy63
   have zy63 := hy63.size
   refine AllV_v ?_
   refine AllV_nil ?_
   refine M_len M30 rfl rfl rfl (hv.ext hy63).sl ?_
   exact WL_nil ⟨(Ext.refl _), rfl⟩
  apply AnyR_val [71] rfl (by kernel_rfl)
  · --
   intro y64 hy64
   have zy64 := hy64.size
   refine AllV_v ?_
   refine AllV_nil ?_
   refine O_sub (r := ((kn : Nat) : Int)) rfl rfl rfl rfl (by rw [IntKind.wrap_i64]; omega) ?_
   exact WL_nil ⟨(Ext.refl _), rfl⟩
  refine AnyR_nil fun y65 hy65 => ?_
  have zy65 := hy65.size
  refine AllV_v ?_
  refine AllV_v ?_
  refine AllV_v ?_
  refine AllV_v ?_
  refine AllV_v ?_
  refine AllV_v ?_
  refine AllV_v ?_
  refine AllV_v ?_
  refine AllV_v ?_
  refine AllV_v ?_
  refine AllV_nil ?_
  refine M_index M30 rfl rfl rfl rfl (hv.ext hy65).sl kn rfl hk4 ?_
  refine M_load Try.underlying34 rfl rfl rfl rfl (hv.ext hy65).sl hk4 ?_
  refine O_assign rfl rfl rfl ?_
  refine WL_end [(0, _), (5, _), (7, _), (9, _)] ⟨rfl, rfl, rfl, rfl, trivial⟩ ?_
  refine WP_seq ?_
  refine WP_region ?_
  refine O_move rfl rfl rfl ?_
  refine O_nilCheck rfl rfl rfl ?_
  refine O_field F32_0 rfl rfl rfl ?_
  refine O_loadC Try.underlying29 rfl rfl rfl rfl (hx.ext hy65) rfl ?_
  refine O_move rfl rfl rfl ?_
  have hGB := ((hF.ext hy65)).lt
  refine O_callG enters40 rfl rfl rfl (Build_O (l := ts[kn].env) (hF.ext hy65) (by have := (hF.ext hy65).lt; omega) ((hLL.ext hy65).at_ hk4 hk3) hOk (by omega) (by omega)) (fun qs66 i66 w66 hT66 hb66 hF66 hq66 hR66 => ?_)
  have zT66 := hT66.size
  have hbe66 := hb66 _ ((hE.trans e54).trans hy65) hBB
  refine O_move rfl rfl rfl ?_
  refine O_extract rfl rfl rfl rfl ?_
  refine O_extract rfl rfl rfl rfl ?_
  refine O_assign rfl rfl rfl ?_
  refine O_assign rfl rfl rfl ?_
  refine WL_end [(0, _), (5, _), (7, _), (9, _), (10, _), (11, _)] ⟨rfl, rfl, rfl, rfl, rfl, rfl, trivial⟩ ?_
  refine WP_seq ?_
  have hbk : (bld ts[kn].env).env = ts[kn].env := bld_env _ _ (Nat.le_refl _)
  have hbc := bld_cnt ts[kn].env
  have hbo : (bld ts[kn].env).Ord := by unfold Tr.Ord; rw [hbk]; exact hOk
  have hba := bld_avl _ ts[kn].env (Nat.le_refl _)
  by_cases ha : Asc raw
  rotate_left
  · --
   obtain rfl : b = false := by cases b with
     | false => rfl
     | true => exact absurd (hasc.1 rfl) ha
   refine WP_region ?_
   refine O_move rfl rfl rfl ?_
   refine O_nilCheck rfl rfl rfl ?_
   refine O_field F32_0 rfl rfl rfl ?_
   refine O_loadC Try.underlying29 rfl rfl rfl rfl ((hx.ext hy65).extT hT66 (by decide)) rfl ?_
   refine O_move rfl rfl rfl ?_
   refine O_call enters40 rfl rfl rfl (Build_N hF66 (hu.ext hbe66) ha (by (try simp only [lens]); omega)) (fun v67 w67 e67 h67 => ?_)
   have z67 := e67.size
   try simp only [val_dig] at h67
   obtain rfl := h67
   refine O_move rfl rfl rfl ?_
   refine O_extract rfl rfl rfl rfl ?_
   refine O_extract rfl rfl rfl rfl ?_
   refine O_assign rfl rfl rfl ?_
   refine O_assign rfl rfl rfl ?_
   refine WL_end [(0, _), (5, _), (7, _), (9, _), (10, _), (11, _), (12, _), (13, _)] ⟨rfl, rfl, rfl, rfl, rfl, rfl, rfl, rfl, trivial⟩ ?_
   refine WP_seq ?_
   refine WP_seq ?_
   refine WP_region ?_
   refine O_move rfl rfl rfl ?_
   refine O_neq (t := false) rfl rfl rfl rfl (decide_eq_false (by decide)) ?_
   refine O_move rfl rfl rfl ?_
   refine O_move rfl rfl rfl ?_
   refine O_nilCheck rfl rfl rfl ?_
   refine O_field F32_0 rfl rfl rfl ?_
   refine O_loadC Try.underlying29 rfl rfl rfl rfl (((hx.ext hy65).extT hT66 (by decide)).ext e67) rfl ?_
   refine O_move rfl rfl rfl ?_
   refine O_call enters20 rfl rfl rfl (List_G (hF66.ext e67) hR66 (by (try simp only [lens]); omega)) (fun v68 w68 e68 h68 => ?_)
   have z68 := e68.size
   refine O_move rfl rfl rfl ?_
   refine O_call enters19 rfl rfl rfl (same_T h68.sl (((((hLL.ext hy65).extT hT66 (by decide)).ext e67).ext e68).at_ hk4 hk3).sl (by rw [hbk]; omega) hbk) (fun v69 w69 e69 h69 => ?_)
   have z69 := e69.size
   obtain rfl := h69
   refine O_not rfl rfl rfl rfl ?_
   refine O_pickF rfl rfl rfl rfl ?_
   refine O_move rfl rfl rfl ?_
   refine O_move rfl rfl rfl ?_
   refine O_nilCheck rfl rfl rfl ?_
   refine O_field F32_0 rfl rfl rfl ?_
   refine O_loadC Try.underlying29 rfl rfl rfl rfl (((((hx.ext hy65).extT hT66 (by decide)).ext e67).ext e68).ext e69) rfl ?_
   refine O_move rfl rfl rfl ?_
   refine O_call enters34 rfl rfl rfl (Balanced_G (((hF66.ext e67).ext e68).ext e69) hR66 hbo hba (by (try simp only [lens]); omega)) (fun v70 w70 e70 h70 => ?_)
   have z70 := e70.size
   obtain rfl := h70
   refine O_not rfl rfl rfl rfl ?_
   refine O_pickF rfl rfl rfl rfl ?_
   refine WL_end [(0, _), (5, _), (7, _), (12, _), (13, _), (114, _)] ⟨rfl, rfl, rfl, rfl, rfl, rfl, trivial⟩ ?_
   refine WP_condF rfl ?_
   refine WP_skip ?_
   refine WP_seq ?_
   refine WP_seq ?_
   refine WP_region ?_
   refine O_move rfl rfl rfl ?_
   refine O_not rfl rfl rfl rfl ?_
   refine WL_end [(0, _), (7, _), (12, _), (13, _), (116, _)] ⟨rfl, rfl, rfl, rfl, rfl, trivial⟩ ?_
   refine WP_condT rfl ?_
   refine WP_seq ?_
   refine WP_region ?_
   refine O_move rfl rfl rfl ?_
   refine O_eql (t := true) rfl rfl rfl rfl (decide_eq_true rfl) ?_
   refine O_move rfl rfl rfl ?_
   refine O_move rfl rfl rfl ?_
   refine O_eql (t := true) rfl rfl rfl rfl (decide_eq_true rfl) ?_
   refine O_pickT rfl rfl rfl rfl ?_
   refine O_assign rfl rfl rfl ?_
   refine WL_end [(4, _)] ⟨rfl, trivial⟩ ?_
   refine WP_ret ?_
   refine ret1 Try.results8 rfl ?_
   exact ⟨_, rfl, ((((hbe66.trans e67).trans e68).trans e69).trans e70), rfl⟩
  · --
   obtain rfl := hasc.2 ha
   have hrk : (bld raw).env = raw := bld_env _ _ (Nat.le_refl _)
   have hrc := bld_cnt raw
   refine WP_region ?_
   refine O_move rfl rfl rfl ?_
   refine O_nilCheck rfl rfl rfl ?_
   refine O_field F32_0 rfl rfl rfl ?_
   refine O_loadC Try.underlying29 rfl rfl rfl rfl ((hx.ext hy65).extT hT66 (by decide)) rfl ?_
   refine O_move rfl rfl rfl ?_
   have hGB := (hF66).lt
   refine O_callG enters40 rfl rfl rfl (Build_R (l := raw) hF66 (by have := hF66.lt; omega) (hu.ext hbe66) (fun hn => Nat.lt_of_lt_of_le (hu.blk_lt hn) hBB) ha (by simp only [List.length_append]; omega) (by omega)) (fun qs71 i71 w71 hT71 hb71 hF71 hq71 hR71 => ?_)
   have zT71 := hT71.size
   have hbe71 := hb71 _ hbe66 hBB
   refine O_move rfl rfl rfl ?_
   refine O_extract rfl rfl rfl rfl ?_
   refine O_extract rfl rfl rfl rfl ?_
   refine O_assign rfl rfl rfl ?_
   refine O_assign rfl rfl rfl ?_
   refine WL_end [(0, _), (5, _), (7, _), (9, _), (10, _), (11, _), (12, _), (13, _)] ⟨rfl, rfl, rfl, rfl, rfl, rfl, rfl, rfl, trivial⟩ ?_
   refine WP_seq ?_
   refine WP_seq ?_
   refine WP_region ?_
   refine O_move rfl rfl rfl ?_
   refine O_neq (t := false) rfl rfl rfl rfl (decide_eq_false (by decide)) ?_
   refine O_move rfl rfl rfl ?_
   refine O_move rfl rfl rfl ?_
   refine O_nilCheck rfl rfl rfl ?_
   refine O_field F32_0 rfl rfl rfl ?_
   refine O_loadC Try.underlying29 rfl rfl rfl rfl (((hx.ext hy65).extT hT66 (by decide)).extT hT71 (by decide)) rfl ?_
   refine O_move rfl rfl rfl ?_
   refine O_call enters20 rfl rfl rfl (List_G hF71 hR66.more (by (try simp only [lens]); omega)) (fun v72 w72 e72 h72 => ?_)
   have z72 := e72.size
   refine O_move rfl rfl rfl ?_
   refine O_call enters19 rfl rfl rfl (same_T h72.sl (((((hLL.ext hy65).extT hT66 (by decide)).extT hT71 (by decide)).ext e72).at_ hk4 hk3).sl (by rw [hbk]; omega) hbk) (fun v73 w73 e73 h73 => ?_)
   have z73 := e73.size
   obtain rfl := h73
   refine O_not rfl rfl rfl rfl ?_
   refine O_pickF rfl rfl rfl rfl ?_
   refine O_move rfl rfl rfl ?_
   refine O_move rfl rfl rfl ?_
   refine O_nilCheck rfl rfl rfl ?_
   refine O_field F32_0 rfl rfl rfl ?_
   refine O_loadC Try.underlying29 rfl rfl rfl rfl (((((hx.ext hy65).extT hT66 (by decide)).extT hT71 (by decide)).ext e72).ext e73) rfl ?_
   refine O_move rfl rfl rfl ?_
   refine O_call enters34 rfl rfl rfl (Balanced_G ((hF71.ext e72).ext e73) hR66.more hbo hba (by (try simp only [lens]); omega)) (fun v74 w74 e74 h74 => ?_)
   have z74 := e74.size
   obtain rfl := h74
   refine O_not rfl rfl rfl rfl ?_
   refine O_pickF rfl rfl rfl rfl ?_
   refine WL_end [(0, _), (5, _), (7, _), (12, _), (13, _), (114, _)] ⟨rfl, rfl, rfl, rfl, rfl, rfl, trivial⟩ ?_
   refine WP_condF rfl ?_
   refine WP_skip ?_
   refine WP_seq ?_
   refine WP_seq ?_
   refine WP_region ?_
   refine O_move rfl rfl rfl ?_
   refine O_not rfl rfl rfl rfl ?_
   refine WL_end [(0, _), (7, _), (12, _), (13, _), (116, _)] ⟨rfl, rfl, rfl, rfl, rfl, trivial⟩ ?_
   refine WP_condF rfl ?_
   refine WP_skip ?_
   refine WP_seq ?_
   refine WP_region ?_
   refine O_move rfl rfl rfl ?_
   refine O_eql (t := true) rfl rfl rfl rfl (decide_eq_true rfl) ?_
   refine O_move rfl rfl rfl ?_
   refine O_move rfl rfl rfl ?_
   refine O_nilCheck rfl rfl rfl ?_
   refine O_field F32_0 rfl rfl rfl ?_
   refine O_loadC Try.underlying29 rfl rfl rfl rfl ((((((hx.ext hy65).extT hT66 (by decide)).extT hT71 (by decide)).ext e72).ext e73).ext e74) rfl ?_
   refine O_move rfl rfl rfl ?_
   refine O_call enters20 rfl rfl rfl (List_G (((hF71.ext e72).ext e73).ext e74) hR71 (by (try simp only [lens]); omega)) (fun v75 w75 e75 h75 => ?_)
   have z75 := e75.size
   refine O_move rfl rfl rfl ?_
   refine O_call enters19 rfl rfl rfl (same_T h75.sl (hu.ext ((((hbe71.trans e72).trans e73).trans e74).trans e75)) (by rw [hrk]; omega) hrk) (fun v76 w76 e76 h76 => ?_)
   have z76 := e76.size
   obtain rfl := h76
   refine O_pickT rfl rfl rfl rfl ?_
   refine O_assign rfl rfl rfl ?_
   refine WL_end [(4, _)] ⟨rfl, trivial⟩ ?_
   refine WP_ret ?_
   refine ret1 Try.results8 rfl ?_
   exact ⟨_, rfl, (((((hbe71.trans e72).trans e73).trans e74).trans e75).trans e76), rfl⟩

theorem law_TreeBuilds {w : World} {u v : Value} {l : List Int} {raw : Env} (hu : SlB w u raw) (hl : SlM fI w v l) : Calls Try.prog 8 #[u, v] w (Ret w fun r _ => r = .bool true) := by
  by_cases hr : raw.length ≤ 60
  · by_cases hll : l.length ≤ 120
    · exact builds_T hu hl hr hll
    · exact builds_F2 hu hl hr hll
  · exact builds_F1 hu hl hr

end Go.Proofs.Ytoccimigjjndpaa
