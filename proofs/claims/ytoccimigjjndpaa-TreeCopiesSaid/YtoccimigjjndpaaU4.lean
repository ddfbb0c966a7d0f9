/-
  Walks.
-/
import Derived.Test.YtoccimigjjndpaaU0
import Derived.Test.YtoccimigjjndpaaMore
set_option linter.unusedVariables false
set_option linter.unusedSimpArgs false
set_option maxRecDepth 100000
namespace Go.Proofs.Ytoccimigjjndpaa
open Go Go.RowKit
theorem clone_nil {w : World} :
    Calls Try.prog 66 #[.slice none 0 0] w (Ret w fun r w' => r = .slice none 0 0) := by
 refine enter (args := [_]) Try.func66 rfl Try.ntmps66 rfl ?_
 refine WP_seq ?_
 refine WP_region ?_
 refine O_assign rfl rfl rfl ?_
 refine WL_end [(0, _)] ⟨rfl, trivial⟩ ?_
 refine WP_seq ?_
 refine WP_seq ?_
 refine WP_region ?_
 refine O_move rfl rfl rfl ?_
 refine O_slnil Try.underlying101 rfl rfl rfl (OwnK.nil 6 0 97 w) (fun _ _ => ?_) (fun h => absurd rfl h)
 refine WL_end [(0, _), (4, _)] ⟨rfl, rfl, trivial⟩ ?_
 refine WP_condT rfl ?_
 refine WP_seq ?_
 refine WP_region ?_
 refine O_assign rfl rfl rfl ?_
 refine WL_end [(2, _)] ⟨rfl, trivial⟩ ?_
 refine WP_ret ?_
 refine ret1 Try.results66 rfl ?_
 exact ⟨_, rfl, (Ext.refl _), rfl⟩
theorem clone_c {w : World} {u : Value} {ps : List Part} {B : Nat} (hO : OwnK 6 B 97 w u (ps.map pcells)) (hl : ps.length ≤ 90000000) (hn : u ≠ .slice none 0 0) :
    Calls Try.prog 66 #[u] w (Ret w fun r w' => OwnK 6 w.heap.size 97 w' r (ps.map pcells)) := by
 refine enter (args := [u]) Try.func66 rfl Try.ntmps66 rfl ?_
 refine WP_seq ?_
 refine WP_region ?_
 refine O_assign rfl rfl rfl ?_
 refine WL_end [(0, _)] ⟨rfl, trivial⟩ ?_
 refine WP_seq ?_
 refine WP_seq ?_
 refine WP_region ?_
 refine O_move rfl rfl rfl ?_
 refine O_slnil Try.underlying101 rfl rfl rfl hO (fun h _ => absurd h hn) (fun _ => ?_)
 refine WL_end [(0, _), (4, _)] ⟨rfl, rfl, trivial⟩ ?_
 refine WP_condF rfl ?_
 refine WP_skip ?_
 refine WP_seq ?_
 refine WP_region ?_
 refine K_lit0 Eparts rfl rfl (fun v5 w5 o5 e5 => ?_)
 have z5 := e5.size
 refine O_move rfl rfl rfl ?_
 refine K_append Eparts rfl rfl rfl rfl rfl o5 (hO.sl.ext e5) pcells_one (by simp only [List.length_nil, List.length_map]; omega) rfl z5 (fun v7 w7 o7 r7 k7 => ?_)
 have e7 : Ext w w7 := grown_ext r7 e5 (fun k hk => (o5.lt k hk).1)
 refine O_assign rfl rfl rfl ?_
 refine WL_end [(2, _)] ⟨rfl, trivial⟩ ?_
 refine WP_ret ?_
 refine ret1 Try.results66 rfl ?_
 rw [List.nil_append] at o7
 exact ⟨_, rfl, e7, o7⟩
theorem clone_G {w : World} {u : Value} {ps : List Part} {B : Nat} (hO : OwnK 6 B 97 w u (ps.map pcells)) (hl : ps.length ≤ 90000000) : Calls Try.prog 66 #[u] w (Ret w fun r w' => OwnK 6 w.heap.size 97 w' r (ps.map pcells)) := by
  by_cases hn : u = .slice none 0 0
  · subst hn
    have hps : ps = [] := by
      obtain ⟨⟨_, h | ⟨g, cap, cur, h, _⟩⟩, _⟩ := hO
      · simpa using h.2
      · cases h
    subst hps
    exact clone_nil.mono fun _ w' ⟨r, he, hx, hr⟩ => ⟨r, he, hx, by rw [hr]; exact OwnK.nil _ _ _ _⟩
  · exact clone_c hO hl hn
theorem Copy_c {w : World} {g r : Nat} {ps : List Part} (hF : Fo w g r ps) (hlp : ps.length ≤ 90000000) :
    Calls Try.prog 32 #[.pointer (some ⟨g, 0, none⟩)] w (Ret w fun r w' => ∃ gc, r = .pointer (some ⟨gc, 0, none⟩) ∧ FG w.heap.size w' gc ps) := by
 have hF0 := hF
 obtain ⟨fv, hB, hO, hne, hr⟩ := hF
 have hlm : (ps.map pcells).length = ps.length := List.length_map ..
 refine enter (args := [_]) Try.func32 rfl Try.ntmps32 rfl ?_
 refine WP_seq ?_
 refine WP_region ?_
 refine O_assign rfl rfl rfl ?_
 refine WL_end [(0, _)] ⟨rfl, trivial⟩ ?_
 refine WP_seq ?_
 refine WP_region ?_
 refine O_move rfl rfl rfl ?_
 refine O_nilCheck rfl rfl rfl ?_
 refine O_field F103_0 rfl rfl rfl ?_
 refine O_loadC Try.underlying101 rfl rfl rfl rfl hB rfl ?_
 refine O_call enters66 rfl rfl rfl (clone_G hO hlp) (fun v1 w1 e1 h1 => ?_)
 have z1 := e1.size
 refine O_build (cs := [_]) B103 rfl rfl rfl (cells_cons (h1).cells1 cells_nil) rfl ?_
 refine O_box _ rfl rfl rfl rfl (fun g2 w2 b2 e2 gl2 gh2 => ?_)
 have z2 := e2.size
 refine O_assign rfl rfl rfl ?_
 refine WL_end [(2, _)] ⟨rfl, trivial⟩ ?_
 refine WP_ret ?_
 refine ret1 Try.results32 rfl ?_
 have hob : ∀ k, v1.ownBlock = some k → w.heap.size ≤ k ∧ k < w1.heap.size := h1.lt
 refine ⟨_, rfl, (e1.trans e2), g2, rfl, (v1.ownBlock).getD g2, ⟨v1, b2, (h1.ext e2).mono (Nat.zero_le _), fun h => ?_, rfl⟩, by omega, ?_⟩
 · have := hob _ h; omega
 · cases hv : v1.ownBlock with
   | none => simp; omega
   | some k => have := hob k hv; simp; omega
theorem Copy_G {w : World} {B g : Nat} {ps : List Part} (hF : FG B w g ps) (hlp : ps.length ≤ 90000000) : Calls Try.prog 32 #[.pointer (some ⟨g, 0, none⟩)] w (Ret w fun r w' => ∃ gc, r = .pointer (some ⟨gc, 0, none⟩) ∧ FG w.heap.size w' gc ps) := by
  obtain ⟨r, hr, _⟩ := hF
  exact Copy_c hr hlp

theorem copies_F1 {w : World} {v : Value} {l : List Int} {s : ByteArray} (hl : SlM fI w v l) (hll : ¬ l.length ≤ 120) :
    Calls Try.prog 5 #[v, .string s] w (Ret w fun r _ => r = .bool true) := by
 refine enter (args := [v, _]) Try.func5 rfl Try.ntmps5 rfl ?_
 refine WP_seq ?_
 refine WP_region ?_
 refine O_assign rfl rfl rfl ?_
 refine WL_end [(0, _), (1, _)] ⟨rfl, rfl, trivial⟩ ?_
 refine WP_seq ?_
 refine WP_seq ?_
 refine WP_region ?_
 refine O_call enters15 rfl rfl rfl (awake_c) (fun v1 w1 e1 h1 => ?_)
 have z1 := e1.size
 obtain rfl := h1
 refine O_not rfl rfl rfl rfl ?_
 refine WL_end [(0, _), (1, _), (15, _)] ⟨rfl, rfl, rfl, trivial⟩ ?_
 refine WP_condF rfl ?_
 refine WP_skip ?_
 refine WP_seq ?_
 refine WP_seq ?_
 refine WP_region ?_
 refine O_move rfl rfl rfl ?_
 refine O_call enters16 rfl rfl rfl (light_F (hl.ext e1) hll) (fun v2 w2 e2 h2 => ?_)
 have z2 := e2.size
 obtain rfl := h2
 refine O_not rfl rfl rfl rfl ?_
 refine O_move rfl rfl rfl ?_
 refine O_skip rfl rfl ?_
 refine O_skip rfl rfl ?_
 refine O_skip rfl rfl ?_
 refine O_pickT rfl rfl rfl rfl ?_
 refine WL_end [(0, _), (1, _), (23, _)] ⟨rfl, rfl, rfl, trivial⟩ ?_
 refine WP_condT rfl ?_
 refine WP_seq ?_
 refine WP_region ?_
 refine O_assign rfl rfl rfl ?_
 refine WL_end [(4, _)] ⟨rfl, trivial⟩ ?_
 refine WP_ret ?_
 refine ret1 Try.results5 rfl ?_
 exact ⟨_, rfl, (e1.trans e2), rfl⟩
theorem copies_F2 {w : World} {v : Value} {l : List Int} {s : ByteArray} (hl : SlM fI w v l) (hll : l.length ≤ 120) (hs : ¬ s.size ≤ 100) :
    Calls Try.prog 5 #[v, .string s] w (Ret w fun r _ => r = .bool true) := by
 refine enter (args := [v, _]) Try.func5 rfl Try.ntmps5 rfl ?_
 refine WP_seq ?_
 refine WP_region ?_
 refine O_assign rfl rfl rfl ?_
 refine WL_end [(0, _), (1, _)] ⟨rfl, rfl, trivial⟩ ?_
 refine WP_seq ?_
 refine WP_seq ?_
 refine WP_region ?_
 refine O_call enters15 rfl rfl rfl (awake_c) (fun v1 w1 e1 h1 => ?_)
 have z1 := e1.size
 obtain rfl := h1
 refine O_not rfl rfl rfl rfl ?_
 refine WL_end [(0, _), (1, _), (15, _)] ⟨rfl, rfl, rfl, trivial⟩ ?_
 refine WP_condF rfl ?_
 refine WP_skip ?_
 refine WP_seq ?_
 refine WP_seq ?_
 refine WP_region ?_
 refine O_move rfl rfl rfl ?_
 refine O_call enters16 rfl rfl rfl (light_T (hl.ext e1) hll) (fun v2 w2 e2 h2 => ?_)
 have z2 := e2.size
 obtain rfl := h2
 refine O_not rfl rfl rfl rfl ?_
 refine O_move rfl rfl rfl ?_
 refine O_move rfl rfl rfl ?_
 refine O_lenS Try.underlying9 rfl rfl rfl ?_
 refine O_gtr (t := true) rfl rfl rfl rfl (decide_eq_true (by omega)) ?_
 refine O_pickF rfl rfl rfl rfl ?_
 refine WL_end [(0, _), (1, _), (23, _)] ⟨rfl, rfl, rfl, trivial⟩ ?_
 refine WP_condT rfl ?_
 refine WP_seq ?_
 refine WP_region ?_
 refine O_assign rfl rfl rfl ?_
 refine WL_end [(4, _)] ⟨rfl, trivial⟩ ?_
 refine WP_ret ?_
 refine ret1 Try.results5 rfl ?_
 exact ⟨_, rfl, (e1.trans e2), rfl⟩
theorem Get_77 {w : World} {B g : Nat} {ps : List Part} (hF : FG B w g ps) {i : Int} {t : Tr} (hR : Rep ps i t) (ho : t.Ord) {s : ByteArray} {E : Env} {x : Int} (hv : t.env = eset E s x) : Calls Try.prog 33 #[.pointer (some ⟨g, 0, none⟩), .int .i64 i, .string s] w (Ret w fun r _ => r = .tuple #[.int .i64 x, .bool true]) :=
  (Get_G hF hR ho s).mono fun _ w' ⟨r, he, hx', hr⟩ => ⟨r, he, hx', by rw [hr, hv, eget_eset]; rfl⟩
set_option maxHeartbeats 4000000 in
theorem copies_T {w : World} {v : Value} {l : List Int} {s : ByteArray} (hl : SlM fI w v l) (hll : l.length ≤ 120) (hs : s.size ≤ 100) :
    Calls Try.prog 5 #[v, .string s] w (Ret w fun r _ => r = .bool true) := by
 refine enter (args := [v, _]) Try.func5 rfl Try.ntmps5 rfl ?_
 refine WP_seq ?_
 refine WP_region ?_
 refine O_assign rfl rfl rfl ?_
 refine WL_end [(0, _), (1, _)] ⟨rfl, rfl, trivial⟩ ?_
 refine WP_seq ?_
 refine WP_seq ?_
 refine WP_region ?_
 refine O_call enters15 rfl rfl rfl (awake_c) (fun v1 w1 e1 h1 => ?_)
 have z1 := e1.size
 obtain rfl := h1
 refine O_not rfl rfl rfl rfl ?_
 refine WL_end [(0, _), (1, _), (15, _)] ⟨rfl, rfl, rfl, trivial⟩ ?_
 refine WP_condF rfl ?_
 refine WP_skip ?_
 refine WP_seq ?_
 refine WP_seq ?_
 refine WP_region ?_
 refine O_move rfl rfl rfl ?_
 refine O_call enters16 rfl rfl rfl (light_T (hl.ext e1) hll) (fun v2 w2 e2 h2 => ?_)
 have z2 := e2.size
 obtain rfl := h2
 refine O_not rfl rfl rfl rfl ?_
 refine O_move rfl rfl rfl ?_
 refine O_move rfl rfl rfl ?_
 refine O_lenS Try.underlying9 rfl rfl rfl ?_
 refine O_gtr (t := false) rfl rfl rfl rfl (decide_eq_false (by omega)) ?_
 refine O_pickF rfl rfl rfl rfl ?_
 refine WL_end [(0, _), (1, _), (23, _)] ⟨rfl, rfl, rfl, trivial⟩ ?_
 refine WP_condF rfl ?_
 refine WP_skip ?_
 refine WP_seq ?_
 refine WP_region ?_
 refine O_move rfl rfl rfl ?_
 refine O_call enters17 rfl rfl rfl (grow_c (m := 0) (hl.ext (e1.trans e2)) hll (by (try simp only [lens]); omega)) (fun v3 w3 e3 h3 => ?_)
 have z3 := e3.size
 obtain ⟨gx, gf, rs, ts, rfl, ⟨ps, vr, vl, lv, hx, hF, hr, hv, hLL, hG, hps, hrs, hgx⟩, hlen⟩ := h3
 obtain ⟨kn, hkn⟩ : ∃ kn : Nat, rs.length = kn + 1 := ⟨rs.length - 1, by omega⟩
 have hk2 : kn < rs.length := by omega
 have hk3 : kn < ts.length := by have := hG.1; omega
 have hk4 : kn < lv.length := by have := hLL.1; omega
 have hlvl : lv.length ≤ rs.length := by have := hLL.1; have := hG.1; omega
 obtain ⟨hRk, hOk, hAk, hCk⟩ := hG.at_ hk2 hk3
 have h40 := bigB ts[kn] hAk (by omega)
 have henk := Tr.env_length ts[kn]
 refine O_move rfl rfl rfl ?_
 refine O_extract rfl rfl rfl rfl ?_
 refine O_extract rfl rfl rfl rfl ?_
 refine O_assign rfl rfl rfl ?_
 refine O_assign rfl rfl rfl ?_
 refine WL_end [(1, _), (5, _), (6, _)] ⟨rfl, rfl, rfl, trivial⟩ ?_
 refine WP_seq ?_
 refine WP_seq ?_
 refine WP_region ?_
 refine O_move rfl rfl rfl ?_
 refine O_not rfl rfl rfl rfl ?_
 refine WL_end [(1, _), (5, _), (30, _)] ⟨rfl, rfl, rfl, trivial⟩ ?_
 refine WP_condF rfl ?_
 refine WP_skip ?_
 refine WP_seq ?_
 refine WP_region ?_
 refine O_move rfl rfl rfl ?_
 refine O_nilCheck rfl rfl rfl ?_
 refine O_field F32_0 rfl rfl rfl ?_
 refine O_loadC Try.underlying29 rfl rfl rfl rfl hx rfl ?_
 have k4 := hx
 have k5 := hF
 have k6 := hr
 have k7 := hv
 have k8 := hLL
 have hEc0 : Ext w w3 := ((e1.trans e2).trans e3)
 have zEc0 := hEc0.size
 refine O_call enters32 rfl rfl rfl (Copy_G k5 (by (try simp only [lens]); omega)) (fun v9 w9 e9 h9 => ?_)
 have z9 := e9.size
 obtain ⟨gc, rfl, hGc⟩ := h9
 refine O_assign rfl rfl rfl ?_
 refine WL_end [(1, _), (5, _), (7, _)] ⟨rfl, rfl, rfl, trivial⟩ ?_
 refine WP_seq ?_
 refine WP_seq ?_
 refine WP_region ?_
 refine O_move rfl rfl rfl ?_
 refine O_ptrnil Try.underlying29 rfl rfl rfl ?_
 refine WL_end [(1, _), (5, _), (7, _), (37, _)] ⟨rfl, rfl, rfl, rfl, trivial⟩ ?_
 refine WP_condF rfl ?_
 refine WP_skip ?_
 refine WP_seq ?_
 refine WP_region ?_
 refine O_move rfl rfl rfl ?_
 refine O_nilCheck rfl rfl rfl ?_
 refine O_field F32_0 rfl rfl rfl ?_
 refine O_loadC Try.underlying29 rfl rfl rfl rfl (k4.ext e9) rfl ?_
 refine O_call enters24 rfl rfl rfl (Size_G (k5.ext e9)) (fun v10 w10 e10 h10 => ?_)
 have z10 := e10.size
 obtain rfl := h10
 refine O_assign rfl rfl rfl ?_
 refine WL_end [(1, _), (5, _), (7, _), (8, _)] ⟨rfl, rfl, rfl, rfl, trivial⟩ ?_
 refine WP_seq ?_
 have hGcW := (hGc.ext e10)
 have hEcW : Ext w3 w10 := (e9.trans e10)
 have zEcW := hEcW.size
 refine WP_sub [(1, _), (5, _), (7, _), (8, _)] ⟨rfl, rfl, rfl, rfl, trivial⟩ ?_
 refine WP_anyE (XU (FRetU (fun i => .int .i64 i) w3.heap.size gc ps rs[kn] ts[kn].env (eset ts[kn].env s 77) (3 * ts[kn].ht + 1) w10) w10) (fun w' => ExtT TFP w10 w') 15 [1, 5, 7, 8] [14] [57] mixed rfl (by kernel_rfl) (by kernel_rfl) XU.toT (fun w' h => h) ?_
 apply AnyE_val [7] rfl rfl rfl
 · --
  intro y11_ hy
  refine O_move rfl rfl rfl ?_
  exact WL_nil ⟨rfl, rfl⟩
 apply AnyE_val [5] rfl rfl rfl
 · --
  intro y11_ hy
  refine O_move rfl rfl rfl ?_
  exact WL_nil ⟨rfl, rfl⟩
 apply AnyE_val [44] rfl rfl rfl
 · --
  intro y11_ hy
  refine O_nilCheck rfl rfl rfl ?_
  exact WL_nil ⟨rfl, rfl⟩
 apply AnyE_val [45] rfl rfl rfl
 · --
  intro y11_ hy
  refine O_field F32_1 rfl rfl rfl ?_
  exact WL_nil ⟨rfl, rfl⟩
 apply AnyE_val [46] rfl rfl rfl
 · --
  intro y11_ hy
  refine O_loadC Try.underlying22 rfl rfl rfl rfl (((k4.ext e9).ext e10).extT hy (by decide)) rfl ?_
  exact WL_nil ⟨rfl, rfl⟩
 apply AnyE_val [5] rfl rfl rfl
 · --
  intro y11_ hy
  refine O_move rfl rfl rfl ?_
  exact WL_nil ⟨rfl, rfl⟩
 apply AnyE_val [48] rfl rfl rfl
 · --
  intro y11_ hy
  refine O_nilCheck rfl rfl rfl ?_
  exact WL_nil ⟨rfl, rfl⟩
 apply AnyE_val [49] rfl rfl rfl
 · --
  intro y11_ hy
  refine O_field F32_1 rfl rfl rfl ?_
  exact WL_nil ⟨rfl, rfl⟩
 apply AnyE_val [50] rfl rfl rfl
 · --
  intro y11_ hy
  refine O_loadC Try.underlying22 rfl rfl rfl rfl (((k4.ext e9).ext e10).extT hy (by decide)) rfl ?_
  exact WL_nil ⟨rfl, rfl⟩
 apply AnyE_val [51] rfl rfl rfl
 · --
  intro y11_ hy
  refine M_len M22 rfl rfl rfl (((k6.ext e9).ext e10).extT hy (by decide)).sl ?_
  exact WL_nil ⟨rfl, rfl⟩
 apply AnyE_val [52] rfl rfl rfl
 · --
  intro y11_ hy
  refine O_sub (r := ((kn : Nat) : Int)) rfl rfl rfl rfl (by rw [IntKind.wrap_i64]; omega) ?_
  exact WL_nil ⟨rfl, rfl⟩
 apply AnyE_val [47, 53] rfl rfl rfl
 · --
  intro y11_ hy
  refine M_index M22 rfl rfl rfl rfl (((k6.ext e9).ext e10).extT hy (by decide)).sl kn rfl hk2 ?_
  exact WL_nil ⟨rfl, rfl⟩
 apply AnyE_val [54] rfl rfl rfl
 · --
  intro y11_ hy
  refine M_load Try.underlying3 rfl rfl rfl rfl (((k6.ext e9).ext e10).extT hy (by decide)).sl hk2 ?_
  exact WL_nil ⟨rfl, rfl⟩
 apply AnyE_val [1] rfl rfl rfl
 · --
  intro y11_ hy
  refine O_move rfl rfl rfl ?_
  exact WL_nil ⟨rfl, rfl⟩
 apply AnyE_eff 0 [43, 55, 56] rfl rfl rfl
 · --
  intro vs y11_ hl hX
  obtain rfl : vs = [] := List.eq_nil_of_length_eq_zero hl
  have hX0 : Ext w10 y11_ := hX
  have zy := hX0.size
  refine O_callR enters28 rfl rfl rfl (Set_U (hGcW.ext hX0) (by omega) hRk hOk hAk (by omega) (by omega) _ _) (fun e2 w2 hR2 => ?_)
  have hR3 := FRetU.pre hX0 hR2
  obtain ⟨qs2, i2, u2, he2, -⟩ := hR2
  subst he2
  exact ⟨_, rfl, WL_nil ⟨_, rfl, hR3⟩⟩
 refine AnyE_nil fun vs y11_ hl hX => ?_
 obtain ⟨u0, rfl⟩ := len1 hl
 obtain ⟨qs, i9, t9, he9, hT9, hb9, hF9, hq9, hR9, hO9, hA9, hv9, hsm9⟩ := hX
 cases he9
 have hEc := hb9 _ hEcW (Nat.le_refl _)
 have hEE := hb9 _ ((((e1.trans e2).trans e3).trans e9).trans e10) zEc0
 have zEc := hEc.size
 refine O_assign rfl rfl rfl ?_
 refine WL_end [(1, _), (5, _), (7, _), (8, _), (9, _)] ⟨rfl, rfl, rfl, rfl, rfl, trivial⟩ ?_
 refine WP_seq ?_
 refine WP_seq ?_
 refine WP_region ?_
 refine O_move rfl rfl rfl ?_
 refine O_nilCheck rfl rfl rfl ?_
 refine O_field F32_1 rfl rfl rfl ?_
 refine O_loadC Try.underlying22 rfl rfl rfl rfl (k4.ext hEc) rfl ?_
 refine M_len M22 rfl rfl rfl (k6.ext hEc).sl ?_
 refine O_move rfl rfl rfl ?_
 refine WL_end [(1, _), (5, _), (7, _), (8, _), (9, _), (61, _), (62, _), (63, _)] ⟨rfl, rfl, rfl, rfl, rfl, rfl, rfl, rfl, trivial⟩ ?_
 refine WP_block ?_
 have k12 := (k4.ext hEc)
 have k13 := (k5.ext hEc)
 have k14 := (k6.ext hEc)
 have k15 := (k7.ext hEc)
 have k16 := (k8.ext hEc)
 have k17 := hF9
 refine WP_loop (S := Nat) (fun jn => [(1, .string s), (5, .pointer (some ⟨gx, 0, none⟩)), (7, .pointer (some ⟨gc, 0, none⟩)), (8, .int .i64 (ps.length : Nat)), (9, .int .i64 i9), (61, vr), (62, .int .i64 (rs.length : Nat)), (63, .int .i64 (jn : Nat))]) (fun jn w' => Ext w w' ∧ Ext y11_ w' ∧ jn ≤ rs.length) (fun jn => rs.length - jn) 0 ⟨rfl, rfl, rfl, rfl, rfl, rfl, rfl, rfl, trivial⟩ ⟨hEE, Ext.refl _, Nat.zero_le _⟩ ?_
 rintro jn w9 ⟨hE, hEg, hjn⟩
 have zE := hE.size
 have zEg := hEg.size
 refine WP_seq ?_
 refine WP_region ?_
 refine O_lss rfl rfl rfl rfl rfl ?_
 refine WL_end [(1, _), (5, _), (7, _), (8, _), (9, _), (61, _), (62, _), (63, _), (64, _)] ⟨rfl, rfl, rfl, rfl, rfl, rfl, rfl, rfl, rfl, trivial⟩ ?_
 refine WP_seq ?_
 refine WP_condD rfl (fun c64 => ?_) (fun c64 => ?_)
 · --
  refine WP_skip ?_
  refine WP_seq ?_
  refine WP_block ?_
  refine WP_seq ?_
  have hj2 : jn < rs.length := by omega
  have hj3 : jn < ts.length := by have := hG.1; omega
  have hj4 : jn < lv.length := by have := hLL.1; omega
  have hlvm : lv.length ≤ rs.length := by have := hLL.1; have := hG.1; omega
  obtain ⟨hRj, hOj, hAj, hCj⟩ := hG.at_ hj2 hj3
  have h41 := bigB ts[jn] hAj (by omega)
  have henj := Tr.env_length ts[jn]
  · --
   skip
   refine WP_region ?_
   refine O_move rfl rfl rfl ?_
   refine M_index M22 rfl rfl rfl rfl (k14.ext hEg).sl jn rfl hj2 ?_
   refine M_load Try.underlying3 rfl rfl rfl rfl (k14.ext hEg).sl hj2 ?_
   refine O_assign rfl rfl rfl ?_
   refine O_assign rfl rfl rfl ?_
   refine WL_end [(1, _), (5, _), (7, _), (8, _), (9, _), (10, _), (11, _), (61, _), (62, _), (63, _)] ⟨rfl, rfl, rfl, rfl, rfl, rfl, rfl, rfl, rfl, rfl, trivial⟩ ?_
   refine WP_seq ?_
   refine WP_sub [(1, _), (5, _), (7, _), (8, _), (9, _), (10, _), (11, _), (61, _), (62, _), (63, _)] ⟨rfl, rfl, rfl, rfl, rfl, rfl, rfl, rfl, rfl, rfl, trivial⟩ ?_
   refine WP_anyR 29 [1, 5, 7, 8, 9, 10, 11, 61, 62, 63] mixed rfl (by kernel_rfl) ?_
   apply AnyR_val [7] rfl (by kernel_rfl)
   · --
    intro y18 hy18
    have zy18 := hy18.size
    refine AllV_nil ?_
    refine O_move rfl rfl rfl ?_
    exact WL_nil ⟨(Ext.refl _), rfl⟩
   apply AnyR_val [11] rfl (by kernel_rfl)
   · --
    intro y19 hy19
    have zy19 := hy19.size
    refine AllV_nil ?_
    refine O_move rfl rfl rfl ?_
    exact WL_nil ⟨(Ext.refl _), rfl⟩
   apply AnyR_rel (OwBR (ts[jn].env)) [68, 69] rfl OwBR.mono (by kernel_rfl)
   · --
    intro y20 hy20
    have zy20 := hy20.size
    refine AllV_v ?_
    refine AllV_v ?_
    refine AllV_nil ?_
    refine O_call enters20 rfl rfl rfl (List_G ((k17.ext hEg).ext hy20) hRj.more (by (try simp only [lens]); omega)) (fun v21 w21 e21 h21 => ?_)
    have z21 := e21.size
    exact WL_nil ⟨e21, _, rfl, ((h21).mono (Nat.zero_le _))⟩
   apply AnyR_val [5] rfl (by kernel_rfl)
   · --
    intro y22 hy22
    have zy22 := hy22.size
    refine AllV_nil ?_
    refine O_move rfl rfl rfl ?_
    exact WL_nil ⟨(Ext.refl _), rfl⟩
   apply AnyR_val [71] rfl (by kernel_rfl)
   · --
    intro y23 hy23
    have zy23 := hy23.size
    refine AllV_v ?_
    refine AllV_nil ?_
    refine O_nilCheck rfl rfl rfl ?_
    exact WL_nil ⟨(Ext.refl _), rfl⟩
   apply AnyR_val [72] rfl (by kernel_rfl)
   · --
    intro y24 hy24
    have zy24 := hy24.size
    refine AllV_v ?_
    refine AllV_nil ?_
    refine O_field F32_2 rfl rfl rfl ?_
    exact WL_nil ⟨(Ext.refl _), rfl⟩
   apply AnyR_val [73] rfl (by kernel_rfl)
   · --
    intro y25 hy25
    have zy25 := hy25.size
    refine AllV_v ?_
    refine AllV_nil ?_
    refine O_loadC Try.underlying30 rfl rfl rfl rfl ((k12.ext hEg).ext hy25) rfl ?_
    exact WL_nil ⟨(Ext.refl _), rfl⟩
   apply AnyR_val [10] rfl (by kernel_rfl)
   · --
    intro y26 hy26
    have zy26 := hy26.size
    refine AllV_nil ?_
    refine O_move rfl rfl rfl ?_
    exact WL_nil ⟨(Ext.refl _), rfl⟩
   apply AnyR_val [74, 75] rfl (by kernel_rfl)
   · --
    intro y27 hy27
    have zy27 := hy27.size
    refine AllV_v ?_
    refine AllV_v ?_
    refine AllV_nil ?_
    refine M_index M30 rfl rfl rfl rfl ((k15.ext hEg).ext hy27).sl jn rfl hj4 ?_
    exact WL_nil ⟨(Ext.refl _), rfl⟩
   apply AnyR_val [76] rfl (by kernel_rfl)
   · --
    intro y28 hy28
    have zy28 := hy28.size
    refine AllV_v ?_
    refine AllV_nil ?_
    refine M_load Try.underlying34 rfl rfl rfl rfl ((k15.ext hEg).ext hy28).sl hj4 ?_
    exact WL_nil ⟨(Ext.refl _), rfl⟩
   apply AnyR_val [70, 77] rfl (by kernel_rfl)
   · --
    intro y29 hy29
    have zy29 := hy29.size
    refine AllV_r fun a30 b30 v30 la30 lb30 lc30 h30 ap30 => ?_
    clear ap30
    have h30 : OwB 0 _ v30 _ := h30
    refine AllV_v ?_
    refine AllV_nil ?_
    refine O_call enters19 rfl rfl rfl (same_T h30.sl (((k16.ext hEg).ext hy29).at_ hj4 hj3).sl (by (try simp only [lens]); omega) rfl) (fun v31 w31 e31 h31 => ?_)
    have z31 := e31.size
    obtain rfl := h31
    exact WL_nil ⟨e31, rfl⟩
   apply AnyR_val [78] rfl (by kernel_rfl)
   · --
    intro y32 hy32
    have zy32 := hy32.size
    refine AllV_v ?_
    refine AllV_nil ?_
    refine O_not rfl rfl rfl rfl ?_
    exact WL_nil ⟨(Ext.refl _), rfl⟩
   apply AnyR_val [79] rfl (by kernel_rfl)
   · --
    intro y33 hy33
    have zy33 := hy33.size
    refine AllV_v ?_
    refine AllV_nil ?_
    refine O_move rfl rfl rfl ?_
    exact WL_nil ⟨(Ext.refl _), rfl⟩
   apply AnyR_val [80, 5] rfl (by kernel_rfl)
   · --
    intro y34 hy34
    have zy34 := hy34.size
    refine AllV_v ?_
    refine AllV_nil ?_
    refine O_move rfl rfl rfl ?_
    exact WL_nil ⟨(Ext.refl _), rfl⟩
   apply AnyR_val [80, 81] rfl (by kernel_rfl)
   · --
    intro y35 hy35
    have zy35 := hy35.size
    refine AllV_v ?_
    refine AllV_v ?_
    refine AllV_nil ?_
    refine O_nilCheck rfl rfl rfl ?_
    exact WL_nil ⟨(Ext.refl _), rfl⟩
   apply AnyR_val [80, 82] rfl (by kernel_rfl)
   · --
    intro y36 hy36
    have zy36 := hy36.size
    refine AllV_v ?_
    refine AllV_v ?_
    refine AllV_nil ?_
    refine O_field F32_0 rfl rfl rfl ?_
    exact WL_nil ⟨(Ext.refl _), rfl⟩
   apply AnyR_val [80, 83] rfl (by kernel_rfl)
   · --
    intro y37 hy37
    have zy37 := hy37.size
    refine AllV_v ?_
    refine AllV_v ?_
    refine AllV_nil ?_
    refine O_loadC Try.underlying29 rfl rfl rfl rfl ((k12.ext hEg).ext hy37) rfl ?_
    exact WL_nil ⟨(Ext.refl _), rfl⟩
   apply AnyR_val [80, 11] rfl (by kernel_rfl)
   · --
    intro y38 hy38
    have zy38 := hy38.size
    refine AllV_v ?_
    refine AllV_nil ?_
    refine O_move rfl rfl rfl ?_
    exact WL_nil ⟨(Ext.refl _), rfl⟩
   apply AnyR_rel (OwBR (ts[jn].env)) [80, 84, 85] rfl OwBR.mono (by kernel_rfl)
   · --
    intro y39 hy39
    have zy39 := hy39.size
    refine AllV_v ?_
    refine AllV_v ?_
    refine AllV_v ?_
    refine AllV_nil ?_
    refine O_call enters20 rfl rfl rfl (List_G ((k13.ext hEg).ext hy39) hRj (by (try simp only [lens]); omega)) (fun v40 w40 e40 h40 => ?_)
    have z40 := e40.size
    exact WL_nil ⟨e40, _, rfl, ((h40).mono (Nat.zero_le _))⟩
   apply AnyR_val [80, 5] rfl (by kernel_rfl)
   · --
    intro y41 hy41
    have zy41 := hy41.size
    refine AllV_v ?_
    refine AllV_nil ?_
    refine O_move rfl rfl rfl ?_
    exact WL_nil ⟨(Ext.refl _), rfl⟩
   apply AnyR_val [80, 87] rfl (by kernel_rfl)
   · --
    intro y42 hy42
    have zy42 := hy42.size
    refine AllV_v ?_
    refine AllV_v ?_
    refine AllV_nil ?_
    refine O_nilCheck rfl rfl rfl ?_
    exact WL_nil ⟨(Ext.refl _), rfl⟩
   apply AnyR_val [80, 88] rfl (by kernel_rfl)
   · --
    intro y43 hy43
    have zy43 := hy43.size
    refine AllV_v ?_
    refine AllV_v ?_
    refine AllV_nil ?_
    refine O_field F32_2 rfl rfl rfl ?_
    exact WL_nil ⟨(Ext.refl _), rfl⟩
   apply AnyR_val [80, 89] rfl (by kernel_rfl)
   · --
    intro y44 hy44
    have zy44 := hy44.size
    refine AllV_v ?_
    refine AllV_v ?_
    refine AllV_nil ?_
    refine O_loadC Try.underlying30 rfl rfl rfl rfl ((k12.ext hEg).ext hy44) rfl ?_
    exact WL_nil ⟨(Ext.refl _), rfl⟩
   apply AnyR_val [80, 10] rfl (by kernel_rfl)
   · --
    intro y45 hy45
    have zy45 := hy45.size
    refine AllV_v ?_
    refine AllV_nil ?_
    refine O_move rfl rfl rfl ?_
    exact WL_nil ⟨(Ext.refl _), rfl⟩
   apply AnyR_val [80, 90, 91] rfl (by kernel_rfl)
   · --
    intro y46 hy46
    have zy46 := hy46.size
    refine AllV_v ?_
    refine AllV_v ?_
    refine AllV_v ?_
    refine AllV_nil ?_
    refine M_index M30 rfl rfl rfl rfl ((k15.ext hEg).ext hy46).sl jn rfl hj4 ?_
    exact WL_nil ⟨(Ext.refl _), rfl⟩
   apply AnyR_val [80, 92] rfl (by kernel_rfl)
   · --
    intro y47 hy47
    have zy47 := hy47.size
    refine AllV_v ?_
    refine AllV_v ?_
    refine AllV_nil ?_
    refine M_load Try.underlying34 rfl rfl rfl rfl ((k15.ext hEg).ext hy47).sl hj4 ?_
    exact WL_nil ⟨(Ext.refl _), rfl⟩
   apply AnyR_val [80, 86, 93] rfl (by kernel_rfl)
   · --
    intro y48 hy48
    have zy48 := hy48.size
    refine AllV_v ?_
    refine AllV_r fun a49 b49 v49 la49 lb49 lc49 h49 ap49 => ?_
    clear ap49
    have h49 : OwB 0 _ v49 _ := h49
    refine AllV_v ?_
    refine AllV_nil ?_
    refine O_call enters19 rfl rfl rfl (same_T h49.sl (((k16.ext hEg).ext hy48).at_ hj4 hj3).sl (by (try simp only [lens]); omega) rfl) (fun v50 w50 e50 h50 => ?_)
    have z50 := e50.size
    obtain rfl := h50
    exact WL_nil ⟨e50, rfl⟩
   apply AnyR_val [80, 94] rfl (by kernel_rfl)
   · --
    intro y51 hy51
    have zy51 := hy51.size
    refine AllV_v ?_
    refine AllV_v ?_
    refine AllV_nil ?_
    refine O_not rfl rfl rfl rfl ?_
    exact WL_nil ⟨(Ext.refl _), rfl⟩
   apply AnyR_val [80, 95] rfl (by kernel_rfl)
   · --
    intro y52 hy52
    have zy52 := hy52.size
    refine AllV_v ?_
    refine AllV_v ?_
    refine AllV_nil ?_
    refine O_pickF rfl rfl rfl rfl ?_
    exact WL_nil ⟨(Ext.refl _), rfl⟩
   refine AnyR_nil fun y53 hy53 => ?_
   have zy53 := hy53.size
   refine AllV_v ?_
   refine AllV_v ?_
   refine AllV_r fun a54 b54 v54 la54 lb54 lc54 h54 ap54 => ?_
   clear ap54
   have h54 : OwB 0 _ v54 _ := h54
   refine AllV_v ?_
   refine AllV_v ?_
   refine AllV_v ?_
   refine AllV_v ?_
   refine AllV_v ?_
   refine AllV_v ?_
   refine AllV_v ?_
   refine AllV_v ?_
   refine AllV_v ?_
   refine AllV_v ?_
   refine AllV_v ?_
   refine AllV_v ?_
   refine AllV_v ?_
   refine AllV_v ?_
   refine AllV_v ?_
   refine AllV_r fun a55 b55 v55 la55 lb55 lc55 h55 ap55 => ?_
   clear ap55
   have h55 : OwB 0 _ v55 _ := h55
   refine AllV_v ?_
   refine AllV_v ?_
   refine AllV_v ?_
   refine AllV_v ?_
   refine AllV_v ?_
   refine AllV_v ?_
   refine AllV_v ?_
   refine AllV_v ?_
   refine AllV_v ?_
   refine AllV_v ?_
   refine AllV_nil ?_
   refine WL_end [(1, _), (5, _), (7, _), (8, _), (9, _), (61, _), (62, _), (63, _), (96, _)] ⟨rfl, rfl, rfl, rfl, rfl, rfl, rfl, rfl, rfl, trivial⟩ ?_
   refine WP_condF rfl ?_
   refine WP_skip ?_
   refine WP_region ?_
   refine O_add rfl rfl rfl rfl (wrap_i64_id (by omega) (by omega)) ?_
   refine O_move rfl rfl rfl ?_
   refine WL_end [(1, _), (5, _), (7, _), (8, _), (9, _), (61, _), (62, _), (63, _)] ⟨rfl, rfl, rfl, rfl, rfl, rfl, rfl, rfl, trivial⟩ ?_
   exact ⟨jn + 1, ⟨rfl, rfl, rfl, rfl, rfl, rfl, rfl, rfl, trivial⟩, ⟨(hE.trans hy53), hEg.trans hy53, by omega⟩, by omega⟩
 · --
  refine WP_exit ?_
  refine inBlk_hit ?_
  refine WP_seq ?_
  refine WP_region ?_
  refine O_move rfl rfl rfl ?_
  refine O_move rfl rfl rfl ?_
  refine O_move rfl rfl rfl ?_
  refine O_call enters33 rfl rfl rfl (Get_77 (k17.ext hEg) hR9 hO9 hv9) (fun v56 w56 e56 h56 => ?_)
  have z56 := e56.size
  try simp only [val_dig] at h56
  obtain rfl := h56
  refine O_move rfl rfl rfl ?_
  refine O_extract rfl rfl rfl rfl ?_
  refine O_extract rfl rfl rfl rfl ?_
  refine O_assign rfl rfl rfl ?_
  refine O_assign rfl rfl rfl ?_
  refine WL_end [(5, _), (8, _), (12, _), (13, _)] ⟨rfl, rfl, rfl, rfl, trivial⟩ ?_
  refine WP_seq ?_
  refine WP_region ?_
  refine O_move rfl rfl rfl ?_
  refine O_eql (t := true) rfl rfl rfl rfl (decide_eq_true rfl) ?_
  refine O_move rfl rfl rfl ?_
  refine O_move rfl rfl rfl ?_
  refine O_pickT rfl rfl rfl rfl ?_
  refine O_move rfl rfl rfl ?_
  refine O_move rfl rfl rfl ?_
  refine O_nilCheck rfl rfl rfl ?_
  refine O_field F32_0 rfl rfl rfl ?_
  refine O_loadC Try.underlying29 rfl rfl rfl rfl ((k12.ext hEg).ext e56) rfl ?_
  refine O_call enters24 rfl rfl rfl (Size_G ((k13.ext hEg).ext e56)) (fun v57 w57 e57 h57 => ?_)
  have z57 := e57.size
  obtain rfl := h57
  refine O_move rfl rfl rfl ?_
  refine O_eql (t := true) rfl rfl rfl rfl (decide_eq_true rfl) ?_
  refine O_pickT rfl rfl rfl rfl ?_
  refine O_assign rfl rfl rfl ?_
  refine WL_end [(4, _)] ⟨rfl, trivial⟩ ?_
  refine WP_ret ?_
  refine ret1 Try.results5 rfl ?_
  exact ⟨_, rfl, ((hE.trans e56).trans e57), rfl⟩

theorem law_TreeCopies {w : World} {v : Value} {l : List Int} {s : ByteArray} (hl : SlM fI w v l) : Calls Try.prog 5 #[v, .string s] w (Ret w fun r _ => r = .bool true) := by
  by_cases hll : l.length ≤ 120
  · by_cases hs : s.size ≤ 100
    · exact copies_T hl hll hs
    · exact copies_F2 hl hll hs
  · exact copies_F1 hl hll

end Go.Proofs.Ytoccimigjjndpaa
