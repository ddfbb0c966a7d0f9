/-
  Walks.
-/
import Derived.Test.YtnfnadhbjdcbnaaDoorNat1
set_option linter.unusedVariables false
set_option linter.unusedSimpArgs false
set_option maxRecDepth 100000
namespace Go.Proofs.YtnfnadhbjdcbnaaDoor
open Go Go.RowKit
theorem rcmp_c {w : World} {va vb : Value} {la lb : List Nat} (ha : Nl w va la) (hb : Nl w vb lb) (hla : la.length ≤ 100000000) (hlb : lb.length ≤ 100000000) :
    Calls Tryd.prog 90 #[va, vb] w (Ret w fun r _ => r = .int .i64 (cmpv (val la) (val lb))) := by
 refine enter (args := [va, vb]) Tryd.func90 rfl Tryd.ntmps90 rfl ?_
 refine WP_seq ?_
 refine WP_region ?_
 refine O_assign rfl rfl rfl ?_
 refine WL_end [(0, _), (1, _)] ⟨rfl, rfl, trivial⟩ ?_
 refine WP_seq ?_
 refine WP_seq ?_
 refine WP_region ?_
 refine O_move rfl rfl rfl ?_
 refine N_len T22 rfl rfl rfl ha ?_
 refine O_move rfl rfl rfl ?_
 refine N_len T22 rfl rfl rfl hb ?_
 refine O_max (r := ((max la.length lb.length : Nat) : Int)) rfl rfl rfl rfl (by omega) ?_
 refine O_sub rfl rfl rfl rfl (wrap_i64_id (by omega) (by omega)) ?_
 refine O_assign rfl rfl rfl ?_
 refine WL_end [(0, _), (1, _), (5, _)] ⟨rfl, rfl, rfl, trivial⟩ ?_
 refine WP_block ?_
 refine WP_loop (S := Nat) (fun k => [(0, va), (1, vb), (5, .int .i64 (((k : Nat) : Int) - 1))]) (fun k w' => Ext w w' ∧ k ≤ 100000000 ∧ ∀ j, k ≤ j → la.getD j 0 = lb.getD j 0) (fun k => k) (max la.length lb.length) ⟨rfl, rfl, rfl, trivial⟩ ⟨Ext.refl _, by omega, fun j hj => by rw [getD_ge (by omega), getD_ge (by omega)]⟩ ?_
 rintro k w1 ⟨hE, hk, hag⟩
 refine WP_seq ?_
 refine WP_seq ?_
 refine WP_region ?_
 refine O_move rfl rfl rfl ?_
 refine O_geq rfl rfl rfl rfl rfl ?_
 refine WL_end [(0, _), (1, _), (5, _), (13, _)] ⟨rfl, rfl, rfl, rfl, trivial⟩ ?_
 refine WP_condD rfl (fun c13 => ?_) (fun c13 => ?_)
 · --
  refine WP_skip ?_
  refine WP_seq ?_
  refine WP_block ?_
  refine WP_seq ?_
  refine WP_seq ?_
  refine WP_region ?_
  refine O_move rfl rfl rfl ?_
  refine O_move rfl rfl rfl ?_
  refine O_call enters86 rfl rfl rfl (at_c (ha.ext hE) (k - 1) (by omega)) (fun v1 w1 e1 h1 => ?_)
  have z1 := e1.size
  obtain rfl := h1
  refine O_move rfl rfl rfl ?_
  refine O_move rfl rfl rfl ?_
  refine O_call enters86 rfl rfl rfl (at_c (hb.ext (hE.trans e1)) (k - 1) (by omega)) (fun v2 w2 e2 h2 => ?_)
  have z2 := e2.size
  obtain rfl := h2
  refine O_lss rfl rfl rfl rfl rfl ?_
  refine WL_end [(0, _), (1, _), (5, _), (22, _)] ⟨rfl, rfl, rfl, rfl, trivial⟩ ?_
  refine WP_condD rfl (fun c22 => ?_) (fun c22 => ?_)
  · --
   refine WP_seq ?_
   refine WP_region ?_
   refine O_assign rfl rfl rfl ?_
   refine WL_end [(4, _)] ⟨rfl, trivial⟩ ?_
   refine WP_ret ?_
   refine inBlk_ret ?_
   refine inBlk_ret ?_
   refine ret1 Tryd.results90 rfl ?_
   have hlt := val_lt_of_top ha.d (k := k - 1) (fun j hj => hag j (by omega)) (show la.getD (k - 1) 0 < lb.getD (k - 1) 0 by omega)
   exact ⟨_, rfl, (hE.trans e1).trans e2, by rw [cmpv_lt hlt]⟩
  · --
   refine WP_skip ?_
   refine WP_seq ?_
   refine WP_region ?_
   refine O_move rfl rfl rfl ?_
   refine O_move rfl rfl rfl ?_
   refine O_call enters86 rfl rfl rfl (at_c (ha.ext ((hE.trans e1).trans e2)) (k - 1) (by omega)) (fun v3 w3 e3 h3 => ?_)
   have z3 := e3.size
   obtain rfl := h3
   refine O_move rfl rfl rfl ?_
   refine O_move rfl rfl rfl ?_
   refine O_call enters86 rfl rfl rfl (at_c (hb.ext (((hE.trans e1).trans e2).trans e3)) (k - 1) (by omega)) (fun v4 w4 e4 h4 => ?_)
   have z4 := e4.size
   obtain rfl := h4
   refine O_gtr rfl rfl rfl rfl rfl ?_
   refine WL_end [(0, _), (1, _), (5, _), (29, _)] ⟨rfl, rfl, rfl, rfl, trivial⟩ ?_
   refine WP_condD rfl (fun c29 => ?_) (fun c29 => ?_)
   · --
    refine WP_seq ?_
    refine WP_region ?_
    refine O_assign rfl rfl rfl ?_
    refine WL_end [(4, _)] ⟨rfl, trivial⟩ ?_
    refine WP_ret ?_
    refine inBlk_ret ?_
    refine inBlk_ret ?_
    refine ret1 Tryd.results90 rfl ?_
    have hlt := val_lt_of_top hb.d (k := k - 1) (fun j hj => (hag j (by omega)).symm) (show lb.getD (k - 1) 0 < la.getD (k - 1) 0 by omega)
    exact ⟨_, rfl, (((hE.trans e1).trans e2).trans e3).trans e4, by rw [cmpv_gt hlt]⟩
   · --
    refine WP_skip ?_
    refine WP_region ?_
    refine O_move rfl rfl rfl ?_
    refine O_sub (r := ((k - 1 : Nat) : Int) - 1) rfl rfl rfl rfl (by rw [IntKind.wrap_i64]; omega) ?_
    refine O_assign rfl rfl rfl ?_
    refine WL_end [(0, _), (1, _), (5, _)] ⟨rfl, rfl, rfl, trivial⟩ ?_
    refine ⟨k - 1, ⟨rfl, rfl, rfl, trivial⟩, ⟨(((hE.trans e1).trans e2).trans e3).trans e4, by omega, fun j hj => ?_⟩, by omega⟩
    by_cases hj2 : j = k - 1
    · rw [hj2]; omega
    · exact hag j (by omega)
 · --
  refine WP_exit ?_
  refine inBlk_hit ?_
  refine WP_seq ?_
  refine WP_region ?_
  refine O_assign rfl rfl rfl ?_
  refine WL_end [(4, _)] ⟨rfl, trivial⟩ ?_
  refine WP_ret ?_
  refine ret1 Tryd.results90 rfl ?_
  have heq : val la = val lb := val_congr fun j => hag j (by omega)
  exact ⟨_, rfl, hE, by rw [heq, cmpv_self]⟩

theorem rsame_c {w : World} {va vb : Value} {la lb : List Nat} (ha : Nl w va la) (hb : Nl w vb lb) (hla : la.length ≤ 100000000) (hlb : lb.length ≤ 100000000) (hab : la = lb) :
    Calls Tryd.prog 81 #[va, vb] w (Ret w fun r _ => r = .bool true) := by
 subst hab
 refine enter (args := [va, vb]) Tryd.func81 rfl Tryd.ntmps81 rfl ?_
 refine WP_seq ?_
 refine WP_region ?_
 refine O_assign rfl rfl rfl ?_
 refine WL_end [(0, _), (1, _)] ⟨rfl, rfl, trivial⟩ ?_
 refine WP_seq ?_
 refine WP_region ?_
 refine O_move rfl rfl rfl ?_
 refine N_len T22 rfl rfl rfl ha ?_
 refine O_move rfl rfl rfl ?_
 refine N_len T22 rfl rfl rfl hb ?_
 refine O_eql (t := true) rfl rfl rfl rfl (decide_eq_true (by omega)) ?_
 refine O_move rfl rfl rfl ?_
 refine O_move rfl rfl rfl ?_
 refine O_move rfl rfl rfl ?_
 refine O_call enters90 rfl rfl rfl (rcmp_c ha hb (by (try simp only [lens]); omega) (by (try simp only [lens]); omega)) (fun v1 w1 e1 h1 => ?_)
 have z1 := e1.size
 obtain rfl := h1
 refine O_eql (t := true) rfl rfl rfl rfl (decide_eq_true (cmpv_self _)) ?_
 refine O_pickT rfl rfl rfl rfl ?_
 refine O_assign rfl rfl rfl ?_
 refine WL_end [(4, _)] ⟨rfl, trivial⟩ ?_
 refine WP_ret ?_
 refine ret1 Tryd.results81 rfl ?_
 exact ⟨_, rfl, e1, rfl⟩

theorem mod_c {w : World} {v n : Int} (hn : 0 < n) (hn2 : n ≤ 1000000) :
    Calls Tryd.prog 12 #[.int .i64 v, .int .i64 n] w (Ret w fun r _ => r = .int .i64 (v % n)) := by
 obtain ⟨m1, m2, m3, m4⟩ := tmod_fix (v := v) hn
 refine enter (args := [_, _]) Tryd.func12 rfl Tryd.ntmps12 rfl ?_
 refine WP_seq ?_
 refine WP_region ?_
 refine O_assign rfl rfl rfl ?_
 refine WL_end [(0, _), (1, _)] ⟨rfl, rfl, trivial⟩ ?_
 refine WP_seq ?_
 refine WP_region ?_
 refine O_move rfl rfl rfl ?_
 refine O_move rfl rfl rfl ?_
 refine O_rem rfl rfl rfl rfl (by omega) rfl ?_
 refine O_assign rfl rfl rfl ?_
 refine WL_end [(1, _), (5, _)] ⟨rfl, rfl, trivial⟩ ?_
 refine WP_seq ?_
 refine WP_seq ?_
 refine WP_region ?_
 refine O_move rfl rfl rfl ?_
 refine O_lss rfl rfl rfl rfl rfl ?_
 refine WL_end [(1, _), (5, _), (10, _)] ⟨rfl, rfl, rfl, trivial⟩ ?_
 refine WP_condD rfl (fun c10 => ?_) (fun c10 => ?_)
 · --
  refine WP_region ?_
  refine O_move rfl rfl rfl ?_
  refine O_move rfl rfl rfl ?_
  refine O_add rfl rfl rfl rfl (wrap_i64_id (by omega) (by omega)) ?_
  refine O_assign rfl rfl rfl ?_
  refine WL_end [(5, _)] ⟨rfl, trivial⟩ ?_
  refine WP_seq ?_
  refine WP_region ?_
  refine O_move rfl rfl rfl ?_
  refine O_assign rfl rfl rfl ?_
  refine WL_end [(4, _)] ⟨rfl, trivial⟩ ?_
  refine WP_ret ?_
  refine ret1 Tryd.results12 rfl ?_
  exact ⟨_, rfl, Ext.refl _, by rw [m3 c10]⟩
 · --
  refine WP_skip ?_
  refine WP_seq ?_
  refine WP_region ?_
  refine O_move rfl rfl rfl ?_
  refine O_assign rfl rfl rfl ?_
  refine WL_end [(4, _)] ⟨rfl, trivial⟩ ?_
  refine WP_ret ?_
  refine ret1 Tryd.results12 rfl ?_
  exact ⟨_, rfl, Ext.refl _, by rw [m4 c10]⟩

theorem mnat_c {w : World} {v : Value} {l : List Nat} {n : Int} (hs : Nl w v l) (hn : n ≤ 100000000) (hl : (l.length : Int) ≤ n) :
    Calls Tryd.prog 75 #[v, .int .i64 n] w (Ret w fun r w' => ∃ q, r = .tuple #[q, .bool true] ∧ No w.heap.size 89 w' q (dig (val l))) := by
 refine enter (args := [v, _]) Tryd.func75 rfl Tryd.ntmps75 rfl ?_
 refine WP_seq ?_
 refine WP_region ?_
 refine O_assign rfl rfl rfl ?_
 refine O_assign rfl rfl rfl ?_
 refine WL_end [(0, _), (1, _)] ⟨rfl, rfl, trivial⟩ ?_
 refine WP_seq ?_
 refine WP_seq ?_
 refine WP_region ?_
 refine O_move rfl rfl rfl ?_
 refine N_len T22 rfl rfl rfl hs ?_
 refine O_move rfl rfl rfl ?_
 refine O_gtr (t := false) rfl rfl rfl rfl (decide_eq_false (by omega)) ?_
 refine WL_end [(0, _), (9, _)] ⟨rfl, rfl, trivial⟩ ?_
 refine WP_condF rfl ?_
 refine WP_skip ?_
 refine WP_seq ?_
 refine WP_region ?_
 refine O_move rfl rfl rfl ?_
 refine O_call enters85 rfl rfl rfl (rtrim_c hs (by (try simp only [lens]); omega)) (fun v1 w1 e1 h1 => ?_)
 have z1 := e1.size
 try simp only [val_dig] at h1
 refine O_assign rfl rfl rfl ?_
 refine O_assign rfl rfl rfl ?_
 refine WL_end [(4, _), (5, _)] ⟨rfl, rfl, trivial⟩ ?_
 refine WP_ret ?_
 refine ret2 Tryd.results75 rfl rfl ?_
 exact ⟨_, rfl, e1, _, rfl, h1⟩

theorem mnat_no {w : World} {v : Value} {l : List Nat} {n : Int} (hs : Nl w v l) (hl : n < (l.length : Int)) :
    Calls Tryd.prog 75 #[v, .int .i64 n] w (Ret w fun r w' => r = .tuple #[.slice none 0 0, .bool false]) := by
 refine enter (args := [v, _]) Tryd.func75 rfl Tryd.ntmps75 rfl ?_
 refine WP_seq ?_
 refine WP_region ?_
 refine O_assign rfl rfl rfl ?_
 refine O_assign rfl rfl rfl ?_
 refine WL_end [(0, _), (1, _)] ⟨rfl, rfl, trivial⟩ ?_
 refine WP_seq ?_
 refine WP_seq ?_
 refine WP_region ?_
 refine O_move rfl rfl rfl ?_
 refine N_len T22 rfl rfl rfl hs ?_
 refine O_move rfl rfl rfl ?_
 refine O_gtr (t := true) rfl rfl rfl rfl (decide_eq_true (by omega)) ?_
 refine WL_end [(0, _), (9, _)] ⟨rfl, rfl, trivial⟩ ?_
 refine WP_condT rfl ?_
 refine WP_seq ?_
 refine WP_region ?_
 refine O_assign rfl rfl rfl ?_
 refine O_assign rfl rfl rfl ?_
 refine WL_end [(4, _), (5, _)] ⟨rfl, rfl, trivial⟩ ?_
 refine WP_ret ?_
 refine ret2 Tryd.results75 rfl rfl ?_
 exact ⟨_, rfl, Ext.refl _, rfl⟩

theorem add_c {w : World} {va vb : Value} {la lb : List Nat} (ha : Nl w va la) (hb : Nl w vb lb) (hla : la.length ≤ 100000000) (hlb : lb.length ≤ 100000000) :
    Calls Tryd.prog 87 #[va, vb] w (Ret w fun r w' => No w.heap.size 89 w' r (dig (val la + val lb))) := by
 refine enter (args := [va, vb]) Tryd.func87 rfl Tryd.ntmps87 rfl ?_
 refine WP_seq ?_
 refine WP_region ?_
 refine O_assign rfl rfl rfl ?_
 refine WL_end [(0, _), (1, _)] ⟨rfl, rfl, trivial⟩ ?_
 refine WP_seq ?_
 refine WP_seq ?_
 refine WP_region ?_
 refine O_move rfl rfl rfl ?_
 refine N_len T22 rfl rfl rfl ha ?_
 refine O_move rfl rfl rfl ?_
 refine N_len T22 rfl rfl rfl hb ?_
 refine O_lss rfl rfl rfl rfl rfl ?_
 refine WL_end [(0, _), (1, _), (13, _)] ⟨rfl, rfl, rfl, trivial⟩ ?_
 refine WP_joinK (S := Value × Value × List Nat × List Nat) (fun (x, y, lx, ly) => [(0, x), (1, y)]) (fun (x, y, lx, ly) w' => w = w' ∧ Nl w' x lx ∧ Nl w' y ly ∧ ly.length ≤ lx.length ∧ val lx + val ly = val la + val lb ∧ lx.length ≤ 100000000) ?_ ?_
 · --
  refine WP_condD rfl (fun c13 => ?_) (fun c13 => ?_)
  · --
   refine WP_region ?_
   refine O_move rfl rfl rfl ?_
   refine O_move rfl rfl rfl ?_
   refine O_assign rfl rfl rfl ?_
   refine O_assign rfl rfl rfl ?_
   refine WL_end [(0, _), (1, _)] ⟨rfl, rfl, trivial⟩ ?_
   exact ⟨(vb, va, lb, la), ⟨rfl, rfl, trivial⟩, rfl, hb, ha, by omega, by omega, by omega⟩
  · --
   refine WP_skip ?_
   exact ⟨(va, vb, la, lb), ⟨rfl, rfl, trivial⟩, rfl, ha, hb, by omega, rfl, by omega⟩
 · --
  rintro ⟨x, y, lx, ly⟩ w1 ⟨rfl, hx, hy, hlen, hsum, hbd⟩
  show WP _ _ _ _ _ [(0, x), (1, y)] _
  refine WP_seq ?_
  refine WP_region ?_
  refine O_move rfl rfl rfl ?_
  refine N_len T22 rfl rfl rfl hx ?_
  refine O_add (r := ((lx.length + 1 : Nat) : Int)) rfl rfl rfl rfl (by rw [IntKind.wrap_i64]; omega) ?_
  refine N_make T22 (by decide) rfl rfl rfl rfl _ rfl rfl (by omega) (fun v1 w1 o1 e1 => ?_)
  have z1 := e1.size
  refine O_assign rfl rfl rfl ?_
  refine WL_end [(0, _), (1, _), (5, _)] ⟨rfl, rfl, rfl, trivial⟩ ?_
  refine WP_seq ?_
  refine WP_region ?_
  refine O_assign rfl rfl rfl ?_
  refine WL_end [(0, _), (1, _), (5, _), (6, _)] ⟨rfl, rfl, rfl, rfl, trivial⟩ ?_
  refine WP_seq ?_
  refine WP_seq ?_
  refine WP_region ?_
  refine O_move rfl rfl rfl ?_
  refine N_len T22 rfl rfl rfl (hx.ext e1) ?_
  refine O_move rfl rfl rfl ?_
  refine WL_end [(0, _), (1, _), (5, _), (6, _), (20, _), (21, _), (22, _)] ⟨rfl, rfl, rfl, rfl, rfl, rfl, rfl, trivial⟩ ?_
  refine WP_block ?_
  refine WP_loop (S := Nat × Nat × List Nat) (fun (k, c, lo) => [(0, x), (1, y), (5, v1), (6, .int .u64 (c : Nat)), (20, x), (21, .int .i64 (lx.length : Nat)), (22, .int .i64 (k : Nat))]) (fun (k, c, lo) w' => Ext w w' ∧ No w.heap.size 89 w' v1 lo ∧ lo.length = lx.length + 1 ∧ k ≤ lx.length ∧ c < 2 ∧ val (lo.take k) + 4294967296 ^ k * c = val (lx.take k) + val (ly.take k)) (fun (k, c, lo) => lx.length - k) (0, 0, List.replicate (lx.length + 1) 0) ⟨rfl, rfl, rfl, rfl, rfl, rfl, rfl, trivial⟩ ⟨e1, o1, by simp, by omega, by omega, by simp [val]⟩ ?_
  rintro ⟨k, c, lo⟩ w2 ⟨hE, ho, hlo, hk, hc, hv⟩
  show WP _ _ _ _ _ [(0, x), (1, y), (5, v1), (6, .int .u64 (c : Nat)), (20, x), (21, .int .i64 (lx.length : Nat)), (22, .int .i64 (k : Nat))] _
  have hz := hE.size
  have hyd := hy.d.getD k
  refine WP_seq ?_
  refine WP_region ?_
  refine O_lss rfl rfl rfl rfl rfl ?_
  refine WL_end [(0, _), (1, _), (5, _), (6, _), (20, _), (21, _), (22, _), (23, _)] ⟨rfl, rfl, rfl, rfl, rfl, rfl, rfl, rfl, trivial⟩ ?_
  refine WP_seq ?_
  refine WP_condD rfl (fun c23 => ?_) (fun c23 => ?_)
  · --
   refine WP_skip ?_
   refine WP_seq ?_
   refine WP_block ?_
   refine WP_seq ?_
   refine WP_region ?_
   refine O_move rfl rfl rfl ?_
   refine N_index T22 rfl rfl rfl rfl (hx.ext hE) _ rfl (by omega) ?_
   refine N_load Tryd.underlying89 rfl rfl rfl (hx.ext hE) (by omega) (fun d26 => ?_)
   refine O_assign rfl rfl rfl ?_
   refine O_assign rfl rfl rfl ?_
   refine WL_end [(0, _), (1, _), (5, _), (6, _), (7, _), (8, _), (20, _), (21, _), (22, _)] ⟨rfl, rfl, rfl, rfl, rfl, rfl, rfl, rfl, rfl, trivial⟩ ?_
   refine WP_seq ?_
   refine WP_region ?_
   refine O_move rfl rfl rfl ?_
   refine O_move rfl rfl rfl ?_
   refine O_conv Tryd.underlying89 Tryd.underlying82 rfl rfl rfl (wrap_u64_id (by omega) (by omega)) ?_
   refine O_add rfl rfl rfl rfl (wrap_u64_id (by omega) (by omega)) ?_
   refine O_assign rfl rfl rfl ?_
   refine WL_end [(0, _), (1, _), (5, _), (6, _), (7, _), (20, _), (21, _), (22, _)] ⟨rfl, rfl, rfl, rfl, rfl, rfl, rfl, rfl, trivial⟩ ?_
   refine WP_seq ?_
   refine WP_seq ?_
   refine WP_region ?_
   refine O_move rfl rfl rfl ?_
   refine O_move rfl rfl rfl ?_
   refine N_len T22 rfl rfl rfl (hy.ext hE) ?_
   refine O_lss rfl rfl rfl rfl rfl ?_
   refine WL_end [(0, _), (1, _), (5, _), (6, _), (7, _), (20, _), (21, _), (22, _), (34, _)] ⟨rfl, rfl, rfl, rfl, rfl, rfl, rfl, rfl, rfl, trivial⟩ ?_
   refine WP_condD rfl (fun c34 => ?_) (fun c34 => ?_)
   · --
    refine WP_region ?_
    refine O_move rfl rfl rfl ?_
    refine O_move rfl rfl rfl ?_
    refine O_move rfl rfl rfl ?_
    refine N_index T22 rfl rfl rfl rfl (hy.ext hE) _ rfl (by omega) ?_
    refine N_load Tryd.underlying89 rfl rfl rfl (hy.ext hE) (by omega) (fun d39 => ?_)
    refine O_conv Tryd.underlying89 Tryd.underlying82 rfl rfl rfl (wrap_u64_id (by omega) (by omega)) ?_
    refine O_add rfl rfl rfl rfl (wrap_u64_id (by omega) (by omega)) ?_
    refine O_assign rfl rfl rfl ?_
    refine WL_end [(0, _), (1, _), (5, _), (6, _), (7, _), (20, _), (21, _), (22, _)] ⟨rfl, rfl, rfl, rfl, rfl, rfl, rfl, rfl, trivial⟩ ?_
    refine WP_seq ?_
    refine WP_region ?_
    refine O_move rfl rfl rfl ?_
    refine O_move rfl rfl rfl ?_
    refine O_move rfl rfl rfl ?_
    have hy0 : k < ly.length ∨ ly.getD k 0 = 0 := by
      rcases Nat.lt_or_ge k ly.length with h | h
      · exact .inl h
      · exact .inr (getD_ge h)
    refine O_conv Tryd.underlying82 Tryd.underlying89 (r := (((c + lx.getD k 0 + ly.getD k 0) % 4294967296 : Nat) : Int)) rfl rfl rfl (by rw [wrap_u32]; omega) ?_
    refine N_index T22 rfl rfl rfl rfl ho.nl _ rfl (by omega) ?_
    refine N_store T22 rfl rfl rfl ho (by omega) _ rfl (by omega) (fun w2 o2 q2 a2 b2 => ?_)
    have z2 := q2.size
    have e2 : Ext w w2 := q2.ext hE (by omega)
    refine WL_end [(0, _), (1, _), (5, _), (6, _), (20, _), (21, _), (22, _)] ⟨rfl, rfl, rfl, rfl, rfl, rfl, rfl, trivial⟩ ?_
    refine WP_region ?_
    refine O_move rfl rfl rfl ?_
    refine O_shr rfl rfl rfl rfl (by decide) (shr32' (c + lx.getD k 0 + ly.getD k 0) (by omega)) ?_
    refine O_assign rfl rfl rfl ?_
    refine WL_end [(0, _), (1, _), (5, _), (6, _), (20, _), (21, _), (22, _)] ⟨rfl, rfl, rfl, rfl, rfl, rfl, rfl, trivial⟩ ?_
    refine WP_region ?_
    refine O_add rfl rfl rfl rfl (wrap_i64_id (by omega) (by omega)) ?_
    refine O_move rfl rfl rfl ?_
    refine WL_end [(0, _), (1, _), (5, _), (6, _), (20, _), (21, _), (22, _)] ⟨rfl, rfl, rfl, rfl, rfl, rfl, rfl, trivial⟩ ?_
    refine ⟨(k + 1, (c + lx.getD k 0 + ly.getD k 0) / 4294967296, lo.set k ((c + lx.getD k 0 + ly.getD k 0) % 4294967296)), ⟨rfl, rfl, rfl, rfl, rfl, rfl, rfl, trivial⟩, ⟨by assumption, by assumption, by simp [hlo], by omega, by omega, ?_⟩, by dsimp only; omega⟩
    rw [val_take_set (by omega), val_take_succ', val_take_succ', Nat.add_assoc c, carry_step hv, Nat.mul_add]; omega
   · --
    refine WP_skip ?_
    refine WP_seq ?_
    refine WP_region ?_
    refine O_move rfl rfl rfl ?_
    refine O_move rfl rfl rfl ?_
    refine O_move rfl rfl rfl ?_
    have hy0 : k < ly.length ∨ ly.getD k 0 = 0 := by
      rcases Nat.lt_or_ge k ly.length with h | h
      · exact .inl h
      · exact .inr (getD_ge h)
    refine O_conv Tryd.underlying82 Tryd.underlying89 (r := (((c + lx.getD k 0 + ly.getD k 0) % 4294967296 : Nat) : Int)) rfl rfl rfl (by rw [wrap_u32]; omega) ?_
    refine N_index T22 rfl rfl rfl rfl ho.nl _ rfl (by omega) ?_
    refine N_store T22 rfl rfl rfl ho (by omega) _ rfl (by omega) (fun w3 o3 q3 a3 b3 => ?_)
    have z3 := q3.size
    have e3 : Ext w w3 := q3.ext hE (by omega)
    refine WL_end [(0, _), (1, _), (5, _), (6, _), (20, _), (21, _), (22, _)] ⟨rfl, rfl, rfl, rfl, rfl, rfl, rfl, trivial⟩ ?_
    refine WP_region ?_
    refine O_move rfl rfl rfl ?_
    refine O_shr rfl rfl rfl rfl (by decide) (shr32' (c + lx.getD k 0 + ly.getD k 0) (by omega)) ?_
    refine O_assign rfl rfl rfl ?_
    refine WL_end [(0, _), (1, _), (5, _), (6, _), (20, _), (21, _), (22, _)] ⟨rfl, rfl, rfl, rfl, rfl, rfl, rfl, trivial⟩ ?_
    refine WP_region ?_
    refine O_add rfl rfl rfl rfl (wrap_i64_id (by omega) (by omega)) ?_
    refine O_move rfl rfl rfl ?_
    refine WL_end [(0, _), (1, _), (5, _), (6, _), (20, _), (21, _), (22, _)] ⟨rfl, rfl, rfl, rfl, rfl, rfl, rfl, trivial⟩ ?_
    refine ⟨(k + 1, (c + lx.getD k 0 + ly.getD k 0) / 4294967296, lo.set k ((c + lx.getD k 0 + ly.getD k 0) % 4294967296)), ⟨rfl, rfl, rfl, rfl, rfl, rfl, rfl, trivial⟩, ⟨by assumption, by assumption, by simp [hlo], by omega, by omega, ?_⟩, by dsimp only; omega⟩
    rw [val_take_set (by omega), val_take_succ', val_take_succ', Nat.add_assoc c, carry_step hv, Nat.mul_add]; omega
  · --
   refine WP_exit ?_
   refine inBlk_hit ?_
   refine WP_seq ?_
   refine WP_region ?_
   refine O_move rfl rfl rfl ?_
   refine O_move rfl rfl rfl ?_
   refine N_len T22 rfl rfl rfl (hx.ext hE) ?_
   refine O_move rfl rfl rfl ?_
   refine O_conv Tryd.underlying82 Tryd.underlying89 (r := ((c : Nat) : Int)) rfl rfl rfl (by rw [wrap_u32]; omega) ?_
   refine N_index T22 rfl rfl rfl rfl ho.nl lx.length rfl (by omega) ?_
   refine N_store T22 rfl rfl rfl ho (by omega) _ rfl (by omega) (fun w4 o4 q4 a4 b4 => ?_)
   have z4 := q4.size
   have e4 : Ext w w4 := q4.ext hE (by omega)
   refine WL_end [(5, _)] ⟨rfl, trivial⟩ ?_
   refine WP_seq ?_
   refine WP_region ?_
   refine O_move rfl rfl rfl ?_
   refine O_move rfl rfl rfl ?_
   refine O_call enters99 rfl rfl rfl (size_c o4.nl) (fun v5 w5 e5 h5 => ?_)
   have z5 := e5.size
   obtain rfl := h5
   refine N_sliceTo T22 rfl rfl rfl rfl (o4.ext e5).nl (sz (lo.set lx.length c)) rfl (sz_le o4.d) ?_
   have hu := (o4.ext e5).take (sz (lo.set lx.length c)) (sz_le o4.d)
   generalize slTake _ _ = u at hu ⊢
   refine O_assign rfl rfl rfl ?_
   refine WL_end [(4, _)] ⟨rfl, trivial⟩ ?_
   refine WP_ret ?_
   refine ret1 Tryd.results87 rfl ?_
   have hu2 := val_take_sz o4.d
   have hv6 : val (lo.set lx.length c) = val la + val lb := by
     have hk2 : k = lx.length := by omega
     subst hk2
     have h9 := val_take_set (l := lo) (k := lx.length) (by omega) c
     rw [List.take_of_length_le (by simp [hlo]), hv, List.take_of_length_le (Nat.le_refl _), List.take_of_length_le hlen] at h9
     omega
   rw [hu2, hv6] at hu
   exact ⟨_, rfl, e4.trans e5, hu⟩

end Go.Proofs.YtnfnadhbjdcbnaaDoor
