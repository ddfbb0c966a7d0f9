/-
  Walks.
-/
import Derived.Test.YthbfhljpfkicpaaNat1
set_option linter.unusedVariables false
set_option linter.unusedSimpArgs false
set_option maxRecDepth 100000
namespace Go.Proofs.Ythbfhljpfkicpaa
open Go Go.RowKit
theorem rcmp_c {w : World} {va vb : Value} {la lb : List Nat} (ha : Nl w va la) (hb : Nl w vb lb) (hla : la.length ≤ 100000000) (hlb : lb.length ≤ 100000000) :
    Calls Try.prog 101 #[va, vb] w (Ret w fun r _ => r = .int .i64 (cmpv (val la) (val lb))) := by
  refine enter (args := [va, vb]) Try.func101 rfl Try.ntmps101 rfl ?_
  refine WP_seq ?_
  refine WP_region ?_
  refine O_assign rfl rfl rfl ?_
  refine WL_end [(0, _), (1, _)] ⟨rfl, rfl, trivial⟩ ?_
  refine WP_seq ?_
  refine WP_seq ?_
  refine WP_region ?_
  refine O_move rfl rfl rfl ?_
  refine N_len T22 rfl rfl rfl ha ?_
  refine O_move rfl rfl rfl ?_
  refine N_len T22 rfl rfl rfl hb ?_
  refine O_max (r := ((max la.length lb.length : Nat) : Int)) rfl rfl rfl rfl (by omega) ?_
  refine O_sub rfl rfl rfl rfl (wrap_i64_id (by omega) (by omega)) ?_
  refine O_assign rfl rfl rfl ?_
  refine WL_end [(0, _), (1, _), (5, _)] ⟨rfl, rfl, rfl, trivial⟩ ?_
  refine WP_block ?_
  refine WP_loop (S := Nat) (fun k => [(0, va), (1, vb), (5, .int .i64 (((k : Nat) : Int) - 1))]) (fun k w' => Ext w w' ∧ k ≤ 100000000 ∧ ∀ j, k ≤ j → la.getD j 0 = lb.getD j 0) (fun k => k) (max la.length lb.length) ⟨rfl, rfl, rfl, trivial⟩ ⟨Ext.refl _, by omega, fun j hj => by rw [getD_ge (by omega), getD_ge (by omega)]⟩ ?_
  rintro k w1 ⟨hE, hk, hag⟩
  refine WP_seq ?_
  refine WP_seq ?_
  refine WP_region ?_
  refine O_move rfl rfl rfl ?_
  refine O_geq rfl rfl rfl rfl rfl ?_
  refine WL_end [(0, _), (1, _), (5, _), (13, _)] ⟨rfl, rfl, rfl, rfl, trivial⟩ ?_
  refine WP_condD rfl (fun c13 => ?_) (fun c13 => ?_)
  · --
    refine WP_skip ?_
    refine WP_seq ?_
    refine WP_block ?_
    refine WP_seq ?_
    refine WP_seq ?_
    refine WP_region ?_
    refine O_move rfl rfl rfl ?_
    refine O_move rfl rfl rfl ?_
    refine O_call enters69 rfl rfl rfl (at_c (ha.ext hE) (k - 1) (by omega)) (fun v1 w1 e1 h1 => ?_)
    have z1 := e1.size
    obtain rfl := h1
    refine O_move rfl rfl rfl ?_
    refine O_move rfl rfl rfl ?_
    refine O_call enters69 rfl rfl rfl (at_c (hb.ext (hE.trans e1)) (k - 1) (by omega)) (fun v2 w2 e2 h2 => ?_)
    have z2 := e2.size
    obtain rfl := h2
    refine O_lss rfl rfl rfl rfl rfl ?_
    refine WL_end [(0, _), (1, _), (5, _), (22, _)] ⟨rfl, rfl, rfl, rfl, trivial⟩ ?_
    refine WP_condD rfl (fun c22 => ?_) (fun c22 => ?_)
    · --
      refine WP_seq ?_
      refine WP_region ?_
      refine O_assign rfl rfl rfl ?_
      refine WL_end [(4, _)] ⟨rfl, trivial⟩ ?_
      refine WP_ret ?_
      refine inBlk_ret ?_
      refine inBlk_ret ?_
      refine ret1 Try.results101 rfl ?_
      have hlt := val_lt_of_top ha.d (k := k - 1) (fun j hj => hag j (by omega)) (show la.getD (k - 1) 0 < lb.getD (k - 1) 0 by omega)
      exact ⟨_, rfl, (hE.trans e1).trans e2, by rw [cmpv_lt hlt]⟩
    · --
      refine WP_skip ?_
      refine WP_seq ?_
      refine WP_region ?_
      refine O_move rfl rfl rfl ?_
      refine O_move rfl rfl rfl ?_
      refine O_call enters69 rfl rfl rfl (at_c (ha.ext ((hE.trans e1).trans e2)) (k - 1) (by omega)) (fun v3 w3 e3 h3 => ?_)
      have z3 := e3.size
      obtain rfl := h3
      refine O_move rfl rfl rfl ?_
      refine O_move rfl rfl rfl ?_
      refine O_call enters69 rfl rfl rfl (at_c (hb.ext (((hE.trans e1).trans e2).trans e3)) (k - 1) (by omega)) (fun v4 w4 e4 h4 => ?_)
      have z4 := e4.size
      obtain rfl := h4
      refine O_gtr rfl rfl rfl rfl rfl ?_
      refine WL_end [(0, _), (1, _), (5, _), (29, _)] ⟨rfl, rfl, rfl, rfl, trivial⟩ ?_
      refine WP_condD rfl (fun c29 => ?_) (fun c29 => ?_)
      · --
        refine WP_seq ?_
        refine WP_region ?_
        refine O_assign rfl rfl rfl ?_
        refine WL_end [(4, _)] ⟨rfl, trivial⟩ ?_
        refine WP_ret ?_
        refine inBlk_ret ?_
        refine inBlk_ret ?_
        refine ret1 Try.results101 rfl ?_
        have hlt := val_lt_of_top hb.d (k := k - 1) (fun j hj => (hag j (by omega)).symm) (show lb.getD (k - 1) 0 < la.getD (k - 1) 0 by omega)
        exact ⟨_, rfl, (((hE.trans e1).trans e2).trans e3).trans e4, by rw [cmpv_gt hlt]⟩
      · --
        refine WP_skip ?_
        refine WP_region ?_
        refine O_move rfl rfl rfl ?_
        refine O_sub (r := ((k - 1 : Nat) : Int) - 1) rfl rfl rfl rfl (by rw [IntKind.wrap_i64]; omega) ?_
        refine O_assign rfl rfl rfl ?_
        refine WL_end [(0, _), (1, _), (5, _)] ⟨rfl, rfl, rfl, trivial⟩ ?_
        refine ⟨k - 1, ⟨rfl, rfl, rfl, trivial⟩, ⟨(((hE.trans e1).trans e2).trans e3).trans e4, by omega, fun j hj => ?_⟩, by omega⟩
        by_cases hj2 : j = k - 1
        · rw [hj2]; omega
        · exact hag j (by omega)
  · --
    refine WP_exit ?_
    refine inBlk_hit ?_
    refine WP_seq ?_
    refine WP_region ?_
    refine O_assign rfl rfl rfl ?_
    refine WL_end [(4, _)] ⟨rfl, trivial⟩ ?_
    refine WP_ret ?_
    refine ret1 Try.results101 rfl ?_
    have heq : val la = val lb := val_congr fun j => hag j (by omega)
    exact ⟨_, rfl, hE, by rw [heq, cmpv_self]⟩

theorem rsame_c {w : World} {va vb : Value} {la lb : List Nat} (ha : Nl w va la) (hb : Nl w vb lb) (hla : la.length ≤ 100000000) (hlb : lb.length ≤ 100000000) (hab : la = lb) :
    Calls Try.prog 93 #[va, vb] w (Ret w fun r _ => r = .bool true) := by
  subst hab
  refine enter (args := [va, vb]) Try.func93 rfl Try.ntmps93 rfl ?_
  refine WP_seq ?_
  refine WP_region ?_
  refine O_assign rfl rfl rfl ?_
  refine WL_end [(0, _), (1, _)] ⟨rfl, rfl, trivial⟩ ?_
  refine WP_seq ?_
  refine WP_region ?_
  refine O_move rfl rfl rfl ?_
  refine N_len T22 rfl rfl rfl ha ?_
  refine O_move rfl rfl rfl ?_
  refine N_len T22 rfl rfl rfl hb ?_
  refine O_eql (t := true) rfl rfl rfl rfl (decide_eq_true (by omega)) ?_
  refine O_move rfl rfl rfl ?_
  refine O_move rfl rfl rfl ?_
  refine O_move rfl rfl rfl ?_
  refine O_call enters101 rfl rfl rfl (rcmp_c ha hb (by (try simp only [val_dig, List.length_take, List.length_nil, List.length_cons, List.length_append, List.length_replicate, List.length_set, List.length_map, List.length_drop]); omega) (by (try simp only [val_dig, List.length_take, List.length_nil, List.length_cons, List.length_append, List.length_replicate, List.length_set, List.length_map, List.length_drop]); omega)) (fun v1 w1 e1 h1 => ?_)
  have z1 := e1.size
  obtain rfl := h1
  refine O_eql (t := true) rfl rfl rfl rfl (decide_eq_true (cmpv_self _)) ?_
  refine O_pickT rfl rfl rfl rfl ?_
  refine O_assign rfl rfl rfl ?_
  refine WL_end [(4, _)] ⟨rfl, trivial⟩ ?_
  refine WP_ret ?_
  refine ret1 Try.results93 rfl ?_
  exact ⟨_, rfl, e1, rfl⟩

theorem mod_c {w : World} {v n : Int} (hn : 0 < n) (hn2 : n ≤ 1000000) :
    Calls Try.prog 39 #[.int .i64 v, .int .i64 n] w (Ret w fun r _ => r = .int .i64 (v % n)) := by
  obtain ⟨m1, m2, m3, m4⟩ := tmod_fix (v := v) hn
  refine enter (args := [_, _]) Try.func39 rfl Try.ntmps39 rfl ?_
  refine WP_seq ?_
  refine WP_region ?_
  refine O_assign rfl rfl rfl ?_
  refine WL_end [(0, _), (1, _)] ⟨rfl, rfl, trivial⟩ ?_
  refine WP_seq ?_
  refine WP_region ?_
  refine O_move rfl rfl rfl ?_
  refine O_move rfl rfl rfl ?_
  refine O_rem rfl rfl rfl rfl (by omega) rfl ?_
  refine O_assign rfl rfl rfl ?_
  refine WL_end [(1, _), (5, _)] ⟨rfl, rfl, trivial⟩ ?_
  refine WP_seq ?_
  refine WP_seq ?_
  refine WP_region ?_
  refine O_move rfl rfl rfl ?_
  refine O_lss rfl rfl rfl rfl rfl ?_
  refine WL_end [(1, _), (5, _), (10, _)] ⟨rfl, rfl, rfl, trivial⟩ ?_
  refine WP_condD rfl (fun c10 => ?_) (fun c10 => ?_)
  · --
    refine WP_region ?_
    refine O_move rfl rfl rfl ?_
    refine O_move rfl rfl rfl ?_
    refine O_add rfl rfl rfl rfl (wrap_i64_id (by omega) (by omega)) ?_
    refine O_assign rfl rfl rfl ?_
    refine WL_end [(5, _)] ⟨rfl, trivial⟩ ?_
    refine WP_seq ?_
    refine WP_region ?_
    refine O_move rfl rfl rfl ?_
    refine O_assign rfl rfl rfl ?_
    refine WL_end [(4, _)] ⟨rfl, trivial⟩ ?_
    refine WP_ret ?_
    refine ret1 Try.results39 rfl ?_
    exact ⟨_, rfl, Ext.refl _, by rw [m3 c10]⟩
  · --
    refine WP_skip ?_
    refine WP_seq ?_
    refine WP_region ?_
    refine O_move rfl rfl rfl ?_
    refine O_assign rfl rfl rfl ?_
    refine WL_end [(4, _)] ⟨rfl, trivial⟩ ?_
    refine WP_ret ?_
    refine ret1 Try.results39 rfl ?_
    exact ⟨_, rfl, Ext.refl _, by rw [m4 c10]⟩

theorem mnat_c {w : World} {v : Value} {l : List Nat} {n : Int} (hs : Nl w v l) (hn : n ≤ 100000000) (hl : (l.length : Int) ≤ n) :
    Calls Try.prog 48 #[v, .int .i64 n] w (Ret w fun r w' => ∃ q, r = .tuple #[q, .bool true] ∧ No w.heap.size 93 w' q (dig (val l))) := by
  refine enter (args := [v, _]) Try.func48 rfl Try.ntmps48 rfl ?_
  refine WP_seq ?_
  refine WP_region ?_
  refine O_assign rfl rfl rfl ?_
  refine O_assign rfl rfl rfl ?_
  refine WL_end [(0, _), (1, _)] ⟨rfl, rfl, trivial⟩ ?_
  refine WP_seq ?_
  refine WP_seq ?_
  refine WP_region ?_
  refine O_move rfl rfl rfl ?_
  refine N_len T22 rfl rfl rfl hs ?_
  refine O_move rfl rfl rfl ?_
  refine O_gtr (t := false) rfl rfl rfl rfl (decide_eq_false (by omega)) ?_
  refine WL_end [(0, _), (9, _)] ⟨rfl, rfl, trivial⟩ ?_
  refine WP_condF rfl ?_
  refine WP_skip ?_
  refine WP_seq ?_
  refine WP_region ?_
  refine O_move rfl rfl rfl ?_
  refine O_call enters77 rfl rfl rfl (rtrim_c hs (by (try simp only [val_dig, List.length_take, List.length_nil, List.length_cons, List.length_append, List.length_replicate, List.length_set, List.length_map, List.length_drop]); omega)) (fun v1 w1 e1 h1 => ?_)
  have z1 := e1.size
  try simp only [val_dig] at h1
  refine O_assign rfl rfl rfl ?_
  refine O_assign rfl rfl rfl ?_
  refine WL_end [(4, _), (5, _)] ⟨rfl, rfl, trivial⟩ ?_
  refine WP_ret ?_
  refine ret2 Try.results48 rfl rfl ?_
  exact ⟨_, rfl, e1, _, rfl, h1⟩

theorem mnat_no {w : World} {v : Value} {l : List Nat} {n : Int} (hs : Nl w v l) (hl : n < (l.length : Int)) :
    Calls Try.prog 48 #[v, .int .i64 n] w (Ret w fun r w' => r = .tuple #[.slice none 0 0, .bool false]) := by
  refine enter (args := [v, _]) Try.func48 rfl Try.ntmps48 rfl ?_
  refine WP_seq ?_
  refine WP_region ?_
  refine O_assign rfl rfl rfl ?_
  refine O_assign rfl rfl rfl ?_
  refine WL_end [(0, _), (1, _)] ⟨rfl, rfl, trivial⟩ ?_
  refine WP_seq ?_
  refine WP_seq ?_
  refine WP_region ?_
  refine O_move rfl rfl rfl ?_
  refine N_len T22 rfl rfl rfl hs ?_
  refine O_move rfl rfl rfl ?_
  refine O_gtr (t := true) rfl rfl rfl rfl (decide_eq_true (by omega)) ?_
  refine WL_end [(0, _), (9, _)] ⟨rfl, rfl, trivial⟩ ?_
  refine WP_condT rfl ?_
  refine WP_seq ?_
  refine WP_region ?_
  refine O_assign rfl rfl rfl ?_
  refine O_assign rfl rfl rfl ?_
  refine WL_end [(4, _), (5, _)] ⟨rfl, rfl, trivial⟩ ?_
  refine WP_ret ?_
  refine ret2 Try.results48 rfl rfl ?_
  exact ⟨_, rfl, Ext.refl _, rfl⟩

end Go.Proofs.Ythbfhljpfkicpaa
