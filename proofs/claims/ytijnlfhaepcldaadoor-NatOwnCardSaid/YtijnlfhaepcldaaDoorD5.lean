/-
  Walks.
-/
import Derived.Test.YtijnlfhaepcldaaDoorD4
set_option linter.unusedVariables false
set_option linter.unusedSimpArgs false
set_option maxRecDepth 100000
namespace Go.Proofs.YtijnlfhaepcldaaDoor
open Go Go.RowKit
theorem mnat_any {w : World} {v : Value} {l : List Nat} {n : Int} (hs : Nl w v l) (hn : n ≤ 100000000) :
    Calls Tryd.prog 10 #[v, .int .i64 n] w (Ret w fun r w' => ∃ q, r = .tuple #[q, .bool (decide ((l.length : Int) ≤ n))] ∧ ((l.length : Int) ≤ n → No w.heap.size 44 w' q (dig (val l)))) := by
  by_cases h : (l.length : Int) ≤ n
  · refine (mnat_c hs hn h).mono fun e w' ⟨r, he, hx, q, hq, ho⟩ => ⟨r, he, hx, q, ?_, fun _ => ho⟩
    rw [hq, decide_eq_true h]
  · refine (mnat_no hs (by omega)).mono fun e w' ⟨r, he, hx, hq⟩ => ⟨r, he, hx, .slice none 0 0, ?_, fun h' => absurd h' h⟩
    rw [hq, decide_eq_false h]
/-- A slice that came in, as digits. -/
theorem Nl_of_row {w : World} {a : Option Addr} {len cap : Nat} {zs : List Int} (h : (a = none ∧ len = 0 ∧ cap = 0 ∧ zs = []) ∨
    ∃ x, a = some x ∧ len ≤ cap ∧ cap ≤ maxLen ∧ zs.length = cap ∧ (∀ i, i < zs.length → w.cell? (x.add i) = some (.int .u32 (zs.getD i 0))) ∧ ∀ n ∈ zs, (Lit.int .u32 n).wf = true) :
    Nl w (.slice a len cap) ((zs.take len).map Int.toNat) := by
  rcases h with ⟨rfl, rfl, rfl, rfl⟩ | ⟨x, rfl, h1, h2, h3, h4, h5⟩
  · exact Nl.nil w
  · have hb : ∀ n ∈ zs, 0 ≤ n ∧ n < 4294967296 := by
      intro n hn
      have := h5 n hn
      simp [Lit.wf, IntKind.has, IntKind.min, IntKind.max, IntKind.bits, IntKind.signed] at this
      omega
    have hl : ((zs.take len).map Int.toNat).length = len := by simp; omega
    refine ⟨⟨some x, cap, by simp [List.length_map] ; omega, by simp; omega, h2, by simp, fun i u hu => ⟨x, rfl, ?_⟩⟩, fun y hy => ?_⟩
    · simp only [List.map_map, List.getElem?_map, List.getElem?_take] at hu
      split at hu
      · rename_i hi
        have hiz : i < zs.length := by omega
        rw [h4 i hiz]
        rw [List.getElem?_eq_getElem hiz] at hu
        simp only [Option.map_some, Option.some.injEq, Function.comp_apply, dv] at hu
        rw [← hu, List.getD_eq_getElem?_getD, List.getElem?_eq_getElem hiz]
        have := hb zs[i] (List.getElem_mem hiz)
        simp only [Option.getD_some]
        congr 2
        omega
      · cases hu
    · obtain ⟨n, hn, rfl⟩ := List.mem_map.1 hy
      have := hb n (List.mem_of_mem_take hn)
      omega
theorem cmpv_ge (a b : Nat) : (0 : Int) ≤ cmpv (a + b) a := by
  unfold cmpv
  rw [if_neg (by omega)]
  split <;> omega
theorem cmpv_bd (a b : Nat) : -1 ≤ cmpv a b ∧ cmpv a b ≤ 1 := by unfold cmpv; split <;> (try split) <;> omega
theorem law_NatOrders {w : World} {va vb : Value} {la lb : List Nat} (hT : Tab w) (ha : Nl w va la) (hb : Nl w vb lb) :
    Calls Tryd.prog 5 #[va, vb] w (Ret w fun r _ => r = .bool true) := by
  refine enter (args := [va, vb]) Tryd.func5 rfl Tryd.ntmps5 rfl ?_
  refine WP_seq ?_
  refine WP_region ?_
  refine O_assign rfl rfl rfl ?_
  refine WL_end [(0, _), (1, _)] ⟨rfl, rfl, trivial⟩ ?_
  refine WP_seq ?_
  refine WP_seq ?_
  refine WP_region ?_
  refine O_call enters9 rfl rfl rfl (awake_c hT) (fun v1 w1 e1 h1 => ?_)
  have z1 := e1.size
  obtain rfl := h1
  refine O_not rfl rfl rfl rfl ?_
  refine WL_end [(0, _), (1, _), (10, _)] ⟨rfl, rfl, rfl, trivial⟩ ?_
  refine WP_condF rfl ?_
  refine WP_skip ?_
  refine WP_seq ?_
  refine WP_region ?_
  refine O_move rfl rfl rfl ?_
  refine O_call enters10 rfl rfl rfl (mnat_any (ha.ext e1) (by (try simp only [val_dig, List.length_take, List.length_nil, List.length_cons, List.length_append, List.length_replicate, List.length_set, List.length_map, List.length_drop]); omega)) (fun v2 w2 e2 h2 => ?_)
  have z2 := e2.size
  obtain ⟨q2, rfl, hq2⟩ := h2
  refine O_move rfl rfl rfl ?_
  refine O_extract rfl rfl rfl rfl ?_
  refine O_extract rfl rfl rfl rfl ?_
  refine O_assign rfl rfl rfl ?_
  refine O_assign rfl rfl rfl ?_
  refine WL_end [(1, _), (5, _), (6, _)] ⟨rfl, rfl, rfl, trivial⟩ ?_
  refine WP_seq ?_
  refine WP_region ?_
  refine O_move rfl rfl rfl ?_
  refine O_call enters10 rfl rfl rfl (mnat_any (hb.ext (e1.trans e2)) (by (try simp only [val_dig, List.length_take, List.length_nil, List.length_cons, List.length_append, List.length_replicate, List.length_set, List.length_map, List.length_drop]); omega)) (fun v3 w3 e3 h3 => ?_)
  have z3 := e3.size
  obtain ⟨q3, rfl, hq3⟩ := h3
  refine O_move rfl rfl rfl ?_
  refine O_extract rfl rfl rfl rfl ?_
  refine O_extract rfl rfl rfl rfl ?_
  refine O_assign rfl rfl rfl ?_
  refine O_assign rfl rfl rfl ?_
  refine WL_end [(5, _), (6, _), (7, _), (8, _)] ⟨rfl, rfl, rfl, rfl, trivial⟩ ?_
  refine WP_seq ?_
  refine WP_seq ?_
  refine WP_region ?_
  refine O_move rfl rfl rfl ?_
  refine O_not rfl rfl rfl (decide_not).symm ?_
  refine O_move rfl rfl rfl ?_
  refine WL_ndec 23 rfl (fun g23 => ?_) (fun g23 => ?_)
  · --
    refine O_skip rfl rfl ?_
    refine O_skip rfl rfl ?_
    refine O_pickT rfl rfl rfl rfl ?_
    refine WL_end [(5, _), (7, _), (26, _)] ⟨rfl, rfl, rfl, trivial⟩ ?_
    refine WP_condT rfl ?_
    refine WP_seq ?_
    refine WP_region ?_
    refine O_assign rfl rfl rfl ?_
    refine WL_end [(4, _)] ⟨rfl, trivial⟩ ?_
    refine WP_ret ?_
    refine ret1 Tryd.results5 rfl ?_
    exact ⟨_, rfl, ((e1.trans e2).trans e3), rfl⟩
  · --
    refine O_move rfl rfl rfl ?_
    refine O_not rfl rfl rfl (decide_not).symm ?_
    refine O_pickF rfl rfl rfl rfl ?_
    refine WL_end [(5, _), (7, _), (26, _)] ⟨rfl, rfl, rfl, trivial⟩ ?_
    refine WP_condN rfl (fun c26 => ?_) (fun c26 => ?_)
    · --
      refine WP_seq ?_
      refine WP_region ?_
      refine O_assign rfl rfl rfl ?_
      refine WL_end [(4, _)] ⟨rfl, trivial⟩ ?_
      refine WP_ret ?_
      refine ret1 Tryd.results5 rfl ?_
      exact ⟨_, rfl, ((e1.trans e2).trans e3), rfl⟩
    · --
      refine WP_skip ?_
      refine WP_seq ?_
      refine WP_region ?_
      refine O_move rfl rfl rfl ?_
      refine O_move rfl rfl rfl ?_
      have dA := dig_len_le ha.d
      have dB := dig_len_le hb.d
      have dS := dig_len_add (val la) (val lb)
      refine O_call enters27 rfl rfl rfl (cmp_c ((hq2 (by omega)).ext e3).nl (hq3 (by omega)).nl) (fun v4 w4 e4 h4 => ?_)
      have z4 := e4.size
      obtain rfl := h4
      simp only [val_dig]
      refine O_move rfl rfl rfl ?_
      refine O_move rfl rfl rfl ?_
      refine O_call enters28 rfl rfl rfl (rcmp_c (((hq2 (by omega)).ext e3).ext e4).nl ((hq3 (by omega)).ext e4).nl (by (try simp only [val_dig, List.length_take, List.length_nil, List.length_cons, List.length_append, List.length_replicate, List.length_set, List.length_map, List.length_drop]); omega) (by (try simp only [val_dig, List.length_take, List.length_nil, List.length_cons, List.length_append, List.length_replicate, List.length_set, List.length_map, List.length_drop]); omega)) (fun v5 w5 e5 h5 => ?_)
      have z5 := e5.size
      obtain rfl := h5
      simp only [val_dig]
      refine O_eql (t := true) rfl rfl rfl rfl (decide_eq_true rfl) ?_
      refine O_move rfl rfl rfl ?_
      refine O_move rfl rfl rfl ?_
      refine O_move rfl rfl rfl ?_
      refine O_call enters27 rfl rfl rfl (cmp_c (((hq3 (by omega)).ext e4).ext e5).nl ((((hq2 (by omega)).ext e3).ext e4).ext e5).nl) (fun v6 w6 e6 h6 => ?_)
      have z6 := e6.size
      obtain rfl := h6
      simp only [val_dig]
      refine O_move rfl rfl rfl ?_
      refine O_move rfl rfl rfl ?_
      refine O_call enters27 rfl rfl rfl (cmp_c (((((hq2 (by omega)).ext e3).ext e4).ext e5).ext e6).nl ((((hq3 (by omega)).ext e4).ext e5).ext e6).nl) (fun v7 w7 e7 h7 => ?_)
      have z7 := e7.size
      obtain rfl := h7
      simp only [val_dig]
      have bd := cmpv_bd (val la) (val lb)
      refine O_neg rfl rfl rfl (wrap_i64_id (by omega) (by omega)) ?_
      refine O_eql (t := true) rfl rfl rfl rfl (decide_eq_true (by rw [cmpv_neg (val la) (val lb)]; omega)) ?_
      refine O_pickT rfl rfl rfl rfl ?_
      refine O_move rfl rfl rfl ?_
      refine O_move rfl rfl rfl ?_
      refine O_move rfl rfl rfl ?_
      refine O_call enters27 rfl rfl rfl (cmp_c ((((((hq2 (by omega)).ext e3).ext e4).ext e5).ext e6).ext e7).nl ((((((hq2 (by omega)).ext e3).ext e4).ext e5).ext e6).ext e7).nl) (fun v8 w8 e8 h8 => ?_)
      have z8 := e8.size
      obtain rfl := h8
      simp only [val_dig]
      refine O_eql (t := true) rfl rfl rfl rfl (decide_eq_true (cmpv_self _)) ?_
      refine O_pickT rfl rfl rfl rfl ?_
      refine O_move rfl rfl rfl ?_
      refine O_move rfl rfl rfl ?_
      refine O_move rfl rfl rfl ?_
      refine O_call enters29 rfl rfl rfl (add_c (((((((hq2 (by omega)).ext e3).ext e4).ext e5).ext e6).ext e7).ext e8).nl ((((((hq3 (by omega)).ext e4).ext e5).ext e6).ext e7).ext e8).nl (by (try simp only [val_dig, List.length_take, List.length_nil, List.length_cons, List.length_append, List.length_replicate, List.length_set, List.length_map, List.length_drop]); omega) (by (try simp only [val_dig, List.length_take, List.length_nil, List.length_cons, List.length_append, List.length_replicate, List.length_set, List.length_map, List.length_drop]); omega)) (fun v9 w9 e9 h9 => ?_)
      have z9 := e9.size
      try simp only [val_dig] at h9
      refine O_move rfl rfl rfl ?_
      refine O_call enters27 rfl rfl rfl (cmp_c h9.nl ((((((((hq2 (by omega)).ext e3).ext e4).ext e5).ext e6).ext e7).ext e8).ext e9).nl) (fun v10 w10 e10 h10 => ?_)
      have z10 := e10.size
      obtain rfl := h10
      simp only [val_dig]
      refine O_geq (t := true) rfl rfl rfl rfl (decide_eq_true (cmpv_ge _ _)) ?_
      refine O_pickT rfl rfl rfl rfl ?_
      refine O_assign rfl rfl rfl ?_
      refine WL_end [(4, _)] ⟨rfl, trivial⟩ ?_
      refine WP_ret ?_
      refine ret1 Tryd.results5 rfl ?_
      exact ⟨_, rfl, (((((((((e1.trans e2).trans e3).trans e4).trans e5).trans e6).trans e7).trans e8).trans e9).trans e10), rfl⟩

end Go.Proofs.YtijnlfhaepcldaaDoor
