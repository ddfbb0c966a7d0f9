/-
  Walks.
-/
import Derived.Test.YtijnlfhaepcldaaNat5
set_option linter.unusedVariables false
set_option linter.unusedSimpArgs false
set_option maxRecDepth 100000
namespace Go.Proofs.Ytijnlfhaepcldaa
open Go Go.RowKit
/-- A slice that came in, as digits. -/
theorem Nl_of_row {w : World} {a : Option Addr} {len cap : Nat} {zs : List Int} (h : (a = none ∧ len = 0 ∧ cap = 0 ∧ zs = []) ∨
    ∃ x, a = some x ∧ len ≤ cap ∧ cap ≤ maxLen ∧ zs.length = cap ∧ (∀ i, i < zs.length → w.cell? (x.add i) = some (.int .u32 (zs.getD i 0))) ∧ ∀ n ∈ zs, (Lit.int .u32 n).wf = true) :
    Nl w (.slice a len cap) ((zs.take len).map Int.toNat) := by
  rcases h with ⟨rfl, rfl, rfl, rfl⟩ | ⟨x, rfl, h1, h2, h3, h4, h5⟩
  · exact Nl.nil w
  · have hb : ∀ n ∈ zs, 0 ≤ n ∧ n < 4294967296 := by
      intro n hn
      have := h5 n hn
      simp [Lit.wf, IntKind.has, IntKind.min, IntKind.max, IntKind.bits, IntKind.signed] at this
      omega
    have hl : ((zs.take len).map Int.toNat).length = len := by simp; omega
    refine ⟨⟨some x, cap, by simp [List.length_map] ; omega, by simp; omega, h2, by simp, fun i u hu => ⟨x, rfl, ?_⟩⟩, fun y hy => ?_⟩
    · simp only [List.map_map, List.getElem?_map, List.getElem?_take] at hu
      split at hu
      · rename_i hi
        have hiz : i < zs.length := by omega
        rw [h4 i hiz]
        rw [List.getElem?_eq_getElem hiz] at hu
        simp only [Option.map_some, Option.some.injEq, Function.comp_apply, dv] at hu
        rw [← hu, List.getD_eq_getElem?_getD, List.getElem?_eq_getElem hiz]
        have := hb zs[i] (List.getElem_mem hiz)
        simp only [Option.getD_some]
        congr 2
        omega
      · cases hu
    · obtain ⟨n, hn, rfl⟩ := List.mem_map.1 hy
      have := hb n (List.mem_of_mem_take hn)
      omega
theorem sum_step (l : List Nat) (f : Nat → Nat) (k : Nat) (h : k < l.length) : ((l.take (k + 1)).map f).sum = ((l.take k).map f).sum + f (l.getD k 0) := by
  rw [take_succ_getD l k h]; simp
theorem getD_map {l : List Nat} {f : Nat → Nat} {i : Nat} (h : i < l.length) : (l.map f).getD i 0 = f (l.getD i 0) := by
  simp [List.getD_eq_getElem?_getD, h]
theorem Nls_of {B : Nat} {e : TypeId} {w w' : World} {v : Value} {vs : List Value} {ns : List Nat} (h : Own B e w v vs) (hl : vs.length = ns.length) (hu : ∀ i u, vs[i]? = some u → Nl w u (dig (ns.getD i 0))) (he : Ext w w') : Nls w' v ns :=
  ⟨vs, h.sl.ext he, hl, fun i u h => (hu i u h).ext he⟩
/-- The terms of the statement 'ProductSmall'. -/
def psf (X x : Nat) : Nat := X * x + x
theorem psf_len {X x a : Nat} (h : (dig X).length ≤ a) (hx : x < 4294967296) : (dig (psf X x)).length ≤ a + 3 := by
  have h1 : psf X x = (X + 1) * x := by unfold psf; rw [Nat.add_mul, Nat.one_mul]
  rw [h1]
  have h2 := dig_len_mul (X + 1) x
  have h3 := dig_len_add X 1
  have h4 : (dig x).length ≤ 1 := dig_len_of_lt (by simpa using hx)
  have h5 : (dig 1).length ≤ 1 := by rw [dig_one]; simp
  omega
theorem law_ProductMul {w : World} {va vb : Value} {la lb : List Nat} (ha : Nl w va la) (hb : Nl w vb lb) :
    Calls Try.prog 3 #[va, vb] w (Ret w fun r _ => r = .bool true) := by
  refine enter (args := [va, vb]) Try.func3 rfl Try.ntmps3 rfl ?_
  refine WP_seq ?_
  refine WP_region ?_
  refine O_assign rfl rfl rfl ?_
  refine WL_end [(0, _), (1, _)] ⟨rfl, rfl, trivial⟩ ?_
  refine WP_seq ?_
  refine WP_seq ?_
  refine WP_region ?_
  refine O_call enters9 rfl rfl rfl (awake_c) (fun v1 w1 e1 h1 => ?_)
  have z1 := e1.size
  obtain rfl := h1
  refine O_not rfl rfl rfl rfl ?_
  refine WL_end [(0, _), (1, _), (11, _)] ⟨rfl, rfl, rfl, trivial⟩ ?_
  refine WP_condF rfl ?_
  refine WP_skip ?_
  refine WP_seq ?_
  refine WP_region ?_
  refine O_move rfl rfl rfl ?_
  refine O_call enters10 rfl rfl rfl (mnat_any (ha.ext e1) (by (try simp only [val_dig, List.length_take, List.length_nil, List.length_cons, List.length_append, List.length_replicate, List.length_set, List.length_map, List.length_drop]); omega)) (fun v2 w2 e2 h2 => ?_)
  have z2 := e2.size
  obtain ⟨q2, rfl, hq2⟩ := h2
  refine O_move rfl rfl rfl ?_
  refine O_extract rfl rfl rfl rfl ?_
  refine O_extract rfl rfl rfl rfl ?_
  refine O_assign rfl rfl rfl ?_
  refine O_assign rfl rfl rfl ?_
  refine WL_end [(1, _), (5, _), (6, _)] ⟨rfl, rfl, rfl, trivial⟩ ?_
  refine WP_seq ?_
  refine WP_region ?_
  refine O_move rfl rfl rfl ?_
  refine O_call enters10 rfl rfl rfl (mnat_any (hb.ext (e1.trans e2)) (by (try simp only [val_dig, List.length_take, List.length_nil, List.length_cons, List.length_append, List.length_replicate, List.length_set, List.length_map, List.length_drop]); omega)) (fun v3 w3 e3 h3 => ?_)
  have z3 := e3.size
  obtain ⟨q3, rfl, hq3⟩ := h3
  refine O_move rfl rfl rfl ?_
  refine O_extract rfl rfl rfl rfl ?_
  refine O_extract rfl rfl rfl rfl ?_
  refine O_assign rfl rfl rfl ?_
  refine O_assign rfl rfl rfl ?_
  refine WL_end [(5, _), (6, _), (7, _), (8, _)] ⟨rfl, rfl, rfl, rfl, trivial⟩ ?_
  refine WP_seq ?_
  refine WP_seq ?_
  refine WP_region ?_
  refine O_move rfl rfl rfl ?_
  refine O_not rfl rfl rfl (decide_not).symm ?_
  refine O_move rfl rfl rfl ?_
  refine WL_ndec 24 rfl (fun g24 => ?_) (fun g24 => ?_)
  · --
    refine O_skip rfl rfl ?_
    refine O_skip rfl rfl ?_
    refine O_pickT rfl rfl rfl rfl ?_
    refine WL_end [(5, _), (7, _), (27, _)] ⟨rfl, rfl, rfl, trivial⟩ ?_
    refine WP_condT rfl ?_
    refine WP_seq ?_
    refine WP_region ?_
    refine O_assign rfl rfl rfl ?_
    refine WL_end [(4, _)] ⟨rfl, trivial⟩ ?_
    refine WP_ret ?_
    refine ret1 Try.results3 rfl ?_
    exact ⟨_, rfl, ((e1.trans e2).trans e3), rfl⟩
  · --
    refine O_move rfl rfl rfl ?_
    refine O_not rfl rfl rfl (decide_not).symm ?_
    refine O_pickF rfl rfl rfl rfl ?_
    refine WL_end [(5, _), (7, _), (27, _)] ⟨rfl, rfl, rfl, trivial⟩ ?_
    refine WP_condN rfl (fun c27 => ?_) (fun c27 => ?_)
    · --
      refine WP_seq ?_
      refine WP_region ?_
      refine O_assign rfl rfl rfl ?_
      refine WL_end [(4, _)] ⟨rfl, trivial⟩ ?_
      refine WP_ret ?_
      refine ret1 Try.results3 rfl ?_
      exact ⟨_, rfl, ((e1.trans e2).trans e3), rfl⟩
    · --
      refine WP_skip ?_
      refine WP_seq ?_
      refine WP_region ?_
      have dA := dig_len_le ha.d
      have dB := dig_len_le hb.d
      have d1 := dig_len_mul (val la) (val lb)
      have d2 := dig_len_mul (val lb) (val la)
      have d3 := dig_len_mul (val la) (val la)
      refine O_move rfl rfl rfl ?_
      refine O_move rfl rfl rfl ?_
      refine O_call enters11 rfl rfl rfl (mul_c ((hq2 (by omega)).ext e3).nl (hq3 (by omega)).nl (by (try simp only [val_dig, List.length_take, List.length_nil, List.length_cons, List.length_append, List.length_replicate, List.length_set, List.length_map, List.length_drop]); omega) (by (try simp only [val_dig, List.length_take, List.length_nil, List.length_cons, List.length_append, List.length_replicate, List.length_set, List.length_map, List.length_drop]); omega)) (fun v4 w4 e4 h4 => ?_)
      have z4 := e4.size
      try simp only [val_dig] at h4
      refine O_assign rfl rfl rfl ?_
      refine WL_end [(5, _), (7, _), (9, _)] ⟨rfl, rfl, rfl, trivial⟩ ?_
      refine WP_seq ?_
      refine WP_region ?_
      refine O_move rfl rfl rfl ?_
      refine O_move rfl rfl rfl ?_
      refine O_move rfl rfl rfl ?_
      refine O_call enters13 rfl rfl rfl (rmul_c (((hq2 (by omega)).ext e3).ext e4).nl ((hq3 (by omega)).ext e4).nl (by (try simp only [val_dig, List.length_take, List.length_nil, List.length_cons, List.length_append, List.length_replicate, List.length_set, List.length_map, List.length_drop]); omega) (by (try simp only [val_dig, List.length_take, List.length_nil, List.length_cons, List.length_append, List.length_replicate, List.length_set, List.length_map, List.length_drop]); omega)) (fun v5 w5 e5 h5 => ?_)
      have z5 := e5.size
      try simp only [val_dig] at h5
      refine O_call enters12 rfl rfl rfl (rsame_c (h4.ext e5).nl h5.nl (by (try simp only [val_dig, List.length_take, List.length_nil, List.length_cons, List.length_append, List.length_replicate, List.length_set, List.length_map, List.length_drop]); omega) (by (try simp only [val_dig, List.length_take, List.length_nil, List.length_cons, List.length_append, List.length_replicate, List.length_set, List.length_map, List.length_drop]); omega) rfl) (fun v6 w6 e6 h6 => ?_)
      have z6 := e6.size
      obtain rfl := h6
      refine O_move rfl rfl rfl ?_
      refine O_move rfl rfl rfl ?_
      refine O_move rfl rfl rfl ?_
      refine O_move rfl rfl rfl ?_
      refine O_call enters11 rfl rfl rfl (mul_c ((((hq3 (by omega)).ext e4).ext e5).ext e6).nl (((((hq2 (by omega)).ext e3).ext e4).ext e5).ext e6).nl (by (try simp only [val_dig, List.length_take, List.length_nil, List.length_cons, List.length_append, List.length_replicate, List.length_set, List.length_map, List.length_drop]); omega) (by (try simp only [val_dig, List.length_take, List.length_nil, List.length_cons, List.length_append, List.length_replicate, List.length_set, List.length_map, List.length_drop]); omega)) (fun v7 w7 e7 h7 => ?_)
      have z7 := e7.size
      try simp only [val_dig] at h7
      refine O_call enters12 rfl rfl rfl (rsame_c (((h4.ext e5).ext e6).ext e7).nl h7.nl (by (try simp only [val_dig, List.length_take, List.length_nil, List.length_cons, List.length_append, List.length_replicate, List.length_set, List.length_map, List.length_drop]); omega) (by (try simp only [val_dig, List.length_take, List.length_nil, List.length_cons, List.length_append, List.length_replicate, List.length_set, List.length_map, List.length_drop]); omega) (by rw [Nat.mul_comm])) (fun v8 w8 e8 h8 => ?_)
      have z8 := e8.size
      obtain rfl := h8
      refine O_pickT rfl rfl rfl rfl ?_
      refine O_move rfl rfl rfl ?_
      refine O_move rfl rfl rfl ?_
      refine O_call enters14 rfl rfl rfl (square_c (((((((hq2 (by omega)).ext e3).ext e4).ext e5).ext e6).ext e7).ext e8).nl (by (try simp only [val_dig, List.length_take, List.length_nil, List.length_cons, List.length_append, List.length_replicate, List.length_set, List.length_map, List.length_drop]); omega)) (fun v9 w9 e9 h9 => ?_)
      have z9 := e9.size
      try simp only [val_dig] at h9
      refine O_move rfl rfl rfl ?_
      refine O_move rfl rfl rfl ?_
      refine O_call enters13 rfl rfl rfl (rmul_c ((((((((hq2 (by omega)).ext e3).ext e4).ext e5).ext e6).ext e7).ext e8).ext e9).nl ((((((((hq2 (by omega)).ext e3).ext e4).ext e5).ext e6).ext e7).ext e8).ext e9).nl (by (try simp only [val_dig, List.length_take, List.length_nil, List.length_cons, List.length_append, List.length_replicate, List.length_set, List.length_map, List.length_drop]); omega) (by (try simp only [val_dig, List.length_take, List.length_nil, List.length_cons, List.length_append, List.length_replicate, List.length_set, List.length_map, List.length_drop]); omega)) (fun v10 w10 e10 h10 => ?_)
      have z10 := e10.size
      try simp only [val_dig] at h10
      refine O_call enters12 rfl rfl rfl (rsame_c (h9.ext e10).nl h10.nl (by (try simp only [val_dig, List.length_take, List.length_nil, List.length_cons, List.length_append, List.length_replicate, List.length_set, List.length_map, List.length_drop]); omega) (by (try simp only [val_dig, List.length_take, List.length_nil, List.length_cons, List.length_append, List.length_replicate, List.length_set, List.length_map, List.length_drop]); omega) rfl) (fun v11 w11 e11 h11 => ?_)
      have z11 := e11.size
      obtain rfl := h11
      refine O_pickT rfl rfl rfl rfl ?_
      refine O_assign rfl rfl rfl ?_
      refine WL_end [(4, _)] ⟨rfl, trivial⟩ ?_
      refine WP_ret ?_
      refine ret1 Try.results3 rfl ?_
      exact ⟨_, rfl, ((((((((((e1.trans e2).trans e3).trans e4).trans e5).trans e6).trans e7).trans e8).trans e9).trans e10).trans e11), rfl⟩

theorem law_ProductLaws {w : World} {va vb vc : Value} {la lb lc : List Nat} (ha : Nl w va la) (hb : Nl w vb lb) (hc : Nl w vc lc) :
    Calls Try.prog 5 #[va, vb, vc] w (Ret w fun r _ => r = .bool true) := by
  refine enter (args := [va, vb, vc]) Try.func5 rfl Try.ntmps5 rfl ?_
  refine WP_seq ?_
  refine WP_region ?_
  refine O_assign rfl rfl rfl ?_
  refine WL_end [(0, _), (1, _), (2, _)] ⟨rfl, rfl, rfl, trivial⟩ ?_
  refine WP_seq ?_
  refine WP_seq ?_
  refine WP_region ?_
  refine O_call enters9 rfl rfl rfl (awake_c) (fun v1 w1 e1 h1 => ?_)
  have z1 := e1.size
  obtain rfl := h1
  refine O_not rfl rfl rfl rfl ?_
  refine WL_end [(0, _), (1, _), (2, _), (16, _)] ⟨rfl, rfl, rfl, rfl, trivial⟩ ?_
  refine WP_condF rfl ?_
  refine WP_skip ?_
  refine WP_seq ?_
  refine WP_region ?_
  refine O_move rfl rfl rfl ?_
  refine O_call enters10 rfl rfl rfl (mnat_any (ha.ext e1) (by (try simp only [val_dig, List.length_take, List.length_nil, List.length_cons, List.length_append, List.length_replicate, List.length_set, List.length_map, List.length_drop]); omega)) (fun v2 w2 e2 h2 => ?_)
  have z2 := e2.size
  obtain ⟨q2, rfl, hq2⟩ := h2
  refine O_move rfl rfl rfl ?_
  refine O_extract rfl rfl rfl rfl ?_
  refine O_extract rfl rfl rfl rfl ?_
  refine O_assign rfl rfl rfl ?_
  refine O_assign rfl rfl rfl ?_
  refine WL_end [(1, _), (2, _), (7, _), (8, _)] ⟨rfl, rfl, rfl, rfl, trivial⟩ ?_
  refine WP_seq ?_
  refine WP_region ?_
  refine O_move rfl rfl rfl ?_
  refine O_call enters10 rfl rfl rfl (mnat_any (hb.ext (e1.trans e2)) (by (try simp only [val_dig, List.length_take, List.length_nil, List.length_cons, List.length_append, List.length_replicate, List.length_set, List.length_map, List.length_drop]); omega)) (fun v3 w3 e3 h3 => ?_)
  have z3 := e3.size
  obtain ⟨q3, rfl, hq3⟩ := h3
  refine O_move rfl rfl rfl ?_
  refine O_extract rfl rfl rfl rfl ?_
  refine O_extract rfl rfl rfl rfl ?_
  refine O_assign rfl rfl rfl ?_
  refine O_assign rfl rfl rfl ?_
  refine WL_end [(2, _), (7, _), (8, _), (9, _), (10, _)] ⟨rfl, rfl, rfl, rfl, rfl, trivial⟩ ?_
  refine WP_seq ?_
  refine WP_region ?_
  refine O_move rfl rfl rfl ?_
  refine O_call enters10 rfl rfl rfl (mnat_any (hc.ext ((e1.trans e2).trans e3)) (by (try simp only [val_dig, List.length_take, List.length_nil, List.length_cons, List.length_append, List.length_replicate, List.length_set, List.length_map, List.length_drop]); omega)) (fun v4 w4 e4 h4 => ?_)
  have z4 := e4.size
  obtain ⟨q4, rfl, hq4⟩ := h4
  refine O_move rfl rfl rfl ?_
  refine O_extract rfl rfl rfl rfl ?_
  refine O_extract rfl rfl rfl rfl ?_
  refine O_assign rfl rfl rfl ?_
  refine O_assign rfl rfl rfl ?_
  refine WL_end [(7, _), (8, _), (9, _), (10, _), (11, _), (12, _)] ⟨rfl, rfl, rfl, rfl, rfl, rfl, trivial⟩ ?_
  refine WP_seq ?_
  refine WP_seq ?_
  refine WP_region ?_
  refine O_move rfl rfl rfl ?_
  refine O_not rfl rfl rfl (decide_not).symm ?_
  refine O_move rfl rfl rfl ?_
  refine WL_ndec 34 rfl (fun g34 => ?_) (fun g34 => ?_)
  · --
    refine O_skip rfl rfl ?_
    refine O_skip rfl rfl ?_
    refine O_pickT rfl rfl rfl rfl ?_
    refine O_move rfl rfl rfl ?_
    refine O_skip rfl rfl ?_
    refine O_skip rfl rfl ?_
    refine O_pickT rfl rfl rfl rfl ?_
    refine WL_end [(7, _), (9, _), (11, _), (41, _)] ⟨rfl, rfl, rfl, rfl, trivial⟩ ?_
    refine WP_condT rfl ?_
    refine WP_seq ?_
    refine WP_region ?_
    refine O_assign rfl rfl rfl ?_
    refine WL_end [(6, _)] ⟨rfl, trivial⟩ ?_
    refine WP_ret ?_
    refine ret1 Try.results5 rfl ?_
    exact ⟨_, rfl, (((e1.trans e2).trans e3).trans e4), rfl⟩
  · --
    refine O_move rfl rfl rfl ?_
    refine O_not rfl rfl rfl (decide_not).symm ?_
    refine O_pickF rfl rfl rfl rfl ?_
    refine O_move rfl rfl rfl ?_
    refine WL_ndec 38 rfl (fun g38 => ?_) (fun g38 => ?_)
    · --
      refine O_skip rfl rfl ?_
      refine O_skip rfl rfl ?_
      refine O_pickT rfl rfl rfl rfl ?_
      refine WL_end [(7, _), (9, _), (11, _), (41, _)] ⟨rfl, rfl, rfl, rfl, trivial⟩ ?_
      refine WP_condT rfl ?_
      refine WP_seq ?_
      refine WP_region ?_
      refine O_assign rfl rfl rfl ?_
      refine WL_end [(6, _)] ⟨rfl, trivial⟩ ?_
      refine WP_ret ?_
      refine ret1 Try.results5 rfl ?_
      exact ⟨_, rfl, (((e1.trans e2).trans e3).trans e4), rfl⟩
    · --
      refine O_move rfl rfl rfl ?_
      refine O_not rfl rfl rfl (decide_not).symm ?_
      refine O_pickF rfl rfl rfl rfl ?_
      refine WL_end [(7, _), (9, _), (11, _), (41, _)] ⟨rfl, rfl, rfl, rfl, trivial⟩ ?_
      refine WP_condN rfl (fun c41 => ?_) (fun c41 => ?_)
      · --
        refine WP_seq ?_
        refine WP_region ?_
        refine O_assign rfl rfl rfl ?_
        refine WL_end [(6, _)] ⟨rfl, trivial⟩ ?_
        refine WP_ret ?_
        refine ret1 Try.results5 rfl ?_
        exact ⟨_, rfl, (((e1.trans e2).trans e3).trans e4), rfl⟩
      · --
        refine WP_skip ?_
        refine WP_seq ?_
        refine WP_region ?_
        have dA := dig_len_le ha.d
        have dB := dig_len_le hb.d
        have dC := dig_len_le hc.d
        have d1 := dig_len_mul (val la) (val lb)
        have d2 := dig_len_mul (val la) (val lc)
        have d3 := dig_len_mul (val lb) (val lc)
        have d4 := dig_len_mul ((val la) * (val lb)) (val lc)
        have d5 := dig_len_mul (val la) ((val lb) * (val lc))
        have d6 := dig_len_add ((val la) * (val lb)) ((val la) * (val lc))
        have d7 := dig_len_add (val lb) (val lc)
        have d8 := dig_len_mul (val la) ((val lb) + (val lc))
        refine O_move rfl rfl rfl ?_
        refine O_move rfl rfl rfl ?_
        refine O_call enters11 rfl rfl rfl (mul_c (((hq2 (by omega)).ext e3).ext e4).nl ((hq3 (by omega)).ext e4).nl (by (try simp only [val_dig, List.length_take, List.length_nil, List.length_cons, List.length_append, List.length_replicate, List.length_set, List.length_map, List.length_drop]); omega) (by (try simp only [val_dig, List.length_take, List.length_nil, List.length_cons, List.length_append, List.length_replicate, List.length_set, List.length_map, List.length_drop]); omega)) (fun v5 w5 e5 h5 => ?_)
        have z5 := e5.size
        try simp only [val_dig] at h5
        refine O_move rfl rfl rfl ?_
        refine O_call enters11 rfl rfl rfl (mul_c h5.nl ((hq4 (by omega)).ext e5).nl (by (try simp only [val_dig, List.length_take, List.length_nil, List.length_cons, List.length_append, List.length_replicate, List.length_set, List.length_map, List.length_drop]); omega) (by (try simp only [val_dig, List.length_take, List.length_nil, List.length_cons, List.length_append, List.length_replicate, List.length_set, List.length_map, List.length_drop]); omega)) (fun v6 w6 e6 h6 => ?_)
        have z6 := e6.size
        try simp only [val_dig] at h6
        refine O_assign rfl rfl rfl ?_
        refine WL_end [(7, _), (9, _), (11, _), (13, _)] ⟨rfl, rfl, rfl, rfl, trivial⟩ ?_
        refine WP_seq ?_
        refine WP_region ?_
        refine O_move rfl rfl rfl ?_
        refine O_move rfl rfl rfl ?_
        refine O_call enters11 rfl rfl rfl (mul_c (((((hq2 (by omega)).ext e3).ext e4).ext e5).ext e6).nl ((((hq3 (by omega)).ext e4).ext e5).ext e6).nl (by (try simp only [val_dig, List.length_take, List.length_nil, List.length_cons, List.length_append, List.length_replicate, List.length_set, List.length_map, List.length_drop]); omega) (by (try simp only [val_dig, List.length_take, List.length_nil, List.length_cons, List.length_append, List.length_replicate, List.length_set, List.length_map, List.length_drop]); omega)) (fun v7 w7 e7 h7 => ?_)
        have z7 := e7.size
        try simp only [val_dig] at h7
        refine O_move rfl rfl rfl ?_
        refine O_move rfl rfl rfl ?_
        refine O_call enters11 rfl rfl rfl (mul_c ((((((hq2 (by omega)).ext e3).ext e4).ext e5).ext e6).ext e7).nl ((((hq4 (by omega)).ext e5).ext e6).ext e7).nl (by (try simp only [val_dig, List.length_take, List.length_nil, List.length_cons, List.length_append, List.length_replicate, List.length_set, List.length_map, List.length_drop]); omega) (by (try simp only [val_dig, List.length_take, List.length_nil, List.length_cons, List.length_append, List.length_replicate, List.length_set, List.length_map, List.length_drop]); omega)) (fun v8 w8 e8 h8 => ?_)
        have z8 := e8.size
        try simp only [val_dig] at h8
        refine O_call enters17 rfl rfl rfl (add_c (h7.ext e8).nl h8.nl (by (try simp only [val_dig, List.length_take, List.length_nil, List.length_cons, List.length_append, List.length_replicate, List.length_set, List.length_map, List.length_drop]); omega) (by (try simp only [val_dig, List.length_take, List.length_nil, List.length_cons, List.length_append, List.length_replicate, List.length_set, List.length_map, List.length_drop]); omega)) (fun v9 w9 e9 h9 => ?_)
        have z9 := e9.size
        try simp only [val_dig] at h9
        refine O_assign rfl rfl rfl ?_
        refine WL_end [(7, _), (9, _), (11, _), (13, _), (14, _)] ⟨rfl, rfl, rfl, rfl, rfl, trivial⟩ ?_
        refine WP_seq ?_
        refine WP_region ?_
        refine O_move rfl rfl rfl ?_
        refine O_move rfl rfl rfl ?_
        refine O_move rfl rfl rfl ?_
        refine O_move rfl rfl rfl ?_
        refine O_call enters11 rfl rfl rfl (mul_c (((((((hq3 (by omega)).ext e4).ext e5).ext e6).ext e7).ext e8).ext e9).nl ((((((hq4 (by omega)).ext e5).ext e6).ext e7).ext e8).ext e9).nl (by (try simp only [val_dig, List.length_take, List.length_nil, List.length_cons, List.length_append, List.length_replicate, List.length_set, List.length_map, List.length_drop]); omega) (by (try simp only [val_dig, List.length_take, List.length_nil, List.length_cons, List.length_append, List.length_replicate, List.length_set, List.length_map, List.length_drop]); omega)) (fun v10 w10 e10 h10 => ?_)
        have z10 := e10.size
        try simp only [val_dig] at h10
        refine O_call enters11 rfl rfl rfl (mul_c (((((((((hq2 (by omega)).ext e3).ext e4).ext e5).ext e6).ext e7).ext e8).ext e9).ext e10).nl h10.nl (by (try simp only [val_dig, List.length_take, List.length_nil, List.length_cons, List.length_append, List.length_replicate, List.length_set, List.length_map, List.length_drop]); omega) (by (try simp only [val_dig, List.length_take, List.length_nil, List.length_cons, List.length_append, List.length_replicate, List.length_set, List.length_map, List.length_drop]); omega)) (fun v11 w11 e11 h11 => ?_)
        have z11 := e11.size
        try simp only [val_dig] at h11
        refine O_call enters12 rfl rfl rfl (rsame_c (((((h6.ext e7).ext e8).ext e9).ext e10).ext e11).nl h11.nl (by (try simp only [val_dig, List.length_take, List.length_nil, List.length_cons, List.length_append, List.length_replicate, List.length_set, List.length_map, List.length_drop]); omega) (by (try simp only [val_dig, List.length_take, List.length_nil, List.length_cons, List.length_append, List.length_replicate, List.length_set, List.length_map, List.length_drop]); omega) (by rw [Nat.mul_assoc])) (fun v12 w12 e12 h12 => ?_)
        have z12 := e12.size
        obtain rfl := h12
        refine O_move rfl rfl rfl ?_
        refine O_move rfl rfl rfl ?_
        refine O_move rfl rfl rfl ?_
        refine O_move rfl rfl rfl ?_
        refine O_call enters17 rfl rfl rfl (add_c ((((((((((hq3 (by omega)).ext e4).ext e5).ext e6).ext e7).ext e8).ext e9).ext e10).ext e11).ext e12).nl (((((((((hq4 (by omega)).ext e5).ext e6).ext e7).ext e8).ext e9).ext e10).ext e11).ext e12).nl (by (try simp only [val_dig, List.length_take, List.length_nil, List.length_cons, List.length_append, List.length_replicate, List.length_set, List.length_map, List.length_drop]); omega) (by (try simp only [val_dig, List.length_take, List.length_nil, List.length_cons, List.length_append, List.length_replicate, List.length_set, List.length_map, List.length_drop]); omega)) (fun v13 w13 e13 h13 => ?_)
        have z13 := e13.size
        try simp only [val_dig] at h13
        refine O_call enters11 rfl rfl rfl (mul_c ((((((((((((hq2 (by omega)).ext e3).ext e4).ext e5).ext e6).ext e7).ext e8).ext e9).ext e10).ext e11).ext e12).ext e13).nl h13.nl (by (try simp only [val_dig, List.length_take, List.length_nil, List.length_cons, List.length_append, List.length_replicate, List.length_set, List.length_map, List.length_drop]); omega) (by (try simp only [val_dig, List.length_take, List.length_nil, List.length_cons, List.length_append, List.length_replicate, List.length_set, List.length_map, List.length_drop]); omega)) (fun v14 w14 e14 h14 => ?_)
        have z14 := e14.size
        try simp only [val_dig] at h14
        refine O_move rfl rfl rfl ?_
        refine O_call enters12 rfl rfl rfl (rsame_c h14.nl (((((h9.ext e10).ext e11).ext e12).ext e13).ext e14).nl (by (try simp only [val_dig, List.length_take, List.length_nil, List.length_cons, List.length_append, List.length_replicate, List.length_set, List.length_map, List.length_drop]); omega) (by (try simp only [val_dig, List.length_take, List.length_nil, List.length_cons, List.length_append, List.length_replicate, List.length_set, List.length_map, List.length_drop]); omega) (by rw [Nat.mul_add])) (fun v15 w15 e15 h15 => ?_)
        have z15 := e15.size
        obtain rfl := h15
        refine O_pickT rfl rfl rfl rfl ?_
        refine O_move rfl rfl rfl ?_
        refine O_move rfl rfl rfl ?_
        refine O_move rfl rfl rfl ?_
        refine O_call enters11 rfl rfl rfl (mul_c ((((((((((((((hq2 (by omega)).ext e3).ext e4).ext e5).ext e6).ext e7).ext e8).ext e9).ext e10).ext e11).ext e12).ext e13).ext e14).ext e15).nl (((((((((((((hq3 (by omega)).ext e4).ext e5).ext e6).ext e7).ext e8).ext e9).ext e10).ext e11).ext e12).ext e13).ext e14).ext e15).nl (by (try simp only [val_dig, List.length_take, List.length_nil, List.length_cons, List.length_append, List.length_replicate, List.length_set, List.length_map, List.length_drop]); omega) (by (try simp only [val_dig, List.length_take, List.length_nil, List.length_cons, List.length_append, List.length_replicate, List.length_set, List.length_map, List.length_drop]); omega)) (fun v16 w16 e16 h16 => ?_)
        have z16 := e16.size
        try simp only [val_dig] at h16
        refine O_move rfl rfl rfl ?_
        refine O_move rfl rfl rfl ?_
        refine O_call enters11 rfl rfl rfl (mul_c (((((((((((((((hq2 (by omega)).ext e3).ext e4).ext e5).ext e6).ext e7).ext e8).ext e9).ext e10).ext e11).ext e12).ext e13).ext e14).ext e15).ext e16).nl (((((((((((((hq4 (by omega)).ext e5).ext e6).ext e7).ext e8).ext e9).ext e10).ext e11).ext e12).ext e13).ext e14).ext e15).ext e16).nl (by (try simp only [val_dig, List.length_take, List.length_nil, List.length_cons, List.length_append, List.length_replicate, List.length_set, List.length_map, List.length_drop]); omega) (by (try simp only [val_dig, List.length_take, List.length_nil, List.length_cons, List.length_append, List.length_replicate, List.length_set, List.length_map, List.length_drop]); omega)) (fun v17 w17 e17 h17 => ?_)
        have z17 := e17.size
        try simp only [val_dig] at h17
        refine V_lit2 T36 rfl rfl rfl rfl (Nl.cells1 (h16.ext e17).nl) (Nl.cells1 h17.nl) (fun vt wt ot et => ?_)
        have zt := et.size
        refine O_call enters18 rfl rfl rfl (psum_c (ns := [val la * val lb, val la * val lc]) (Nls_two ot.sl ((h16.ext e17).nl.ext et) (h17.nl.ext et)) (by simp only [List.sum_cons, List.sum_nil, Nat.add_zero]; omega)) (fun v18 w18 e18 h18 => ?_)
        have z18 := e18.size
        try simp only [val_dig] at h18
        simp only [List.sum_cons, List.sum_nil, Nat.add_zero] at h18
        refine O_move rfl rfl rfl ?_
        refine O_call enters12 rfl rfl rfl (rsame_c h18.nl ((((((((((h9.ext e10).ext e11).ext e12).ext e13).ext e14).ext e15).ext e16).ext e17).ext et).ext e18).nl (by (try simp only [val_dig, List.length_take, List.length_nil, List.length_cons, List.length_append, List.length_replicate, List.length_set, List.length_map, List.length_drop]); omega) (by (try simp only [val_dig, List.length_take, List.length_nil, List.length_cons, List.length_append, List.length_replicate, List.length_set, List.length_map, List.length_drop]); omega) rfl) (fun v19 w19 e19 h19 => ?_)
        have z19 := e19.size
        obtain rfl := h19
        refine O_pickT rfl rfl rfl rfl ?_
        refine O_assign rfl rfl rfl ?_
        refine WL_end [(6, _)] ⟨rfl, trivial⟩ ?_
        refine WP_ret ?_
        refine ret1 Try.results5 rfl ?_
        exact ⟨_, rfl, (((((((((((((((((((e1.trans e2).trans e3).trans e4).trans e5).trans e6).trans e7).trans e8).trans e9).trans e10).trans e11).trans e12).trans e13).trans e14).trans e15).trans e16).trans e17).trans et).trans e18).trans e19), rfl⟩

theorem law_ProductPower {w : World} {va : Value} {la : List Nat} {n m : Int} (ha : Nl w va la) :
    Calls Try.prog 6 #[va, .int .i64 n, .int .i64 m] w (Ret w fun r _ => r = .bool true) := by
  refine enter (args := [va, _, _]) Try.func6 rfl Try.ntmps6 rfl ?_
  refine WP_seq ?_
  refine WP_region ?_
  refine O_assign rfl rfl rfl ?_
  refine WL_end [(0, _), (1, _), (2, _)] ⟨rfl, rfl, rfl, trivial⟩ ?_
  refine WP_seq ?_
  refine WP_seq ?_
  refine WP_region ?_
  refine O_call enters9 rfl rfl rfl (awake_c) (fun v1 w1 e1 h1 => ?_)
  have z1 := e1.size
  obtain rfl := h1
  refine O_not rfl rfl rfl rfl ?_
  refine WL_end [(0, _), (1, _), (2, _), (10, _)] ⟨rfl, rfl, rfl, rfl, trivial⟩ ?_
  refine WP_condF rfl ?_
  refine WP_skip ?_
  refine WP_seq ?_
  refine WP_region ?_
  refine O_move rfl rfl rfl ?_
  refine O_call enters10 rfl rfl rfl (mnat_any (ha.ext e1) (by (try simp only [val_dig, List.length_take, List.length_nil, List.length_cons, List.length_append, List.length_replicate, List.length_set, List.length_map, List.length_drop]); omega)) (fun v2 w2 e2 h2 => ?_)
  have z2 := e2.size
  obtain ⟨q2, rfl, hq2⟩ := h2
  refine O_move rfl rfl rfl ?_
  refine O_extract rfl rfl rfl rfl ?_
  refine O_extract rfl rfl rfl rfl ?_
  refine O_assign rfl rfl rfl ?_
  refine O_assign rfl rfl rfl ?_
  refine WL_end [(1, _), (2, _), (7, _), (8, _)] ⟨rfl, rfl, rfl, rfl, trivial⟩ ?_
  refine WP_seq ?_
  refine WP_seq ?_
  refine WP_region ?_
  refine O_move rfl rfl rfl ?_
  refine O_not rfl rfl rfl (decide_not).symm ?_
  refine WL_end [(1, _), (2, _), (7, _), (17, _)] ⟨rfl, rfl, rfl, rfl, trivial⟩ ?_
  refine WP_condN rfl (fun c17 => ?_) (fun c17 => ?_)
  · --
    refine WP_seq ?_
    refine WP_region ?_
    refine O_assign rfl rfl rfl ?_
    refine WL_end [(6, _)] ⟨rfl, trivial⟩ ?_
    refine WP_ret ?_
    refine ret1 Try.results6 rfl ?_
    exact ⟨_, rfl, (e1.trans e2), rfl⟩
  · --
    refine WP_skip ?_
    refine WP_seq ?_
    refine WP_region ?_
    refine O_move rfl rfl rfl ?_
    refine O_call enters15 rfl rfl rfl (mod_c (by (try simp only [val_dig, List.length_take, List.length_nil, List.length_cons, List.length_append, List.length_replicate, List.length_set, List.length_map, List.length_drop]); omega) (by (try simp only [val_dig, List.length_take, List.length_nil, List.length_cons, List.length_append, List.length_replicate, List.length_set, List.length_map, List.length_drop]); omega)) (fun v3 w3 e3 h3 => ?_)
    have z3 := e3.size
    obtain rfl := h3
    have hp0 := Int.emod_nonneg n (show (65 : Int) ≠ 0 by decide)
    have hp1 := Int.emod_lt_of_pos n (show (0 : Int) < 65 by decide)
    generalize n % 65 = p at hp0 hp1 ⊢
    refine O_move rfl rfl rfl ?_
    refine O_call enters15 rfl rfl rfl (mod_c (by (try simp only [val_dig, List.length_take, List.length_nil, List.length_cons, List.length_append, List.length_replicate, List.length_set, List.length_map, List.length_drop]); omega) (by (try simp only [val_dig, List.length_take, List.length_nil, List.length_cons, List.length_append, List.length_replicate, List.length_set, List.length_map, List.length_drop]); omega)) (fun v4 w4 e4 h4 => ?_)
    have z4 := e4.size
    obtain rfl := h4
    have hq0 := Int.emod_nonneg m (show (65 : Int) ≠ 0 by decide)
    have hq1 := Int.emod_lt_of_pos m (show (0 : Int) < 65 by decide)
    generalize m % 65 = q at hq0 hq1 ⊢
    refine O_assign rfl rfl rfl ?_
    refine O_assign rfl rfl rfl ?_
    refine WL_end [(1, _), (2, _), (7, _)] ⟨rfl, rfl, rfl, trivial⟩ ?_
    refine WP_seq ?_
    refine WP_seq ?_
    refine WP_region ?_
    refine O_move rfl rfl rfl ?_
    refine O_move rfl rfl rfl ?_
    refine O_add rfl rfl rfl rfl (wrap_i64_id (by omega) (by omega)) ?_
    refine O_gtr rfl rfl rfl rfl rfl ?_
    refine WL_end [(1, _), (2, _), (7, _), (25, _)] ⟨rfl, rfl, rfl, rfl, trivial⟩ ?_
    refine WP_condD rfl (fun c25 => ?_) (fun c25 => ?_)
    · --
      refine WP_region ?_
      refine O_move rfl rfl rfl ?_
      refine O_sub rfl rfl rfl rfl (wrap_i64_id (by omega) (by omega)) ?_
      refine O_assign rfl rfl rfl ?_
      refine WL_end [(1, _), (2, _), (7, _)] ⟨rfl, rfl, rfl, trivial⟩ ?_
      refine WP_seq ?_
      refine WP_region ?_
      have dA := dig_len_le ha.d
      have hl4 : (dig (val la)).length ≤ 4 := by omega
      have dp := fun (e : Nat) (he : e ≤ 64) => dig_len_pow64 (D_dig (val la)) (show (dig (val la)).length ≤ 100000 by omega) (e := e) he
      simp only [val_dig] at dp
      have dp1 := dp p.toNat (by omega)
      have dp2 := dp q.toNat (by omega)
      have dp3 := dp (64 - p).toNat (by omega)
      have dp4 := dp (p + (64 - p)).toNat (by omega)
      have dm1 := dig_len_mul (val la ^ p.toNat) (val la ^ q.toNat)
      have dm2 := dig_len_mul (val la ^ p.toNat) (val la ^ (64 - p).toNat)
      refine O_move rfl rfl rfl ?_
      refine O_move rfl rfl rfl ?_
      refine O_call enters19 rfl rfl rfl (power_i (((hq2 (by omega)).ext e3).ext e4).nl (by (try simp only [val_dig, List.length_take, List.length_nil, List.length_cons, List.length_append, List.length_replicate, List.length_set, List.length_map, List.length_drop]); omega) (by (try simp only [val_dig, List.length_take, List.length_nil, List.length_cons, List.length_append, List.length_replicate, List.length_set, List.length_map, List.length_drop]); omega) (by (try simp only [val_dig, List.length_take, List.length_nil, List.length_cons, List.length_append, List.length_replicate, List.length_set, List.length_map, List.length_drop]); omega)) (fun v5 w5 e5 h5 => ?_)
      have z5 := e5.size
      try simp only [val_dig] at h5
      refine O_move rfl rfl rfl ?_
      refine O_move rfl rfl rfl ?_
      refine O_call enters20 rfl rfl rfl (rpower_i ((((hq2 (by omega)).ext e3).ext e4).ext e5).nl (by (try simp only [val_dig, List.length_take, List.length_nil, List.length_cons, List.length_append, List.length_replicate, List.length_set, List.length_map, List.length_drop]); omega) (by (try simp only [val_dig, List.length_take, List.length_nil, List.length_cons, List.length_append, List.length_replicate, List.length_set, List.length_map, List.length_drop]); omega) (by (try simp only [val_dig, List.length_take, List.length_nil, List.length_cons, List.length_append, List.length_replicate, List.length_set, List.length_map, List.length_drop]); omega)) (fun v6 w6 e6 h6 => ?_)
      have z6 := e6.size
      try simp only [val_dig] at h6
      refine O_call enters12 rfl rfl rfl (rsame_c (h5.ext e6).nl h6.nl (by (try simp only [val_dig, List.length_take, List.length_nil, List.length_cons, List.length_append, List.length_replicate, List.length_set, List.length_map, List.length_drop]); omega) (by (try simp only [val_dig, List.length_take, List.length_nil, List.length_cons, List.length_append, List.length_replicate, List.length_set, List.length_map, List.length_drop]); omega) rfl) (fun v7 w7 e7 h7 => ?_)
      have z7 := e7.size
      obtain rfl := h7
      refine O_move rfl rfl rfl ?_
      refine O_move rfl rfl rfl ?_
      refine O_move rfl rfl rfl ?_
      refine O_call enters19 rfl rfl rfl (power_i ((((((hq2 (by omega)).ext e3).ext e4).ext e5).ext e6).ext e7).nl (by (try simp only [val_dig, List.length_take, List.length_nil, List.length_cons, List.length_append, List.length_replicate, List.length_set, List.length_map, List.length_drop]); omega) (by (try simp only [val_dig, List.length_take, List.length_nil, List.length_cons, List.length_append, List.length_replicate, List.length_set, List.length_map, List.length_drop]); omega) (by (try simp only [val_dig, List.length_take, List.length_nil, List.length_cons, List.length_append, List.length_replicate, List.length_set, List.length_map, List.length_drop]); omega)) (fun v8 w8 e8 h8 => ?_)
      have z8 := e8.size
      try simp only [val_dig] at h8
      refine O_move rfl rfl rfl ?_
      refine O_move rfl rfl rfl ?_
      refine O_call enters19 rfl rfl rfl (power_i (((((((hq2 (by omega)).ext e3).ext e4).ext e5).ext e6).ext e7).ext e8).nl (by (try simp only [val_dig, List.length_take, List.length_nil, List.length_cons, List.length_append, List.length_replicate, List.length_set, List.length_map, List.length_drop]); omega) (by (try simp only [val_dig, List.length_take, List.length_nil, List.length_cons, List.length_append, List.length_replicate, List.length_set, List.length_map, List.length_drop]); omega) (by (try simp only [val_dig, List.length_take, List.length_nil, List.length_cons, List.length_append, List.length_replicate, List.length_set, List.length_map, List.length_drop]); omega)) (fun v9 w9 e9 h9 => ?_)
      have z9 := e9.size
      try simp only [val_dig] at h9
      refine O_call enters11 rfl rfl rfl (mul_c (h8.ext e9).nl h9.nl (by (try simp only [val_dig, List.length_take, List.length_nil, List.length_cons, List.length_append, List.length_replicate, List.length_set, List.length_map, List.length_drop]); omega) (by (try simp only [val_dig, List.length_take, List.length_nil, List.length_cons, List.length_append, List.length_replicate, List.length_set, List.length_map, List.length_drop]); omega)) (fun v10 w10 e10 h10 => ?_)
      have z10 := e10.size
      try simp only [val_dig] at h10
      refine O_move rfl rfl rfl ?_
      refine O_move rfl rfl rfl ?_
      refine O_move rfl rfl rfl ?_
      refine O_add rfl rfl rfl rfl (wrap_i64_id (by omega) (by omega)) ?_
      refine O_call enters19 rfl rfl rfl (power_i (((((((((hq2 (by omega)).ext e3).ext e4).ext e5).ext e6).ext e7).ext e8).ext e9).ext e10).nl (by (try simp only [val_dig, List.length_take, List.length_nil, List.length_cons, List.length_append, List.length_replicate, List.length_set, List.length_map, List.length_drop]); omega) (by (try simp only [val_dig, List.length_take, List.length_nil, List.length_cons, List.length_append, List.length_replicate, List.length_set, List.length_map, List.length_drop]); omega) (by (try simp only [val_dig, List.length_take, List.length_nil, List.length_cons, List.length_append, List.length_replicate, List.length_set, List.length_map, List.length_drop]); omega)) (fun v11 w11 e11 h11 => ?_)
      have z11 := e11.size
      try simp only [val_dig] at h11
      refine O_call enters12 rfl rfl rfl (rsame_c (h10.ext e11).nl h11.nl (by (try simp only [val_dig, List.length_take, List.length_nil, List.length_cons, List.length_append, List.length_replicate, List.length_set, List.length_map, List.length_drop]); omega) (by first | omega | (have := dp (p + q).toNat (by omega); omega)) (by rw [← Nat.pow_add]; congr 2; omega)) (fun v12 w12 e12 h12 => ?_)
      have z12 := e12.size
      obtain rfl := h12
      refine O_pickT rfl rfl rfl rfl ?_
      refine O_assign rfl rfl rfl ?_
      refine WL_end [(6, _)] ⟨rfl, trivial⟩ ?_
      refine WP_ret ?_
      refine ret1 Try.results6 rfl ?_
      exact ⟨_, rfl, (((((((((((e1.trans e2).trans e3).trans e4).trans e5).trans e6).trans e7).trans e8).trans e9).trans e10).trans e11).trans e12), rfl⟩
    · --
      refine WP_skip ?_
      refine WP_seq ?_
      refine WP_region ?_
      have dA := dig_len_le ha.d
      have hl4 : (dig (val la)).length ≤ 4 := by omega
      have dp := fun (e : Nat) (he : e ≤ 64) => dig_len_pow64 (D_dig (val la)) (show (dig (val la)).length ≤ 100000 by omega) (e := e) he
      simp only [val_dig] at dp
      have dp1 := dp p.toNat (by omega)
      have dp2 := dp q.toNat (by omega)
      have dp3 := dp (64 - p).toNat (by omega)
      have dp4 := dp (p + (64 - p)).toNat (by omega)
      have dm1 := dig_len_mul (val la ^ p.toNat) (val la ^ q.toNat)
      have dm2 := dig_len_mul (val la ^ p.toNat) (val la ^ (64 - p).toNat)
      refine O_move rfl rfl rfl ?_
      refine O_move rfl rfl rfl ?_
      refine O_call enters19 rfl rfl rfl (power_i (((hq2 (by omega)).ext e3).ext e4).nl (by (try simp only [val_dig, List.length_take, List.length_nil, List.length_cons, List.length_append, List.length_replicate, List.length_set, List.length_map, List.length_drop]); omega) (by (try simp only [val_dig, List.length_take, List.length_nil, List.length_cons, List.length_append, List.length_replicate, List.length_set, List.length_map, List.length_drop]); omega) (by (try simp only [val_dig, List.length_take, List.length_nil, List.length_cons, List.length_append, List.length_replicate, List.length_set, List.length_map, List.length_drop]); omega)) (fun v13 w13 e13 h13 => ?_)
      have z13 := e13.size
      try simp only [val_dig] at h13
      refine O_move rfl rfl rfl ?_
      refine O_move rfl rfl rfl ?_
      refine O_call enters20 rfl rfl rfl (rpower_i ((((hq2 (by omega)).ext e3).ext e4).ext e13).nl (by (try simp only [val_dig, List.length_take, List.length_nil, List.length_cons, List.length_append, List.length_replicate, List.length_set, List.length_map, List.length_drop]); omega) (by (try simp only [val_dig, List.length_take, List.length_nil, List.length_cons, List.length_append, List.length_replicate, List.length_set, List.length_map, List.length_drop]); omega) (by (try simp only [val_dig, List.length_take, List.length_nil, List.length_cons, List.length_append, List.length_replicate, List.length_set, List.length_map, List.length_drop]); omega)) (fun v14 w14 e14 h14 => ?_)
      have z14 := e14.size
      try simp only [val_dig] at h14
      refine O_call enters12 rfl rfl rfl (rsame_c (h13.ext e14).nl h14.nl (by (try simp only [val_dig, List.length_take, List.length_nil, List.length_cons, List.length_append, List.length_replicate, List.length_set, List.length_map, List.length_drop]); omega) (by (try simp only [val_dig, List.length_take, List.length_nil, List.length_cons, List.length_append, List.length_replicate, List.length_set, List.length_map, List.length_drop]); omega) rfl) (fun v15 w15 e15 h15 => ?_)
      have z15 := e15.size
      obtain rfl := h15
      refine O_move rfl rfl rfl ?_
      refine O_move rfl rfl rfl ?_
      refine O_move rfl rfl rfl ?_
      refine O_call enters19 rfl rfl rfl (power_i ((((((hq2 (by omega)).ext e3).ext e4).ext e13).ext e14).ext e15).nl (by (try simp only [val_dig, List.length_take, List.length_nil, List.length_cons, List.length_append, List.length_replicate, List.length_set, List.length_map, List.length_drop]); omega) (by (try simp only [val_dig, List.length_take, List.length_nil, List.length_cons, List.length_append, List.length_replicate, List.length_set, List.length_map, List.length_drop]); omega) (by (try simp only [val_dig, List.length_take, List.length_nil, List.length_cons, List.length_append, List.length_replicate, List.length_set, List.length_map, List.length_drop]); omega)) (fun v16 w16 e16 h16 => ?_)
      have z16 := e16.size
      try simp only [val_dig] at h16
      refine O_move rfl rfl rfl ?_
      refine O_move rfl rfl rfl ?_
      refine O_call enters19 rfl rfl rfl (power_i (((((((hq2 (by omega)).ext e3).ext e4).ext e13).ext e14).ext e15).ext e16).nl (by (try simp only [val_dig, List.length_take, List.length_nil, List.length_cons, List.length_append, List.length_replicate, List.length_set, List.length_map, List.length_drop]); omega) (by (try simp only [val_dig, List.length_take, List.length_nil, List.length_cons, List.length_append, List.length_replicate, List.length_set, List.length_map, List.length_drop]); omega) (by (try simp only [val_dig, List.length_take, List.length_nil, List.length_cons, List.length_append, List.length_replicate, List.length_set, List.length_map, List.length_drop]); omega)) (fun v17 w17 e17 h17 => ?_)
      have z17 := e17.size
      try simp only [val_dig] at h17
      refine O_call enters11 rfl rfl rfl (mul_c (h16.ext e17).nl h17.nl (by (try simp only [val_dig, List.length_take, List.length_nil, List.length_cons, List.length_append, List.length_replicate, List.length_set, List.length_map, List.length_drop]); omega) (by (try simp only [val_dig, List.length_take, List.length_nil, List.length_cons, List.length_append, List.length_replicate, List.length_set, List.length_map, List.length_drop]); omega)) (fun v18 w18 e18 h18 => ?_)
      have z18 := e18.size
      try simp only [val_dig] at h18
      refine O_move rfl rfl rfl ?_
      refine O_move rfl rfl rfl ?_
      refine O_move rfl rfl rfl ?_
      refine O_add rfl rfl rfl rfl (wrap_i64_id (by omega) (by omega)) ?_
      refine O_call enters19 rfl rfl rfl (power_i (((((((((hq2 (by omega)).ext e3).ext e4).ext e13).ext e14).ext e15).ext e16).ext e17).ext e18).nl (by (try simp only [val_dig, List.length_take, List.length_nil, List.length_cons, List.length_append, List.length_replicate, List.length_set, List.length_map, List.length_drop]); omega) (by (try simp only [val_dig, List.length_take, List.length_nil, List.length_cons, List.length_append, List.length_replicate, List.length_set, List.length_map, List.length_drop]); omega) (by (try simp only [val_dig, List.length_take, List.length_nil, List.length_cons, List.length_append, List.length_replicate, List.length_set, List.length_map, List.length_drop]); omega)) (fun v19 w19 e19 h19 => ?_)
      have z19 := e19.size
      try simp only [val_dig] at h19
      refine O_call enters12 rfl rfl rfl (rsame_c (h18.ext e19).nl h19.nl (by (try simp only [val_dig, List.length_take, List.length_nil, List.length_cons, List.length_append, List.length_replicate, List.length_set, List.length_map, List.length_drop]); omega) (by first | omega | (have := dp (p + q).toNat (by omega); omega)) (by rw [← Nat.pow_add]; congr 2; omega)) (fun v20 w20 e20 h20 => ?_)
      have z20 := e20.size
      obtain rfl := h20
      refine O_pickT rfl rfl rfl rfl ?_
      refine O_assign rfl rfl rfl ?_
      refine WL_end [(6, _)] ⟨rfl, trivial⟩ ?_
      refine WP_ret ?_
      refine ret1 Try.results6 rfl ?_
      exact ⟨_, rfl, (((((((((((e1.trans e2).trans e3).trans e4).trans e13).trans e14).trans e15).trans e16).trans e17).trans e18).trans e19).trans e20), rfl⟩

theorem law_ProductBits {w : World} {va vb : Value} {la lb : List Nat} (ha : Nl w va la) (hb : Nl w vb lb) :
    Calls Try.prog 8 #[va, vb] w (Ret w fun r _ => r = .bool true) := by
  refine enter (args := [va, vb]) Try.func8 rfl Try.ntmps8 rfl ?_
  refine WP_seq ?_
  refine WP_region ?_
  refine O_assign rfl rfl rfl ?_
  refine WL_end [(0, _), (1, _)] ⟨rfl, rfl, trivial⟩ ?_
  refine WP_seq ?_
  refine WP_seq ?_
  refine WP_region ?_
  refine O_call enters9 rfl rfl rfl (awake_c) (fun v1 w1 e1 h1 => ?_)
  have z1 := e1.size
  obtain rfl := h1
  refine O_not rfl rfl rfl rfl ?_
  refine WL_end [(0, _), (1, _), (12, _)] ⟨rfl, rfl, rfl, trivial⟩ ?_
  refine WP_condF rfl ?_
  refine WP_skip ?_
  refine WP_seq ?_
  refine WP_region ?_
  refine O_move rfl rfl rfl ?_
  refine O_call enters10 rfl rfl rfl (mnat_any (ha.ext e1) (by (try simp only [val_dig, List.length_take, List.length_nil, List.length_cons, List.length_append, List.length_replicate, List.length_set, List.length_map, List.length_drop]); omega)) (fun v2 w2 e2 h2 => ?_)
  have z2 := e2.size
  obtain ⟨q2, rfl, hq2⟩ := h2
  refine O_move rfl rfl rfl ?_
  refine O_extract rfl rfl rfl rfl ?_
  refine O_extract rfl rfl rfl rfl ?_
  refine O_assign rfl rfl rfl ?_
  refine O_assign rfl rfl rfl ?_
  refine WL_end [(1, _), (5, _), (6, _)] ⟨rfl, rfl, rfl, trivial⟩ ?_
  refine WP_seq ?_
  refine WP_region ?_
  refine O_move rfl rfl rfl ?_
  refine O_call enters10 rfl rfl rfl (mnat_any (hb.ext (e1.trans e2)) (by (try simp only [val_dig, List.length_take, List.length_nil, List.length_cons, List.length_append, List.length_replicate, List.length_set, List.length_map, List.length_drop]); omega)) (fun v3 w3 e3 h3 => ?_)
  have z3 := e3.size
  obtain ⟨q3, rfl, hq3⟩ := h3
  refine O_move rfl rfl rfl ?_
  refine O_extract rfl rfl rfl rfl ?_
  refine O_extract rfl rfl rfl rfl ?_
  refine O_assign rfl rfl rfl ?_
  refine O_assign rfl rfl rfl ?_
  refine WL_end [(5, _), (6, _), (7, _), (8, _)] ⟨rfl, rfl, rfl, rfl, trivial⟩ ?_
  refine WP_seq ?_
  refine WP_seq ?_
  refine WP_region ?_
  refine O_move rfl rfl rfl ?_
  refine O_not rfl rfl rfl (decide_not).symm ?_
  refine O_move rfl rfl rfl ?_
  refine WL_ndec 25 rfl (fun g25 => ?_) (fun g25 => ?_)
  · --
    refine O_skip rfl rfl ?_
    refine O_skip rfl rfl ?_
    refine O_pickT rfl rfl rfl rfl ?_
    refine WL_end [(5, _), (7, _), (28, _)] ⟨rfl, rfl, rfl, trivial⟩ ?_
    refine WP_condT rfl ?_
    refine WP_seq ?_
    refine WP_region ?_
    refine O_assign rfl rfl rfl ?_
    refine WL_end [(4, _)] ⟨rfl, trivial⟩ ?_
    refine WP_ret ?_
    refine ret1 Try.results8 rfl ?_
    exact ⟨_, rfl, ((e1.trans e2).trans e3), rfl⟩
  · --
    refine O_move rfl rfl rfl ?_
    refine O_not rfl rfl rfl (decide_not).symm ?_
    refine O_pickF rfl rfl rfl rfl ?_
    refine WL_end [(5, _), (7, _), (28, _)] ⟨rfl, rfl, rfl, trivial⟩ ?_
    refine WP_condN rfl (fun c28 => ?_) (fun c28 => ?_)
    · --
      refine WP_seq ?_
      refine WP_region ?_
      refine O_assign rfl rfl rfl ?_
      refine WL_end [(4, _)] ⟨rfl, trivial⟩ ?_
      refine WP_ret ?_
      refine ret1 Try.results8 rfl ?_
      exact ⟨_, rfl, ((e1.trans e2).trans e3), rfl⟩
    · --
      refine WP_skip ?_
      refine WP_seq ?_
      refine WP_region ?_
      have dA := dig_len_le ha.d
      have dB := dig_len_le hb.d
      have d1 := dig_len_mul (val la) (val lb)
      have b0 := bl_mul (val la) (val lb)
      have b1 : bl (val la) ≤ 32 * (dig (val la)).length := bl_dig _
      have b2 : bl (val lb) ≤ 32 * (dig (val lb)).length := bl_dig _
      refine O_move rfl rfl rfl ?_
      refine O_move rfl rfl rfl ?_
      refine O_call enters11 rfl rfl rfl (mul_c ((hq2 (by omega)).ext e3).nl (hq3 (by omega)).nl (by (try simp only [val_dig, List.length_take, List.length_nil, List.length_cons, List.length_append, List.length_replicate, List.length_set, List.length_map, List.length_drop]); omega) (by (try simp only [val_dig, List.length_take, List.length_nil, List.length_cons, List.length_append, List.length_replicate, List.length_set, List.length_map, List.length_drop]); omega)) (fun v4 w4 e4 h4 => ?_)
      have z4 := e4.size
      try simp only [val_dig] at h4
      refine O_call enters24 rfl rfl rfl (bits_c h4.nl (by (try simp only [val_dig, List.length_take, List.length_nil, List.length_cons, List.length_append, List.length_replicate, List.length_set, List.length_map, List.length_drop]); omega)) (fun v5 w5 e5 h5 => ?_)
      have z5 := e5.size
      obtain rfl := h5
      simp only [val_dig]
      refine O_assign rfl rfl rfl ?_
      refine WL_end [(5, _), (7, _), (9, _)] ⟨rfl, rfl, rfl, trivial⟩ ?_
      refine WP_seq ?_
      refine WP_seq ?_
      refine WP_region ?_
      refine O_move rfl rfl rfl ?_
      refine N_len T22 rfl rfl rfl ((((hq2 (by omega)).ext e3).ext e4).ext e5).nl ?_
      refine O_eql rfl rfl rfl rfl rfl ?_
      refine O_move rfl rfl rfl ?_
      refine WL_dec 36 rfl (fun g36 => ?_) (fun g36 => ?_)
      · --
        refine O_skip rfl rfl ?_
        refine O_skip rfl rfl ?_
        refine O_skip rfl rfl ?_
        refine O_pickT rfl rfl rfl rfl ?_
        refine WL_end [(5, _), (7, _), (9, _), (40, _)] ⟨rfl, rfl, rfl, rfl, trivial⟩ ?_
        refine WP_condT rfl ?_
        refine WP_seq ?_
        refine WP_region ?_
        refine O_move rfl rfl rfl ?_
        refine O_eql (t := true) rfl rfl rfl rfl (decide_eq_true (by rw [bl_mul_zero (by first | exact .inl (dig_len_zero.1 (by omega)) | exact .inr (dig_len_zero.1 (by omega)))]; rfl)) ?_
        refine O_assign rfl rfl rfl ?_
        refine WL_end [(4, _)] ⟨rfl, trivial⟩ ?_
        refine WP_ret ?_
        refine ret1 Try.results8 rfl ?_
        exact ⟨_, rfl, ((((e1.trans e2).trans e3).trans e4).trans e5), rfl⟩
      · --
        refine O_move rfl rfl rfl ?_
        refine N_len T22 rfl rfl rfl (((hq3 (by omega)).ext e4).ext e5).nl ?_
        refine O_eql rfl rfl rfl rfl rfl ?_
        refine O_pickF rfl rfl rfl rfl ?_
        refine WL_end [(5, _), (7, _), (9, _), (40, _)] ⟨rfl, rfl, rfl, rfl, trivial⟩ ?_
        refine WP_condD rfl (fun c40 => ?_) (fun c40 => ?_)
        · --
          refine WP_seq ?_
          refine WP_region ?_
          refine O_move rfl rfl rfl ?_
          refine O_eql (t := true) rfl rfl rfl rfl (decide_eq_true (by rw [bl_mul_zero (by first | exact .inl (dig_len_zero.1 (by omega)) | exact .inr (dig_len_zero.1 (by omega)))]; rfl)) ?_
          refine O_assign rfl rfl rfl ?_
          refine WL_end [(4, _)] ⟨rfl, trivial⟩ ?_
          refine WP_ret ?_
          refine ret1 Try.results8 rfl ?_
          exact ⟨_, rfl, ((((e1.trans e2).trans e3).trans e4).trans e5), rfl⟩
        · --
          refine WP_skip ?_
          refine WP_seq ?_
          refine WP_region ?_
          refine O_move rfl rfl rfl ?_
          refine O_call enters24 rfl rfl rfl (bits_c ((((hq2 (by omega)).ext e3).ext e4).ext e5).nl (by (try simp only [val_dig, List.length_take, List.length_nil, List.length_cons, List.length_append, List.length_replicate, List.length_set, List.length_map, List.length_drop]); omega)) (fun v6 w6 e6 h6 => ?_)
          have z6 := e6.size
          obtain rfl := h6
          simp only [val_dig]
          refine O_move rfl rfl rfl ?_
          refine O_call enters24 rfl rfl rfl (bits_c ((((hq3 (by omega)).ext e4).ext e5).ext e6).nl (by (try simp only [val_dig, List.length_take, List.length_nil, List.length_cons, List.length_append, List.length_replicate, List.length_set, List.length_map, List.length_drop]); omega)) (fun v7 w7 e7 h7 => ?_)
          have z7 := e7.size
          obtain rfl := h7
          simp only [val_dig]
          refine O_add rfl rfl rfl rfl (wrap_i64_id (by omega) (by omega)) ?_
          refine O_assign rfl rfl rfl ?_
          refine WL_end [(9, _), (10, _)] ⟨rfl, rfl, trivial⟩ ?_
          refine WP_seq ?_
          refine WP_region ?_
          refine O_move rfl rfl rfl ?_
          refine O_move rfl rfl rfl ?_
          refine O_eql rfl rfl rfl rfl rfl ?_
          refine O_move rfl rfl rfl ?_
          refine WL_dec 51 rfl (fun g51 => ?_) (fun g51 => ?_)
          · --
            refine O_skip rfl rfl ?_
            refine O_skip rfl rfl ?_
            refine O_skip rfl rfl ?_
            refine O_skip rfl rfl ?_
            refine O_pickT rfl rfl rfl rfl ?_
            refine O_assign rfl rfl rfl ?_
            refine WL_end [(4, _)] ⟨rfl, trivial⟩ ?_
            refine WP_ret ?_
            refine ret1 Try.results8 rfl ?_
            exact ⟨_, rfl, ((((((e1.trans e2).trans e3).trans e4).trans e5).trans e6).trans e7), rfl⟩
          · --
            refine O_move rfl rfl rfl ?_
            refine O_move rfl rfl rfl ?_
            refine O_sub rfl rfl rfl rfl (wrap_i64_id (by omega) (by omega)) ?_
            refine O_eql (t := true) rfl rfl rfl rfl (decide_eq_true (by have z1 : val la ≠ 0 := (fun h => absurd (dig_len_zero.2 h) (by omega)); have z2 : val lb ≠ 0 := (fun h => absurd (dig_len_zero.2 h) (by omega)); have := b0 z1 z2; omega)) ?_
            refine O_pickF rfl rfl rfl rfl ?_
            refine O_assign rfl rfl rfl ?_
            refine WL_end [(4, _)] ⟨rfl, trivial⟩ ?_
            refine WP_ret ?_
            refine ret1 Try.results8 rfl ?_
            exact ⟨_, rfl, ((((((e1.trans e2).trans e3).trans e4).trans e5).trans e6).trans e7), rfl⟩

theorem law_ProductSmall {w : World} {va vm : Value} {la lm : List Nat} {mi ci : Int} (ha : Nl w va la) (hm : Nl w vm lm) (hm0 : 0 ≤ mi ∧ mi < 4294967296) (hc0 : 0 ≤ ci ∧ ci < 4294967296) :
    Calls Try.prog 7 #[va, .int .u32 mi, .int .u32 ci, vm] w (Ret w fun r _ => r = .bool true) := by
  obtain ⟨m, rfl⟩ := Int.eq_ofNat_of_zero_le hm0.1
  obtain ⟨c, rfl⟩ := Int.eq_ofNat_of_zero_le hc0.1
  have hm1 : m < 4294967296 := by omega
  have hc1 : c < 4294967296 := by omega
  refine enter (args := [va, _, _, vm]) Try.func7 rfl Try.ntmps7 rfl ?_
  refine WP_seq ?_
  refine WP_region ?_
  refine O_assign rfl rfl rfl ?_
  refine WL_end [(0, _), (1, _), (2, _), (3, _)] ⟨rfl, rfl, rfl, rfl, trivial⟩ ?_
  refine WP_seq ?_
  refine WP_seq ?_
  refine WP_region ?_
  refine O_call enters9 rfl rfl rfl (awake_c) (fun v1 w1 e1 h1 => ?_)
  have z1 := e1.size
  obtain rfl := h1
  refine O_not rfl rfl rfl rfl ?_
  refine WL_end [(0, _), (1, _), (2, _), (3, _), (17, _)] ⟨rfl, rfl, rfl, rfl, rfl, trivial⟩ ?_
  refine WP_condF rfl ?_
  refine WP_skip ?_
  refine WP_seq ?_
  refine WP_region ?_
  refine O_move rfl rfl rfl ?_
  refine O_call enters10 rfl rfl rfl (mnat_any (ha.ext e1) (by (try simp only [val_dig, List.length_take, List.length_nil, List.length_cons, List.length_append, List.length_replicate, List.length_set, List.length_map, List.length_drop]); omega)) (fun v2 w2 e2 h2 => ?_)
  have z2 := e2.size
  obtain ⟨q2, rfl, hq2⟩ := h2
  refine O_move rfl rfl rfl ?_
  refine O_extract rfl rfl rfl rfl ?_
  refine O_extract rfl rfl rfl rfl ?_
  refine O_assign rfl rfl rfl ?_
  refine O_assign rfl rfl rfl ?_
  refine WL_end [(1, _), (2, _), (3, _), (9, _), (10, _)] ⟨rfl, rfl, rfl, rfl, rfl, trivial⟩ ?_
  refine WP_seq ?_
  refine WP_seq ?_
  refine WP_region ?_
  refine O_move rfl rfl rfl ?_
  refine O_not rfl rfl rfl (decide_not).symm ?_
  refine O_move rfl rfl rfl ?_
  refine WL_ndec 25 rfl (fun g25 => ?_) (fun g25 => ?_)
  · --
    refine O_skip rfl rfl ?_
    refine O_skip rfl rfl ?_
    refine O_skip rfl rfl ?_
    refine O_pickT rfl rfl rfl rfl ?_
    refine WL_end [(1, _), (2, _), (3, _), (9, _), (29, _)] ⟨rfl, rfl, rfl, rfl, rfl, trivial⟩ ?_
    refine WP_condT rfl ?_
    refine WP_seq ?_
    refine WP_region ?_
    refine O_assign rfl rfl rfl ?_
    refine WL_end [(8, _)] ⟨rfl, trivial⟩ ?_
    refine WP_ret ?_
    refine ret1 Try.results7 rfl ?_
    exact ⟨_, rfl, e1.trans e2, rfl⟩
  · --
    refine O_move rfl rfl rfl ?_
    refine N_len T22 rfl rfl rfl (hm.ext (e1.trans e2)) ?_
    refine O_gtr rfl rfl rfl rfl rfl ?_
    refine O_pickF rfl rfl rfl rfl ?_
    refine WL_end [(1, _), (2, _), (3, _), (9, _), (29, _)] ⟨rfl, rfl, rfl, rfl, rfl, trivial⟩ ?_
    refine WP_condD rfl (fun c29 => ?_) (fun c29 => ?_)
    · --
      refine WP_seq ?_
      refine WP_region ?_
      refine O_assign rfl rfl rfl ?_
      refine WL_end [(8, _)] ⟨rfl, trivial⟩ ?_
      refine WP_ret ?_
      refine ret1 Try.results7 rfl ?_
      exact ⟨_, rfl, e1.trans e2, rfl⟩
    · --
      refine WP_skip ?_
      refine WP_seq ?_
      refine WP_region ?_
      refine O_assign rfl rfl rfl ?_
      refine WL_end [(1, _), (2, _), (3, _), (9, _), (11, _)] ⟨rfl, rfl, rfl, rfl, rfl, trivial⟩ ?_
      refine WP_seq ?_
      refine WP_region ?_
      refine O_assign rfl rfl rfl ?_
      refine WL_end [(1, _), (2, _), (3, _), (9, _), (11, _), (12, _)] ⟨rfl, rfl, rfl, rfl, rfl, rfl, trivial⟩ ?_
      refine WP_seq ?_
      refine WP_seq ?_
      refine WP_region ?_
      have hm2 := hm.ext (e1.trans e2)
      have hx0 := hq2 (by omega)
      have dA := dig_len_le ha.d
      refine O_move rfl rfl rfl ?_
      refine N_len T22 rfl rfl rfl hm2 ?_
      refine O_move rfl rfl rfl ?_
      refine WL_end [(1, _), (2, _), (9, _), (11, _), (12, _), (30, _), (31, _), (32, _)] ⟨rfl, rfl, rfl, rfl, rfl, rfl, rfl, rfl, trivial⟩ ?_
      refine WP_block ?_
      refine WP_loop (S := Nat × Value × Value) (fun (k, terms, tot) => [(1, .int .u32 (m : Nat)), (2, .int .u32 (c : Nat)), (9, q2), (11, terms), (12, tot), (30, vm), (31, .int .i64 (lm.length : Nat)), (32, .int .i64 (k : Nat))]) (fun (k, terms, tot) w' => Ext w2 w' ∧ k ≤ lm.length ∧ (dig ((lm.take k).map (psf (val la))).sum).length ≤ 100 + k ∧ No w2.heap.size 29 w' tot (dig ((lm.take k).map (psf (val la))).sum) ∧ ∃ tv, Own w2.heap.size 22 w' terms tv ∧ tv.length = k ∧ ∀ i u, tv[i]? = some u → No w2.heap.size 29 w' u (dig (psf (val la) (lm.getD i 0)))) (fun (k, terms, tot) => lm.length - k) (0, .slice none 0 0, .slice none 0 0) ⟨rfl, rfl, rfl, rfl, rfl, rfl, rfl, rfl, trivial⟩ ⟨(Ext.refl _), by omega, by simp [dig_zero], by simpa [dig_zero] using No.nil _ _ _, [], Own.nil _ _ _, rfl, fun i u h => by simp at h⟩ ?_
      rintro ⟨k, terms, tot⟩ w3 ⟨hE, hk, hlen, ho, tv, hT, htv, hall⟩
      show WP _ _ _ _ _ [(1, .int .u32 (m : Nat)), (2, .int .u32 (c : Nat)), (9, q2), (11, terms), (12, tot), (30, vm), (31, .int .i64 (lm.length : Nat)), (32, .int .i64 (k : Nat))] _
      have hz := hE.size
      refine WP_seq ?_
      refine WP_region ?_
      refine O_lss rfl rfl rfl rfl rfl ?_
      refine WL_end [(1, _), (2, _), (9, _), (11, _), (12, _), (30, _), (31, _), (32, _), (33, _)] ⟨rfl, rfl, rfl, rfl, rfl, rfl, rfl, rfl, rfl, trivial⟩ ?_
      refine WP_seq ?_
      refine WP_condD rfl (fun c33 => ?_) (fun c33 => ?_)
      · --
        refine WP_skip ?_
        refine WP_seq ?_
        refine WP_block ?_
        refine WP_seq ?_
        refine WP_region ?_
        refine N_index T22 rfl rfl rfl rfl (hm2.ext hE) _ rfl (by omega) ?_
        refine N_load Try.underlying29 rfl rfl rfl (hm2.ext hE) (by omega) (fun d35 => ?_)
        refine O_assign rfl rfl rfl ?_
        refine WL_end [(1, _), (2, _), (9, _), (11, _), (12, _), (14, _), (30, _), (31, _), (32, _)] ⟨rfl, rfl, rfl, rfl, rfl, rfl, rfl, rfl, rfl, trivial⟩ ?_
        refine WP_seq ?_
        refine WP_region ?_
        refine O_move rfl rfl rfl ?_
        refine O_move rfl rfl rfl ?_
        refine O_move rfl rfl rfl ?_
        refine O_call enters21 rfl rfl rfl (rsmall_c (hx0.ext hE).nl (by omega) (by omega) (by omega)) (fun v3 w3 e3 h3 => ?_)
        have z3 := e3.size
        try simp only [val_dig] at h3
        have hU := h3
        rw [show val la * lm.getD k 0 + lm.getD k 0 = psf (val la) (lm.getD k 0) from rfl] at hU
        have hUl := psf_len (X := val la) (a := 90) (by omega) (show lm.getD k 0 < 4294967296 by omega)
        refine O_assign rfl rfl rfl ?_
        refine WL_end [(1, _), (2, _), (9, _), (11, _), (12, _), (15, _), (30, _), (31, _), (32, _)] ⟨rfl, rfl, rfl, rfl, rfl, rfl, rfl, rfl, rfl, trivial⟩ ?_
        refine WP_seq ?_
        refine WP_region ?_
        refine O_move rfl rfl rfl ?_
        refine O_move rfl rfl rfl ?_
        refine V_lit1 T36 rfl rfl rfl (Nl.cells1 h3.nl) (fun vt wt ot et => ?_)
        have zt := et.size
        have hU2 := hU.ext et
        refine V_append T36 rfl (by decide) rfl rfl rfl rfl ((hT.ext e3).ext et) ot.sl (by intro u hu; simp at hu; subst hu; exact hU2.nl.one) (by simp; omega) (by omega) (fun vn wn on rn => ?_)
        have zn := rn.size
        have hTn := (hT.ext e3).ext et
        have en : Ext w2 wn := grown_ext rn ((hE.trans e3).trans et) (fun k hk => Nat.le_trans (by omega) (hTn.row k hk))
        have hUn := hU2.grownOther (by decide) hTn rn
        have hon := ((ho.ext e3).ext et).grownOther (by decide) hTn rn
        have halln : ∀ i u, (tv ++ [v3])[i]? = some u → No w2.heap.size 29 wn u (dig (psf (val la) (lm.getD i 0))) := by
          intro i u hu
          rcases Nat.lt_or_ge i tv.length with hi | hi
          · rw [List.getElem?_append_left hi] at hu
            exact (((hall i u hu).ext e3).ext et).grownOther (by decide) hTn rn
          · rw [List.getElem?_append_right hi] at hu
            have hi2 : i = tv.length := by
              rcases Nat.lt_or_ge (i - tv.length) 1 with h | h
              · omega
              · rw [List.getElem?_eq_none (by simpa using h)] at hu; cases hu
            subst hi2
            simp at hu; subst hu
            rw [htv]
            exact hUn.mono (by omega)
        refine O_assign rfl rfl rfl ?_
        refine WL_end [(1, _), (2, _), (9, _), (11, _), (12, _), (15, _), (30, _), (31, _), (32, _)] ⟨rfl, rfl, rfl, rfl, rfl, rfl, rfl, rfl, rfl, trivial⟩ ?_
        refine WP_region ?_
        have hS := sum_step lm (psf (val la)) k (by omega)
        have hSl := dig_len_add ((lm.take k).map (psf (val la))).sum (psf (val la) (lm.getD k 0))
        refine O_move rfl rfl rfl ?_
        refine O_move rfl rfl rfl ?_
        refine O_call enters22 rfl rfl rfl (radd_c hon.nl hUn.nl (by (try simp only [val_dig, List.length_take, List.length_nil, List.length_cons, List.length_append, List.length_replicate, List.length_set, List.length_map, List.length_drop]); omega) (by (try simp only [val_dig, List.length_take, List.length_nil, List.length_cons, List.length_append, List.length_replicate, List.length_set, List.length_map, List.length_drop]); omega)) (fun v4 w4 e4 h4 => ?_)
        have z4 := e4.size
        try simp only [val_dig] at h4
        refine O_assign rfl rfl rfl ?_
        refine WL_end [(1, _), (2, _), (9, _), (11, _), (12, _), (30, _), (31, _), (32, _)] ⟨rfl, rfl, rfl, rfl, rfl, rfl, rfl, rfl, trivial⟩ ?_
        refine WP_region ?_
        refine O_add rfl rfl rfl rfl (wrap_i64_id (by omega) (by omega)) ?_
        refine O_move rfl rfl rfl ?_
        refine WL_end [(1, _), (2, _), (9, _), (11, _), (12, _), (30, _), (31, _), (32, _)] ⟨rfl, rfl, rfl, rfl, rfl, rfl, rfl, rfl, trivial⟩ ?_
        rw [← hS] at h4 hSl
        exact ⟨(k + 1, _, _), ⟨rfl, rfl, rfl, rfl, rfl, rfl, rfl, rfl, trivial⟩, ⟨(en.trans e4), by omega, by omega, h4.mono (by omega), _, on.ext e4, by simp [htv], fun i u hu => (halln i u hu).ext e4⟩, by dsimp only; omega⟩
      · --
        refine WP_exit ?_
        refine inBlk_hit ?_
        refine WP_seq ?_
        refine WP_region ?_
        have psm : (dig (val la * m + c)).length ≤ 200 := by
          have h1 := dig_len_mul (val la) m
          have h2 := dig_len_add (val la * m) c
          have h3 : (dig m).length ≤ 1 := dig_len_of_lt (by simpa using hm1)
          have h4 : (dig c).length ≤ 1 := dig_len_of_lt (by simpa using hc1)
          omega
        have hkl : (lm.take k).map (psf (val la)) = lm.map (psf (val la)) := by rw [List.take_of_length_le (by omega)]
        rw [hkl] at hlen ho
        refine O_move rfl rfl rfl ?_
        refine O_move rfl rfl rfl ?_
        refine O_move rfl rfl rfl ?_
        refine O_call enters23 rfl rfl rfl (small_c (hx0.ext hE).nl (by omega) (by omega) (by omega)) (fun v5 w5 e5 h5 => ?_)
        have z5 := e5.size
        try simp only [val_dig] at h5
        refine O_move rfl rfl rfl ?_
        refine O_move rfl rfl rfl ?_
        refine O_move rfl rfl rfl ?_
        refine O_call enters21 rfl rfl rfl (rsmall_c (hx0.ext (hE.trans e5)).nl (by omega) (by omega) (by omega)) (fun v6 w6 e6 h6 => ?_)
        have z6 := e6.size
        try simp only [val_dig] at h6
        refine O_call enters12 rfl rfl rfl (rsame_c (h5.ext e6).nl h6.nl (by (try simp only [val_dig, List.length_take, List.length_nil, List.length_cons, List.length_append, List.length_replicate, List.length_set, List.length_map, List.length_drop]); omega) (by (try simp only [val_dig, List.length_take, List.length_nil, List.length_cons, List.length_append, List.length_replicate, List.length_set, List.length_map, List.length_drop]); omega) rfl) (fun v7 w7 e7 h7 => ?_)
        have z7 := e7.size
        obtain rfl := h7
        refine O_move rfl rfl rfl ?_
        refine O_move rfl rfl rfl ?_
        refine O_call enters18 rfl rfl rfl (psum_c (ns := lm.map (psf (val la))) (Nls_of hT (by simp; omega) (fun i u h => by rw [getD_map (by have := (List.getElem?_eq_some_iff.1 h).1; omega)]; exact (hall i u h).nl) (((e5).trans e6).trans e7)) (by omega)) (fun v8 w8 e8 h8 => ?_)
        have z8 := e8.size
        try simp only [val_dig] at h8
        refine O_move rfl rfl rfl ?_
        refine O_call enters12 rfl rfl rfl (rsame_c h8.nl ((((ho.ext e5).ext e6).ext e7).ext e8).nl (by (try simp only [val_dig, List.length_take, List.length_nil, List.length_cons, List.length_append, List.length_replicate, List.length_set, List.length_map, List.length_drop]); omega) (by (try simp only [val_dig, List.length_take, List.length_nil, List.length_cons, List.length_append, List.length_replicate, List.length_set, List.length_map, List.length_drop]); omega) rfl) (fun v9 w9 e9 h9 => ?_)
        have z9 := e9.size
        obtain rfl := h9
        refine O_pickT rfl rfl rfl rfl ?_
        refine O_assign rfl rfl rfl ?_
        refine WL_end [(8, _)] ⟨rfl, trivial⟩ ?_
        refine WP_ret ?_
        refine ret1 Try.results7 rfl ?_
        exact ⟨_, rfl, (e1.trans e2).trans (((((hE.trans e5).trans e6).trans e7).trans e8).trans e9), rfl⟩

end Go.Proofs.Ytijnlfhaepcldaa
