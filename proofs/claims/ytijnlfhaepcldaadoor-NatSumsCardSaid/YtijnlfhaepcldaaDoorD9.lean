/-
  Walks.
-/
import Derived.Test.YtijnlfhaepcldaaDoorD8
import Derived.Test.YtijnlfhaepcldaaDoorD5
set_option linter.unusedVariables false
set_option linter.unusedSimpArgs false
set_option maxRecDepth 100000
namespace Go.Proofs.YtijnlfhaepcldaaDoor
open Go Go.RowKit
theorem law_NatSums {w : World} {va vb vc : Value} {la lb lc : List Nat} (hT : Tab w) (ha : Nl w va la) (hb : Nl w vb lb) (hc : Nl w vc lc) :
    Calls Tryd.prog 6 #[va, vb, vc] w (Ret w fun r _ => r = .bool true) := by
  refine enter (args := [va, vb, vc]) Tryd.func6 rfl Tryd.ntmps6 rfl ?_
  refine WP_seq ?_
  refine WP_region ?_
  refine O_assign rfl rfl rfl ?_
  refine WL_end [(0, _), (1, _), (2, _)] ⟨rfl, rfl, rfl, trivial⟩ ?_
  refine WP_seq ?_
  refine WP_seq ?_
  refine WP_region ?_
  refine O_call enters9 rfl rfl rfl (awake_c hT) (fun v1 w1 e1 h1 => ?_)
  have z1 := e1.size
  obtain rfl := h1
  refine O_not rfl rfl rfl rfl ?_
  refine WL_end [(0, _), (1, _), (2, _), (21, _)] ⟨rfl, rfl, rfl, rfl, trivial⟩ ?_
  refine WP_condF rfl ?_
  refine WP_skip ?_
  refine WP_seq ?_
  refine WP_region ?_
  refine O_move rfl rfl rfl ?_
  refine O_call enters10 rfl rfl rfl (mnat_any (ha.ext e1) (by (try simp only [val_dig, List.length_take, List.length_nil, List.length_cons, List.length_append, List.length_replicate, List.length_set, List.length_map, List.length_drop]); omega)) (fun v2 w2 e2 h2 => ?_)
  have z2 := e2.size
  obtain ⟨q2, rfl, hq2⟩ := h2
  refine O_move rfl rfl rfl ?_
  refine O_extract rfl rfl rfl rfl ?_
  refine O_extract rfl rfl rfl rfl ?_
  refine O_assign rfl rfl rfl ?_
  refine O_assign rfl rfl rfl ?_
  refine WL_end [(1, _), (2, _), (7, _), (8, _)] ⟨rfl, rfl, rfl, rfl, trivial⟩ ?_
  refine WP_seq ?_
  refine WP_region ?_
  refine O_move rfl rfl rfl ?_
  refine O_call enters10 rfl rfl rfl (mnat_any (hb.ext (e1.trans e2)) (by (try simp only [val_dig, List.length_take, List.length_nil, List.length_cons, List.length_append, List.length_replicate, List.length_set, List.length_map, List.length_drop]); omega)) (fun v3 w3 e3 h3 => ?_)
  have z3 := e3.size
  obtain ⟨q3, rfl, hq3⟩ := h3
  refine O_move rfl rfl rfl ?_
  refine O_extract rfl rfl rfl rfl ?_
  refine O_extract rfl rfl rfl rfl ?_
  refine O_assign rfl rfl rfl ?_
  refine O_assign rfl rfl rfl ?_
  refine WL_end [(2, _), (7, _), (8, _), (9, _), (10, _)] ⟨rfl, rfl, rfl, rfl, rfl, trivial⟩ ?_
  refine WP_seq ?_
  refine WP_region ?_
  refine O_move rfl rfl rfl ?_
  refine O_call enters10 rfl rfl rfl (mnat_any (hc.ext ((e1.trans e2).trans e3)) (by (try simp only [val_dig, List.length_take, List.length_nil, List.length_cons, List.length_append, List.length_replicate, List.length_set, List.length_map, List.length_drop]); omega)) (fun v4 w4 e4 h4 => ?_)
  have z4 := e4.size
  obtain ⟨q4, rfl, hq4⟩ := h4
  refine O_move rfl rfl rfl ?_
  refine O_extract rfl rfl rfl rfl ?_
  refine O_extract rfl rfl rfl rfl ?_
  refine O_assign rfl rfl rfl ?_
  refine O_assign rfl rfl rfl ?_
  refine WL_end [(7, _), (8, _), (9, _), (10, _), (11, _), (12, _)] ⟨rfl, rfl, rfl, rfl, rfl, rfl, trivial⟩ ?_
  refine WP_seq ?_
  refine WP_seq ?_
  refine WP_region ?_
  refine O_move rfl rfl rfl ?_
  refine O_not rfl rfl rfl (decide_not).symm ?_
  refine O_move rfl rfl rfl ?_
  refine WL_ndec 39 rfl (fun g39 => ?_) (fun g39 => ?_)
  · --
    refine O_skip rfl rfl ?_
    refine O_skip rfl rfl ?_
    refine O_pickT rfl rfl rfl rfl ?_
    refine O_move rfl rfl rfl ?_
    refine O_skip rfl rfl ?_
    refine O_skip rfl rfl ?_
    refine O_pickT rfl rfl rfl rfl ?_
    refine WL_end [(7, _), (9, _), (11, _), (46, _)] ⟨rfl, rfl, rfl, rfl, trivial⟩ ?_
    refine WP_condT rfl ?_
    refine WP_seq ?_
    refine WP_region ?_
    refine O_assign rfl rfl rfl ?_
    refine WL_end [(6, _)] ⟨rfl, trivial⟩ ?_
    refine WP_ret ?_
    refine ret1 Tryd.results6 rfl ?_
    exact ⟨_, rfl, (((e1.trans e2).trans e3).trans e4), rfl⟩
  · --
    refine O_move rfl rfl rfl ?_
    refine O_not rfl rfl rfl (decide_not).symm ?_
    refine O_pickF rfl rfl rfl rfl ?_
    refine O_move rfl rfl rfl ?_
    refine WL_ndec 43 rfl (fun g43 => ?_) (fun g43 => ?_)
    · --
      refine O_skip rfl rfl ?_
      refine O_skip rfl rfl ?_
      refine O_pickT rfl rfl rfl rfl ?_
      refine WL_end [(7, _), (9, _), (11, _), (46, _)] ⟨rfl, rfl, rfl, rfl, trivial⟩ ?_
      refine WP_condT rfl ?_
      refine WP_seq ?_
      refine WP_region ?_
      refine O_assign rfl rfl rfl ?_
      refine WL_end [(6, _)] ⟨rfl, trivial⟩ ?_
      refine WP_ret ?_
      refine ret1 Tryd.results6 rfl ?_
      exact ⟨_, rfl, (((e1.trans e2).trans e3).trans e4), rfl⟩
    · --
      refine O_move rfl rfl rfl ?_
      refine O_not rfl rfl rfl (decide_not).symm ?_
      refine O_pickF rfl rfl rfl rfl ?_
      refine WL_end [(7, _), (9, _), (11, _), (46, _)] ⟨rfl, rfl, rfl, rfl, trivial⟩ ?_
      refine WP_condN rfl (fun c46 => ?_) (fun c46 => ?_)
      · --
        refine WP_seq ?_
        refine WP_region ?_
        refine O_assign rfl rfl rfl ?_
        refine WL_end [(6, _)] ⟨rfl, trivial⟩ ?_
        refine WP_ret ?_
        refine ret1 Tryd.results6 rfl ?_
        exact ⟨_, rfl, (((e1.trans e2).trans e3).trans e4), rfl⟩
      · --
        refine WP_skip ?_
        refine WP_seq ?_
        refine WP_region ?_
        refine O_move rfl rfl rfl ?_
        refine O_move rfl rfl rfl ?_
        have dA := dig_len_le ha.d
        have dB := dig_len_le hb.d
        have dC := dig_len_le hc.d
        have d1 := dig_len_add (val la) (val lb)
        have d2 := dig_len_add ((val la) + (val lb)) (val lc)
        have d3 := dig_len_add (val lb) (val lc)
        have d4 := dig_len_add (val la) ((val lb) + (val lc))
        have d5 := dig_len_mono (Nat.sub_le (val la) (val lb))
        have d6 := dig_len_mono (Nat.sub_le ((val la) + (val lb)) (val lb))
        refine O_call enters29 rfl rfl rfl (add_c (((hq2 (by omega)).ext e3).ext e4).nl ((hq3 (by omega)).ext e4).nl (by (try simp only [val_dig, List.length_take, List.length_nil, List.length_cons, List.length_append, List.length_replicate, List.length_set, List.length_map, List.length_drop]); omega) (by (try simp only [val_dig, List.length_take, List.length_nil, List.length_cons, List.length_append, List.length_replicate, List.length_set, List.length_map, List.length_drop]); omega)) (fun v5 w5 e5 h5 => ?_)
        have z5 := e5.size
        try simp only [val_dig] at h5
        refine O_assign rfl rfl rfl ?_
        refine WL_end [(7, _), (9, _), (11, _), (13, _)] ⟨rfl, rfl, rfl, rfl, trivial⟩ ?_
        refine WP_seq ?_
        refine WP_region ?_
        refine O_move rfl rfl rfl ?_
        refine O_move rfl rfl rfl ?_
        refine O_call enters30 rfl rfl rfl (sub_c ((((hq2 (by omega)).ext e3).ext e4).ext e5).nl (((hq3 (by omega)).ext e4).ext e5).nl (by (try simp only [val_dig, List.length_take, List.length_nil, List.length_cons, List.length_append, List.length_replicate, List.length_set, List.length_map, List.length_drop]); omega)) (fun v6 w6 e6 h6 => ?_)
        have z6 := e6.size
        obtain ⟨q6, rfl, hq6⟩ := h6
        try simp only [val_dig] at hq6 ⊢
        refine O_move rfl rfl rfl ?_
        refine O_extract rfl rfl rfl rfl ?_
        refine O_extract rfl rfl rfl rfl ?_
        refine O_assign rfl rfl rfl ?_
        refine O_assign rfl rfl rfl ?_
        refine WL_end [(7, _), (9, _), (11, _), (13, _), (14, _), (15, _)] ⟨rfl, rfl, rfl, rfl, rfl, rfl, trivial⟩ ?_
        refine WP_seq ?_
        refine WP_region ?_
        refine O_move rfl rfl rfl ?_
        refine O_move rfl rfl rfl ?_
        refine O_call enters31 rfl rfl rfl (rsub_c (((((hq2 (by omega)).ext e3).ext e4).ext e5).ext e6).nl ((((hq3 (by omega)).ext e4).ext e5).ext e6).nl (by (try simp only [val_dig, List.length_take, List.length_nil, List.length_cons, List.length_append, List.length_replicate, List.length_set, List.length_map, List.length_drop]); omega) (by (try simp only [val_dig, List.length_take, List.length_nil, List.length_cons, List.length_append, List.length_replicate, List.length_set, List.length_map, List.length_drop]); omega)) (fun v7 w7 e7 h7 => ?_)
        have z7 := e7.size
        obtain ⟨q7, rfl, hq7⟩ := h7
        try simp only [val_dig] at hq7 ⊢
        refine O_move rfl rfl rfl ?_
        refine O_extract rfl rfl rfl rfl ?_
        refine O_extract rfl rfl rfl rfl ?_
        refine O_assign rfl rfl rfl ?_
        refine O_assign rfl rfl rfl ?_
        refine WL_end [(7, _), (9, _), (11, _), (13, _), (14, _), (15, _), (16, _), (17, _)] ⟨rfl, rfl, rfl, rfl, rfl, rfl, rfl, rfl, trivial⟩ ?_
        refine WP_seq ?_
        refine WP_region ?_
        refine O_move rfl rfl rfl ?_
        refine O_move rfl rfl rfl ?_
        refine O_call enters30 rfl rfl rfl (subT_c ((h5.ext e6).ext e7).nl (((((hq3 (by omega)).ext e4).ext e5).ext e6).ext e7).nl (by (try simp only [val_dig, List.length_take, List.length_nil, List.length_cons, List.length_append, List.length_replicate, List.length_set, List.length_map, List.length_drop]); omega) (by simp only [val_dig]; omega)) (fun v8 w8 e8 h8 => ?_)
        have z8 := e8.size
        obtain ⟨q8, rfl, hq8⟩ := h8
        try simp only [val_dig] at hq8 ⊢
        refine O_move rfl rfl rfl ?_
        refine O_extract rfl rfl rfl rfl ?_
        refine O_extract rfl rfl rfl rfl ?_
        refine O_assign rfl rfl rfl ?_
        refine O_assign rfl rfl rfl ?_
        refine WL_end [(7, _), (9, _), (11, _), (13, _), (14, _), (15, _), (16, _), (17, _), (18, _), (19, _)] ⟨rfl, rfl, rfl, rfl, rfl, rfl, rfl, rfl, rfl, rfl, trivial⟩ ?_
        refine WP_seq ?_
        refine WP_region ?_
        refine O_move rfl rfl rfl ?_
        refine O_move rfl rfl rfl ?_
        refine O_move rfl rfl rfl ?_
        refine O_call enters32 rfl rfl rfl (radd_c (((((((hq2 (by omega)).ext e3).ext e4).ext e5).ext e6).ext e7).ext e8).nl ((((((hq3 (by omega)).ext e4).ext e5).ext e6).ext e7).ext e8).nl (by (try simp only [val_dig, List.length_take, List.length_nil, List.length_cons, List.length_append, List.length_replicate, List.length_set, List.length_map, List.length_drop]); omega) (by (try simp only [val_dig, List.length_take, List.length_nil, List.length_cons, List.length_append, List.length_replicate, List.length_set, List.length_map, List.length_drop]); omega)) (fun v9 w9 e9 h9 => ?_)
        have z9 := e9.size
        try simp only [val_dig] at h9
        refine O_call enters24 rfl rfl rfl (rsame_c ((((h5.ext e6).ext e7).ext e8).ext e9).nl h9.nl (by (try simp only [val_dig, List.length_take, List.length_nil, List.length_cons, List.length_append, List.length_replicate, List.length_set, List.length_map, List.length_drop]); omega) (by (try simp only [val_dig, List.length_take, List.length_nil, List.length_cons, List.length_append, List.length_replicate, List.length_set, List.length_map, List.length_drop]); omega) rfl) (fun v10 w10 e10 h10 => ?_)
        have z10 := e10.size
        obtain rfl := h10
        refine O_move rfl rfl rfl ?_
        refine O_move rfl rfl rfl ?_
        refine O_move rfl rfl rfl ?_
        refine O_call enters24 rfl rfl rfl (rsame_c ((((hq6.ext e7).ext e8).ext e9).ext e10).nl (((hq7.ext e8).ext e9).ext e10).nl (by (try simp only [val_dig, List.length_take, List.length_nil, List.length_cons, List.length_append, List.length_replicate, List.length_set, List.length_map, List.length_drop]); omega) (by (try simp only [val_dig, List.length_take, List.length_nil, List.length_cons, List.length_append, List.length_replicate, List.length_set, List.length_map, List.length_drop]); omega) rfl) (fun v11 w11 e11 h11 => ?_)
        have z11 := e11.size
        obtain rfl := h11
        refine O_pickT rfl rfl rfl rfl ?_
        refine O_move rfl rfl rfl ?_
        refine O_move rfl rfl rfl ?_
        refine O_move rfl rfl rfl ?_
        refine O_beql Tryd.underlying4 (t := true) rfl rfl rfl rfl (beq_self_eq_true _) ?_
        refine O_pickT rfl rfl rfl rfl ?_
        refine O_move rfl rfl rfl ?_
        refine O_move rfl rfl rfl ?_
        refine O_move rfl rfl rfl ?_
        refine O_call enters24 rfl rfl rfl (rsame_c (((hq8.ext e9).ext e10).ext e11).nl ((((((((((hq2 (by omega)).ext e3).ext e4).ext e5).ext e6).ext e7).ext e8).ext e9).ext e10).ext e11).nl (by (try simp only [val_dig, List.length_take, List.length_nil, List.length_cons, List.length_append, List.length_replicate, List.length_set, List.length_map, List.length_drop]); omega) (by (try simp only [val_dig, List.length_take, List.length_nil, List.length_cons, List.length_append, List.length_replicate, List.length_set, List.length_map, List.length_drop]); omega) (by rw [Nat.add_sub_cancel])) (fun v12 w12 e12 h12 => ?_)
        have z12 := e12.size
        obtain rfl := h12
        refine O_pickT rfl rfl rfl rfl ?_
        refine O_move rfl rfl rfl ?_
        refine O_move rfl rfl rfl ?_
        refine O_pickT rfl rfl rfl rfl ?_
        refine O_move rfl rfl rfl ?_
        refine O_move rfl rfl rfl ?_
        refine O_move rfl rfl rfl ?_
        refine O_call enters29 rfl rfl rfl (add_c (((((((((((hq2 (by omega)).ext e3).ext e4).ext e5).ext e6).ext e7).ext e8).ext e9).ext e10).ext e11).ext e12).nl ((((((((((hq3 (by omega)).ext e4).ext e5).ext e6).ext e7).ext e8).ext e9).ext e10).ext e11).ext e12).nl (by (try simp only [val_dig, List.length_take, List.length_nil, List.length_cons, List.length_append, List.length_replicate, List.length_set, List.length_map, List.length_drop]); omega) (by (try simp only [val_dig, List.length_take, List.length_nil, List.length_cons, List.length_append, List.length_replicate, List.length_set, List.length_map, List.length_drop]); omega)) (fun v13 w13 e13 h13 => ?_)
        have z13 := e13.size
        try simp only [val_dig] at h13
        refine O_move rfl rfl rfl ?_
        refine O_call enters29 rfl rfl rfl (add_c h13.nl ((((((((((hq4 (by omega)).ext e5).ext e6).ext e7).ext e8).ext e9).ext e10).ext e11).ext e12).ext e13).nl (by (try simp only [val_dig, List.length_take, List.length_nil, List.length_cons, List.length_append, List.length_replicate, List.length_set, List.length_map, List.length_drop]); omega) (by (try simp only [val_dig, List.length_take, List.length_nil, List.length_cons, List.length_append, List.length_replicate, List.length_set, List.length_map, List.length_drop]); omega)) (fun v14 w14 e14 h14 => ?_)
        have z14 := e14.size
        try simp only [val_dig] at h14
        refine O_move rfl rfl rfl ?_
        refine O_move rfl rfl rfl ?_
        refine O_move rfl rfl rfl ?_
        refine O_call enters29 rfl rfl rfl (add_c ((((((((((((hq3 (by omega)).ext e4).ext e5).ext e6).ext e7).ext e8).ext e9).ext e10).ext e11).ext e12).ext e13).ext e14).nl (((((((((((hq4 (by omega)).ext e5).ext e6).ext e7).ext e8).ext e9).ext e10).ext e11).ext e12).ext e13).ext e14).nl (by (try simp only [val_dig, List.length_take, List.length_nil, List.length_cons, List.length_append, List.length_replicate, List.length_set, List.length_map, List.length_drop]); omega) (by (try simp only [val_dig, List.length_take, List.length_nil, List.length_cons, List.length_append, List.length_replicate, List.length_set, List.length_map, List.length_drop]); omega)) (fun v15 w15 e15 h15 => ?_)
        have z15 := e15.size
        try simp only [val_dig] at h15
        refine O_call enters29 rfl rfl rfl (add_c ((((((((((((((hq2 (by omega)).ext e3).ext e4).ext e5).ext e6).ext e7).ext e8).ext e9).ext e10).ext e11).ext e12).ext e13).ext e14).ext e15).nl h15.nl (by (try simp only [val_dig, List.length_take, List.length_nil, List.length_cons, List.length_append, List.length_replicate, List.length_set, List.length_map, List.length_drop]); omega) (by (try simp only [val_dig, List.length_take, List.length_nil, List.length_cons, List.length_append, List.length_replicate, List.length_set, List.length_map, List.length_drop]); omega)) (fun v16 w16 e16 h16 => ?_)
        have z16 := e16.size
        try simp only [val_dig] at h16
        refine O_call enters24 rfl rfl rfl (rsame_c ((h14.ext e15).ext e16).nl h16.nl (by (try simp only [val_dig, List.length_take, List.length_nil, List.length_cons, List.length_append, List.length_replicate, List.length_set, List.length_map, List.length_drop]); omega) (by (try simp only [val_dig, List.length_take, List.length_nil, List.length_cons, List.length_append, List.length_replicate, List.length_set, List.length_map, List.length_drop]); omega) (by rw [Nat.add_assoc])) (fun v17 w17 e17 h17 => ?_)
        have z17 := e17.size
        obtain rfl := h17
        refine O_pickT rfl rfl rfl rfl ?_
        refine O_assign rfl rfl rfl ?_
        refine WL_end [(6, _)] ⟨rfl, trivial⟩ ?_
        refine WP_ret ?_
        refine ret1 Tryd.results6 rfl ?_
        exact ⟨_, rfl, ((((((((((((((((e1.trans e2).trans e3).trans e4).trans e5).trans e6).trans e7).trans e8).trans e9).trans e10).trans e11).trans e12).trans e13).trans e14).trans e15).trans e16).trans e17), rfl⟩

end Go.Proofs.YtijnlfhaepcldaaDoor
