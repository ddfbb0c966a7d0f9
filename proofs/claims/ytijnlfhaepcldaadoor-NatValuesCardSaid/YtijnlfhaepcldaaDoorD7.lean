/-
  Walks.
-/
import Derived.Test.YtijnlfhaepcldaaDoorD6
import Derived.Test.YtijnlfhaepcldaaDoorD5
set_option linter.unusedVariables false
set_option linter.unusedSimpArgs false
set_option maxRecDepth 100000
namespace Go.Proofs.YtijnlfhaepcldaaDoor
open Go Go.RowKit
theorem dig_len_64 {n : Nat} (h : n < 18446744073709551616) : (dig n).length ≤ 2 := dig_len_of_lt (show n < 4294967296 ^ 2 from h)
theorem law_NatValues {w : World} {va : Value} {la : List Nat} {ni : Int} (hT : Tab w) (ha : Nl w va la) (hn0 : 0 ≤ ni ∧ ni < 18446744073709551616) :
    Calls Tryd.prog 4 #[va, .int .u64 ni] w (Ret w fun r _ => r = .bool true) := by
  obtain ⟨n, rfl⟩ := Int.eq_ofNat_of_zero_le hn0.1
  have hn : n < 18446744073709551616 := by omega
  refine enter (args := [va, _]) Tryd.func4 rfl Tryd.ntmps4 rfl ?_
  refine WP_seq ?_
  refine WP_region ?_
  refine O_assign rfl rfl rfl ?_
  refine WL_end [(0, _), (1, _)] ⟨rfl, rfl, trivial⟩ ?_
  refine WP_seq ?_
  refine WP_seq ?_
  refine WP_region ?_
  refine O_call enters9 rfl rfl rfl (awake_c hT) (fun v1 w1 e1 h1 => ?_)
  have z1 := e1.size
  obtain rfl := h1
  refine O_not rfl rfl rfl rfl ?_
  refine WL_end [(0, _), (1, _), (13, _)] ⟨rfl, rfl, rfl, trivial⟩ ?_
  refine WP_condF rfl ?_
  refine WP_skip ?_
  refine WP_seq ?_
  refine WP_seq ?_
  refine WP_region ?_
  refine O_move rfl rfl rfl ?_
  refine N_len T22 rfl rfl rfl (ha.ext e1) ?_
  refine O_gtr rfl rfl rfl rfl rfl ?_
  refine WL_end [(0, _), (1, _), (16, _)] ⟨rfl, rfl, rfl, trivial⟩ ?_
  refine WP_condD rfl (fun c16 => ?_) (fun c16 => ?_)
  · --
    refine WP_seq ?_
    refine WP_region ?_
    refine O_assign rfl rfl rfl ?_
    refine WL_end [(4, _)] ⟨rfl, trivial⟩ ?_
    refine WP_ret ?_
    refine ret1 Tryd.results4 rfl ?_
    exact ⟨_, rfl, e1, rfl⟩
  · --
    refine WP_skip ?_
    refine WP_seq ?_
    refine WP_region ?_
    refine O_move rfl rfl rfl ?_
    have dA := dig_len_le ha.d
    refine O_call enters18 rfl rfl rfl (trim_c (ha.ext e1) (by (try simp only [val_dig, List.length_take, List.length_nil, List.length_cons, List.length_append, List.length_replicate, List.length_set, List.length_map, List.length_drop]); omega)) (fun v2 w2 e2 h2 => ?_)
    have z2 := e2.size
    try simp only [val_dig] at h2
    refine O_assign rfl rfl rfl ?_
    refine WL_end [(0, _), (1, _), (5, _)] ⟨rfl, rfl, rfl, trivial⟩ ?_
    refine WP_seq ?_
    refine WP_region ?_
    refine O_move rfl rfl rfl ?_
    refine O_call enters19 rfl rfl rfl (uint_c h2.nl _ (val_dig _)) (fun v3 w3 e3 h3 => ?_)
    have z3 := e3.size
    obtain rfl := h3
    refine O_move rfl rfl rfl ?_
    refine O_extract rfl rfl rfl rfl ?_
    refine O_extract rfl rfl rfl rfl ?_
    refine O_assign rfl rfl rfl ?_
    refine O_assign rfl rfl rfl ?_
    refine WL_end [(0, _), (1, _), (5, _), (6, _), (7, _)] ⟨rfl, rfl, rfl, rfl, rfl, trivial⟩ ?_
    refine WP_seq ?_
    refine WP_region ?_
    refine O_move rfl rfl rfl ?_
    refine O_call enters20 rfl rfl rfl (ruint_c (h2.ext e3).nl (validv_dig _) (by (try simp only [val_dig, List.length_take, List.length_nil, List.length_cons, List.length_append, List.length_replicate, List.length_set, List.length_map, List.length_drop]); omega) _ (val_dig _)) (fun v4 w4 e4 h4 => ?_)
    have z4 := e4.size
    obtain rfl := h4
    refine O_move rfl rfl rfl ?_
    refine O_extract rfl rfl rfl rfl ?_
    refine O_extract rfl rfl rfl rfl ?_
    refine O_assign rfl rfl rfl ?_
    refine O_assign rfl rfl rfl ?_
    refine WL_end [(0, _), (1, _), (5, _), (6, _), (7, _), (8, _), (9, _)] ⟨rfl, rfl, rfl, rfl, rfl, rfl, rfl, trivial⟩ ?_
    refine WP_seq ?_
    refine WP_region ?_
    refine O_move rfl rfl rfl ?_
    refine O_call enters21 rfl rfl rfl (of_c n hn) (fun v5 w5 e5 h5 => ?_)
    have z5 := e5.size
    try simp only [val_dig] at h5
    refine O_call enters19 rfl rfl rfl (uintT_c h5.nl _ (val_dig _) hn) (fun v6 w6 e6 h6 => ?_)
    have z6 := e6.size
    obtain rfl := h6
    refine O_move rfl rfl rfl ?_
    refine O_extract rfl rfl rfl rfl ?_
    refine O_extract rfl rfl rfl rfl ?_
    refine O_assign rfl rfl rfl ?_
    refine O_assign rfl rfl rfl ?_
    refine WL_end [(0, _), (1, _), (5, _), (6, _), (7, _), (8, _), (9, _), (10, _), (11, _)] ⟨rfl, rfl, rfl, rfl, rfl, rfl, rfl, rfl, rfl, trivial⟩ ?_
    refine WP_seq ?_
    refine WP_region ?_
    refine O_move rfl rfl rfl ?_
    refine O_call enters22 rfl rfl rfl (valid_c (ha.ext (((((e1.trans e2).trans e3).trans e4).trans e5).trans e6))) (fun v7 w7 e7 h7 => ?_)
    have z7 := e7.size
    obtain rfl := h7
    refine O_move rfl rfl rfl ?_
    refine O_call enters23 rfl rfl rfl (rvalid_c (ha.ext ((((((e1.trans e2).trans e3).trans e4).trans e5).trans e6).trans e7))) (fun v8 w8 e8 h8 => ?_)
    have z8 := e8.size
    obtain rfl := h8
    refine O_beql Tryd.underlying4 (t := true) rfl rfl rfl rfl (beq_self_eq_true _) ?_
    refine O_move rfl rfl rfl ?_
    refine O_move rfl rfl rfl ?_
    refine O_call enters22 rfl rfl rfl (validT_c ((((((h2.ext e3).ext e4).ext e5).ext e6).ext e7).ext e8).nl (validv_dig _)) (fun v9 w9 e9 h9 => ?_)
    have z9 := e9.size
    obtain rfl := h9
    refine O_pickT rfl rfl rfl rfl ?_
    refine O_move rfl rfl rfl ?_
    refine O_move rfl rfl rfl ?_
    refine O_move rfl rfl rfl ?_
    refine O_call enters25 rfl rfl rfl (rtrim_c (ha.ext ((((((((e1.trans e2).trans e3).trans e4).trans e5).trans e6).trans e7).trans e8).trans e9)) (by (try simp only [val_dig, List.length_take, List.length_nil, List.length_cons, List.length_append, List.length_replicate, List.length_set, List.length_map, List.length_drop]); omega)) (fun v10 w10 e10 h10 => ?_)
    have z10 := e10.size
    try simp only [val_dig] at h10
    refine O_call enters24 rfl rfl rfl (rsame_c ((((((((h2.ext e3).ext e4).ext e5).ext e6).ext e7).ext e8).ext e9).ext e10).nl h10.nl (by (try simp only [val_dig, List.length_take, List.length_nil, List.length_cons, List.length_append, List.length_replicate, List.length_set, List.length_map, List.length_drop]); omega) (by (try simp only [val_dig, List.length_take, List.length_nil, List.length_cons, List.length_append, List.length_replicate, List.length_set, List.length_map, List.length_drop]); omega) rfl) (fun v11 w11 e11 h11 => ?_)
    have z11 := e11.size
    obtain rfl := h11
    refine O_pickT rfl rfl rfl rfl ?_
    refine O_move rfl rfl rfl ?_
    refine O_move rfl rfl rfl ?_
    refine O_move rfl rfl rfl ?_
    refine O_eql (t := true) rfl rfl rfl rfl (decide_eq_true rfl) ?_
    refine O_pickT rfl rfl rfl rfl ?_
    refine O_move rfl rfl rfl ?_
    refine O_move rfl rfl rfl ?_
    refine O_move rfl rfl rfl ?_
    refine O_beql Tryd.underlying4 (t := true) rfl rfl rfl rfl (beq_self_eq_true _) ?_
    refine O_pickT rfl rfl rfl rfl ?_
    refine O_move rfl rfl rfl ?_
    refine O_move rfl rfl rfl ?_
    refine O_call enters21 rfl rfl rfl (of_c n hn) (fun v12 w12 e12 h12 => ?_)
    have z12 := e12.size
    try simp only [val_dig] at h12
    refine O_move rfl rfl rfl ?_
    refine O_call enters26 rfl rfl rfl (rof_c n hn) (fun v13 w13 e13 h13 => ?_)
    have z13 := e13.size
    try simp only [val_dig] at h13
    refine O_call enters24 rfl rfl rfl (rsame_c (h12.ext e13).nl h13.nl (by have := dig_len_64 hn; omega) (by have := dig_len_64 hn; omega) rfl) (fun v14 w14 e14 h14 => ?_)
    have z14 := e14.size
    obtain rfl := h14
    refine O_pickT rfl rfl rfl rfl ?_
    refine O_move rfl rfl rfl ?_
    refine O_move rfl rfl rfl ?_
    refine O_move rfl rfl rfl ?_
    refine O_eql (t := true) rfl rfl rfl rfl (decide_eq_true rfl) ?_
    refine O_pickT rfl rfl rfl rfl ?_
    refine O_move rfl rfl rfl ?_
    refine O_move rfl rfl rfl ?_
    refine O_pickT rfl rfl rfl rfl ?_
    refine O_assign rfl rfl rfl ?_
    refine WL_end [(4, _)] ⟨rfl, trivial⟩ ?_
    refine WP_ret ?_
    refine ret1 Tryd.results4 rfl ?_
    exact ⟨_, rfl, (((((((((((((e1.trans e2).trans e3).trans e4).trans e5).trans e6).trans e7).trans e8).trans e9).trans e10).trans e11).trans e12).trans e13).trans e14), rfl⟩

end Go.Proofs.YtijnlfhaepcldaaDoor
