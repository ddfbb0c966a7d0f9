/-
  Walks.
-/
import Derived.Test.YtijnlfhaepcldaaDoorD14
import Derived.Test.YtijnlfhaepcldaaDoorD11
set_option linter.unusedVariables false
set_option linter.unusedSimpArgs false
set_option maxRecDepth 100000
namespace Go.Proofs.YtijnlfhaepcldaaDoor
open Go Go.RowKit
theorem dig_len_two (k : Nat) : (dig (2 ^ k)).length ≤ k / 32 + 1 := by
  apply dig_len_of_lt
  rw [B_two]
  exact Nat.pow_lt_pow_right (by decide) (by omega)
theorem bl_mod (A k : Nat) : bl (A % 2 ^ k) ≤ k := bl_le (Nat.mod_lt _ (Nat.pow_pos (by decide)))
theorem mul_div_two (A k : Nat) : A * 2 ^ k / 2 ^ k = A := Nat.mul_div_cancel _ (Nat.pow_pos (by decide))
theorem div_mul_mod (A k : Nat) : A / 2 ^ k * 2 ^ k + A % 2 ^ k = A := by rw [Nat.mul_comm]; exact Nat.div_add_mod A (2 ^ k)
theorem law_NatShifts {w : World} {va : Value} {la : List Nat} {n : Int} (hT : Tab w) (ha : Nl w va la) :
    Calls Tryd.prog 7 #[va, .int .i64 n] w (Ret w fun r _ => r = .bool true) := by
  refine enter (args := [va, _]) Tryd.func7 rfl Tryd.ntmps7 rfl ?_
  refine WP_seq ?_
  refine WP_region ?_
  refine O_assign rfl rfl rfl ?_
  refine WL_end [(0, _), (1, _)] ⟨rfl, rfl, trivial⟩ ?_
  refine WP_seq ?_
  refine WP_seq ?_
  refine WP_region ?_
  refine O_call enters9 rfl rfl rfl (awake_c hT) (fun v1 w1 e1 h1 => ?_)
  have z1 := e1.size
  obtain rfl := h1
  refine O_not rfl rfl rfl rfl ?_
  refine WL_end [(0, _), (1, _), (13, _)] ⟨rfl, rfl, rfl, trivial⟩ ?_
  refine WP_condF rfl ?_
  refine WP_skip ?_
  refine WP_seq ?_
  refine WP_region ?_
  refine O_move rfl rfl rfl ?_
  refine O_call enters10 rfl rfl rfl (mnat_any (ha.ext e1) (by (try simp only [val_dig, List.length_take, List.length_nil, List.length_cons, List.length_append, List.length_replicate, List.length_set, List.length_map, List.length_drop]); omega)) (fun v2 w2 e2 h2 => ?_)
  have z2 := e2.size
  obtain ⟨q2, rfl, hq2⟩ := h2
  refine O_move rfl rfl rfl ?_
  refine O_extract rfl rfl rfl rfl ?_
  refine O_extract rfl rfl rfl rfl ?_
  refine O_assign rfl rfl rfl ?_
  refine O_assign rfl rfl rfl ?_
  refine WL_end [(1, _), (5, _), (6, _)] ⟨rfl, rfl, rfl, trivial⟩ ?_
  refine WP_seq ?_
  refine WP_seq ?_
  refine WP_region ?_
  refine O_move rfl rfl rfl ?_
  refine O_not rfl rfl rfl (decide_not).symm ?_
  refine WL_end [(1, _), (5, _), (20, _)] ⟨rfl, rfl, rfl, trivial⟩ ?_
  refine WP_condN rfl (fun c20 => ?_) (fun c20 => ?_)
  · --
    refine WP_seq ?_
    refine WP_region ?_
    refine O_assign rfl rfl rfl ?_
    refine WL_end [(4, _)] ⟨rfl, trivial⟩ ?_
    refine WP_ret ?_
    refine ret1 Tryd.results7 rfl ?_
    exact ⟨_, rfl, (e1.trans e2), rfl⟩
  · --
    refine WP_skip ?_
    refine WP_seq ?_
    refine WP_seq ?_
    refine WP_region ?_
    refine O_move rfl rfl rfl ?_
    have dA := dig_len_le ha.d
    refine O_call enters12 rfl rfl rfl (mod_c (by (try simp only [val_dig, List.length_take, List.length_nil, List.length_cons, List.length_append, List.length_replicate, List.length_set, List.length_map, List.length_drop]); omega) (by (try simp only [val_dig, List.length_take, List.length_nil, List.length_cons, List.length_append, List.length_replicate, List.length_set, List.length_map, List.length_drop]); omega)) (fun v3 w3 e3 h3 => ?_)
    have z3 := e3.size
    obtain rfl := h3
    refine O_move rfl rfl rfl ?_
    refine O_call enters12 rfl rfl rfl (mod_c (by (try simp only [val_dig, List.length_take, List.length_nil, List.length_cons, List.length_append, List.length_replicate, List.length_set, List.length_map, List.length_drop]); omega) (by (try simp only [val_dig, List.length_take, List.length_nil, List.length_cons, List.length_append, List.length_replicate, List.length_set, List.length_map, List.length_drop]); omega)) (fun v4 w4 e4 h4 => ?_)
    have z4 := e4.size
    obtain rfl := h4
    refine V_lit TDint rfl rfl [Value.int .i64 (n % 3000), Value.int .i64 (n % 70)] (by intro u hu; simp only [List.mem_cons, List.mem_nil_iff, or_false] at hu; rcases hu with rfl | rfl <;> rfl) rfl (by decide) (by decide) rfl rfl (fun vt wt ot et => ?_)
    have zt := et.size
    refine V_len TDint rfl rfl rfl ot.sl ?_
    refine O_move rfl rfl rfl ?_
    refine WL_end [(5, _), (25, _), (26, _), (27, _)] ⟨rfl, rfl, rfl, rfl, trivial⟩ ?_
    refine WP_block ?_
    have hX := ((((hq2 (by omega)).ext e3).ext e4).ext et)
    have hall : ∀ (k : Nat) (u : Value), [Value.int .i64 (n % 3000), Value.int .i64 (n % 70)][k]? = some u → ∃ z : Nat, u = .int .i64 (z : Nat) ∧ z ≤ 3000 := by
      intro k u hu
      match k with
      | 0 => simp at hu; subst hu; exact ⟨(n % 3000).toNat, by congr 1; omega, by omega⟩
      | 1 => simp at hu; subst hu; exact ⟨(n % 70).toNat, by congr 1; omega, by omega⟩
      | k + 2 => simp at hu
    refine WP_loop (S := Nat) (fun j => [(5, q2), (25, vt), (26, .int .i64 (2 : Nat)), (27, .int .i64 (j : Nat))]) (fun j w' => Ext wt w' ∧ j ≤ 2) (fun j => 2 - j) 0 ⟨rfl, rfl, rfl, rfl, trivial⟩ ⟨Ext.refl _, by omega⟩ ?_
    rintro j w9 ⟨hE, hj⟩
    refine WP_seq ?_
    refine WP_region ?_
    refine O_lss rfl rfl rfl rfl rfl ?_
    refine WL_end [(5, _), (25, _), (26, _), (27, _), (28, _)] ⟨rfl, rfl, rfl, rfl, rfl, trivial⟩ ?_
    refine WP_seq ?_
    refine WP_condD rfl (fun c28 => ?_) (fun c28 => ?_)
    · --
      refine WP_skip ?_
      refine WP_seq ?_
      refine WP_block ?_
      refine WP_seq ?_
      refine WP_region ?_
      refine V_index TDint rfl rfl rfl rfl (ot.sl.ext hE) _ rfl (by simp only [List.length_cons, List.length_nil]; omega) ?_
      obtain ⟨u, hu⟩ : ∃ u, [Value.int .i64 (n % 3000), Value.int .i64 (n % 70)][j]? = some u := ⟨_, List.getElem?_eq_getElem (by simp only [List.length_cons, List.length_nil]; omega)⟩
      obtain ⟨k, rfl, hk⟩ := hall j u hu
      refine O_load Tryd.underlying3 rfl rfl rfl rfl ((ot.sl.ext hE).cell hu) ?_
      have d1 := dig_len_mul (val la) (2 ^ k)
      have d2 := dig_len_two k
      have d3 := dig_len_mono (Nat.div_le_self (val la) (2 ^ k))
      have d4 := dig_len_mono (Nat.mod_le (val la) (2 ^ k))
      have d5 := dig_len_mono (Nat.div_mul_le_self (val la) (2 ^ k))
      refine O_assign rfl rfl rfl ?_
      refine WL_end [(5, _), (8, _), (25, _), (26, _), (27, _)] ⟨rfl, rfl, rfl, rfl, rfl, trivial⟩ ?_
      refine WP_seq ?_
      refine WP_region ?_
      refine O_move rfl rfl rfl ?_
      refine O_move rfl rfl rfl ?_
      refine O_call enters33 rfl rfl rfl (shl_c (hX.ext hE).nl (by (try simp only [val_dig, List.length_take, List.length_nil, List.length_cons, List.length_append, List.length_replicate, List.length_set, List.length_map, List.length_drop]); omega) (by (try simp only [val_dig, List.length_take, List.length_nil, List.length_cons, List.length_append, List.length_replicate, List.length_set, List.length_map, List.length_drop]); omega)) (fun v5 w5 e5 h5 => ?_)
      have z5 := e5.size
      try simp only [val_dig] at h5
      refine O_move rfl rfl rfl ?_
      refine O_move rfl rfl rfl ?_
      refine O_call enters34 rfl rfl rfl (shr_c ((hX.ext hE).ext e5).nl (by (try simp only [val_dig, List.length_take, List.length_nil, List.length_cons, List.length_append, List.length_replicate, List.length_set, List.length_map, List.length_drop]); omega) (by (try simp only [val_dig, List.length_take, List.length_nil, List.length_cons, List.length_append, List.length_replicate, List.length_set, List.length_map, List.length_drop]); omega)) (fun v6 w6 e6 h6 => ?_)
      have z6 := e6.size
      try simp only [val_dig] at h6
      refine O_move rfl rfl rfl ?_
      refine O_move rfl rfl rfl ?_
      refine O_call enters35 rfl rfl rfl (low_c (((hX.ext hE).ext e5).ext e6).nl (by (try simp only [val_dig, List.length_take, List.length_nil, List.length_cons, List.length_append, List.length_replicate, List.length_set, List.length_map, List.length_drop]); omega) (by (try simp only [val_dig, List.length_take, List.length_nil, List.length_cons, List.length_append, List.length_replicate, List.length_set, List.length_map, List.length_drop]); omega)) (fun v7 w7 e7 h7 => ?_)
      have z7 := e7.size
      try simp only [val_dig] at h7
      refine O_assign rfl rfl rfl ?_
      refine O_assign rfl rfl rfl ?_
      refine O_assign rfl rfl rfl ?_
      refine WL_end [(5, _), (8, _), (9, _), (10, _), (11, _), (25, _), (26, _), (27, _)] ⟨rfl, rfl, rfl, rfl, rfl, rfl, rfl, rfl, trivial⟩ ?_
      refine WP_seq ?_
      refine WP_seq ?_
      refine WP_region ?_
      refine O_move rfl rfl rfl ?_
      refine O_move rfl rfl rfl ?_
      refine O_move rfl rfl rfl ?_
      refine O_call enters36 rfl rfl rfl (rshl_c ((((hX.ext hE).ext e5).ext e6).ext e7).nl (by (try simp only [val_dig, List.length_take, List.length_nil, List.length_cons, List.length_append, List.length_replicate, List.length_set, List.length_map, List.length_drop]); omega) (by (try simp only [val_dig, List.length_take, List.length_nil, List.length_cons, List.length_append, List.length_replicate, List.length_set, List.length_map, List.length_drop]); omega)) (fun v8 w8 e8 h8 => ?_)
      have z8 := e8.size
      try simp only [val_dig] at h8
      refine O_call enters24 rfl rfl rfl (rsame_c (((h5.ext e6).ext e7).ext e8).nl h8.nl (by (try simp only [val_dig, List.length_take, List.length_nil, List.length_cons, List.length_append, List.length_replicate, List.length_set, List.length_map, List.length_drop]); omega) (by (try simp only [val_dig, List.length_take, List.length_nil, List.length_cons, List.length_append, List.length_replicate, List.length_set, List.length_map, List.length_drop]); omega) rfl) (fun v9 w9 e9 h9 => ?_)
      have z9 := e9.size
      obtain rfl := h9
      refine O_not rfl rfl rfl rfl ?_
      refine O_move rfl rfl rfl ?_
      refine O_move rfl rfl rfl ?_
      refine O_move rfl rfl rfl ?_
      refine O_move rfl rfl rfl ?_
      refine O_call enters37 rfl rfl rfl (rshr_c ((((((hX.ext hE).ext e5).ext e6).ext e7).ext e8).ext e9).nl (by (try simp only [val_dig, List.length_take, List.length_nil, List.length_cons, List.length_append, List.length_replicate, List.length_set, List.length_map, List.length_drop]); omega) (by (try simp only [val_dig, List.length_take, List.length_nil, List.length_cons, List.length_append, List.length_replicate, List.length_set, List.length_map, List.length_drop]); omega)) (fun v10 w10 e10 h10 => ?_)
      have z10 := e10.size
      try simp only [val_dig] at h10
      refine O_call enters24 rfl rfl rfl (rsame_c ((((h6.ext e7).ext e8).ext e9).ext e10).nl h10.nl (by (try simp only [val_dig, List.length_take, List.length_nil, List.length_cons, List.length_append, List.length_replicate, List.length_set, List.length_map, List.length_drop]); omega) (by (try simp only [val_dig, List.length_take, List.length_nil, List.length_cons, List.length_append, List.length_replicate, List.length_set, List.length_map, List.length_drop]); omega) rfl) (fun v11 w11 e11 h11 => ?_)
      have z11 := e11.size
      obtain rfl := h11
      refine O_not rfl rfl rfl rfl ?_
      refine O_pickF rfl rfl rfl rfl ?_
      refine O_move rfl rfl rfl ?_
      refine O_move rfl rfl rfl ?_
      refine O_move rfl rfl rfl ?_
      refine O_move rfl rfl rfl ?_
      refine O_call enters38 rfl rfl rfl (rlow_c ((((((((hX.ext hE).ext e5).ext e6).ext e7).ext e8).ext e9).ext e10).ext e11).nl (by (try simp only [val_dig, List.length_take, List.length_nil, List.length_cons, List.length_append, List.length_replicate, List.length_set, List.length_map, List.length_drop]); omega) (by (try simp only [val_dig, List.length_take, List.length_nil, List.length_cons, List.length_append, List.length_replicate, List.length_set, List.length_map, List.length_drop]); omega)) (fun v12 w12 e12 h12 => ?_)
      have z12 := e12.size
      try simp only [val_dig] at h12
      refine O_call enters24 rfl rfl rfl (rsame_c (((((h7.ext e8).ext e9).ext e10).ext e11).ext e12).nl h12.nl (by (try simp only [val_dig, List.length_take, List.length_nil, List.length_cons, List.length_append, List.length_replicate, List.length_set, List.length_map, List.length_drop]); omega) (by (try simp only [val_dig, List.length_take, List.length_nil, List.length_cons, List.length_append, List.length_replicate, List.length_set, List.length_map, List.length_drop]); omega) rfl) (fun v13 w13 e13 h13 => ?_)
      have z13 := e13.size
      obtain rfl := h13
      refine O_not rfl rfl rfl rfl ?_
      refine O_pickF rfl rfl rfl rfl ?_
      refine O_move rfl rfl rfl ?_
      refine O_move rfl rfl rfl ?_
      refine O_move rfl rfl rfl ?_
      refine O_call enters34 rfl rfl rfl (shr_c ((((((((h5.ext e6).ext e7).ext e8).ext e9).ext e10).ext e11).ext e12).ext e13).nl (by (try simp only [val_dig, List.length_take, List.length_nil, List.length_cons, List.length_append, List.length_replicate, List.length_set, List.length_map, List.length_drop]); omega) (by (try simp only [val_dig, List.length_take, List.length_nil, List.length_cons, List.length_append, List.length_replicate, List.length_set, List.length_map, List.length_drop]); omega)) (fun v14 w14 e14 h14 => ?_)
      have z14 := e14.size
      try simp only [val_dig] at h14
      rw [mul_div_two] at h14
      refine O_move rfl rfl rfl ?_
      refine O_call enters24 rfl rfl rfl (rsame_c h14.nl (((((((((((hX.ext hE).ext e5).ext e6).ext e7).ext e8).ext e9).ext e10).ext e11).ext e12).ext e13).ext e14).nl (by (try simp only [val_dig, List.length_take, List.length_nil, List.length_cons, List.length_append, List.length_replicate, List.length_set, List.length_map, List.length_drop]); omega) (by (try simp only [val_dig, List.length_take, List.length_nil, List.length_cons, List.length_append, List.length_replicate, List.length_set, List.length_map, List.length_drop]); omega) rfl) (fun v15 w15 e15 h15 => ?_)
      have z15 := e15.size
      obtain rfl := h15
      refine O_not rfl rfl rfl rfl ?_
      refine O_pickF rfl rfl rfl rfl ?_
      refine WL_end [(5, _), (8, _), (10, _), (11, _), (25, _), (26, _), (27, _), (69, _)] ⟨rfl, rfl, rfl, rfl, rfl, rfl, rfl, rfl, trivial⟩ ?_
      refine WP_condF rfl ?_
      refine WP_skip ?_
      refine WP_seq ?_
      refine WP_region ?_
      refine O_move rfl rfl rfl ?_
      refine O_move rfl rfl rfl ?_
      refine O_call enters33 rfl rfl rfl (shl_c (((((((((h6.ext e7).ext e8).ext e9).ext e10).ext e11).ext e12).ext e13).ext e14).ext e15).nl (by (try simp only [val_dig, List.length_take, List.length_nil, List.length_cons, List.length_append, List.length_replicate, List.length_set, List.length_map, List.length_drop]); omega) (by (try simp only [val_dig, List.length_take, List.length_nil, List.length_cons, List.length_append, List.length_replicate, List.length_set, List.length_map, List.length_drop]); omega)) (fun v16 w16 e16 h16 => ?_)
      have z16 := e16.size
      try simp only [val_dig] at h16
      refine O_move rfl rfl rfl ?_
      refine O_call enters29 rfl rfl rfl (add_c h16.nl (((((((((h7.ext e8).ext e9).ext e10).ext e11).ext e12).ext e13).ext e14).ext e15).ext e16).nl (by (try simp only [val_dig, List.length_take, List.length_nil, List.length_cons, List.length_append, List.length_replicate, List.length_set, List.length_map, List.length_drop]); omega) (by (try simp only [val_dig, List.length_take, List.length_nil, List.length_cons, List.length_append, List.length_replicate, List.length_set, List.length_map, List.length_drop]); omega)) (fun v17 w17 e17 h17 => ?_)
      have z17 := e17.size
      try simp only [val_dig] at h17
      rw [div_mul_mod] at h17
      refine O_move rfl rfl rfl ?_
      refine O_call enters24 rfl rfl rfl (rsame_c h17.nl ((((((((((((((hX.ext hE).ext e5).ext e6).ext e7).ext e8).ext e9).ext e10).ext e11).ext e12).ext e13).ext e14).ext e15).ext e16).ext e17).nl (by (try simp only [val_dig, List.length_take, List.length_nil, List.length_cons, List.length_append, List.length_replicate, List.length_set, List.length_map, List.length_drop]); omega) (by (try simp only [val_dig, List.length_take, List.length_nil, List.length_cons, List.length_append, List.length_replicate, List.length_set, List.length_map, List.length_drop]); omega) rfl) (fun v18 w18 e18 h18 => ?_)
      have z18 := e18.size
      obtain rfl := h18
      refine O_not rfl rfl rfl rfl ?_
      refine O_move rfl rfl rfl ?_
      refine O_move rfl rfl rfl ?_
      refine O_call enters11 rfl rfl rfl (bits_c (((((((((((h7.ext e8).ext e9).ext e10).ext e11).ext e12).ext e13).ext e14).ext e15).ext e16).ext e17).ext e18).nl (by (try simp only [val_dig, List.length_take, List.length_nil, List.length_cons, List.length_append, List.length_replicate, List.length_set, List.length_map, List.length_drop]); omega)) (fun v19 w19 e19 h19 => ?_)
      have z19 := e19.size
      obtain rfl := h19
      simp only [val_dig]
      have hbm := bl_mod (val la) k
      refine O_move rfl rfl rfl ?_
      refine O_gtr (t := false) rfl rfl rfl rfl (decide_eq_false (by omega)) ?_
      refine O_pickF rfl rfl rfl rfl ?_
      refine WL_end [(5, _), (25, _), (26, _), (27, _), (83, _)] ⟨rfl, rfl, rfl, rfl, rfl, trivial⟩ ?_
      refine WP_condF rfl ?_
      refine WP_skip ?_
      refine WP_region ?_
      refine O_add rfl rfl rfl rfl (wrap_i64_id (by omega) (by omega)) ?_
      refine O_move rfl rfl rfl ?_
      refine WL_end [(5, _), (25, _), (26, _), (27, _)] ⟨rfl, rfl, rfl, rfl, trivial⟩ ?_
      exact ⟨j + 1, ⟨rfl, rfl, rfl, rfl, trivial⟩, ⟨hE.trans (((((((((((((((e5).trans e6).trans e7).trans e8).trans e9).trans e10).trans e11).trans e12).trans e13).trans e14).trans e15).trans e16).trans e17).trans e18).trans e19), by omega⟩, by omega⟩
    · --
      refine WP_exit ?_
      refine inBlk_hit ?_
      refine WP_seq ?_
      refine WP_region ?_
      refine O_assign rfl rfl rfl ?_
      refine WL_end [(4, _)] ⟨rfl, trivial⟩ ?_
      refine WP_ret ?_
      refine ret1 Tryd.results7 rfl ?_
      exact ⟨_, rfl, (((((e1.trans e2).trans e3).trans e4).trans et).trans hE), rfl⟩

end Go.Proofs.YtijnlfhaepcldaaDoor
