/-
  Walks.
-/
import Derived.Test.YtbaapijfenmhiaaRoot
set_option linter.unusedVariables false
set_option linter.unusedSimpArgs false
set_option maxRecDepth 100000
namespace Go.Proofs.Ytbaapijfenmhiaa
open Go Go.RowKit
theorem newton_c {w : World} {va : Value} {a k : Nat} (ha : Nl w va (dig a)) (hla : (dig a).length ≤ 30000) (ha0 : a ≠ 0) (hk1 : 1 ≤ k) (hk64 : k ≤ 64) :
    Calls Try.prog 57 #[va, .int .i64 (k : Nat)] w (Ret w fun r w' => No w.heap.size 27 w' r (dig (rt k a))) := by
  have hL0 : (dig 1).length ≤ 1 := dig_len_of_lt (by decide)
  have hb := bl_dig a
  obtain ⟨e, he⟩ : ∃ e, e = (bl a + k - 1) / k := ⟨_, rfl⟩
  have heb : e ≤ bl a := by rw [he]; exact ceil_le hk1
  have hL2 := dig_len_2 e
  refine enter (args := [va, _]) Try.func57 rfl Try.ntmps57 rfl ?_
  refine WP_seq ?_
  refine WP_region ?_
  refine O_assign rfl rfl rfl ?_
  refine WL_end [(0, _), (1, _)] ⟨rfl, rfl, trivial⟩ ?_
  refine WP_seq ?_
  refine WP_region ?_
  refine O_call enters44 rfl rfl rfl (of_c 1 (by decide)) (fun v1 w1 e1 h1 => ?_)
  have z1 := e1.size
  try simp only [val_dig] at h1
  refine O_move rfl rfl rfl ?_
  refine O_call enters51 rfl rfl rfl (bits_c (ha.ext e1) (by (try simp only [val_dig, List.length_take, List.length_nil, List.length_cons, List.length_append, List.length_replicate, List.length_set, List.length_map, List.length_drop]); omega)) (fun v2 w2 e2 h2 => ?_)
  have z2 := e2.size
  obtain rfl := h2
  rw [val_dig]
  refine O_move rfl rfl rfl ?_
  refine O_add rfl rfl rfl rfl (wrap_i64_id (by omega) (by omega)) ?_
  refine O_sub (r := ((bl a + k - 1 : Nat) : Int)) rfl rfl rfl rfl (by rw [IntKind.wrap_i64]; omega) ?_
  refine O_move rfl rfl rfl ?_
  refine O_quo rfl rfl rfl rfl (by omega) (quoI (by omega)) ?_
  rw [← he]
  refine O_call enters62 rfl rfl rfl (shl_c (h1.ext e2).nl (by (try simp only [val_dig, List.length_take, List.length_nil, List.length_cons, List.length_append, List.length_replicate, List.length_set, List.length_map, List.length_drop]); omega) (by (try simp only [val_dig, List.length_take, List.length_nil, List.length_cons, List.length_append, List.length_replicate, List.length_set, List.length_map, List.length_drop]); omega)) (fun v3 w3 e3 h3 => ?_)
  have z3 := e3.size
  try simp only [val_dig] at h3
  rw [Nat.one_mul] at h3
  refine O_assign rfl rfl rfl ?_
  refine WL_end [(0, _), (1, _), (5, _)] ⟨rfl, rfl, rfl, trivial⟩ ?_
  refine WP_block ?_
  refine WP_loop (S := Nat × Value) (fun (x, out) => [(0, va), (1, .int .i64 (k : Nat)), (5, out)]) (fun (x, out) w' => Ext w w' ∧ No w.heap.size 27 w' out (dig x) ∧ x ≠ 0 ∧ x ≤ 2 ^ e ∧ a < (x + 1) ^ k) (fun (x, out) => x) (2 ^ e, v3) ⟨rfl, rfl, rfl, trivial⟩ ⟨((e1.trans e2).trans e3), h3.mono (by omega), by have := Nat.two_pow_pos e; omega, Nat.le_refl _, root_start (by rw [he]; exact ceil_ge hk1)⟩ ?_
  rintro ⟨x, out⟩ wL ⟨hE, ho, hx0, hxe, hax⟩
  show WP _ _ _ _ _ [(0, va), (1, .int .i64 (k : Nat)), (5, out)] _
  have hz := hE.size
  have hL1 := Nat.le_trans (dig_len_mono hxe) hL2
  have hL3 := dig_len_pow64 (D_dig x) (show (dig x).length ≤ 100000 by omega) (e := k - 1) (by omega)
  rw [val_dig] at hL3
  have hp0 : x ^ (k - 1) ≠ 0 := Nat.ne_of_gt (Nat.pow_pos (Nat.pos_of_ne_zero hx0))
  have hL4 := dig_len_mul x (k - 1)
  have hL5 : (dig (k - 1)).length ≤ 1 := dig_len_of_lt (by omega)
  have hL6 := dig_len_mono (Nat.div_le_self a (x ^ (k - 1)))
  have hL7 := dig_len_add (x * (k - 1)) (a / x ^ (k - 1))
  refine WP_block ?_
  refine WP_seq ?_
  refine WP_region ?_
  refine O_move rfl rfl rfl ?_
  refine O_move rfl rfl rfl ?_
  refine O_move rfl rfl rfl ?_
  refine O_sub (r := ((k - 1 : Nat) : Int)) rfl rfl rfl rfl (by rw [IntKind.wrap_i64]; omega) ?_
  refine O_call enters68 rfl rfl rfl (power_c ho.nl (by (try simp only [val_dig, List.length_take, List.length_nil, List.length_cons, List.length_append, List.length_replicate, List.length_set, List.length_map, List.length_drop]); omega) (by (try simp only [val_dig, List.length_take, List.length_nil, List.length_cons, List.length_append, List.length_replicate, List.length_set, List.length_map, List.length_drop]); omega)) (fun v4 w4 e4 h4 => ?_)
  have z4 := e4.size
  try simp only [val_dig] at h4
  refine O_call enters43 rfl rfl rfl (divmod_t (ha.ext (hE.trans e4)) h4.nl (by (try simp only [val_dig, List.length_take, List.length_nil, List.length_cons, List.length_append, List.length_replicate, List.length_set, List.length_map, List.length_drop]); omega) (by (try simp only [val_dig, List.length_take, List.length_nil, List.length_cons, List.length_append, List.length_replicate, List.length_set, List.length_map, List.length_drop]); omega) (by first | assumption | rfl | omega | (simp only [val_dig]; first | assumption | omega) | (simp only [val_dig, val]; decide) | (rw [val_dig]; decide))) (fun v5 w5 e5 h5 => ?_)
  have z5 := e5.size
  try simp only [val_dig] at h5
  obtain ⟨q5, r5, rfl, hq5, hr5⟩ := h5
  refine O_move rfl rfl rfl ?_
  refine O_extract rfl rfl rfl rfl ?_
  refine O_extract rfl rfl rfl rfl ?_
  refine O_extract rfl rfl rfl rfl ?_
  refine O_assign rfl rfl rfl ?_
  refine O_assign rfl rfl rfl ?_
  refine O_assign rfl rfl rfl ?_
  refine WL_end [(0, _), (1, _), (5, _), (6, _)] ⟨rfl, rfl, rfl, rfl, trivial⟩ ?_
  refine WP_seq ?_
  refine WP_region ?_
  refine O_move rfl rfl rfl ?_
  refine O_move rfl rfl rfl ?_
  refine O_sub (r := ((k - 1 : Nat) : Int)) rfl rfl rfl rfl (by rw [IntKind.wrap_i64]; omega) ?_
  refine O_conv Try.underlying3 Try.underlying27 rfl rfl rfl (wrap_u32_id (by omega) (by omega)) ?_
  refine O_call enters70 rfl rfl rfl (small_c ((ho.ext e4).ext e5).nl (by (try simp only [val_dig, List.length_take, List.length_nil, List.length_cons, List.length_append, List.length_replicate, List.length_set, List.length_map, List.length_drop]); omega) (by omega) (by decide)) (fun v6 w6 e6 h6 => ?_)
  have z6 := e6.size
  try simp only [val_dig] at h6
  rw [Nat.add_zero] at h6
  refine O_move rfl rfl rfl ?_
  refine O_call enters69 rfl rfl rfl (add_c h6.nl (hq5.ext e6).nl (by (try simp only [val_dig, List.length_take, List.length_nil, List.length_cons, List.length_append, List.length_replicate, List.length_set, List.length_map, List.length_drop]); omega) (by (try simp only [val_dig, List.length_take, List.length_nil, List.length_cons, List.length_append, List.length_replicate, List.length_set, List.length_map, List.length_drop]); omega)) (fun v7 w7 e7 h7 => ?_)
  have z7 := e7.size
  try simp only [val_dig] at h7
  refine O_move rfl rfl rfl ?_
  refine O_conv Try.underlying3 Try.underlying27 rfl rfl rfl (wrap_u32_id (by omega) (by omega)) ?_
  refine O_call enters21 rfl rfl rfl (qsmall_c h7.nl (by (try simp only [val_dig, List.length_take, List.length_nil, List.length_cons, List.length_append, List.length_replicate, List.length_set, List.length_map, List.length_drop]); omega) (by omega) (by omega)) (fun v8 w8 e8 h8 => ?_)
  have z8 := e8.size
  try simp only [val_dig] at h8
  obtain ⟨q8, rfl, hq8⟩ := h8
  refine O_move rfl rfl rfl ?_
  refine O_extract rfl rfl rfl rfl ?_
  refine O_extract rfl rfl rfl rfl ?_
  refine O_extract rfl rfl rfl rfl ?_
  refine O_assign rfl rfl rfl ?_
  refine O_assign rfl rfl rfl ?_
  refine O_assign rfl rfl rfl ?_
  refine WL_end [(0, _), (1, _), (5, _), (9, _)] ⟨rfl, rfl, rfl, rfl, trivial⟩ ?_
  refine WP_seq ?_
  refine WP_seq ?_
  refine WP_region ?_
  refine O_move rfl rfl rfl ?_
  refine O_move rfl rfl rfl ?_
  refine O_call enters60 rfl rfl rfl (cmp_c hq8.nl (((((ho.ext e4).ext e5).ext e6).ext e7).ext e8).nl) (fun v9 w9 e9 h9 => ?_)
  have z9 := e9.size
  obtain rfl := h9
  simp only [val_dig]
  refine O_geq rfl rfl rfl rfl rfl ?_
  refine WL_end [(0, _), (1, _), (5, _), (9, _), (48, _)] ⟨rfl, rfl, rfl, rfl, rfl, trivial⟩ ?_
  refine WP_condD rfl (fun c48 => ?_) (fun c48 => ?_)
  · --
    refine WP_seq ?_
    refine WP_region ?_
    refine O_move rfl rfl rfl ?_
    refine O_assign rfl rfl rfl ?_
    refine WL_end [(4, _)] ⟨rfl, trivial⟩ ?_
    refine WP_ret ?_
    refine inBlk_ret ?_
    refine inBlk_ret ?_
    refine ret1 Try.results57 rfl ?_
    have hst := newton_stop hk1 (cmpv_ge_zero.1 c48)
    rw [rt_eq hk1 hst hax]
    exact ⟨_, rfl, ((((((hE.trans e4).trans e5).trans e6).trans e7).trans e8).trans e9), ((((((ho.ext e4).ext e5).ext e6).ext e7).ext e8).ext e9)⟩
  · --
    refine WP_skip ?_
    refine WP_region ?_
    refine O_move rfl rfl rfl ?_
    refine O_assign rfl rfl rfl ?_
    refine WL_end [(0, _), (1, _), (5, _)] ⟨rfl, rfl, rfl, trivial⟩ ?_
    have hlt : (x * (k - 1) + a / x ^ (k - 1)) / k < x := Nat.not_le.1 fun h => c48 (cmpv_ge_zero.2 h)
    have hgo := newton_go hk1 hx0 (a := a)
    have hy0 : (x * (k - 1) + a / x ^ (k - 1)) / k ≠ 0 := by
      intro e0
      rw [e0, Nat.zero_add, Nat.one_pow] at hgo
      omega
    exact ⟨((x * (k - 1) + a / x ^ (k - 1)) / k, _), ⟨rfl, rfl, rfl, trivial⟩, ⟨((((((hE.trans e4).trans e5).trans e6).trans e7).trans e8).trans e9), (hq8.ext e9).mono (by omega), hy0, by omega, hgo⟩, by dsimp only; omega⟩

theorem sqrt_c {w : World} {va : Value} {a : Nat} (ha : Nl w va (dig a)) (hla : (dig a).length ≤ 30000) :
    Calls Try.prog 34 #[va] w (Ret w fun r w' => ∃ q s, r = .tuple #[q, s] ∧ No w.heap.size 27 w' q (dig (rt 2 a)) ∧ No w.heap.size 27 w' s (dig (a - rt 2 a * rt 2 a))) := by
  refine enter (args := [va]) Try.func34 rfl Try.ntmps34 rfl ?_
  refine WP_seq ?_
  refine WP_region ?_
  refine O_assign rfl rfl rfl ?_
  refine O_assign rfl rfl rfl ?_
  refine WL_end [(0, _)] ⟨rfl, trivial⟩ ?_
  refine WP_seq ?_
  refine WP_region ?_
  refine O_move rfl rfl rfl ?_
  refine O_call enters48 rfl rfl rfl (trim_c ha (by (try simp only [val_dig, List.length_take, List.length_nil, List.length_cons, List.length_append, List.length_replicate, List.length_set, List.length_map, List.length_drop]); omega)) (fun v1 w1 e1 h1 => ?_)
  have z1 := e1.size
  try simp only [val_dig] at h1
  refine O_assign rfl rfl rfl ?_
  refine WL_end [(0, _)] ⟨rfl, trivial⟩ ?_
  refine WP_seq ?_
  refine WP_seq ?_
  refine WP_region ?_
  refine O_move rfl rfl rfl ?_
  refine N_len T22 rfl rfl rfl h1.nl ?_
  refine O_eql rfl rfl rfl rfl rfl ?_
  refine WL_end [(0, _), (11, _)] ⟨rfl, rfl, trivial⟩ ?_
  refine WP_condD rfl (fun c11 => ?_) (fun c11 => ?_)
  · --
    refine WP_seq ?_
    refine WP_region ?_
    refine O_assign rfl rfl rfl ?_
    refine O_assign rfl rfl rfl ?_
    refine WL_end [(2, _), (3, _)] ⟨rfl, rfl, trivial⟩ ?_
    refine WP_ret ?_
    refine ret2 Try.results34 rfl rfl ?_
    obtain rfl : a = 0 := dig_len_zero.1 (by omega)
    exact ⟨_, rfl, e1, _, _, rfl, by rw [rt_zero (by decide), dig_zero]; exact No.nil _ _ _, by rw [Nat.zero_sub, dig_zero]; exact No.nil _ _ _⟩
  · --
    refine WP_skip ?_
    refine WP_seq ?_
    refine WP_region ?_
    refine O_move rfl rfl rfl ?_
    have ha0 : a ≠ 0 := fun e => c11 (by rw [e, dig_zero]; rfl)
    have hL1 := dig_len_mono (rt_le_self a (k := 2) (by decide))
    have hL2 := dig_len_mono (sq_le a)
    refine O_call enters57 rfl rfl rfl (newton_c (k := 2) h1.nl (by (try simp only [val_dig, List.length_take, List.length_nil, List.length_cons, List.length_append, List.length_replicate, List.length_set, List.length_map, List.length_drop]); omega) (by (try simp only [val_dig, List.length_take, List.length_nil, List.length_cons, List.length_append, List.length_replicate, List.length_set, List.length_map, List.length_drop]); omega) (by decide) (by decide)) (fun v2 w2 e2 h2 => ?_)
    have z2 := e2.size
    try simp only [val_dig] at h2
    refine O_assign rfl rfl rfl ?_
    refine WL_end [(0, _), (4, _)] ⟨rfl, rfl, trivial⟩ ?_
    refine WP_seq ?_
    refine WP_region ?_
    refine O_move rfl rfl rfl ?_
    refine O_move rfl rfl rfl ?_
    refine O_call enters53 rfl rfl rfl (square_c h2.nl (by (try simp only [val_dig, List.length_take, List.length_nil, List.length_cons, List.length_append, List.length_replicate, List.length_set, List.length_map, List.length_drop]); omega)) (fun v3 w3 e3 h3 => ?_)
    have z3 := e3.size
    try simp only [val_dig] at h3
    refine O_call enters58 rfl rfl rfl (sub_c ((h1.ext e2).ext e3).nl h3.nl (by (try simp only [val_dig, List.length_take, List.length_nil, List.length_cons, List.length_append, List.length_replicate, List.length_set, List.length_map, List.length_drop]); omega)) (fun v4 w4 e4 h4 => ?_)
    have z4 := e4.size
    try simp only [val_dig] at h4
    obtain ⟨q4, rfl, hq4⟩ := h4
    refine O_move rfl rfl rfl ?_
    refine O_extract rfl rfl rfl rfl ?_
    refine O_extract rfl rfl rfl rfl ?_
    refine O_assign rfl rfl rfl ?_
    refine O_assign rfl rfl rfl ?_
    refine WL_end [(4, _), (5, _)] ⟨rfl, rfl, trivial⟩ ?_
    refine WP_seq ?_
    refine WP_region ?_
    refine O_move rfl rfl rfl ?_
    refine O_move rfl rfl rfl ?_
    refine O_assign rfl rfl rfl ?_
    refine O_assign rfl rfl rfl ?_
    refine WL_end [(2, _), (3, _)] ⟨rfl, rfl, trivial⟩ ?_
    refine WP_ret ?_
    refine ret2 Try.results34 rfl rfl ?_
    exact ⟨_, rfl, (((e1.trans e2).trans e3).trans e4), _, _, rfl, ((h2.ext e3).ext e4).mono (by omega), hq4.mono (by omega)⟩

theorem rsquare_c {w : World} {va : Value} {a : Nat} (ha : Nl w va (dig a)) (hla : (dig a).length ≤ 30000) :
    Calls Try.prog 40 #[va] w (Ret w fun r w' => ∃ q, r = .tuple #[q, .bool (sqb a)] ∧ No w.heap.size 27 w' q (dig (sqq a))) := by
  refine enter (args := [va]) Try.func40 rfl Try.ntmps40 rfl ?_
  refine WP_seq ?_
  refine WP_region ?_
  refine O_assign rfl rfl rfl ?_
  refine O_assign rfl rfl rfl ?_
  refine WL_end [(0, _)] ⟨rfl, trivial⟩ ?_
  refine WP_seq ?_
  refine WP_region ?_
  refine O_move rfl rfl rfl ?_
  refine O_call enters34 rfl rfl rfl (sqrt_c ha (by (try simp only [val_dig, List.length_take, List.length_nil, List.length_cons, List.length_append, List.length_replicate, List.length_set, List.length_map, List.length_drop]); omega)) (fun v1 w1 e1 h1 => ?_)
  have z1 := e1.size
  try simp only [val_dig] at h1
  obtain ⟨q1, r1, rfl, hq1, hr1⟩ := h1
  refine O_move rfl rfl rfl ?_
  refine O_extract rfl rfl rfl rfl ?_
  refine O_extract rfl rfl rfl rfl ?_
  refine O_assign rfl rfl rfl ?_
  refine O_assign rfl rfl rfl ?_
  refine WL_end [(4, _), (5, _)] ⟨rfl, rfl, trivial⟩ ?_
  refine WP_seq ?_
  refine WP_seq ?_
  refine WP_region ?_
  refine O_move rfl rfl rfl ?_
  refine N_len T22 rfl rfl rfl hr1.nl ?_
  refine O_neq rfl rfl rfl rfl rfl ?_
  refine WL_end [(4, _), (13, _)] ⟨rfl, rfl, trivial⟩ ?_
  refine WP_condN rfl (fun c13 => ?_) (fun c13 => ?_)
  · --
    refine WP_seq ?_
    refine WP_region ?_
    refine O_assign rfl rfl rfl ?_
    refine O_assign rfl rfl rfl ?_
    refine WL_end [(2, _), (3, _)] ⟨rfl, rfl, trivial⟩ ?_
    refine WP_ret ?_
    refine ret2 Try.results40 rfl rfl ?_
    have h1 : a - rt 2 a * rt 2 a ≠ 0 := fun e => absurd (dig_len_zero.2 e) (by omega)
    rw [sqb_no h1, sqq_no h1, dig_zero]
    exact ⟨_, rfl, e1, _, rfl, No.nil _ _ _⟩
  · --
    refine WP_skip ?_
    refine WP_seq ?_
    refine WP_region ?_
    refine O_move rfl rfl rfl ?_
    refine O_assign rfl rfl rfl ?_
    refine O_assign rfl rfl rfl ?_
    refine WL_end [(2, _), (3, _)] ⟨rfl, rfl, trivial⟩ ?_
    refine WP_ret ?_
    refine ret2 Try.results40 rfl rfl ?_
    have h1 : a - rt 2 a * rt 2 a = 0 := dig_len_zero.1 (by omega)
    rw [sqb_yes h1, sqq_yes h1]
    exact ⟨_, rfl, e1, _, rfl, hq1.mono (by omega)⟩

theorem root_c {w : World} {va : Value} {a : Nat} {k : Nat} (ha : Nl w va (dig a)) (hla : (dig a).length ≤ 30000) (hk1 : 1 ≤ k) (hk64 : k ≤ 64) :
    Calls Try.prog 36 #[va, .int .i64 (k : Nat)] w (Ret w fun r w' => ∃ q, r = .tuple #[q, .bool true] ∧ No w.heap.size 27 w' q (dig (rt k a))) := by
  refine enter (args := [va, _]) Try.func36 rfl Try.ntmps36 rfl ?_
  refine WP_seq ?_
  refine WP_region ?_
  refine O_assign rfl rfl rfl ?_
  refine O_assign rfl rfl rfl ?_
  refine WL_end [(0, _), (1, _)] ⟨rfl, rfl, trivial⟩ ?_
  refine WP_seq ?_
  refine WP_seq ?_
  refine WP_region ?_
  refine O_move rfl rfl rfl ?_
  refine O_lss (t := false) rfl rfl rfl rfl (decide_eq_false (by omega)) ?_
  refine O_move rfl rfl rfl ?_
  refine O_move rfl rfl rfl ?_
  refine O_gtr (t := false) rfl rfl rfl rfl (decide_eq_false (by omega)) ?_
  refine O_pickF rfl rfl rfl rfl ?_
  refine WL_end [(0, _), (1, _), (11, _)] ⟨rfl, rfl, rfl, trivial⟩ ?_
  refine WP_condF rfl ?_
  refine WP_skip ?_
  refine WP_seq ?_
  refine WP_region ?_
  refine O_move rfl rfl rfl ?_
  refine O_call enters48 rfl rfl rfl (trim_c ha (by (try simp only [val_dig, List.length_take, List.length_nil, List.length_cons, List.length_append, List.length_replicate, List.length_set, List.length_map, List.length_drop]); omega)) (fun v1 w1 e1 h1 => ?_)
  have z1 := e1.size
  try simp only [val_dig] at h1
  refine O_assign rfl rfl rfl ?_
  refine WL_end [(0, _), (1, _)] ⟨rfl, rfl, trivial⟩ ?_
  refine WP_seq ?_
  refine WP_seq ?_
  refine WP_region ?_
  refine O_move rfl rfl rfl ?_
  refine N_len T22 rfl rfl rfl h1.nl ?_
  refine O_eql rfl rfl rfl rfl rfl ?_
  refine WL_end [(0, _), (1, _), (16, _)] ⟨rfl, rfl, rfl, trivial⟩ ?_
  refine WP_condD rfl (fun c16 => ?_) (fun c16 => ?_)
  · --
    refine WP_seq ?_
    refine WP_region ?_
    refine O_assign rfl rfl rfl ?_
    refine O_assign rfl rfl rfl ?_
    refine WL_end [(4, _), (5, _)] ⟨rfl, rfl, trivial⟩ ?_
    refine WP_ret ?_
    refine ret2 Try.results36 rfl rfl ?_
    obtain rfl : a = 0 := dig_len_zero.1 (by omega)
    exact ⟨_, rfl, e1, _, rfl, by rw [rt_zero hk1, dig_zero]; exact No.nil _ _ _⟩
  · --
    refine WP_skip ?_
    refine WP_seq ?_
    refine WP_region ?_
    refine O_move rfl rfl rfl ?_
    refine O_move rfl rfl rfl ?_
    have ha0 : a ≠ 0 := fun e => c16 (by rw [e, dig_zero]; rfl)
    refine O_call enters57 rfl rfl rfl (newton_c h1.nl (by (try simp only [val_dig, List.length_take, List.length_nil, List.length_cons, List.length_append, List.length_replicate, List.length_set, List.length_map, List.length_drop]); omega) (by (try simp only [val_dig, List.length_take, List.length_nil, List.length_cons, List.length_append, List.length_replicate, List.length_set, List.length_map, List.length_drop]); omega) (by (try simp only [val_dig, List.length_take, List.length_nil, List.length_cons, List.length_append, List.length_replicate, List.length_set, List.length_map, List.length_drop]); omega) (by (try simp only [val_dig, List.length_take, List.length_nil, List.length_cons, List.length_append, List.length_replicate, List.length_set, List.length_map, List.length_drop]); omega)) (fun v2 w2 e2 h2 => ?_)
    have z2 := e2.size
    try simp only [val_dig] at h2
    refine O_assign rfl rfl rfl ?_
    refine O_assign rfl rfl rfl ?_
    refine WL_end [(4, _), (5, _)] ⟨rfl, rfl, trivial⟩ ?_
    refine WP_ret ?_
    refine ret2 Try.results36 rfl rfl ?_
    exact ⟨_, rfl, (e1.trans e2), _, rfl, h2.mono (by omega)⟩

theorem root_lo {w : World} {va : Value} {k : Int} (h : k < 1) :
    Calls Try.prog 36 #[va, .int .i64 k] w (Ret w fun r _ => r = .tuple #[.slice none 0 0, .bool false]) := by
  refine enter (args := [va, _]) Try.func36 rfl Try.ntmps36 rfl ?_
  refine WP_seq ?_
  refine WP_region ?_
  refine O_assign rfl rfl rfl ?_
  refine O_assign rfl rfl rfl ?_
  refine WL_end [(0, _), (1, _)] ⟨rfl, rfl, trivial⟩ ?_
  refine WP_seq ?_
  refine WP_seq ?_
  refine WP_region ?_
  refine O_move rfl rfl rfl ?_
  refine O_lss (t := true) rfl rfl rfl rfl (decide_eq_true (by omega)) ?_
  refine O_move rfl rfl rfl ?_
  refine O_skip rfl rfl ?_
  refine O_skip rfl rfl ?_
  refine O_pickT rfl rfl rfl rfl ?_
  refine WL_end [(0, _), (1, _), (11, _)] ⟨rfl, rfl, rfl, trivial⟩ ?_
  refine WP_condT rfl ?_
  refine WP_seq ?_
  refine WP_region ?_
  refine O_assign rfl rfl rfl ?_
  refine O_assign rfl rfl rfl ?_
  refine WL_end [(4, _), (5, _)] ⟨rfl, rfl, trivial⟩ ?_
  refine WP_ret ?_
  refine ret2 Try.results36 rfl rfl ?_
  exact ⟨_, rfl, (Ext.refl _), rfl⟩

theorem root_hi {w : World} {va : Value} {k : Int} (h : 64 < k) :
    Calls Try.prog 36 #[va, .int .i64 k] w (Ret w fun r _ => r = .tuple #[.slice none 0 0, .bool false]) := by
  refine enter (args := [va, _]) Try.func36 rfl Try.ntmps36 rfl ?_
  refine WP_seq ?_
  refine WP_region ?_
  refine O_assign rfl rfl rfl ?_
  refine O_assign rfl rfl rfl ?_
  refine WL_end [(0, _), (1, _)] ⟨rfl, rfl, trivial⟩ ?_
  refine WP_seq ?_
  refine WP_seq ?_
  refine WP_region ?_
  refine O_move rfl rfl rfl ?_
  refine O_lss (t := false) rfl rfl rfl rfl (decide_eq_false (by omega)) ?_
  refine O_move rfl rfl rfl ?_
  refine O_move rfl rfl rfl ?_
  refine O_gtr (t := true) rfl rfl rfl rfl (decide_eq_true (by omega)) ?_
  refine O_pickF rfl rfl rfl rfl ?_
  refine WL_end [(0, _), (1, _), (11, _)] ⟨rfl, rfl, rfl, trivial⟩ ?_
  refine WP_condT rfl ?_
  refine WP_seq ?_
  refine WP_region ?_
  refine O_assign rfl rfl rfl ?_
  refine O_assign rfl rfl rfl ?_
  refine WL_end [(4, _), (5, _)] ⟨rfl, rfl, trivial⟩ ?_
  refine WP_ret ?_
  refine ret2 Try.results36 rfl rfl ?_
  exact ⟨_, rfl, (Ext.refl _), rfl⟩

theorem root_no {w : World} {va : Value} {k : Int} (h : k < 1 ∨ 64 < k) : Calls Try.prog 36 #[va, .int .i64 k] w (Ret w fun r _ => r = .tuple #[.slice none 0 0, .bool false]) := by
  rcases h with h | h
  · exact root_lo h
  · exact root_hi h

theorem gcd_c {w : World} {va vb : Value} {a b : Nat} (ha : Nl w va (dig a)) (hb : Nl w vb (dig b)) (hla : (dig a).length ≤ 1000000) (hlb : (dig b).length ≤ 1000000) :
    Calls Try.prog 38 #[va, vb] w (Ret w fun r w' => No w.heap.size 27 w' r (dig (Nat.gcd a b))) := by
  refine enter (args := [va, vb]) Try.func38 rfl Try.ntmps38 rfl ?_
  refine WP_seq ?_
  refine WP_region ?_
  refine O_assign rfl rfl rfl ?_
  refine WL_end [(0, _), (1, _)] ⟨rfl, rfl, trivial⟩ ?_
  refine WP_seq ?_
  refine WP_region ?_
  refine O_move rfl rfl rfl ?_
  refine O_call enters48 rfl rfl rfl (trim_c ha (by (try simp only [val_dig, List.length_take, List.length_nil, List.length_cons, List.length_append, List.length_replicate, List.length_set, List.length_map, List.length_drop]); omega)) (fun v1 w1 e1 h1 => ?_)
  have z1 := e1.size
  try simp only [val_dig] at h1
  refine O_move rfl rfl rfl ?_
  refine O_call enters48 rfl rfl rfl (trim_c (hb.ext e1) (by (try simp only [val_dig, List.length_take, List.length_nil, List.length_cons, List.length_append, List.length_replicate, List.length_set, List.length_map, List.length_drop]); omega)) (fun v2 w2 e2 h2 => ?_)
  have z2 := e2.size
  try simp only [val_dig] at h2
  refine O_assign rfl rfl rfl ?_
  refine O_assign rfl rfl rfl ?_
  refine WL_end [(0, _), (1, _)] ⟨rfl, rfl, trivial⟩ ?_
  refine WP_seq ?_
  refine WP_block ?_
  refine WP_loop (S := Nat × Nat × Value × Value) (fun (x, y, vx, vy) => [(0, vx), (1, vy)]) (fun (x, y, vx, vy) w' => Ext w w' ∧ No w.heap.size 27 w' vx (dig x) ∧ No w.heap.size 27 w' vy (dig y) ∧ Nat.gcd x y = Nat.gcd a b ∧ (dig x).length ≤ 1000000 ∧ (dig y).length ≤ 1000000) (fun (x, y, vx, vy) => y) (a, b, v1, v2) ⟨rfl, rfl, trivial⟩ ⟨(e1.trans e2), (h1.ext e2).mono (by omega), h2.mono (by omega), rfl, hla, hlb⟩ ?_
  rintro ⟨x, y, vx, vy⟩ wL ⟨hE, hvx, hvy, hg, hlx, hly⟩
  show WP _ _ _ _ _ [(0, vx), (1, vy)] _
  have hz := hE.size
  refine WP_seq ?_
  refine WP_seq ?_
  refine WP_region ?_
  refine O_move rfl rfl rfl ?_
  refine N_len T22 rfl rfl rfl hvy.nl ?_
  refine O_neq rfl rfl rfl rfl rfl ?_
  refine WL_end [(0, _), (1, _), (14, _)] ⟨rfl, rfl, rfl, trivial⟩ ?_
  refine WP_condN rfl (fun c14 => ?_) (fun c14 => ?_)
  · --
    refine WP_skip ?_
    refine WP_block ?_
    refine WP_seq ?_
    refine WP_region ?_
    refine O_move rfl rfl rfl ?_
    refine O_move rfl rfl rfl ?_
    have hy0 : y ≠ 0 := fun e => c14 (by rw [e, dig_zero]; rfl)
    refine O_call enters43 rfl rfl rfl (divmod_t hvx.nl hvy.nl (by (try simp only [val_dig, List.length_take, List.length_nil, List.length_cons, List.length_append, List.length_replicate, List.length_set, List.length_map, List.length_drop]); omega) (by (try simp only [val_dig, List.length_take, List.length_nil, List.length_cons, List.length_append, List.length_replicate, List.length_set, List.length_map, List.length_drop]); omega) (by first | assumption | rfl | omega | (simp only [val_dig]; first | assumption | omega) | (simp only [val_dig, val]; decide) | (rw [val_dig]; decide))) (fun v3 w3 e3 h3 => ?_)
    have z3 := e3.size
    try simp only [val_dig] at h3
    obtain ⟨q3, r3, rfl, hq3, hr3⟩ := h3
    refine O_move rfl rfl rfl ?_
    refine O_extract rfl rfl rfl rfl ?_
    refine O_extract rfl rfl rfl rfl ?_
    refine O_extract rfl rfl rfl rfl ?_
    refine O_assign rfl rfl rfl ?_
    refine O_assign rfl rfl rfl ?_
    refine O_assign rfl rfl rfl ?_
    refine WL_end [(1, _), (6, _)] ⟨rfl, rfl, trivial⟩ ?_
    refine WP_region ?_
    refine O_move rfl rfl rfl ?_
    refine O_move rfl rfl rfl ?_
    refine O_assign rfl rfl rfl ?_
    refine O_assign rfl rfl rfl ?_
    refine WL_end [(0, _), (1, _)] ⟨rfl, rfl, trivial⟩ ?_
    have hm := Nat.mod_lt x (Nat.pos_of_ne_zero hy0)
    exact ⟨(y, x % y, _, _), ⟨rfl, rfl, trivial⟩, ⟨(hE.trans e3), (hvy.ext e3).mono (by omega), hr3.mono (by omega), by rw [gcd_step]; exact hg, hly, Nat.le_trans (dig_len_mono (Nat.le_of_lt hm)) hly⟩, hm⟩
  · --
    refine WP_exit ?_
    refine inBlk_hit ?_
    refine WP_seq ?_
    refine WP_region ?_
    refine O_move rfl rfl rfl ?_
    refine O_assign rfl rfl rfl ?_
    refine WL_end [(4, _)] ⟨rfl, trivial⟩ ?_
    refine WP_ret ?_
    refine ret1 Try.results38 rfl ?_
    obtain rfl : y = 0 := dig_len_zero.1 (by omega)
    rw [Nat.gcd_zero_right] at hg
    exact ⟨_, rfl, hE, by rw [← hg]; exact hvx⟩

theorem rgcd_c {w : World} {va vb : Value} {a b : Nat} (ha : Nl w va (dig a)) (hb : Nl w vb (dig b)) (hla : (dig a).length ≤ 1000000) (hlb : (dig b).length ≤ 1000000) :
    Calls Try.prog 39 #[va, vb] w (Ret w fun r w' => Nl w' r (dig (Nat.gcd a b))) := by
  refine enter (args := [va, vb]) Try.func39 rfl Try.ntmps39 rfl ?_
  refine WP_seq ?_
  refine WP_region ?_
  refine O_assign rfl rfl rfl ?_
  refine WL_end [(0, _), (1, _)] ⟨rfl, rfl, trivial⟩ ?_
  refine WP_seq ?_
  refine WP_block ?_
  refine WP_loop (S := Nat × Nat × Value × Value) (fun (x, y, vx, vy) => [(0, vx), (1, vy)]) (fun (x, y, vx, vy) w' => Ext w w' ∧ Nl w' vx (dig x) ∧ Nl w' vy (dig y) ∧ Nat.gcd x y = Nat.gcd a b ∧ (dig x).length ≤ 1000000 ∧ (dig y).length ≤ 1000000) (fun (x, y, vx, vy) => y) (a, b, va, vb) ⟨rfl, rfl, trivial⟩ ⟨(Ext.refl _), ha, hb, rfl, hla, hlb⟩ ?_
  rintro ⟨x, y, vx, vy⟩ wL ⟨hE, hvx, hvy, hg, hlx, hly⟩
  show WP _ _ _ _ _ [(0, vx), (1, vy)] _
  have hz := hE.size
  refine WP_seq ?_
  refine WP_seq ?_
  refine WP_region ?_
  refine O_move rfl rfl rfl ?_
  refine N_len T22 rfl rfl rfl hvy ?_
  refine O_gtr rfl rfl rfl rfl rfl ?_
  refine WL_end [(0, _), (1, _), (10, _)] ⟨rfl, rfl, rfl, trivial⟩ ?_
  refine WP_condD rfl (fun c10 => ?_) (fun c10 => ?_)
  · --
    refine WP_skip ?_
    refine WP_block ?_
    refine WP_seq ?_
    refine WP_region ?_
    refine O_move rfl rfl rfl ?_
    refine O_move rfl rfl rfl ?_
    have hy0 : y ≠ 0 := fun e => by rw [e, dig_zero] at c10; simp at c10
    refine O_call enters52 rfl rfl rfl (rdivmod_t hvx hvy (by (try simp only [val_dig, List.length_take, List.length_nil, List.length_cons, List.length_append, List.length_replicate, List.length_set, List.length_map, List.length_drop]); omega) (by (try simp only [val_dig, List.length_take, List.length_nil, List.length_cons, List.length_append, List.length_replicate, List.length_set, List.length_map, List.length_drop]); omega) (by first | assumption | rfl | omega | (simp only [val_dig]; first | assumption | omega) | (simp only [val_dig, val]; decide) | (rw [val_dig]; decide))) (fun v1 w1 e1 h1 => ?_)
    have z1 := e1.size
    try simp only [val_dig] at h1
    obtain ⟨q1, r1, rfl, hq1, hr1⟩ := h1
    refine O_move rfl rfl rfl ?_
    refine O_extract rfl rfl rfl rfl ?_
    refine O_extract rfl rfl rfl rfl ?_
    refine O_extract rfl rfl rfl rfl ?_
    refine O_assign rfl rfl rfl ?_
    refine O_assign rfl rfl rfl ?_
    refine O_assign rfl rfl rfl ?_
    refine WL_end [(1, _), (6, _)] ⟨rfl, rfl, trivial⟩ ?_
    refine WP_region ?_
    refine O_move rfl rfl rfl ?_
    refine O_move rfl rfl rfl ?_
    refine O_assign rfl rfl rfl ?_
    refine O_assign rfl rfl rfl ?_
    refine WL_end [(0, _), (1, _)] ⟨rfl, rfl, trivial⟩ ?_
    have hm := Nat.mod_lt x (Nat.pos_of_ne_zero hy0)
    exact ⟨(y, x % y, _, _), ⟨rfl, rfl, trivial⟩, ⟨(hE.trans e1), (hvy.ext e1), hr1.nl, by rw [gcd_step]; exact hg, hly, Nat.le_trans (dig_len_mono (Nat.le_of_lt hm)) hly⟩, hm⟩
  · --
    refine WP_exit ?_
    refine inBlk_hit ?_
    refine WP_seq ?_
    refine WP_region ?_
    refine O_move rfl rfl rfl ?_
    refine O_assign rfl rfl rfl ?_
    refine WL_end [(4, _)] ⟨rfl, trivial⟩ ?_
    refine WP_ret ?_
    refine ret1 Try.results39 rfl ?_
    obtain rfl : y = 0 := dig_len_zero.1 (by omega)
    rw [Nat.gcd_zero_right] at hg
    exact ⟨_, rfl, hE, by rw [← hg]; exact hvx⟩

theorem lowest_z {w : World} {va vb : Value} {a b : Nat} (ha : Nl w va (dig a)) (hb : Nl w vb (dig b)) (hla : (dig a).length ≤ 100000) (hlb : (dig b).length ≤ 100000) (h0 : b = 0) :
    Calls Try.prog 42 #[va, vb] w (Ret w fun r _ => r = .tuple #[.slice none 0 0, .slice none 0 0, .bool false]) := by
  refine enter (args := [va, vb]) Try.func42 rfl Try.ntmps42 rfl ?_
  refine WP_seq ?_
  refine WP_region ?_
  refine O_assign rfl rfl rfl ?_
  refine O_assign rfl rfl rfl ?_
  refine O_assign rfl rfl rfl ?_
  refine WL_end [(0, _), (1, _)] ⟨rfl, rfl, trivial⟩ ?_
  refine WP_seq ?_
  refine WP_seq ?_
  refine WP_region ?_
  refine O_move rfl rfl rfl ?_
  refine O_call enters51 rfl rfl rfl (bits_c hb (by (try simp only [val_dig, List.length_take, List.length_nil, List.length_cons, List.length_append, List.length_replicate, List.length_set, List.length_map, List.length_drop]); omega)) (fun v1 w1 e1 h1 => ?_)
  have z1 := e1.size
  obtain rfl := h1
  simp only [val_dig]
  refine O_eql (t := true) rfl rfl rfl rfl (decide_eq_true (by rw [h0]; rfl)) ?_
  refine WL_end [(0, _), (1, _), (16, _)] ⟨rfl, rfl, rfl, trivial⟩ ?_
  refine WP_condT rfl ?_
  refine WP_seq ?_
  refine WP_region ?_
  refine O_assign rfl rfl rfl ?_
  refine O_assign rfl rfl rfl ?_
  refine O_assign rfl rfl rfl ?_
  refine WL_end [(4, _), (5, _), (6, _)] ⟨rfl, rfl, rfl, trivial⟩ ?_
  refine WP_ret ?_
  refine ret3 Try.results42 rfl rfl rfl ?_
  exact ⟨_, rfl, e1, rfl⟩

theorem lowest_c {w : World} {va vb : Value} {a b : Nat} (ha : Nl w va (dig a)) (hb : Nl w vb (dig b)) (hla : (dig a).length ≤ 100000) (hlb : (dig b).length ≤ 100000) (h0 : b ≠ 0) :
    Calls Try.prog 42 #[va, vb] w (Ret w fun r w' => ∃ p q, r = .tuple #[p, q, .bool true] ∧ No w.heap.size 27 w' p (dig (a / Nat.gcd a b)) ∧ No w.heap.size 27 w' q (dig (b / Nat.gcd a b))) := by
  refine enter (args := [va, vb]) Try.func42 rfl Try.ntmps42 rfl ?_
  refine WP_seq ?_
  refine WP_region ?_
  refine O_assign rfl rfl rfl ?_
  refine O_assign rfl rfl rfl ?_
  refine O_assign rfl rfl rfl ?_
  refine WL_end [(0, _), (1, _)] ⟨rfl, rfl, trivial⟩ ?_
  refine WP_seq ?_
  refine WP_seq ?_
  refine WP_region ?_
  refine O_move rfl rfl rfl ?_
  refine O_call enters51 rfl rfl rfl (bits_c hb (by (try simp only [val_dig, List.length_take, List.length_nil, List.length_cons, List.length_append, List.length_replicate, List.length_set, List.length_map, List.length_drop]); omega)) (fun v1 w1 e1 h1 => ?_)
  have z1 := e1.size
  obtain rfl := h1
  simp only [val_dig]
  refine O_eql (t := false) rfl rfl rfl rfl (decide_eq_false (by have := bl_pos h0; omega)) ?_
  refine WL_end [(0, _), (1, _), (16, _)] ⟨rfl, rfl, rfl, trivial⟩ ?_
  refine WP_condF rfl ?_
  refine WP_skip ?_
  refine WP_seq ?_
  refine WP_region ?_
  refine O_move rfl rfl rfl ?_
  refine O_move rfl rfl rfl ?_
  refine O_call enters38 rfl rfl rfl (gcd_c (ha.ext e1) (hb.ext e1) (by (try simp only [val_dig, List.length_take, List.length_nil, List.length_cons, List.length_append, List.length_replicate, List.length_set, List.length_map, List.length_drop]); omega) (by (try simp only [val_dig, List.length_take, List.length_nil, List.length_cons, List.length_append, List.length_replicate, List.length_set, List.length_map, List.length_drop]); omega)) (fun v2 w2 e2 h2 => ?_)
  have z2 := e2.size
  try simp only [val_dig] at h2
  refine O_assign rfl rfl rfl ?_
  refine WL_end [(0, _), (1, _), (7, _)] ⟨rfl, rfl, rfl, trivial⟩ ?_
  refine WP_seq ?_
  refine WP_region ?_
  refine O_move rfl rfl rfl ?_
  refine O_move rfl rfl rfl ?_
  have hg0 : Nat.gcd a b ≠ 0 := Nat.ne_of_gt (Nat.gcd_pos_of_pos_right _ (Nat.pos_of_ne_zero h0))
  have hLg := dig_len_gcd a b
  refine O_call enters43 rfl rfl rfl (divmod_t (ha.ext (e1.trans e2)) h2.nl (by (try simp only [val_dig, List.length_take, List.length_nil, List.length_cons, List.length_append, List.length_replicate, List.length_set, List.length_map, List.length_drop]); omega) (by (try simp only [val_dig, List.length_take, List.length_nil, List.length_cons, List.length_append, List.length_replicate, List.length_set, List.length_map, List.length_drop]); omega) (by first | assumption | rfl | omega | (simp only [val_dig]; first | assumption | omega) | (simp only [val_dig, val]; decide) | (rw [val_dig]; decide))) (fun v3 w3 e3 h3 => ?_)
  have z3 := e3.size
  try simp only [val_dig] at h3
  obtain ⟨q3, r3, rfl, hq3, hr3⟩ := h3
  refine O_move rfl rfl rfl ?_
  refine O_extract rfl rfl rfl rfl ?_
  refine O_extract rfl rfl rfl rfl ?_
  refine O_extract rfl rfl rfl rfl ?_
  refine O_assign rfl rfl rfl ?_
  refine O_assign rfl rfl rfl ?_
  refine O_assign rfl rfl rfl ?_
  refine WL_end [(1, _), (7, _), (8, _)] ⟨rfl, rfl, rfl, trivial⟩ ?_
  refine WP_seq ?_
  refine WP_region ?_
  refine O_move rfl rfl rfl ?_
  refine O_move rfl rfl rfl ?_
  refine O_call enters43 rfl rfl rfl (divmod_t (hb.ext ((e1.trans e2).trans e3)) (h2.ext e3).nl (by (try simp only [val_dig, List.length_take, List.length_nil, List.length_cons, List.length_append, List.length_replicate, List.length_set, List.length_map, List.length_drop]); omega) (by (try simp only [val_dig, List.length_take, List.length_nil, List.length_cons, List.length_append, List.length_replicate, List.length_set, List.length_map, List.length_drop]); omega) (by first | assumption | rfl | omega | (simp only [val_dig]; first | assumption | omega) | (simp only [val_dig, val]; decide) | (rw [val_dig]; decide))) (fun v4 w4 e4 h4 => ?_)
  have z4 := e4.size
  try simp only [val_dig] at h4
  obtain ⟨q4, r4, rfl, hq4, hr4⟩ := h4
  refine O_move rfl rfl rfl ?_
  refine O_extract rfl rfl rfl rfl ?_
  refine O_extract rfl rfl rfl rfl ?_
  refine O_extract rfl rfl rfl rfl ?_
  refine O_assign rfl rfl rfl ?_
  refine O_assign rfl rfl rfl ?_
  refine O_assign rfl rfl rfl ?_
  refine WL_end [(8, _), (11, _)] ⟨rfl, rfl, trivial⟩ ?_
  refine WP_seq ?_
  refine WP_region ?_
  refine O_move rfl rfl rfl ?_
  refine O_move rfl rfl rfl ?_
  refine O_assign rfl rfl rfl ?_
  refine O_assign rfl rfl rfl ?_
  refine O_assign rfl rfl rfl ?_
  refine WL_end [(4, _), (5, _), (6, _)] ⟨rfl, rfl, rfl, trivial⟩ ?_
  refine WP_ret ?_
  refine ret3 Try.results42 rfl rfl rfl ?_
  exact ⟨_, rfl, (((e1.trans e2).trans e3).trans e4), _, _, rfl, (hq3.ext e4).mono (by omega), hq4.mono (by omega)⟩

theorem rroot_c {w : World} {va : Value} {a k : Nat} (ha : Nl w va (dig a)) (hla : (dig a).length ≤ 30000) (hk1 : 1 ≤ k) (hk64 : k ≤ 64) :
    Calls Try.prog 72 #[va, .int .i64 (k : Nat)] w (Ret w fun r w' => No w.heap.size 27 w' r (dig (rt k a))) := by
  have hL0 : (dig 1).length ≤ 1 := dig_len_of_lt (by decide)
  have hb := bl_dig a
  refine enter (args := [va, _]) Try.func72 rfl Try.ntmps72 rfl ?_
  refine WP_seq ?_
  refine WP_region ?_
  refine O_assign rfl rfl rfl ?_
  refine WL_end [(0, _), (1, _)] ⟨rfl, rfl, trivial⟩ ?_
  refine WP_seq ?_
  refine WP_region ?_
  refine O_assign rfl rfl rfl ?_
  refine WL_end [(0, _), (1, _), (5, _)] ⟨rfl, rfl, rfl, trivial⟩ ?_
  refine WP_seq ?_
  refine WP_seq ?_
  refine WP_region ?_
  refine O_move rfl rfl rfl ?_
  refine O_call enters55 rfl rfl rfl (rbits_c ha (by (try simp only [val_dig, List.length_take, List.length_nil, List.length_cons, List.length_append, List.length_replicate, List.length_set, List.length_map, List.length_drop]); omega)) (fun v1 w1 e1 h1 => ?_)
  have z1 := e1.size
  obtain rfl := h1
  rw [val_dig]
  refine O_move rfl rfl rfl ?_
  refine O_quo rfl rfl rfl rfl (by omega) (quoI (by omega)) ?_
  rw [show ((bl a / k : Nat) : Int) = ((bl a / k + 1 : Nat) : Int) - 1 from by omega]
  refine O_assign rfl rfl rfl ?_
  refine WL_end [(0, _), (1, _), (5, _), (6, _)] ⟨rfl, rfl, rfl, rfl, trivial⟩ ?_
  refine WP_block ?_
  refine WP_loop (S := Nat × Nat × Value) (fun (m, r, out) => [(0, va), (1, .int .i64 (k : Nat)), (5, out), (6, .int .i64 (((m : Nat) : Int) - 1))]) (fun (m, r, out) w' => Ext w w' ∧ No w.heap.size 27 w' out (dig r) ∧ m ≤ bl a + 1 ∧ r ^ k ≤ a ∧ a < (r + 2 ^ m) ^ k) (fun (m, r, out) => m) (bl a / k + 1, 0, .slice none 0 0) ⟨rfl, rfl, rfl, rfl, trivial⟩ ⟨e1, by rw [dig_zero]; exact No.nil _ _ _, by have := Nat.div_le_self (bl a) k; omega, by rw [Nat.zero_pow hk1]; exact Nat.zero_le _, by rw [Nat.zero_add, ← Nat.pow_mul]; exact lt_of_bl (by have := Nat.div_add_mod (bl a) k; have h9 := Nat.mod_lt (bl a) hk1; rw [Nat.add_mul, Nat.one_mul, Nat.mul_comm]; omega)⟩ ?_
  rintro ⟨m, r, out⟩ wL ⟨hE, ho, hm, hr, hra⟩
  show WP _ _ _ _ _ [(0, va), (1, .int .i64 (k : Nat)), (5, out), (6, .int .i64 (((m : Nat) : Int) - 1))] _
  have hz := hE.size
  have hra2 : r ≤ a := by
    rcases Nat.eq_zero_or_pos r with h | h
    · omega
    · exact Nat.le_trans (le_pow hk1 h) hr
  have hL1 := dig_len_mono hra2
  have hL2 := dig_len_2 (m - 1)
  have hL3 := dig_len_add r (2 ^ (m - 1))
  have hL4 := dig_len_pow64 (D_dig (r + 2 ^ (m - 1))) (show (dig (r + 2 ^ (m - 1))).length ≤ 100000 by omega) (e := k) hk64
  rw [val_dig] at hL4
  refine WP_seq ?_
  refine WP_seq ?_
  refine WP_region ?_
  refine O_move rfl rfl rfl ?_
  refine O_geq rfl rfl rfl rfl rfl ?_
  refine WL_end [(0, _), (1, _), (5, _), (6, _), (13, _)] ⟨rfl, rfl, rfl, rfl, rfl, trivial⟩ ?_
  refine WP_condD rfl (fun c13 => ?_) (fun c13 => ?_)
  · --
    refine WP_skip ?_
    refine WP_seq ?_
    refine WP_block ?_
    refine WP_seq ?_
    refine WP_region ?_
    refine O_move rfl rfl rfl ?_
    refine O_call enters18 rfl rfl rfl (rof_c 1 (by decide)) (fun v2 w2 e2 h2 => ?_)
    have z2 := e2.size
    try simp only [val_dig] at h2
    refine O_move rfl rfl rfl ?_
    rw [show ((m : Nat) : Int) - 1 = ((m - 1 : Nat) : Int) from by omega]
    refine O_call enters75 rfl rfl rfl (rshl_c h2.nl (by (try simp only [val_dig, List.length_take, List.length_nil, List.length_cons, List.length_append, List.length_replicate, List.length_set, List.length_map, List.length_drop]); omega) (by (try simp only [val_dig, List.length_take, List.length_nil, List.length_cons, List.length_append, List.length_replicate, List.length_set, List.length_map, List.length_drop]); omega)) (fun v3 w3 e3 h3 => ?_)
    have z3 := e3.size
    try simp only [val_dig] at h3
    rw [Nat.one_mul] at h3
    refine O_call enters19 rfl rfl rfl (radd_c ((ho.ext e2).ext e3).nl h3.nl (by (try simp only [val_dig, List.length_take, List.length_nil, List.length_cons, List.length_append, List.length_replicate, List.length_set, List.length_map, List.length_drop]); omega) (by (try simp only [val_dig, List.length_take, List.length_nil, List.length_cons, List.length_append, List.length_replicate, List.length_set, List.length_map, List.length_drop]); omega)) (fun v4 w4 e4 h4 => ?_)
    have z4 := e4.size
    try simp only [val_dig] at h4
    refine O_assign rfl rfl rfl ?_
    refine WL_end [(0, _), (1, _), (5, _), (6, _), (7, _)] ⟨rfl, rfl, rfl, rfl, rfl, trivial⟩ ?_
    refine WP_seq ?_
    refine WP_region ?_
    refine O_move rfl rfl rfl ?_
    refine O_move rfl rfl rfl ?_
    refine O_call enters37 rfl rfl rfl (rpower_c h4.nl (by (try simp only [val_dig, List.length_take, List.length_nil, List.length_cons, List.length_append, List.length_replicate, List.length_set, List.length_map, List.length_drop]); omega) (by (try simp only [val_dig, List.length_take, List.length_nil, List.length_cons, List.length_append, List.length_replicate, List.length_set, List.length_map, List.length_drop]); omega)) (fun v5 w5 e5 h5 => ?_)
    have z5 := e5.size
    try simp only [val_dig] at h5
    refine O_move rfl rfl rfl ?_
    refine O_call enters46 rfl rfl rfl (rcmp_c h5.nl (ha.ext ((((hE.trans e2).trans e3).trans e4).trans e5)) (by (try simp only [val_dig, List.length_take, List.length_nil, List.length_cons, List.length_append, List.length_replicate, List.length_set, List.length_map, List.length_drop]); omega) (by (try simp only [val_dig, List.length_take, List.length_nil, List.length_cons, List.length_append, List.length_replicate, List.length_set, List.length_map, List.length_drop]); omega)) (fun v6 w6 e6 h6 => ?_)
    have z6 := e6.size
    obtain rfl := h6
    simp only [val_dig]
    refine O_leq rfl rfl rfl rfl rfl ?_
    refine WL_end [(0, _), (1, _), (5, _), (6, _), (7, _), (26, _)] ⟨rfl, rfl, rfl, rfl, rfl, rfl, trivial⟩ ?_
    refine WP_condD rfl (fun c26 => ?_) (fun c26 => ?_)
    · --
      refine WP_region ?_
      refine O_move rfl rfl rfl ?_
      refine O_assign rfl rfl rfl ?_
      refine WL_end [(0, _), (1, _), (5, _), (6, _)] ⟨rfl, rfl, rfl, rfl, trivial⟩ ?_
      refine WP_region ?_
      refine O_move rfl rfl rfl ?_
      refine O_sub rfl rfl rfl rfl (wrap_i64_id (by omega) (by omega)) ?_
      refine O_assign rfl rfl rfl ?_
      refine WL_end [(0, _), (1, _), (5, _), (6, _)] ⟨rfl, rfl, rfl, rfl, trivial⟩ ?_
      exact ⟨(m - 1, r + 2 ^ (m - 1), _), ⟨rfl, rfl, rfl, rfl, trivial⟩, ⟨(((((hE.trans e2).trans e3).trans e4).trans e5).trans e6), ((h4.ext e5).ext e6).mono (by omega), by omega, cmpv_le_zero.1 c26, by rw [Nat.add_assoc, ← Nat.two_mul, ← Nat.pow_succ', show (m - 1).succ = m from by omega]; exact hra⟩, by dsimp only; omega⟩
    · --
      refine WP_skip ?_
      refine WP_region ?_
      refine O_move rfl rfl rfl ?_
      refine O_sub rfl rfl rfl rfl (wrap_i64_id (by omega) (by omega)) ?_
      refine O_assign rfl rfl rfl ?_
      refine WL_end [(0, _), (1, _), (5, _), (6, _)] ⟨rfl, rfl, rfl, rfl, trivial⟩ ?_
      exact ⟨(m - 1, r, _), ⟨rfl, rfl, rfl, rfl, trivial⟩, ⟨(((((hE.trans e2).trans e3).trans e4).trans e5).trans e6), (((((ho.ext e2).ext e3).ext e4).ext e5).ext e6), by omega, hr, Nat.not_le.1 fun h => c26 (cmpv_le_zero.2 h)⟩, by dsimp only; omega⟩
  · --
    refine WP_exit ?_
    refine inBlk_hit ?_
    refine WP_seq ?_
    refine WP_region ?_
    refine O_move rfl rfl rfl ?_
    refine O_assign rfl rfl rfl ?_
    refine WL_end [(4, _)] ⟨rfl, trivial⟩ ?_
    refine WP_ret ?_
    refine ret1 Try.results72 rfl ?_
    obtain rfl : m = 0 := by omega
    rw [Nat.pow_zero] at hra
    rw [rt_eq hk1 hr hra]
    exact ⟨_, rfl, hE, ho⟩

theorem rsqrt_c {w : World} {va : Value} {a : Nat} (ha : Nl w va (dig a)) (hla : (dig a).length ≤ 30000) :
    Calls Try.prog 59 #[va] w (Ret w fun r w' => ∃ q s, r = .tuple #[q, s] ∧ No w.heap.size 27 w' q (dig (rt 2 a)) ∧ No w.heap.size 27 w' s (dig (a - rt 2 a * rt 2 a))) := by
  have hL1 := dig_len_mono (rt_le_self a (k := 2) (by decide))
  have hL2 := dig_len_mono (sq_le a)
  refine enter (args := [va]) Try.func59 rfl Try.ntmps59 rfl ?_
  refine WP_seq ?_
  refine WP_region ?_
  refine O_assign rfl rfl rfl ?_
  refine O_assign rfl rfl rfl ?_
  refine WL_end [(0, _)] ⟨rfl, trivial⟩ ?_
  refine WP_seq ?_
  refine WP_region ?_
  refine O_move rfl rfl rfl ?_
  refine O_call enters72 rfl rfl rfl (rroot_c (k := 2) ha (by (try simp only [val_dig, List.length_take, List.length_nil, List.length_cons, List.length_append, List.length_replicate, List.length_set, List.length_map, List.length_drop]); omega) (by decide) (by decide)) (fun v1 w1 e1 h1 => ?_)
  have z1 := e1.size
  try simp only [val_dig] at h1
  refine O_assign rfl rfl rfl ?_
  refine WL_end [(0, _), (4, _)] ⟨rfl, rfl, trivial⟩ ?_
  refine WP_seq ?_
  refine WP_region ?_
  refine O_move rfl rfl rfl ?_
  refine O_move rfl rfl rfl ?_
  refine O_move rfl rfl rfl ?_
  refine O_move rfl rfl rfl ?_
  refine O_call enters16 rfl rfl rfl (rmul_c h1.nl h1.nl (by (try simp only [val_dig, List.length_take, List.length_nil, List.length_cons, List.length_append, List.length_replicate, List.length_set, List.length_map, List.length_drop]); omega) (by (try simp only [val_dig, List.length_take, List.length_nil, List.length_cons, List.length_append, List.length_replicate, List.length_set, List.length_map, List.length_drop]); omega)) (fun v2 w2 e2 h2 => ?_)
  have z2 := e2.size
  try simp only [val_dig] at h2
  refine O_call enters20 rfl rfl rfl (less_c (ha.ext (e1.trans e2)) h2.nl (by (try simp only [val_dig, List.length_take, List.length_nil, List.length_cons, List.length_append, List.length_replicate, List.length_set, List.length_map, List.length_drop]); omega) (by (try simp only [val_dig, List.length_take, List.length_nil, List.length_cons, List.length_append, List.length_replicate, List.length_set, List.length_map, List.length_drop]); omega)) (fun v3 w3 e3 h3 => ?_)
  have z3 := e3.size
  try simp only [val_dig] at h3
  refine O_assign rfl rfl rfl ?_
  refine O_assign rfl rfl rfl ?_
  refine WL_end [(2, _), (3, _)] ⟨rfl, rfl, trivial⟩ ?_
  refine WP_ret ?_
  refine ret2 Try.results59 rfl rfl ?_
  exact ⟨_, rfl, ((e1.trans e2).trans e3), _, _, rfl, ((h1.ext e2).ext e3).mono (by omega), h3.mono (by omega)⟩

theorem refsquare_c {w : World} {va : Value} {a : Nat} (ha : Nl w va (dig a)) (hla : (dig a).length ≤ 30000) :
    Calls Try.prog 41 #[va] w (Ret w fun r w' => ∃ q, r = .tuple #[q, .bool (sqb a)] ∧ No w.heap.size 27 w' q (dig (sqq a))) := by
  refine enter (args := [va]) Try.func41 rfl Try.ntmps41 rfl ?_
  refine WP_seq ?_
  refine WP_region ?_
  refine O_assign rfl rfl rfl ?_
  refine O_assign rfl rfl rfl ?_
  refine WL_end [(0, _)] ⟨rfl, trivial⟩ ?_
  refine WP_seq ?_
  refine WP_region ?_
  refine O_move rfl rfl rfl ?_
  refine O_call enters59 rfl rfl rfl (rsqrt_c ha (by (try simp only [val_dig, List.length_take, List.length_nil, List.length_cons, List.length_append, List.length_replicate, List.length_set, List.length_map, List.length_drop]); omega)) (fun v1 w1 e1 h1 => ?_)
  have z1 := e1.size
  try simp only [val_dig] at h1
  obtain ⟨q1, r1, rfl, hq1, hr1⟩ := h1
  refine O_move rfl rfl rfl ?_
  refine O_extract rfl rfl rfl rfl ?_
  refine O_extract rfl rfl rfl rfl ?_
  refine O_assign rfl rfl rfl ?_
  refine O_assign rfl rfl rfl ?_
  refine WL_end [(4, _), (5, _)] ⟨rfl, rfl, trivial⟩ ?_
  refine WP_seq ?_
  refine WP_seq ?_
  refine WP_region ?_
  refine O_move rfl rfl rfl ?_
  refine N_len T22 rfl rfl rfl hr1.nl ?_
  refine O_gtr rfl rfl rfl rfl rfl ?_
  refine WL_end [(4, _), (13, _)] ⟨rfl, rfl, trivial⟩ ?_
  refine WP_condD rfl (fun c13 => ?_) (fun c13 => ?_)
  · --
    refine WP_seq ?_
    refine WP_region ?_
    refine O_assign rfl rfl rfl ?_
    refine O_assign rfl rfl rfl ?_
    refine WL_end [(2, _), (3, _)] ⟨rfl, rfl, trivial⟩ ?_
    refine WP_ret ?_
    refine ret2 Try.results41 rfl rfl ?_
    have h1 : a - rt 2 a * rt 2 a ≠ 0 := fun e => absurd (dig_len_zero.2 e) (by omega)
    rw [sqb_no h1, sqq_no h1, dig_zero]
    exact ⟨_, rfl, e1, _, rfl, No.nil _ _ _⟩
  · --
    refine WP_skip ?_
    refine WP_seq ?_
    refine WP_region ?_
    refine O_move rfl rfl rfl ?_
    refine O_assign rfl rfl rfl ?_
    refine O_assign rfl rfl rfl ?_
    refine WL_end [(2, _), (3, _)] ⟨rfl, rfl, trivial⟩ ?_
    refine WP_ret ?_
    refine ret2 Try.results41 rfl rfl ?_
    have h1 : a - rt 2 a * rt 2 a = 0 := dig_len_zero.1 (by omega)
    rw [sqb_yes h1, sqq_yes h1]
    exact ⟨_, rfl, e1, _, rfl, hq1.mono (by omega)⟩

end Go.Proofs.Ytbaapijfenmhiaa
