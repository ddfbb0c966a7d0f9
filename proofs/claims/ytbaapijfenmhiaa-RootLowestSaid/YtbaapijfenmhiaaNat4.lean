/-
  Walks.
-/
import Derived.Test.YtbaapijfenmhiaaNat3
set_option linter.unusedVariables false
set_option linter.unusedSimpArgs false
set_option maxRecDepth 100000
namespace Go.Proofs.Ytbaapijfenmhiaa
open Go Go.RowKit
theorem power_c {w : World} {v : Value} {l : List Nat} {n : Nat} (hs : Nl w v l) (hl : l.length ≤ 100000) (hn : n ≤ 64) :
    Calls Try.prog 68 #[v, .int .i64 (n : Nat)] w (Ret w fun r w' => No w.heap.size 27 w' r (dig (val l ^ n))) := by
  refine enter (args := [v, _]) Try.func68 rfl Try.ntmps68 rfl ?_
  refine WP_seq ?_
  refine WP_region ?_
  refine O_assign rfl rfl rfl ?_
  refine WL_end [(0, _), (1, _)] ⟨rfl, rfl, trivial⟩ ?_
  refine WP_seq ?_
  refine WP_region ?_
  refine O_move rfl rfl rfl ?_
  refine O_max (r := ((n : Nat) : Int)) rfl rfl rfl rfl (by omega) ?_
  refine O_min (r := ((n : Nat) : Int)) rfl rfl rfl rfl (by omega) ?_
  refine O_assign rfl rfl rfl ?_
  refine WL_end [(0, _), (1, _)] ⟨rfl, rfl, trivial⟩ ?_
  refine WP_seq ?_
  refine WP_region ?_
  refine O_call enters44 rfl rfl rfl (of_c 1 (by decide)) (fun v1 w1 e1 h1 => ?_)
  have z1 := e1.size
  try simp only [val_dig] at h1
  rw [show dig 1 = dig (val l ^ (n / 2 ^ 7)) from by rw [show n / 2 ^ 7 = 0 from by omega, Nat.pow_zero]] at h1
  refine O_assign rfl rfl rfl ?_
  refine WL_end [(0, _), (1, _), (5, _)] ⟨rfl, rfl, rfl, trivial⟩ ?_
  refine WP_seq ?_
  refine WP_seq ?_
  refine WP_region ?_
  refine O_assign rfl rfl rfl ?_
  refine WL_end [(0, _), (1, _), (5, _), (6, _)] ⟨rfl, rfl, rfl, rfl, trivial⟩ ?_
  refine WP_block ?_
  refine WP_loop (S := Nat × Value) (fun (k, out) => [(0, v), (1, .int .i64 (n : Nat)), (5, out), (6, .int .i64 (((k : Nat) : Int) - 1))]) (fun (k, out) w' => Ext w w' ∧ k ≤ 7 ∧ No w.heap.size 27 w' out (dig (val l ^ (n / 2 ^ k)))) (fun (k, out) => k) (7, _) ⟨rfl, rfl, rfl, rfl, trivial⟩ ⟨e1, by omega, h1⟩ ?_
  rintro ⟨k, out⟩ w1 ⟨hE, hk, ho⟩
  show WP _ _ _ _ _ [(0, v), (1, .int .i64 (n : Nat)), (5, out), (6, .int .i64 (((k : Nat) : Int) - 1))] _
  have hz := hE.size
  have hdv : n / 2 ^ k ≤ n := Nat.div_le_self _ _
  have hL := dig_len_pow64 hs.d hl (e := n / 2 ^ k) (by omega)
  have hq : n / 2 ^ (k - 1) < 9223372036854775808 := Nat.lt_of_le_of_lt (Nat.div_le_self _ _) (by omega)
  refine WP_seq ?_
  refine WP_seq ?_
  refine WP_region ?_
  refine O_move rfl rfl rfl ?_
  refine O_geq rfl rfl rfl rfl rfl ?_
  refine WL_end [(0, _), (1, _), (5, _), (6, _), (12, _)] ⟨rfl, rfl, rfl, rfl, rfl, trivial⟩ ?_
  refine WP_condD rfl (fun c12 => ?_) (fun c12 => ?_)
  · --
    refine WP_skip ?_
    refine WP_seq ?_
    refine WP_block ?_
    refine WP_seq ?_
    refine WP_seq ?_
    refine WP_region ?_
    refine O_move rfl rfl rfl ?_
    refine N_len T22 rfl rfl rfl ho.nl ?_
    refine O_neq rfl rfl rfl rfl rfl ?_
    refine O_move rfl rfl rfl ?_
    refine WL_ndec 18 rfl (fun g18 => ?_) (fun g18 => ?_)
    · --
      refine O_skip rfl rfl ?_
      refine O_skip rfl rfl ?_
      refine O_skip rfl rfl ?_
      refine O_skip rfl rfl ?_
      refine O_pickT rfl rfl rfl rfl ?_
      refine WL_end [(0, _), (1, _), (5, _), (6, _), (23, _)] ⟨rfl, rfl, rfl, rfl, rfl, trivial⟩ ?_
      refine WP_joinK (S := Value) (fun o2 => [(0, v), (1, .int .i64 (n : Nat)), (5, o2), (6, .int .i64 (((k : Nat) : Int) - 1))]) (fun o2 w' => Ext w w' ∧ No w.heap.size 27 w' o2 (dig (val l ^ (2 * (n / 2 ^ k))))) ?_ ?_
      · --
        refine WP_condT rfl ?_
        refine WP_region ?_
        refine O_move rfl rfl rfl ?_
        refine O_call enters53 rfl rfl rfl (square_c ho.nl (by omega)) (fun v2 w2 e2 h2 => ?_)
        have z2 := e2.size
        try simp only [val_dig] at h2
        refine O_assign rfl rfl rfl ?_
        refine WL_end [(0, _), (1, _), (5, _), (6, _)] ⟨rfl, rfl, rfl, rfl, trivial⟩ ?_
        rw [← Nat.pow_add, ← Nat.two_mul] at h2
        exact ⟨_, ⟨rfl, rfl, rfl, rfl, trivial⟩, hE.trans e2, h2.mono hz⟩
      · rintro o2 w2 ⟨hE2, ho2⟩
        have hz2 := hE2.size
        have hL2 := dig_len_pow64 hs.d hl (e := 2 * (n / 2 ^ k)) (by have h7 := half_step n k (by omega); have h8 := Nat.div_le_self n (2 ^ (k - 1)); omega)
        refine WP_seq ?_
        refine WP_region ?_
        refine O_move rfl rfl rfl ?_
        refine O_move rfl rfl rfl ?_
        refine O_shr (r := ((n / 2 ^ (k - 1) : Nat) : Int)) rfl rfl rfl rfl (by omega) (shrI (by omega) (by omega)) ?_
        refine O_and (r := ((n / 2 ^ (k - 1) % 2 : Nat) : Int)) rfl rfl rfl rfl (and1 hq) ?_
        refine O_eql rfl rfl rfl rfl rfl ?_
        refine WL_end [(0, _), (1, _), (5, _), (6, _), (30, _)] ⟨rfl, rfl, rfl, rfl, rfl, trivial⟩ ?_
        refine WP_condD rfl (fun c30 => ?_) (fun c30 => ?_)
        · --
          refine WP_region ?_
          refine O_move rfl rfl rfl ?_
          refine O_move rfl rfl rfl ?_
          refine O_call enters27 rfl rfl rfl (mul_c ho2.nl (hs.ext hE2) (by omega) (by omega)) (fun v3 w3 e3 h3 => ?_)
          have z3 := e3.size
          try simp only [val_dig] at h3
          refine O_assign rfl rfl rfl ?_
          refine WL_end [(0, _), (1, _), (5, _), (6, _)] ⟨rfl, rfl, rfl, rfl, trivial⟩ ?_
          refine WP_region ?_
          refine O_move rfl rfl rfl ?_
          refine O_sub (r := ((k - 1 : Nat) : Int) - 1) rfl rfl rfl rfl (by rw [IntKind.wrap_i64]; omega) ?_
          refine O_assign rfl rfl rfl ?_
          refine WL_end [(0, _), (1, _), (5, _), (6, _)] ⟨rfl, rfl, rfl, rfl, trivial⟩ ?_
          have hst := half_step n k (by omega)
          rw [show n / 2 ^ (k - 1) % 2 = 1 from by omega] at hst
          refine ⟨(k - 1, _), ⟨rfl, rfl, rfl, rfl, trivial⟩, ⟨(hE2.trans e3), by omega, ?_⟩, by dsimp only; omega⟩
          rw [hst, Nat.pow_succ]
          exact h3.mono (by omega)
        · --
          refine WP_skip ?_
          refine WP_region ?_
          refine O_move rfl rfl rfl ?_
          refine O_sub (r := ((k - 1 : Nat) : Int) - 1) rfl rfl rfl rfl (by rw [IntKind.wrap_i64]; omega) ?_
          refine O_assign rfl rfl rfl ?_
          refine WL_end [(0, _), (1, _), (5, _), (6, _)] ⟨rfl, rfl, rfl, rfl, trivial⟩ ?_
          have hst := half_step n k (by omega)
          refine ⟨(k - 1, _), ⟨rfl, rfl, rfl, rfl, trivial⟩, ⟨hE2, by omega, ?_⟩, by dsimp only; omega⟩
          rw [hst, show n / 2 ^ (k - 1) % 2 = 0 from by omega]
          exact ho2
    · --
      refine O_move rfl rfl rfl ?_
      refine N_index T22 rfl rfl rfl rfl ho.nl 0 rfl (by omega) ?_
      refine N_load Try.underlying27 rfl rfl rfl ho.nl (by omega) (fun d21 => ?_)
      refine O_neq rfl rfl rfl rfl rfl ?_
      refine O_pickF rfl rfl rfl rfl ?_
      refine WL_end [(0, _), (1, _), (5, _), (6, _), (23, _)] ⟨rfl, rfl, rfl, rfl, rfl, trivial⟩ ?_
      refine WP_joinK (S := Value) (fun o2 => [(0, v), (1, .int .i64 (n : Nat)), (5, o2), (6, .int .i64 (((k : Nat) : Int) - 1))]) (fun o2 w' => Ext w w' ∧ No w.heap.size 27 w' o2 (dig (val l ^ (2 * (n / 2 ^ k))))) ?_ ?_
      · --
        refine WP_condN rfl (fun c23 => ?_) (fun c23 => ?_)
        · --
          refine WP_region ?_
          refine O_move rfl rfl rfl ?_
          refine O_call enters53 rfl rfl rfl (square_c ho.nl (by omega)) (fun v4 w4 e4 h4 => ?_)
          have z4 := e4.size
          try simp only [val_dig] at h4
          refine O_assign rfl rfl rfl ?_
          refine WL_end [(0, _), (1, _), (5, _), (6, _)] ⟨rfl, rfl, rfl, rfl, trivial⟩ ?_
          rw [← Nat.pow_add, ← Nat.two_mul] at h4
          exact ⟨_, ⟨rfl, rfl, rfl, rfl, trivial⟩, hE.trans e4, h4.mono hz⟩
        · --
          refine WP_skip ?_
          have hX : dig (val l ^ (n / 2 ^ k)) = [1] := by
            have hlen : (dig (val l ^ (n / 2 ^ k))).length = 1 := by omega
            have h0 : (dig (val l ^ (n / 2 ^ k))).getD 0 0 = 1 := by omega
            obtain ⟨x, hx⟩ := List.length_eq_one_iff.1 hlen
            rw [hx] at h0 ⊢
            simp at h0; rw [h0]
          have hX1 : val l ^ (n / 2 ^ k) = 1 := dig_inj (by rw [hX, dig_one])
          have hX2 : val l ^ (2 * (n / 2 ^ k)) = val l ^ (n / 2 ^ k) := by rw [Nat.two_mul, Nat.pow_add, hX1]
          exact ⟨_, ⟨rfl, rfl, rfl, rfl, trivial⟩, hE, by rw [hX2]; exact ho⟩
      · rintro o2 w2 ⟨hE2, ho2⟩
        have hz2 := hE2.size
        have hL2 := dig_len_pow64 hs.d hl (e := 2 * (n / 2 ^ k)) (by have h7 := half_step n k (by omega); have h8 := Nat.div_le_self n (2 ^ (k - 1)); omega)
        refine WP_seq ?_
        refine WP_region ?_
        refine O_move rfl rfl rfl ?_
        refine O_move rfl rfl rfl ?_
        refine O_shr (r := ((n / 2 ^ (k - 1) : Nat) : Int)) rfl rfl rfl rfl (by omega) (shrI (by omega) (by omega)) ?_
        refine O_and (r := ((n / 2 ^ (k - 1) % 2 : Nat) : Int)) rfl rfl rfl rfl (and1 hq) ?_
        refine O_eql rfl rfl rfl rfl rfl ?_
        refine WL_end [(0, _), (1, _), (5, _), (6, _), (30, _)] ⟨rfl, rfl, rfl, rfl, rfl, trivial⟩ ?_
        refine WP_condD rfl (fun c30 => ?_) (fun c30 => ?_)
        · --
          refine WP_region ?_
          refine O_move rfl rfl rfl ?_
          refine O_move rfl rfl rfl ?_
          refine O_call enters27 rfl rfl rfl (mul_c ho2.nl (hs.ext hE2) (by omega) (by omega)) (fun v5 w5 e5 h5 => ?_)
          have z5 := e5.size
          try simp only [val_dig] at h5
          refine O_assign rfl rfl rfl ?_
          refine WL_end [(0, _), (1, _), (5, _), (6, _)] ⟨rfl, rfl, rfl, rfl, trivial⟩ ?_
          refine WP_region ?_
          refine O_move rfl rfl rfl ?_
          refine O_sub (r := ((k - 1 : Nat) : Int) - 1) rfl rfl rfl rfl (by rw [IntKind.wrap_i64]; omega) ?_
          refine O_assign rfl rfl rfl ?_
          refine WL_end [(0, _), (1, _), (5, _), (6, _)] ⟨rfl, rfl, rfl, rfl, trivial⟩ ?_
          have hst := half_step n k (by omega)
          rw [show n / 2 ^ (k - 1) % 2 = 1 from by omega] at hst
          refine ⟨(k - 1, _), ⟨rfl, rfl, rfl, rfl, trivial⟩, ⟨(hE2.trans e5), by omega, ?_⟩, by dsimp only; omega⟩
          rw [hst, Nat.pow_succ]
          exact h5.mono (by omega)
        · --
          refine WP_skip ?_
          refine WP_region ?_
          refine O_move rfl rfl rfl ?_
          refine O_sub (r := ((k - 1 : Nat) : Int) - 1) rfl rfl rfl rfl (by rw [IntKind.wrap_i64]; omega) ?_
          refine O_assign rfl rfl rfl ?_
          refine WL_end [(0, _), (1, _), (5, _), (6, _)] ⟨rfl, rfl, rfl, rfl, trivial⟩ ?_
          have hst := half_step n k (by omega)
          refine ⟨(k - 1, _), ⟨rfl, rfl, rfl, rfl, trivial⟩, ⟨hE2, by omega, ?_⟩, by dsimp only; omega⟩
          rw [hst, show n / 2 ^ (k - 1) % 2 = 0 from by omega]
          exact ho2
  · --
    refine WP_exit ?_
    refine inBlk_hit ?_
    refine WP_seq ?_
    refine WP_region ?_
    refine O_move rfl rfl rfl ?_
    refine O_assign rfl rfl rfl ?_
    refine WL_end [(4, _)] ⟨rfl, trivial⟩ ?_
    refine WP_ret ?_
    refine ret1 Try.results68 rfl ?_
    have hk0 : k = 0 := by omega
    subst hk0
    simp only [Nat.pow_zero, Nat.div_one] at ho
    exact ⟨_, rfl, hE, ho⟩

theorem rpower_c {w : World} {v : Value} {l : List Nat} {n : Nat} (hs : Nl w v l) (hl : l.length ≤ 100000) (hn : n ≤ 64) :
    Calls Try.prog 37 #[v, .int .i64 (n : Nat)] w (Ret w fun r w' => No w.heap.size 27 w' r (dig (val l ^ n))) := by
  refine enter (args := [v, _]) Try.func37 rfl Try.ntmps37 rfl ?_
  refine WP_seq ?_
  refine WP_region ?_
  refine O_assign rfl rfl rfl ?_
  refine WL_end [(0, _), (1, _)] ⟨rfl, rfl, trivial⟩ ?_
  refine WP_seq ?_
  refine WP_region ?_
  refine O_call enters18 rfl rfl rfl (rof_c 1 (by decide)) (fun v1 w1 e1 h1 => ?_)
  have z1 := e1.size
  try simp only [val_dig] at h1
  refine O_assign rfl rfl rfl ?_
  refine WL_end [(0, _), (1, _), (5, _)] ⟨rfl, rfl, rfl, trivial⟩ ?_
  refine WP_seq ?_
  refine WP_seq ?_
  refine WP_region ?_
  refine O_move rfl rfl rfl ?_
  refine O_move rfl rfl rfl ?_
  refine WL_end [(0, _), (5, _), (7, _), (8, _)] ⟨rfl, rfl, rfl, rfl, trivial⟩ ?_
  refine WP_block ?_
  refine WP_loop (S := Nat × Value) (fun (i, out) => [(0, v), (5, out), (7, .int .i64 (n : Nat)), (8, .int .i64 (i : Nat))]) (fun (i, out) w' => Ext w w' ∧ i ≤ n ∧ No w.heap.size 27 w' out (dig (val l ^ i))) (fun (i, out) => n - i) (0, _) ⟨rfl, rfl, rfl, rfl, trivial⟩ ⟨e1, by omega, by simpa using h1⟩ ?_
  rintro ⟨i, out⟩ w1 ⟨hE, hi, ho⟩
  show WP _ _ _ _ _ [(0, v), (5, out), (7, .int .i64 (n : Nat)), (8, .int .i64 (i : Nat))] _
  have hz := hE.size
  have hL := dig_len_pow64 hs.d hl (e := i) (by omega)
  refine WP_seq ?_
  refine WP_region ?_
  refine O_lss rfl rfl rfl rfl rfl ?_
  refine WL_end [(0, _), (5, _), (7, _), (8, _), (9, _)] ⟨rfl, rfl, rfl, rfl, rfl, trivial⟩ ?_
  refine WP_seq ?_
  refine WP_condD rfl (fun c9 => ?_) (fun c9 => ?_)
  · --
    refine WP_skip ?_
    refine WP_seq ?_
    refine WP_block ?_
    refine WP_region ?_
    refine O_move rfl rfl rfl ?_
    refine O_move rfl rfl rfl ?_
    refine O_call enters16 rfl rfl rfl (rmul_c ho.nl (hs.ext hE) (by (try simp only [val_dig, List.length_take, List.length_nil, List.length_cons, List.length_append, List.length_replicate, List.length_set, List.length_map, List.length_drop]); omega) (by (try simp only [val_dig, List.length_take, List.length_nil, List.length_cons, List.length_append, List.length_replicate, List.length_set, List.length_map, List.length_drop]); omega)) (fun v2 w2 e2 h2 => ?_)
    have z2 := e2.size
    try simp only [val_dig] at h2
    refine O_assign rfl rfl rfl ?_
    refine WL_end [(0, _), (5, _), (7, _), (8, _)] ⟨rfl, rfl, rfl, rfl, trivial⟩ ?_
    refine WP_region ?_
    refine O_add rfl rfl rfl rfl (wrap_i64_id (by omega) (by omega)) ?_
    refine O_move rfl rfl rfl ?_
    refine WL_end [(0, _), (5, _), (7, _), (8, _)] ⟨rfl, rfl, rfl, rfl, trivial⟩ ?_
    rw [← Nat.pow_succ] at h2
    exact ⟨(i + 1, _), ⟨rfl, rfl, rfl, rfl, trivial⟩, ⟨hE.trans e2, by omega, h2.mono hz⟩, by dsimp only; omega⟩
  · --
    refine WP_exit ?_
    refine inBlk_hit ?_
    refine WP_seq ?_
    refine WP_region ?_
    refine O_move rfl rfl rfl ?_
    refine O_assign rfl rfl rfl ?_
    refine WL_end [(4, _)] ⟨rfl, trivial⟩ ?_
    refine WP_ret ?_
    refine ret1 Try.results37 rfl ?_
    have hi2 : i = n := by omega
    subst hi2
    exact ⟨_, rfl, hE, ho⟩

theorem len32_c {w : World} {x : Nat} (hx : x < 4294967296) :
    Calls Try.prog 66 #[.int .u32 (x : Nat)] w (Ret w fun r _ => r = .int .i64 (bl x : Nat)) := by
  have b0 : bl x ≤ 32 := bl_le hx
  have b1 : bl (x / 2 ^ 16) ≤ 32 := bl_le (by omega)
  have b2 : bl (x / 2 ^ 8) ≤ 32 := bl_le (by omega)
  have b3 : bl (x / 2 ^ 16 / 2 ^ 8) ≤ 32 := bl_le (by omega)
  refine enter (args := [_]) Try.func66 rfl Try.ntmps66 rfl ?_
  refine WP_seq ?_
  refine WP_region ?_
  refine O_assign rfl rfl rfl ?_
  refine WL_end [(0, _), (2, _)] ⟨rfl, rfl, trivial⟩ ?_
  refine WP_seq ?_
  refine WP_seq ?_
  refine WP_region ?_
  refine O_move rfl rfl rfl ?_
  refine O_geq rfl rfl rfl rfl rfl ?_
  refine WL_end [(0, _), (2, _), (4, _)] ⟨rfl, rfl, rfl, trivial⟩ ?_
  refine WP_condD rfl (fun c4 => ?_) (fun c4 => ?_)
  · --
    refine WP_seq ?_
    refine WP_region ?_
    refine O_move rfl rfl rfl ?_
    refine O_shr (r := ((x / 2 ^ 16 : Nat) : Int)) rfl rfl rfl rfl (by decide) (shrU32 (m := 16) (by decide)) ?_
    refine O_assign rfl rfl rfl ?_
    refine WL_end [(0, _)] ⟨rfl, trivial⟩ ?_
    refine WP_region ?_
    refine O_assign rfl rfl rfl ?_
    refine WL_end [(0, _), (2, _)] ⟨rfl, rfl, trivial⟩ ?_
    refine WP_seq ?_
    refine WP_seq ?_
    refine WP_region ?_
    refine O_move rfl rfl rfl ?_
    refine O_geq rfl rfl rfl rfl rfl ?_
    refine WL_end [(0, _), (2, _), (8, _)] ⟨rfl, rfl, rfl, trivial⟩ ?_
    refine WP_condD rfl (fun c8 => ?_) (fun c8 => ?_)
    · --
      refine WP_seq ?_
      refine WP_region ?_
      refine O_move rfl rfl rfl ?_
      refine O_shr (r := ((x / 2 ^ 16 / 2 ^ 8 : Nat) : Int)) rfl rfl rfl rfl (by decide) (shrU32 (m := 8) (by decide)) ?_
      refine O_assign rfl rfl rfl ?_
      refine WL_end [(0, _), (2, _)] ⟨rfl, rfl, trivial⟩ ?_
      refine WP_region ?_
      refine O_move rfl rfl rfl ?_
      refine O_add rfl rfl rfl rfl (wrap_i64_id (by omega) (by omega)) ?_
      refine O_assign rfl rfl rfl ?_
      refine WL_end [(0, _), (2, _)] ⟨rfl, rfl, trivial⟩ ?_
      refine WP_seq ?_
      refine WP_region ?_
      refine O_move rfl rfl rfl ?_
      refine O_move rfl rfl rfl ?_
      refine O_conv Try.underlying27 Try.underlying5 rfl rfl rfl (wrap_u8_id (by omega) (by omega)) ?_
      refine O_indexStr Try.underlying9 rfl rfl rfl rfl _ rfl (tab_at (by decide +kernel) (by omega)) ?_
      rw [bl_byte (by omega)]
      refine O_conv Try.underlying5 Try.underlying3 rfl rfl rfl (wrap_i64_id (by omega) (by omega)) ?_
      refine O_add rfl rfl rfl rfl (wrap_i64_id (by omega) (by omega)) ?_
      refine O_assign rfl rfl rfl ?_
      refine WL_end [(2, _)] ⟨rfl, trivial⟩ ?_
      refine WP_ret ?_
      refine ret1 Try.results66 rfl ?_
      have h1 := bl_shift (x := x) (s := 16) (by omega)
      have h2 := bl_shift (x := x / 2 ^ 16) (s := 8) (by omega)
      exact ⟨_, rfl, Ext.refl _, by rw [h1, h2]; first | rfl | (congr 1; omega)⟩
    · --
      refine WP_skip ?_
      refine WP_seq ?_
      refine WP_region ?_
      refine O_move rfl rfl rfl ?_
      refine O_move rfl rfl rfl ?_
      refine O_conv Try.underlying27 Try.underlying5 rfl rfl rfl (wrap_u8_id (by omega) (by omega)) ?_
      refine O_indexStr Try.underlying9 rfl rfl rfl rfl _ rfl (tab_at (by decide +kernel) (by omega)) ?_
      rw [bl_byte (by omega)]
      refine O_conv Try.underlying5 Try.underlying3 rfl rfl rfl (wrap_i64_id (by omega) (by omega)) ?_
      refine O_add rfl rfl rfl rfl (wrap_i64_id (by omega) (by omega)) ?_
      refine O_assign rfl rfl rfl ?_
      refine WL_end [(2, _)] ⟨rfl, trivial⟩ ?_
      refine WP_ret ?_
      refine ret1 Try.results66 rfl ?_
      have h1 := bl_shift (x := x) (s := 16) (by omega)
      exact ⟨_, rfl, Ext.refl _, by rw [h1]; first | rfl | (congr 1; omega)⟩
  · --
    refine WP_skip ?_
    refine WP_seq ?_
    refine WP_seq ?_
    refine WP_region ?_
    refine O_move rfl rfl rfl ?_
    refine O_geq rfl rfl rfl rfl rfl ?_
    refine WL_end [(0, _), (2, _), (8, _)] ⟨rfl, rfl, rfl, trivial⟩ ?_
    refine WP_condD rfl (fun c8 => ?_) (fun c8 => ?_)
    · --
      refine WP_seq ?_
      refine WP_region ?_
      refine O_move rfl rfl rfl ?_
      refine O_shr (r := ((x / 2 ^ 8 : Nat) : Int)) rfl rfl rfl rfl (by decide) (shrU32 (m := 8) (by decide)) ?_
      refine O_assign rfl rfl rfl ?_
      refine WL_end [(0, _), (2, _)] ⟨rfl, rfl, trivial⟩ ?_
      refine WP_region ?_
      refine O_move rfl rfl rfl ?_
      refine O_add rfl rfl rfl rfl (wrap_i64_id (by omega) (by omega)) ?_
      refine O_assign rfl rfl rfl ?_
      refine WL_end [(0, _), (2, _)] ⟨rfl, rfl, trivial⟩ ?_
      refine WP_seq ?_
      refine WP_region ?_
      refine O_move rfl rfl rfl ?_
      refine O_move rfl rfl rfl ?_
      refine O_conv Try.underlying27 Try.underlying5 rfl rfl rfl (wrap_u8_id (by omega) (by omega)) ?_
      refine O_indexStr Try.underlying9 rfl rfl rfl rfl _ rfl (tab_at (by decide +kernel) (by omega)) ?_
      rw [bl_byte (by omega)]
      refine O_conv Try.underlying5 Try.underlying3 rfl rfl rfl (wrap_i64_id (by omega) (by omega)) ?_
      refine O_add rfl rfl rfl rfl (wrap_i64_id (by omega) (by omega)) ?_
      refine O_assign rfl rfl rfl ?_
      refine WL_end [(2, _)] ⟨rfl, trivial⟩ ?_
      refine WP_ret ?_
      refine ret1 Try.results66 rfl ?_
      have h1 := bl_shift (x := x) (s := 8) (by omega)
      exact ⟨_, rfl, Ext.refl _, by rw [h1]; first | rfl | (congr 1; omega)⟩
    · --
      refine WP_skip ?_
      refine WP_seq ?_
      refine WP_region ?_
      refine O_move rfl rfl rfl ?_
      refine O_move rfl rfl rfl ?_
      refine O_conv Try.underlying27 Try.underlying5 rfl rfl rfl (wrap_u8_id (by omega) (by omega)) ?_
      refine O_indexStr Try.underlying9 rfl rfl rfl rfl _ rfl (tab_at (by decide +kernel) (by omega)) ?_
      rw [bl_byte (by omega)]
      refine O_conv Try.underlying5 Try.underlying3 rfl rfl rfl (wrap_i64_id (by omega) (by omega)) ?_
      refine O_add rfl rfl rfl rfl (wrap_i64_id (by omega) (by omega)) ?_
      refine O_assign rfl rfl rfl ?_
      refine WL_end [(2, _)] ⟨rfl, trivial⟩ ?_
      refine WP_ret ?_
      refine ret1 Try.results66 rfl ?_
      exact ⟨_, rfl, Ext.refl _, by first | rfl | (congr 1; omega)⟩

theorem bits_c {w : World} {v : Value} {l : List Nat} (hs : Nl w v l) (hl : l.length ≤ 100000000) :
    Calls Try.prog 51 #[v] w (Ret w fun r _ => r = .int .i64 (bl (val l) : Nat)) := by
  have hsz := sz_le hs.d
  have hbt : bl (l.getD (sz l - 1) 0) ≤ 32 := bl_le (hs.d.getD _)
  refine enter (args := [v]) Try.func51 rfl Try.ntmps51 rfl ?_
  refine WP_seq ?_
  refine WP_region ?_
  refine O_assign rfl rfl rfl ?_
  refine WL_end [(0, _)] ⟨rfl, trivial⟩ ?_
  refine WP_seq ?_
  refine WP_region ?_
  refine O_move rfl rfl rfl ?_
  refine O_call enters49 rfl rfl rfl (size_c hs) (fun v1 w1 e1 h1 => ?_)
  have z1 := e1.size
  obtain rfl := h1
  refine O_assign rfl rfl rfl ?_
  refine WL_end [(0, _), (3, _)] ⟨rfl, rfl, trivial⟩ ?_
  refine WP_seq ?_
  refine WP_seq ?_
  refine WP_region ?_
  refine O_move rfl rfl rfl ?_
  refine O_eql rfl rfl rfl rfl rfl ?_
  refine WL_end [(0, _), (3, _), (7, _)] ⟨rfl, rfl, rfl, trivial⟩ ?_
  refine WP_condD rfl (fun c7 => ?_) (fun c7 => ?_)
  · --
    refine WP_seq ?_
    refine WP_region ?_
    refine O_assign rfl rfl rfl ?_
    refine WL_end [(2, _)] ⟨rfl, trivial⟩ ?_
    refine WP_ret ?_
    refine ret1 Try.results51 rfl ?_
    have h0 := sz_zero hs.d (by omega)
    exact ⟨_, rfl, e1, by rw [h0]; rfl⟩
  · --
    refine WP_skip ?_
    refine WP_seq ?_
    refine WP_region ?_
    refine O_move rfl rfl rfl ?_
    refine O_sub (r := ((sz l - 1 : Nat) : Int)) rfl rfl rfl rfl (by rw [IntKind.wrap_i64]; omega) ?_
    refine O_mul rfl rfl rfl rfl (wrap_i64_id (by omega) (by omega)) ?_
    refine O_move rfl rfl rfl ?_
    refine O_move rfl rfl rfl ?_
    refine O_sub (r := ((sz l - 1 : Nat) : Int)) rfl rfl rfl rfl (by rw [IntKind.wrap_i64]; omega) ?_
    refine N_index T22 rfl rfl rfl rfl (hs.ext e1) (sz l - 1) rfl (by omega) ?_
    refine N_load Try.underlying27 rfl rfl rfl (hs.ext e1) (by omega) (fun d15 => ?_)
    refine O_call enters66 rfl rfl rfl (len32_c (by (try simp only [val_dig, List.length_take, List.length_nil, List.length_cons, List.length_append, List.length_replicate, List.length_set, List.length_map, List.length_drop]); omega)) (fun v2 w2 e2 h2 => ?_)
    have z2 := e2.size
    obtain rfl := h2
    refine O_add rfl rfl rfl rfl (wrap_i64_id (by omega) (by omega)) ?_
    refine O_assign rfl rfl rfl ?_
    refine WL_end [(2, _)] ⟨rfl, trivial⟩ ?_
    refine WP_ret ?_
    refine ret1 Try.results51 rfl ?_
    have h0 := bl_val hs.d (by omega)
    exact ⟨_, rfl, e1.trans e2, by rw [h0]; first | rfl | (congr 1; omega)⟩

end Go.Proofs.Ytbaapijfenmhiaa
