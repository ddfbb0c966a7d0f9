/-
  Walks.
-/
import Derived.Test.YtijnlfhaepcldaaDoorD2
set_option linter.unusedVariables false
set_option linter.unusedSimpArgs false
set_option maxRecDepth 100000
namespace Go.Proofs.YtijnlfhaepcldaaDoor
open Go Go.RowKit
theorem radd_c {w : World} {va vb : Value} {la lb : List Nat} (ha : Nl w va la) (hb : Nl w vb lb) (hla : la.length ≤ 100000000) (hlb : lb.length ≤ 100000000) :
    Calls Tryd.prog 32 #[va, vb] w (Ret w fun r w' => No w.heap.size 44 w' r (dig (val la + val lb))) := by
  refine enter (args := [va, vb]) Tryd.func32 rfl Tryd.ntmps32 rfl ?_
  refine WP_seq ?_
  refine WP_region ?_
  refine O_assign rfl rfl rfl ?_
  refine WL_end [(0, _), (1, _)] ⟨rfl, rfl, trivial⟩ ?_
  refine WP_seq ?_
  refine WP_region ?_
  refine O_assign rfl rfl rfl ?_
  refine WL_end [(0, _), (1, _), (5, _)] ⟨rfl, rfl, rfl, trivial⟩ ?_
  refine WP_seq ?_
  refine WP_region ?_
  refine O_assign rfl rfl rfl ?_
  refine WL_end [(0, _), (1, _), (5, _), (6, _)] ⟨rfl, rfl, rfl, rfl, trivial⟩ ?_
  refine WP_seq ?_
  refine WP_seq ?_
  refine WP_region ?_
  refine O_assign rfl rfl rfl ?_
  refine WL_end [(0, _), (1, _), (5, _), (6, _), (7, _)] ⟨rfl, rfl, rfl, rfl, rfl, trivial⟩ ?_
  refine WP_block ?_
  refine WP_loop (S := Nat × Nat × List Nat × Value) (fun (k, c, lo, out) => [(0, va), (1, vb), (5, out), (6, .int .u64 (c : Nat)), (7, .int .i64 (k : Nat))]) (fun (k, c, lo, out) w' => Ext w w' ∧ No w.heap.size 44 w' out lo ∧ lo.length = k ∧ k ≤ max la.length lb.length + 1 ∧ c < 2 ∧ val lo + 4294967296 ^ k * c = val (la.take k) + val (lb.take k)) (fun (k, c, lo, out) => max la.length lb.length + 2 - k) (0, 0, [], .slice none 0 0) ⟨rfl, rfl, rfl, rfl, rfl, trivial⟩ ⟨Ext.refl _, No.nil _ _ _, rfl, by omega, by omega, by simp [val]⟩ ?_
  rintro ⟨k, c, lo, out⟩ w1 ⟨hE, ho, hlo, hk, hc, hv⟩
  show WP _ _ _ _ _ [(0, va), (1, vb), (5, out), (6, .int .u64 (c : Nat)), (7, .int .i64 (k : Nat))] _
  have hz := hE.size
  have hda := ha.d.getD k
  have hdb := hb.d.getD k
  refine WP_seq ?_
  refine WP_seq ?_
  refine WP_region ?_
  refine O_move rfl rfl rfl ?_
  refine O_move rfl rfl rfl ?_
  refine N_len T22 rfl rfl rfl (ha.ext hE) ?_
  refine O_move rfl rfl rfl ?_
  refine N_len T22 rfl rfl rfl (hb.ext hE) ?_
  refine O_max (r := ((max la.length lb.length : Nat) : Int)) rfl rfl rfl rfl (by omega) ?_
  refine O_leq rfl rfl rfl rfl rfl ?_
  refine WL_end [(0, _), (1, _), (5, _), (6, _), (7, _), (14, _)] ⟨rfl, rfl, rfl, rfl, rfl, rfl, trivial⟩ ?_
  refine WP_condD rfl (fun c14 => ?_) (fun c14 => ?_)
  · --
    refine WP_skip ?_
    refine WP_seq ?_
    refine WP_block ?_
    refine WP_seq ?_
    refine WP_region ?_
    refine O_move rfl rfl rfl ?_
    refine O_move rfl rfl rfl ?_
    refine O_move rfl rfl rfl ?_
    refine O_call enters42 rfl rfl rfl (at_c (ha.ext hE) k rfl) (fun v1 w1 e1 h1 => ?_)
    have z1 := e1.size
    obtain rfl := h1
    refine O_add rfl rfl rfl rfl (wrap_u64_id (by omega) (by omega)) ?_
    refine O_move rfl rfl rfl ?_
    refine O_move rfl rfl rfl ?_
    refine O_call enters42 rfl rfl rfl (at_c (hb.ext (hE.trans e1)) k rfl) (fun v2 w2 e2 h2 => ?_)
    have z2 := e2.size
    obtain rfl := h2
    refine O_add rfl rfl rfl rfl (wrap_u64_id (by omega) (by omega)) ?_
    refine O_assign rfl rfl rfl ?_
    refine WL_end [(0, _), (1, _), (5, _), (6, _), (7, _)] ⟨rfl, rfl, rfl, rfl, rfl, trivial⟩ ?_
    refine WP_seq ?_
    refine WP_region ?_
    refine O_move rfl rfl rfl ?_
    refine O_move rfl rfl rfl ?_
    refine O_conv Tryd.underlying30 Tryd.underlying44 (r := (((c + la.getD k 0 + lb.getD k 0) % 4294967296 : Nat) : Int)) rfl rfl rfl (by rw [wrap_u32]; omega) ?_
    refine N_lit T22 rfl rfl [(c + la.getD k 0 + lb.getD k 0) % 4294967296] (D.cons (by omega) D.nil) rfl (by decide) rfl rfl (fun v3 w3 o3 e3 => ?_)
    have z3 := e3.size
    refine N_append T22 rfl (by decide) rfl rfl rfl rfl (((ho.ext e1).ext e2).ext e3) o3.nl (by (try simp only [val_dig, List.length_take, List.length_nil, List.length_cons, List.length_append, List.length_replicate, List.length_set, List.length_map, List.length_drop]); omega) (by omega) (fun v4 w4 o4 r4 => ?_)
    have e4 : Ext w w4 := (((ho.ext e1).ext e2).ext e3).ext_grown r4 (((hE.trans e1).trans e2).trans e3) (by omega)
    have z4 := r4.size
    refine O_assign rfl rfl rfl ?_
    refine WL_end [(0, _), (1, _), (5, _), (6, _), (7, _)] ⟨rfl, rfl, rfl, rfl, rfl, trivial⟩ ?_
    refine WP_region ?_
    refine O_move rfl rfl rfl ?_
    refine O_shr rfl rfl rfl rfl (by decide) (shr32' (c + la.getD k 0 + lb.getD k 0) (by omega)) ?_
    refine O_assign rfl rfl rfl ?_
    refine WL_end [(0, _), (1, _), (5, _), (6, _), (7, _)] ⟨rfl, rfl, rfl, rfl, rfl, trivial⟩ ?_
    refine WP_region ?_
    refine O_move rfl rfl rfl ?_
    refine O_add rfl rfl rfl rfl (wrap_i64_id (by omega) (by omega)) ?_
    refine O_assign rfl rfl rfl ?_
    refine WL_end [(0, _), (1, _), (5, _), (6, _), (7, _)] ⟨rfl, rfl, rfl, rfl, rfl, trivial⟩ ?_
    refine ⟨(k + 1, (c + la.getD k 0 + lb.getD k 0) / 4294967296, lo ++ [(c + la.getD k 0 + lb.getD k 0) % 4294967296], _), ⟨rfl, rfl, rfl, rfl, rfl, trivial⟩, ⟨by assumption, by assumption, by simp [hlo], by omega, by omega, ?_⟩, by dsimp only; omega⟩
    rw [val_snoc, hlo, val_take_succ', val_take_succ', Nat.add_assoc c, carry_step hv, Nat.mul_add]; omega
  · --
    refine WP_exit ?_
    refine inBlk_hit ?_
    refine WP_seq ?_
    refine WP_region ?_
    refine O_move rfl rfl rfl ?_
    refine O_call enters25 rfl rfl rfl (rtrim_c ho.nl (by (try simp only [val_dig, List.length_take, List.length_nil, List.length_cons, List.length_append, List.length_replicate, List.length_set, List.length_map, List.length_drop]); omega)) (fun v5 w5 e5 h5 => ?_)
    have z5 := e5.size
    try simp only [val_dig] at h5
    refine O_assign rfl rfl rfl ?_
    refine WL_end [(4, _)] ⟨rfl, trivial⟩ ?_
    refine WP_ret ?_
    refine ret1 Tryd.results32 rfl ?_
    have hk2 : k = max la.length lb.length + 1 := by omega
    subst hk2
    rw [List.take_of_length_le (Nat.le_succ_of_le (Nat.le_max_left _ _)), List.take_of_length_le (Nat.le_succ_of_le (Nat.le_max_right _ _))] at hv
    have hc0 := no_carry hv (val_lt_pow ha.d (Nat.le_max_left _ _)) (val_lt_pow hb.d (Nat.le_max_right _ _))
    subst hc0
    rw [Nat.mul_zero, Nat.add_zero] at hv
    rw [hv] at h5
    exact ⟨_, rfl, hE.trans e5, h5.mono hz⟩

theorem len32_c {w : World} {x : Nat} (hx : x < 4294967296) :
    Calls Tryd.prog 40 #[.int .u32 (x : Nat)] w (Ret w fun r _ => r = .int .i64 (bl x : Nat)) := by
  have b0 : bl x ≤ 32 := bl_le hx
  have b1 : bl (x / 2 ^ 16) ≤ 32 := bl_le (by omega)
  have b2 : bl (x / 2 ^ 8) ≤ 32 := bl_le (by omega)
  have b3 : bl (x / 2 ^ 16 / 2 ^ 8) ≤ 32 := bl_le (by omega)
  refine enter (args := [_]) Tryd.func40 rfl Tryd.ntmps40 rfl ?_
  refine WP_seq ?_
  refine WP_region ?_
  refine O_assign rfl rfl rfl ?_
  refine WL_end [(0, _), (2, _)] ⟨rfl, rfl, trivial⟩ ?_
  refine WP_seq ?_
  refine WP_seq ?_
  refine WP_region ?_
  refine O_move rfl rfl rfl ?_
  refine O_geq rfl rfl rfl rfl rfl ?_
  refine WL_end [(0, _), (2, _), (4, _)] ⟨rfl, rfl, rfl, trivial⟩ ?_
  refine WP_condD rfl (fun c4 => ?_) (fun c4 => ?_)
  · --
    refine WP_seq ?_
    refine WP_region ?_
    refine O_move rfl rfl rfl ?_
    refine O_shr (r := ((x / 2 ^ 16 : Nat) : Int)) rfl rfl rfl rfl (by decide) (shrU32 (m := 16) (by decide)) ?_
    refine O_assign rfl rfl rfl ?_
    refine WL_end [(0, _)] ⟨rfl, trivial⟩ ?_
    refine WP_region ?_
    refine O_assign rfl rfl rfl ?_
    refine WL_end [(0, _), (2, _)] ⟨rfl, rfl, trivial⟩ ?_
    refine WP_seq ?_
    refine WP_seq ?_
    refine WP_region ?_
    refine O_move rfl rfl rfl ?_
    refine O_geq rfl rfl rfl rfl rfl ?_
    refine WL_end [(0, _), (2, _), (8, _)] ⟨rfl, rfl, rfl, trivial⟩ ?_
    refine WP_condD rfl (fun c8 => ?_) (fun c8 => ?_)
    · --
      refine WP_seq ?_
      refine WP_region ?_
      refine O_move rfl rfl rfl ?_
      refine O_shr (r := ((x / 2 ^ 16 / 2 ^ 8 : Nat) : Int)) rfl rfl rfl rfl (by decide) (shrU32 (m := 8) (by decide)) ?_
      refine O_assign rfl rfl rfl ?_
      refine WL_end [(0, _), (2, _)] ⟨rfl, rfl, trivial⟩ ?_
      refine WP_region ?_
      refine O_move rfl rfl rfl ?_
      refine O_add rfl rfl rfl rfl (wrap_i64_id (by omega) (by omega)) ?_
      refine O_assign rfl rfl rfl ?_
      refine WL_end [(0, _), (2, _)] ⟨rfl, rfl, trivial⟩ ?_
      refine WP_seq ?_
      refine WP_region ?_
      refine O_move rfl rfl rfl ?_
      refine O_move rfl rfl rfl ?_
      refine O_conv Tryd.underlying44 Tryd.underlying5 rfl rfl rfl (wrap_u8_id (by omega) (by omega)) ?_
      refine O_indexStr Tryd.underlying9 rfl rfl rfl rfl _ rfl (tab_at (by decide +kernel) (by omega)) ?_
      rw [bl_byte (by omega)]
      refine O_conv Tryd.underlying5 Tryd.underlying3 rfl rfl rfl (wrap_i64_id (by omega) (by omega)) ?_
      refine O_add rfl rfl rfl rfl (wrap_i64_id (by omega) (by omega)) ?_
      refine O_assign rfl rfl rfl ?_
      refine WL_end [(2, _)] ⟨rfl, trivial⟩ ?_
      refine WP_ret ?_
      refine ret1 Tryd.results40 rfl ?_
      have h1 := bl_shift (x := x) (s := 16) (by omega)
      have h2 := bl_shift (x := x / 2 ^ 16) (s := 8) (by omega)
      exact ⟨_, rfl, Ext.refl _, by rw [h1, h2]; first | rfl | (congr 1; omega)⟩
    · --
      refine WP_skip ?_
      refine WP_seq ?_
      refine WP_region ?_
      refine O_move rfl rfl rfl ?_
      refine O_move rfl rfl rfl ?_
      refine O_conv Tryd.underlying44 Tryd.underlying5 rfl rfl rfl (wrap_u8_id (by omega) (by omega)) ?_
      refine O_indexStr Tryd.underlying9 rfl rfl rfl rfl _ rfl (tab_at (by decide +kernel) (by omega)) ?_
      rw [bl_byte (by omega)]
      refine O_conv Tryd.underlying5 Tryd.underlying3 rfl rfl rfl (wrap_i64_id (by omega) (by omega)) ?_
      refine O_add rfl rfl rfl rfl (wrap_i64_id (by omega) (by omega)) ?_
      refine O_assign rfl rfl rfl ?_
      refine WL_end [(2, _)] ⟨rfl, trivial⟩ ?_
      refine WP_ret ?_
      refine ret1 Tryd.results40 rfl ?_
      have h1 := bl_shift (x := x) (s := 16) (by omega)
      exact ⟨_, rfl, Ext.refl _, by rw [h1]; first | rfl | (congr 1; omega)⟩
  · --
    refine WP_skip ?_
    refine WP_seq ?_
    refine WP_seq ?_
    refine WP_region ?_
    refine O_move rfl rfl rfl ?_
    refine O_geq rfl rfl rfl rfl rfl ?_
    refine WL_end [(0, _), (2, _), (8, _)] ⟨rfl, rfl, rfl, trivial⟩ ?_
    refine WP_condD rfl (fun c8 => ?_) (fun c8 => ?_)
    · --
      refine WP_seq ?_
      refine WP_region ?_
      refine O_move rfl rfl rfl ?_
      refine O_shr (r := ((x / 2 ^ 8 : Nat) : Int)) rfl rfl rfl rfl (by decide) (shrU32 (m := 8) (by decide)) ?_
      refine O_assign rfl rfl rfl ?_
      refine WL_end [(0, _), (2, _)] ⟨rfl, rfl, trivial⟩ ?_
      refine WP_region ?_
      refine O_move rfl rfl rfl ?_
      refine O_add rfl rfl rfl rfl (wrap_i64_id (by omega) (by omega)) ?_
      refine O_assign rfl rfl rfl ?_
      refine WL_end [(0, _), (2, _)] ⟨rfl, rfl, trivial⟩ ?_
      refine WP_seq ?_
      refine WP_region ?_
      refine O_move rfl rfl rfl ?_
      refine O_move rfl rfl rfl ?_
      refine O_conv Tryd.underlying44 Tryd.underlying5 rfl rfl rfl (wrap_u8_id (by omega) (by omega)) ?_
      refine O_indexStr Tryd.underlying9 rfl rfl rfl rfl _ rfl (tab_at (by decide +kernel) (by omega)) ?_
      rw [bl_byte (by omega)]
      refine O_conv Tryd.underlying5 Tryd.underlying3 rfl rfl rfl (wrap_i64_id (by omega) (by omega)) ?_
      refine O_add rfl rfl rfl rfl (wrap_i64_id (by omega) (by omega)) ?_
      refine O_assign rfl rfl rfl ?_
      refine WL_end [(2, _)] ⟨rfl, trivial⟩ ?_
      refine WP_ret ?_
      refine ret1 Tryd.results40 rfl ?_
      have h1 := bl_shift (x := x) (s := 8) (by omega)
      exact ⟨_, rfl, Ext.refl _, by rw [h1]; first | rfl | (congr 1; omega)⟩
    · --
      refine WP_skip ?_
      refine WP_seq ?_
      refine WP_region ?_
      refine O_move rfl rfl rfl ?_
      refine O_move rfl rfl rfl ?_
      refine O_conv Tryd.underlying44 Tryd.underlying5 rfl rfl rfl (wrap_u8_id (by omega) (by omega)) ?_
      refine O_indexStr Tryd.underlying9 rfl rfl rfl rfl _ rfl (tab_at (by decide +kernel) (by omega)) ?_
      rw [bl_byte (by omega)]
      refine O_conv Tryd.underlying5 Tryd.underlying3 rfl rfl rfl (wrap_i64_id (by omega) (by omega)) ?_
      refine O_add rfl rfl rfl rfl (wrap_i64_id (by omega) (by omega)) ?_
      refine O_assign rfl rfl rfl ?_
      refine WL_end [(2, _)] ⟨rfl, trivial⟩ ?_
      refine WP_ret ?_
      refine ret1 Tryd.results40 rfl ?_
      exact ⟨_, rfl, Ext.refl _, by first | rfl | (congr 1; omega)⟩

theorem bits_c {w : World} {v : Value} {l : List Nat} (hs : Nl w v l) (hl : l.length ≤ 100000000) :
    Calls Tryd.prog 11 #[v] w (Ret w fun r _ => r = .int .i64 (bl (val l) : Nat)) := by
  have hsz := sz_le hs.d
  have hbt : bl (l.getD (sz l - 1) 0) ≤ 32 := bl_le (hs.d.getD _)
  refine enter (args := [v]) Tryd.func11 rfl Tryd.ntmps11 rfl ?_
  refine WP_seq ?_
  refine WP_region ?_
  refine O_assign rfl rfl rfl ?_
  refine WL_end [(0, _)] ⟨rfl, trivial⟩ ?_
  refine WP_seq ?_
  refine WP_region ?_
  refine O_move rfl rfl rfl ?_
  refine O_call enters39 rfl rfl rfl (size_c hs) (fun v1 w1 e1 h1 => ?_)
  have z1 := e1.size
  obtain rfl := h1
  refine O_assign rfl rfl rfl ?_
  refine WL_end [(0, _), (3, _)] ⟨rfl, rfl, trivial⟩ ?_
  refine WP_seq ?_
  refine WP_seq ?_
  refine WP_region ?_
  refine O_move rfl rfl rfl ?_
  refine O_eql rfl rfl rfl rfl rfl ?_
  refine WL_end [(0, _), (3, _), (7, _)] ⟨rfl, rfl, rfl, trivial⟩ ?_
  refine WP_condD rfl (fun c7 => ?_) (fun c7 => ?_)
  · --
    refine WP_seq ?_
    refine WP_region ?_
    refine O_assign rfl rfl rfl ?_
    refine WL_end [(2, _)] ⟨rfl, trivial⟩ ?_
    refine WP_ret ?_
    refine ret1 Tryd.results11 rfl ?_
    have h0 := sz_zero hs.d (by omega)
    exact ⟨_, rfl, e1, by rw [h0]; rfl⟩
  · --
    refine WP_skip ?_
    refine WP_seq ?_
    refine WP_region ?_
    refine O_move rfl rfl rfl ?_
    refine O_sub (r := ((sz l - 1 : Nat) : Int)) rfl rfl rfl rfl (by rw [IntKind.wrap_i64]; omega) ?_
    refine O_mul rfl rfl rfl rfl (wrap_i64_id (by omega) (by omega)) ?_
    refine O_move rfl rfl rfl ?_
    refine O_move rfl rfl rfl ?_
    refine O_sub (r := ((sz l - 1 : Nat) : Int)) rfl rfl rfl rfl (by rw [IntKind.wrap_i64]; omega) ?_
    refine N_index T22 rfl rfl rfl rfl (hs.ext e1) (sz l - 1) rfl (by omega) ?_
    refine N_load Tryd.underlying44 rfl rfl rfl (hs.ext e1) (by omega) (fun d15 => ?_)
    refine O_call enters40 rfl rfl rfl (len32_c (by (try simp only [val_dig, List.length_take, List.length_nil, List.length_cons, List.length_append, List.length_replicate, List.length_set, List.length_map, List.length_drop]); omega)) (fun v2 w2 e2 h2 => ?_)
    have z2 := e2.size
    obtain rfl := h2
    refine O_add rfl rfl rfl rfl (wrap_i64_id (by omega) (by omega)) ?_
    refine O_assign rfl rfl rfl ?_
    refine WL_end [(2, _)] ⟨rfl, trivial⟩ ?_
    refine WP_ret ?_
    refine ret1 Tryd.results11 rfl ?_
    have h0 := bl_val hs.d (by omega)
    exact ⟨_, rfl, e1.trans e2, by rw [h0]; first | rfl | (congr 1; omega)⟩

end Go.Proofs.YtijnlfhaepcldaaDoor
