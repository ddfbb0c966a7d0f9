/-
  Walks.
-/
import Derived.Test.YtijnlfhaepcldaaDoorD12
set_option linter.unusedVariables false
set_option linter.unusedSimpArgs false
set_option maxRecDepth 100000
namespace Go.Proofs.YtijnlfhaepcldaaDoor
open Go Go.RowKit
theorem shr_c {w : World} {va : Value} {la : List Nat} {k : Nat} (ha : Nl w va la) (hla : la.length ≤ 100000000) (hk : k ≤ 1048576) :
    Calls Tryd.prog 34 #[va, .int .i64 (k : Nat)] w (Ret w fun r w' => No w.heap.size 44 w' r (dig (val la / 2 ^ k))) := by
  have hkk : k / 32 ≤ 32768 := by omega
  have hpb := pow_bd k
  refine enter (args := [va, _]) Tryd.func34 rfl Tryd.ntmps34 rfl ?_
  refine WP_seq ?_
  refine WP_region ?_
  refine O_assign rfl rfl rfl ?_
  refine WL_end [(0, _), (1, _)] ⟨rfl, rfl, trivial⟩ ?_
  refine WP_seq ?_
  refine WP_region ?_
  refine O_move rfl rfl rfl ?_
  refine O_call enters45 rfl rfl rfl (places_c (by (try simp only [val_dig, List.length_take, List.length_nil, List.length_cons, List.length_append, List.length_replicate, List.length_set, List.length_map, List.length_drop]); omega)) (fun v1 w1 e1 h1 => ?_)
  have z1 := e1.size
  obtain rfl := h1
  refine O_assign rfl rfl rfl ?_
  refine WL_end [(0, _), (1, _)] ⟨rfl, rfl, trivial⟩ ?_
  refine WP_seq ?_
  refine WP_region ?_
  refine O_move rfl rfl rfl ?_
  refine O_quo (r := ((k / 32 : Nat) : Int)) rfl rfl rfl rfl (by decide) (quo32 (by omega)) ?_
  refine O_move rfl rfl rfl ?_
  refine O_rem (r := ((k % 32 : Nat) : Int)) rfl rfl rfl rfl (by decide) (remN (m := 32)) ?_
  refine O_conv Tryd.underlying3 Tryd.underlying48 rfl rfl rfl (wrap_u64_id (by omega) (by omega)) ?_
  refine O_assign rfl rfl rfl ?_
  refine O_assign rfl rfl rfl ?_
  refine WL_end [(0, _), (5, _), (6, _)] ⟨rfl, rfl, rfl, trivial⟩ ?_
  refine WP_seq ?_
  refine WP_seq ?_
  refine WP_region ?_
  refine O_move rfl rfl rfl ?_
  refine O_move rfl rfl rfl ?_
  refine N_len T22 rfl rfl rfl (ha.ext e1) ?_
  refine O_geq rfl rfl rfl rfl rfl ?_
  refine WL_end [(0, _), (5, _), (6, _), (20, _)] ⟨rfl, rfl, rfl, rfl, trivial⟩ ?_
  refine WP_condD rfl (fun c20 => ?_) (fun c20 => ?_)
  · --
    refine WP_seq ?_
    refine WP_region ?_
    refine O_assign rfl rfl rfl ?_
    refine WL_end [(4, _)] ⟨rfl, trivial⟩ ?_
    refine WP_ret ?_
    refine ret1 Tryd.results34 rfl ?_
    have h0 := shr_zero ha.d (show la.length ≤ k / 32 by omega)
    exact ⟨_, rfl, e1, by rw [h0, dig_zero]; exact No.nil _ _ _⟩
  · --
    refine WP_skip ?_
    refine WP_seq ?_
    refine WP_region ?_
    refine O_move rfl rfl rfl ?_
    refine N_len T22 rfl rfl rfl (ha.ext e1) ?_
    refine O_move rfl rfl rfl ?_
    refine O_sub (r := ((la.length - k / 32 : Nat) : Int)) rfl rfl rfl rfl (by rw [IntKind.wrap_i64]; omega) ?_
    refine N_make T22 (by decide) rfl rfl rfl rfl (la.length - k / 32) rfl rfl (by omega) (fun v2 w2 o2 e2 => ?_)
    have z2 := e2.size
    refine O_assign rfl rfl rfl ?_
    refine WL_end [(0, _), (5, _), (6, _), (7, _)] ⟨rfl, rfl, rfl, rfl, trivial⟩ ?_
    refine WP_seq ?_
    refine WP_seq ?_
    refine WP_region ?_
    refine O_move rfl rfl rfl ?_
    refine N_len T22 rfl rfl rfl o2.nl ?_
    rw [List.length_replicate]
    refine O_move rfl rfl rfl ?_
    refine WL_end [(0, _), (5, _), (6, _), (7, _), (27, _), (28, _)] ⟨rfl, rfl, rfl, rfl, rfl, rfl, trivial⟩ ?_
    refine WP_block ?_
    refine WP_loop (S := Nat × List Nat) (fun (i, lo) => [(0, va), (5, .int .i64 (k / 32 : Nat)), (6, .int .u64 (k % 32 : Nat)), (7, v2), (27, .int .i64 (la.length - k / 32 : Nat)), (28, .int .i64 (i : Nat))]) (fun (i, lo) w' => Ext w w' ∧ No w.heap.size 44 w' v2 lo ∧ lo.length = la.length - k / 32 ∧ i ≤ la.length - k / 32 ∧ ∀ j, j < i → lo.getD j 0 = sdig (val la) k j) (fun (i, lo) => la.length - k / 32 - i) (0, List.replicate (la.length - k / 32) 0) ⟨rfl, rfl, rfl, rfl, rfl, rfl, trivial⟩ ⟨(e1.trans e2), o2.mono (by omega), by simp, by omega, fun j hj => absurd hj (Nat.not_lt_zero _)⟩ ?_
    rintro ⟨i, lo⟩ w4 ⟨hE, ho, hlo, hi, hv⟩
    show WP _ _ _ _ _ [(0, va), (5, .int .i64 (k / 32 : Nat)), (6, .int .u64 (k % 32 : Nat)), (7, v2), (27, .int .i64 (la.length - k / 32 : Nat)), (28, .int .i64 (i : Nat))] _
    have hz := hE.size
    have ha0 := ha.d.getD (i + k / 32)
    have ha1 := ha.d.getD (i + k / 32 + 1)
    refine WP_seq ?_
    refine WP_region ?_
    refine O_lss rfl rfl rfl rfl rfl ?_
    refine WL_end [(0, _), (5, _), (6, _), (7, _), (27, _), (28, _), (29, _)] ⟨rfl, rfl, rfl, rfl, rfl, rfl, rfl, trivial⟩ ?_
    refine WP_seq ?_
    refine WP_condD rfl (fun c29 => ?_) (fun c29 => ?_)
    · --
      refine WP_skip ?_
      refine WP_seq ?_
      refine WP_block ?_
      refine WP_seq ?_
      refine WP_region ?_
      refine O_move rfl rfl rfl ?_
      refine O_assign rfl rfl rfl ?_
      refine WL_end [(0, _), (5, _), (6, _), (7, _), (8, _), (27, _), (28, _)] ⟨rfl, rfl, rfl, rfl, rfl, rfl, rfl, trivial⟩ ?_
      refine WP_seq ?_
      refine WP_region ?_
      refine O_move rfl rfl rfl ?_
      refine O_move rfl rfl rfl ?_
      refine O_move rfl rfl rfl ?_
      refine O_add (r := ((i + k / 32 : Nat) : Int)) rfl rfl rfl rfl (by rw [IntKind.wrap_i64]; omega) ?_
      refine N_index T22 rfl rfl rfl rfl (ha.ext hE) (i + k / 32) rfl (by omega) ?_
      refine N_load Tryd.underlying44 rfl rfl rfl (ha.ext hE) (by omega) (fun d36 => ?_)
      refine O_conv Tryd.underlying44 Tryd.underlying30 rfl rfl rfl (wrap_u64_id (by omega) (by omega)) ?_
      refine O_assign rfl rfl rfl ?_
      refine WL_end [(0, _), (5, _), (6, _), (7, _), (8, _), (9, _), (27, _), (28, _)] ⟨rfl, rfl, rfl, rfl, rfl, rfl, rfl, rfl, trivial⟩ ?_
      refine WP_seq ?_
      refine WP_seq ?_
      refine WP_region ?_
      refine O_move rfl rfl rfl ?_
      refine O_move rfl rfl rfl ?_
      refine O_add (r := ((i + k / 32 : Nat) : Int)) rfl rfl rfl rfl (by rw [IntKind.wrap_i64]; omega) ?_
      refine O_add (r := ((i + k / 32 + 1 : Nat) : Int)) rfl rfl rfl rfl (by rw [IntKind.wrap_i64]; omega) ?_
      refine O_move rfl rfl rfl ?_
      refine N_len T22 rfl rfl rfl (ha.ext hE) ?_
      refine O_lss rfl rfl rfl rfl rfl ?_
      refine WL_end [(0, _), (5, _), (6, _), (7, _), (8, _), (9, _), (27, _), (28, _), (44, _)] ⟨rfl, rfl, rfl, rfl, rfl, rfl, rfl, rfl, rfl, trivial⟩ ?_
      refine WP_condD rfl (fun c44 => ?_) (fun c44 => ?_)
      · --
        refine WP_region ?_
        refine O_move rfl rfl rfl ?_
        refine O_move rfl rfl rfl ?_
        refine O_move rfl rfl rfl ?_
        refine O_move rfl rfl rfl ?_
        refine O_add (r := ((i + k / 32 : Nat) : Int)) rfl rfl rfl rfl (by rw [IntKind.wrap_i64]; omega) ?_
        refine O_add (r := ((i + k / 32 + 1 : Nat) : Int)) rfl rfl rfl rfl (by rw [IntKind.wrap_i64]; omega) ?_
        refine N_index T22 rfl rfl rfl rfl (ha.ext hE) (i + k / 32 + 1) rfl (by omega) ?_
        refine N_load Tryd.underlying44 rfl rfl rfl (ha.ext hE) (by omega) (fun d52 => ?_)
        refine O_conv Tryd.underlying44 Tryd.underlying30 rfl rfl rfl (wrap_u64_id (by omega) (by omega)) ?_
        refine O_shl rfl rfl rfl rfl (by decide) (shl32 ha1) ?_
        refine O_or rfl rfl rfl rfl (u64_or_nat _ _ (by omega) (by omega)) ?_
        rw [or_add' ha0]
        refine O_assign rfl rfl rfl ?_
        refine WL_end [(0, _), (5, _), (6, _), (7, _), (8, _), (9, _), (27, _), (28, _)] ⟨rfl, rfl, rfl, rfl, rfl, rfl, rfl, rfl, trivial⟩ ?_
        refine WP_region ?_
        refine O_move rfl rfl rfl ?_
        refine O_move rfl rfl rfl ?_
        refine O_move rfl rfl rfl ?_
        refine O_move rfl rfl rfl ?_
        refine O_shr rfl rfl rfl rfl (by omega) (shrU64 (m := k % 32) (by omega)) ?_
        refine O_conv Tryd.underlying30 Tryd.underlying44 rfl rfl rfl (modU32 _) ?_
        refine N_index T22 rfl rfl rfl rfl ho.nl i rfl (by omega) ?_
        refine N_store T22 rfl rfl rfl ho (by omega) _ rfl (Nat.mod_lt _ (by decide)) (fun w3 o3 q3 a3 b3 => ?_)
        have z3 := q3.size
        have e3 : Ext w w3 := q3.ext hE (by omega)
        refine WL_end [(0, _), (5, _), (6, _), (7, _), (27, _), (28, _)] ⟨rfl, rfl, rfl, rfl, rfl, rfl, trivial⟩ ?_
        refine WP_region ?_
        refine O_add rfl rfl rfl rfl (wrap_i64_id (by omega) (by omega)) ?_
        refine O_move rfl rfl rfl ?_
        refine WL_end [(0, _), (5, _), (6, _), (7, _), (27, _), (28, _)] ⟨rfl, rfl, rfl, rfl, rfl, rfl, trivial⟩ ?_
        refine ⟨(i + 1, lo.set i (((la.getD (i + k / 32) 0) + (la.getD (i + k / 32 + 1) 0) * 4294967296) / 2 ^ (k % 32) % 4294967296)), ⟨rfl, rfl, rfl, rfl, rfl, rfl, trivial⟩, ⟨e3, o3, by simp [hlo], by omega, fun j hj => ?_⟩, by dsimp only; omega⟩
        by_cases hj2 : j = i
        · subst hj2
          rw [getD_set_self _ (by omega), sdig_at ha.d]
        · rw [getD_set_other _ _ (by omega)]; exact hv j (by omega)
      · --
        refine WP_skip ?_
        refine WP_region ?_
        refine O_move rfl rfl rfl ?_
        refine O_move rfl rfl rfl ?_
        refine O_move rfl rfl rfl ?_
        refine O_move rfl rfl rfl ?_
        refine O_shr rfl rfl rfl rfl (by omega) (shrU64 (m := k % 32) (by omega)) ?_
        refine O_conv Tryd.underlying30 Tryd.underlying44 rfl rfl rfl (modU32 _) ?_
        refine N_index T22 rfl rfl rfl rfl ho.nl i rfl (by omega) ?_
        refine N_store T22 rfl rfl rfl ho (by omega) _ rfl (Nat.mod_lt _ (by decide)) (fun w4 o4 q4 a4 b4 => ?_)
        have z4 := q4.size
        have e4 : Ext w w4 := q4.ext hE (by omega)
        refine WL_end [(0, _), (5, _), (6, _), (7, _), (27, _), (28, _)] ⟨rfl, rfl, rfl, rfl, rfl, rfl, trivial⟩ ?_
        refine WP_region ?_
        refine O_add rfl rfl rfl rfl (wrap_i64_id (by omega) (by omega)) ?_
        refine O_move rfl rfl rfl ?_
        refine WL_end [(0, _), (5, _), (6, _), (7, _), (27, _), (28, _)] ⟨rfl, rfl, rfl, rfl, rfl, rfl, trivial⟩ ?_
        refine ⟨(i + 1, lo.set i ((la.getD (i + k / 32) 0) / 2 ^ (k % 32) % 4294967296)), ⟨rfl, rfl, rfl, rfl, rfl, rfl, trivial⟩, ⟨e4, o4, by simp [hlo], by omega, fun j hj => ?_⟩, by dsimp only; omega⟩
        by_cases hj2 : j = i
        · subst hj2
          rw [getD_set_self _ (by omega), sdig_at ha.d]
          rw [getD_ge (by omega : la.length ≤ j + k / 32 + 1), Nat.zero_mul, Nat.add_zero]
        · rw [getD_set_other _ _ (by omega)]; exact hv j (by omega)
    · --
      refine WP_exit ?_
      refine inBlk_hit ?_
      refine WP_seq ?_
      refine WP_region ?_
      refine O_move rfl rfl rfl ?_
      refine O_move rfl rfl rfl ?_
      refine O_call enters39 rfl rfl rfl (size_c ho.nl) (fun v5 w5 e5 h5 => ?_)
      have z5 := e5.size
      obtain rfl := h5
      refine N_sliceTo T22 rfl rfl rfl rfl (ho.ext e5).nl (sz lo) rfl (sz_le ho.d) ?_
      have hu2 := (ho.ext e5).take (sz lo) (sz_le ho.d)
      generalize slTake _ _ = u2 at hu2 ⊢
      refine O_assign rfl rfl rfl ?_
      refine WL_end [(4, _)] ⟨rfl, trivial⟩ ?_
      refine WP_ret ?_
      refine ret1 Tryd.results34 rfl ?_
      have hr := val_digits (V := val la / 2 ^ k) lo (fun j hj => hv j (by omega)) (by rw [hlo]; exact shr_lt ha.d (by omega))
      rw [val_take_sz ho.d, hr] at hu2
      exact ⟨_, rfl, (hE.trans e5), hu2⟩

theorem rshr_c {w : World} {va : Value} {la : List Nat} {k : Nat} (ha : Nl w va la) (hla : la.length ≤ 100000000) (hk : k ≤ 1048576) :
    Calls Tryd.prog 37 #[va, .int .i64 (k : Nat)] w (Ret w fun r w' => No w.heap.size 44 w' r (dig (val la / 2 ^ k))) := by
  have hkk : k / 32 ≤ 32768 := by omega
  have hpb := pow_bd k
  refine enter (args := [va, _]) Tryd.func37 rfl Tryd.ntmps37 rfl ?_
  refine WP_seq ?_
  refine WP_region ?_
  refine O_assign rfl rfl rfl ?_
  refine WL_end [(0, _), (1, _)] ⟨rfl, rfl, trivial⟩ ?_
  refine WP_seq ?_
  refine WP_region ?_
  refine O_assign rfl rfl rfl ?_
  refine WL_end [(0, _), (1, _), (5, _)] ⟨rfl, rfl, rfl, trivial⟩ ?_
  refine WP_seq ?_
  refine WP_seq ?_
  refine WP_region ?_
  refine O_move rfl rfl rfl ?_
  refine O_quo (r := ((k / 32 : Nat) : Int)) rfl rfl rfl rfl (by decide) (quo32 (by omega)) ?_
  refine O_assign rfl rfl rfl ?_
  refine WL_end [(0, _), (1, _), (5, _), (6, _)] ⟨rfl, rfl, rfl, rfl, trivial⟩ ?_
  refine WP_block ?_
  refine WP_loop (S := Nat × List Nat × Value) (fun (i, lo, out) => [(0, va), (1, .int .i64 (k : Nat)), (5, out), (6, .int .i64 (k / 32 + i : Nat))]) (fun (i, lo, out) w' => Ext w w' ∧ No w.heap.size 44 w' out lo ∧ lo.length = i ∧ (i = 0 ∨ k / 32 + i ≤ la.length) ∧ ∀ j, j < i → lo.getD j 0 = sdig (val la) k j) (fun (i, lo, out) => la.length - (k / 32 + i)) (0, [], .slice none 0 0) ⟨rfl, rfl, rfl, rfl, trivial⟩ ⟨Ext.refl _, No.nil _ _ _, rfl, .inl rfl, fun j hj => absurd hj (Nat.not_lt_zero _)⟩ ?_
  rintro ⟨i, lo, out⟩ w1 ⟨hE, ho, hlo, hi, hv⟩
  show WP _ _ _ _ _ [(0, va), (1, .int .i64 (k : Nat)), (5, out), (6, .int .i64 (k / 32 + i : Nat))] _
  have hz := hE.size
  have ha0 := ha.d.getD (k / 32 + i)
  have ha1 := ha.d.getD (k / 32 + i + 1)
  refine WP_seq ?_
  refine WP_seq ?_
  refine WP_region ?_
  refine O_move rfl rfl rfl ?_
  refine O_move rfl rfl rfl ?_
  refine N_len T22 rfl rfl rfl (ha.ext hE) ?_
  refine O_lss rfl rfl rfl rfl rfl ?_
  refine WL_end [(0, _), (1, _), (5, _), (6, _), (12, _)] ⟨rfl, rfl, rfl, rfl, rfl, trivial⟩ ?_
  refine WP_condD rfl (fun c12 => ?_) (fun c12 => ?_)
  · --
    refine WP_skip ?_
    refine WP_seq ?_
    refine WP_block ?_
    refine WP_region ?_
    refine O_move rfl rfl rfl ?_
    refine O_move rfl rfl rfl ?_
    refine O_move rfl rfl rfl ?_
    refine O_call enters42 rfl rfl rfl (at_c (ha.ext hE) (k / 32 + i) rfl) (fun v1 w1 e1 h1 => ?_)
    have z1 := e1.size
    obtain rfl := h1
    refine O_move rfl rfl rfl ?_
    refine O_move rfl rfl rfl ?_
    refine O_add (r := ((k / 32 + i + 1 : Nat) : Int)) rfl rfl rfl rfl (by rw [IntKind.wrap_i64]; omega) ?_
    refine O_call enters42 rfl rfl rfl (at_c (ha.ext (hE.trans e1)) (k / 32 + i + 1) rfl) (fun v2 w2 e2 h2 => ?_)
    have z2 := e2.size
    obtain rfl := h2
    refine O_shl rfl rfl rfl rfl (by decide) (shl32 ha1) ?_
    refine O_or rfl rfl rfl rfl (u64_or_nat _ _ (by omega) (by omega)) ?_
    rw [or_add' ha0]
    refine O_move rfl rfl rfl ?_
    refine O_rem (r := ((k % 32 : Nat) : Int)) rfl rfl rfl rfl (by decide) (remN (m := 32)) ?_
    refine O_conv Tryd.underlying3 Tryd.underlying48 rfl rfl rfl (wrap_u64_id (by omega) (by omega)) ?_
    refine O_shr rfl rfl rfl rfl (by omega) (shrU64 (m := k % 32) (by omega)) ?_
    refine O_conv Tryd.underlying30 Tryd.underlying44 rfl rfl rfl (modU32 _) ?_
    refine N_lit T22 rfl rfl [(((la.getD (k / 32 + i) 0) + (la.getD (k / 32 + i + 1) 0) * 4294967296) / 2 ^ (k % 32) % 4294967296)] (D.cons (Nat.mod_lt _ (by decide)) D.nil) rfl (by decide) rfl rfl (fun v3 w3 o3 e3 => ?_)
    have z3 := e3.size
    refine N_append T22 rfl (by decide) rfl rfl rfl rfl (((ho.ext e1).ext e2).ext e3) o3.nl (by (try simp only [val_dig, List.length_take, List.length_nil, List.length_cons, List.length_append, List.length_replicate, List.length_set, List.length_map, List.length_drop]); omega) (by omega) (fun v4 w4 o4 r4 => ?_)
    have e4 : Ext w w4 := (((ho.ext e1).ext e2).ext e3).ext_grown r4 (((hE.trans e1).trans e2).trans e3) (by omega)
    have z4 := r4.size
    refine O_assign rfl rfl rfl ?_
    refine WL_end [(0, _), (1, _), (5, _), (6, _)] ⟨rfl, rfl, rfl, rfl, trivial⟩ ?_
    refine WP_region ?_
    refine O_move rfl rfl rfl ?_
    refine O_add (r := ((k / 32 + (i + 1) : Nat) : Int)) rfl rfl rfl rfl (by rw [IntKind.wrap_i64]; omega) ?_
    refine O_assign rfl rfl rfl ?_
    refine WL_end [(0, _), (1, _), (5, _), (6, _)] ⟨rfl, rfl, rfl, rfl, trivial⟩ ?_
    refine ⟨(i + 1, lo ++ [(((la.getD (k / 32 + i) 0) + (la.getD (k / 32 + i + 1) 0) * 4294967296) / 2 ^ (k % 32) % 4294967296)], _), ⟨rfl, rfl, rfl, rfl, trivial⟩, ⟨by assumption, by assumption, by simp [hlo], .inr (by omega), fun j hj => ?_⟩, by dsimp only; omega⟩
    by_cases hj2 : j = i
    · subst hj2
      rw [getD_snoc hlo, sdig_at ha.d, Nat.add_comm j (k / 32)]
    · rw [getD_snoc_lt (by omega)]; exact hv j (by omega)
  · --
    refine WP_exit ?_
    refine inBlk_hit ?_
    refine WP_seq ?_
    refine WP_region ?_
    refine O_move rfl rfl rfl ?_
    refine O_call enters25 rfl rfl rfl (rtrim_c ho.nl (by (try simp only [val_dig, List.length_take, List.length_nil, List.length_cons, List.length_append, List.length_replicate, List.length_set, List.length_map, List.length_drop]); omega)) (fun v5 w5 e5 h5 => ?_)
    have z5 := e5.size
    try simp only [val_dig] at h5
    refine O_assign rfl rfl rfl ?_
    refine WL_end [(4, _)] ⟨rfl, trivial⟩ ?_
    refine WP_ret ?_
    refine ret1 Tryd.results37 rfl ?_
    have hr := val_digits (V := val la / 2 ^ k) lo (fun j hj => hv j (by omega)) (by
      rcases Nat.lt_or_ge (k / 32) la.length with h | h
      · rw [show lo.length = la.length - k / 32 from by omega]; exact shr_lt ha.d (by omega)
      · rw [shr_zero ha.d h]; exact Nat.pow_pos (by decide))
    have hq := h5
    rw [hr] at hq
    exact ⟨_, rfl, (hE.trans e5), hq.mono (by omega)⟩

end Go.Proofs.YtijnlfhaepcldaaDoor
