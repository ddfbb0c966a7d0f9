/-
  Walks.
-/
import Derived.Test.YtijnlfhaepcldaaDoorD13
import Derived.Test.YtijnlfhaepcldaaDoorD8
set_option linter.unusedVariables false
set_option linter.unusedSimpArgs false
set_option maxRecDepth 100000
namespace Go.Proofs.YtijnlfhaepcldaaDoor
open Go Go.RowKit
theorem low_c {w : World} {va : Value} {la : List Nat} {k : Nat} (ha : Nl w va la) (hla : la.length ≤ 100000000) (hk : k ≤ 1048576) :
    Calls Tryd.prog 35 #[va, .int .i64 (k : Nat)] w (Ret w fun r w' => No w.heap.size 44 w' r (dig (val la % 2 ^ k))) := by
  have hkk : k / 32 ≤ 32768 := by omega
  have hpb := pow_bd k
  refine enter (args := [va, _]) Tryd.func35 rfl Tryd.ntmps35 rfl ?_
  refine WP_seq ?_
  refine WP_region ?_
  refine O_assign rfl rfl rfl ?_
  refine WL_end [(0, _), (1, _)] ⟨rfl, rfl, trivial⟩ ?_
  refine WP_seq ?_
  refine WP_region ?_
  refine O_move rfl rfl rfl ?_
  refine O_call enters45 rfl rfl rfl (places_c (by (try simp only [val_dig, List.length_take, List.length_nil, List.length_cons, List.length_append, List.length_replicate, List.length_set, List.length_map, List.length_drop]); omega)) (fun v1 w1 e1 h1 => ?_)
  have z1 := e1.size
  obtain rfl := h1
  refine O_assign rfl rfl rfl ?_
  refine WL_end [(0, _), (1, _)] ⟨rfl, rfl, trivial⟩ ?_
  refine WP_seq ?_
  refine WP_region ?_
  refine O_move rfl rfl rfl ?_
  refine O_quo (r := ((k / 32 : Nat) : Int)) rfl rfl rfl rfl (by decide) (quo32 (by omega)) ?_
  refine O_move rfl rfl rfl ?_
  refine O_rem (r := ((k % 32 : Nat) : Int)) rfl rfl rfl rfl (by decide) (remN (m := 32)) ?_
  refine O_conv Tryd.underlying3 Tryd.underlying48 rfl rfl rfl (wrap_u64_id (by omega) (by omega)) ?_
  refine O_assign rfl rfl rfl ?_
  refine O_assign rfl rfl rfl ?_
  refine WL_end [(0, _), (5, _), (6, _)] ⟨rfl, rfl, rfl, trivial⟩ ?_
  refine WP_seq ?_
  refine WP_seq ?_
  refine WP_region ?_
  refine O_move rfl rfl rfl ?_
  refine O_move rfl rfl rfl ?_
  refine N_len T22 rfl rfl rfl (ha.ext e1) ?_
  refine O_geq rfl rfl rfl rfl rfl ?_
  refine WL_end [(0, _), (5, _), (6, _), (18, _)] ⟨rfl, rfl, rfl, rfl, trivial⟩ ?_
  refine WP_condD rfl (fun c18 => ?_) (fun c18 => ?_)
  · --
    refine WP_seq ?_
    refine WP_region ?_
    refine O_move rfl rfl rfl ?_
    refine O_call enters18 rfl rfl rfl (trim_c (ha.ext e1) (by (try simp only [val_dig, List.length_take, List.length_nil, List.length_cons, List.length_append, List.length_replicate, List.length_set, List.length_map, List.length_drop]); omega)) (fun v2 w2 e2 h2 => ?_)
    have z2 := e2.size
    try simp only [val_dig] at h2
    refine O_assign rfl rfl rfl ?_
    refine WL_end [(4, _)] ⟨rfl, trivial⟩ ?_
    refine WP_ret ?_
    refine ret1 Tryd.results35 rfl ?_
    have hq := h2
    rw [← low_id ha.d (show la.length ≤ k / 32 by omega)] at hq
    exact ⟨_, rfl, (e1.trans e2), hq.mono (by omega)⟩
  · --
    refine WP_skip ?_
    refine WP_seq ?_
    refine WP_region ?_
    refine O_move rfl rfl rfl ?_
    refine O_move rfl rfl rfl ?_
    refine O_add (r := ((k / 32 + 1 : Nat) : Int)) rfl rfl rfl rfl (by rw [IntKind.wrap_i64]; omega) ?_
    refine N_sliceTo T22 rfl rfl rfl rfl (ha.ext e1) (k / 32 + 1) rfl (by omega) ?_
    have hu := (ha.ext e1).take (k / 32 + 1) (by omega)
    generalize slTake _ _ = u at hu ⊢
    refine O_call enters43 rfl rfl rfl (clone_c hu (by rw [List.length_take]; omega)) (fun v3 w3 e3 h3 => ?_)
    have z3 := e3.size
    try simp only [val_dig] at h3
    refine O_assign rfl rfl rfl ?_
    refine WL_end [(5, _), (6, _), (7, _)] ⟨rfl, rfl, rfl, trivial⟩ ?_
    refine WP_seq ?_
    refine WP_region ?_
    have hvd := ha.d.take (k / 32 + 1)
    refine O_move rfl rfl rfl ?_
    refine O_move rfl rfl rfl ?_
    refine N_index T22 rfl rfl rfl rfl h3.nl (k / 32) rfl (by rw [List.length_take]; omega) ?_
    refine N_load Tryd.underlying44 rfl rfl rfl h3.nl (by rw [List.length_take]; omega) (fun d29 => ?_)
    refine O_move rfl rfl rfl ?_
    refine O_shl rfl rfl rfl rfl (by omega) (shl1 (by omega)) ?_
    refine O_sub (r := ((2 ^ (k % 32) - 1 : Nat) : Int)) rfl rfl rfl rfl (by rw [wrap_u32]; omega) ?_
    refine O_and rfl rfl rfl rfl (u32_and_nat _ _ (hvd.getD _) (by omega)) ?_
    rw [Nat.and_two_pow_sub_one_eq_mod]
    refine N_index T22 rfl rfl rfl rfl h3.nl (k / 32) rfl (by rw [List.length_take]; omega) ?_
    refine N_store T22 rfl rfl rfl h3 (by rw [List.length_take]; omega) ((la.take (k / 32 + 1)).getD (k / 32) 0 % 2 ^ (k % 32)) rfl (Nat.lt_of_le_of_lt (Nat.mod_le _ _) (hvd.getD _)) (fun w4 o4 q4 a4 b4 => ?_)
    have z4 := q4.size
    have e4 : Ext w w4 := q4.ext (e1.trans e3) (by omega)
    refine WL_end [(7, _)] ⟨rfl, trivial⟩ ?_
    refine WP_seq ?_
    refine WP_region ?_
    refine O_move rfl rfl rfl ?_
    refine O_move rfl rfl rfl ?_
    refine O_call enters39 rfl rfl rfl (size_c o4.nl) (fun v5 w5 e5 h5 => ?_)
    have z5 := e5.size
    obtain rfl := h5
    refine N_sliceTo T22 rfl rfl rfl rfl (o4.ext e5).nl (sz ((la.take (k / 32 + 1)).set (k / 32) ((la.take (k / 32 + 1)).getD (k / 32) 0 % 2 ^ (k % 32)))) rfl (sz_le (hvd.set _ (Nat.lt_of_le_of_lt (Nat.mod_le _ _) (hvd.getD _)))) ?_
    have hu2 := (o4.ext e5).take (sz ((la.take (k / 32 + 1)).set (k / 32) ((la.take (k / 32 + 1)).getD (k / 32) 0 % 2 ^ (k % 32)))) (sz_le (hvd.set _ (Nat.lt_of_le_of_lt (Nat.mod_le _ _) (hvd.getD _))))
    generalize slTake _ _ = u2 at hu2 ⊢
    refine O_assign rfl rfl rfl ?_
    refine WL_end [(4, _)] ⟨rfl, trivial⟩ ?_
    refine WP_ret ?_
    refine ret1 Tryd.results35 rfl ?_
    rw [val_take_sz (hvd.set _ (Nat.lt_of_le_of_lt (Nat.mod_le _ _) (hvd.getD _))), val_low_set ha.d (by omega)] at hu2
    exact ⟨_, rfl, (e4.trans e5), hu2.mono (by omega)⟩

theorem less_c {w : World} {va vb : Value} {la lb : List Nat} (ha : Nl w va la) (hb : Nl w vb lb) (hla : la.length ≤ 100000000) (hlb : lb.length ≤ 100000000) :
    Calls Tryd.prog 46 #[va, vb] w (Ret w fun r w' => No w.heap.size 44 w' r (dig (val la - val lb))) := by
  refine enter (args := [va, vb]) Tryd.func46 rfl Tryd.ntmps46 rfl ?_
  refine WP_seq ?_
  refine WP_region ?_
  refine O_assign rfl rfl rfl ?_
  refine WL_end [(0, _), (1, _)] ⟨rfl, rfl, trivial⟩ ?_
  refine WP_seq ?_
  refine WP_region ?_
  refine O_move rfl rfl rfl ?_
  refine O_move rfl rfl rfl ?_
  refine O_call enters31 rfl rfl rfl (rsub_c ha hb (by (try simp only [val_dig, List.length_take, List.length_nil, List.length_cons, List.length_append, List.length_replicate, List.length_set, List.length_map, List.length_drop]); omega) (by (try simp only [val_dig, List.length_take, List.length_nil, List.length_cons, List.length_append, List.length_replicate, List.length_set, List.length_map, List.length_drop]); omega)) (fun v1 w1 e1 h1 => ?_)
  have z1 := e1.size
  obtain ⟨q1, rfl, hq1⟩ := h1
  refine O_move rfl rfl rfl ?_
  refine O_extract rfl rfl rfl rfl ?_
  refine O_extract rfl rfl rfl rfl ?_
  refine O_assign rfl rfl rfl ?_
  refine O_assign rfl rfl rfl ?_
  refine WL_end [(5, _)] ⟨rfl, trivial⟩ ?_
  refine WP_seq ?_
  refine WP_region ?_
  refine O_move rfl rfl rfl ?_
  refine O_assign rfl rfl rfl ?_
  refine WL_end [(4, _)] ⟨rfl, trivial⟩ ?_
  refine WP_ret ?_
  refine ret1 Tryd.results46 rfl ?_
  exact ⟨_, rfl, e1, hq1⟩

theorem rlow_c {w : World} {va : Value} {la : List Nat} {k : Nat} (ha : Nl w va la) (hla : la.length ≤ 100000000) (hk : k ≤ 1048576) :
    Calls Tryd.prog 38 #[va, .int .i64 (k : Nat)] w (Ret w fun r w' => No w.heap.size 44 w' r (dig (val la % 2 ^ k))) := by
  refine enter (args := [va, _]) Tryd.func38 rfl Tryd.ntmps38 rfl ?_
  refine WP_seq ?_
  refine WP_region ?_
  refine O_assign rfl rfl rfl ?_
  refine WL_end [(0, _), (1, _)] ⟨rfl, rfl, trivial⟩ ?_
  refine WP_seq ?_
  refine WP_region ?_
  refine O_move rfl rfl rfl ?_
  refine O_move rfl rfl rfl ?_
  refine O_move rfl rfl rfl ?_
  have hkk : k / 32 ≤ 32768 := by omega
  have hpb := pow_bd k
  have d0 := dig_len_le ha.d
  have d1 := dig_len_mono (Nat.div_le_self (val la) (2 ^ k))
  have d2 := dig_len_mono (Nat.div_mul_le_self (val la) (2 ^ k))
  refine O_call enters37 rfl rfl rfl (rshr_c ha (by (try simp only [val_dig, List.length_take, List.length_nil, List.length_cons, List.length_append, List.length_replicate, List.length_set, List.length_map, List.length_drop]); omega) (by (try simp only [val_dig, List.length_take, List.length_nil, List.length_cons, List.length_append, List.length_replicate, List.length_set, List.length_map, List.length_drop]); omega)) (fun v1 w1 e1 h1 => ?_)
  have z1 := e1.size
  try simp only [val_dig] at h1
  refine O_move rfl rfl rfl ?_
  refine O_call enters36 rfl rfl rfl (rshl_c h1.nl (by (try simp only [val_dig, List.length_take, List.length_nil, List.length_cons, List.length_append, List.length_replicate, List.length_set, List.length_map, List.length_drop]); omega) (by (try simp only [val_dig, List.length_take, List.length_nil, List.length_cons, List.length_append, List.length_replicate, List.length_set, List.length_map, List.length_drop]); omega)) (fun v2 w2 e2 h2 => ?_)
  have z2 := e2.size
  try simp only [val_dig] at h2
  refine O_call enters46 rfl rfl rfl (less_c (ha.ext (e1.trans e2)) h2.nl (by (try simp only [val_dig, List.length_take, List.length_nil, List.length_cons, List.length_append, List.length_replicate, List.length_set, List.length_map, List.length_drop]); omega) (by (try simp only [val_dig, List.length_take, List.length_nil, List.length_cons, List.length_append, List.length_replicate, List.length_set, List.length_map, List.length_drop]); omega)) (fun v3 w3 e3 h3 => ?_)
  have z3 := e3.size
  try simp only [val_dig] at h3
  rw [sub_low] at h3
  refine O_assign rfl rfl rfl ?_
  refine WL_end [(4, _)] ⟨rfl, trivial⟩ ?_
  refine WP_ret ?_
  refine ret1 Tryd.results38 rfl ?_
  exact ⟨_, rfl, ((e1.trans e2).trans e3), h3.mono (by omega)⟩

end Go.Proofs.YtijnlfhaepcldaaDoor
