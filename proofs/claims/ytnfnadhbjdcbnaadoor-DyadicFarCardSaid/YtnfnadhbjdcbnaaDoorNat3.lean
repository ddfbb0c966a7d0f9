/-
  Walks.
-/
import Derived.Test.YtnfnadhbjdcbnaaDoorNat2
set_option linter.unusedVariables false
set_option linter.unusedSimpArgs false
set_option maxRecDepth 100000
namespace Go.Proofs.YtnfnadhbjdcbnaaDoor
open Go Go.RowKit
theorem radd_c {w : World} {va vb : Value} {la lb : List Nat} (ha : Nl w va la) (hb : Nl w vb lb) (hla : la.length ≤ 100000000) (hlb : lb.length ≤ 100000000) :
    Calls Tryd.prog 89 #[va, vb] w (Ret w fun r w' => No w.heap.size 89 w' r (dig (val la + val lb))) := by
 refine enter (args := [va, vb]) Tryd.func89 rfl Tryd.ntmps89 rfl ?_
 refine WP_seq ?_
 refine WP_region ?_
 refine O_assign rfl rfl rfl ?_
 refine WL_end [(0, _), (1, _)] ⟨rfl, rfl, trivial⟩ ?_
 refine WP_seq ?_
 refine WP_region ?_
 refine O_assign rfl rfl rfl ?_
 refine WL_end [(0, _), (1, _), (5, _)] ⟨rfl, rfl, rfl, trivial⟩ ?_
 refine WP_seq ?_
 refine WP_region ?_
 refine O_assign rfl rfl rfl ?_
 refine WL_end [(0, _), (1, _), (5, _), (6, _)] ⟨rfl, rfl, rfl, rfl, trivial⟩ ?_
 refine WP_seq ?_
 refine WP_seq ?_
 refine WP_region ?_
 refine O_assign rfl rfl rfl ?_
 refine WL_end [(0, _), (1, _), (5, _), (6, _), (7, _)] ⟨rfl, rfl, rfl, rfl, rfl, trivial⟩ ?_
 refine WP_block ?_
 refine WP_loop (S := Nat × Nat × List Nat × Value) (fun (k, c, lo, out) => [(0, va), (1, vb), (5, out), (6, .int .u64 (c : Nat)), (7, .int .i64 (k : Nat))]) (fun (k, c, lo, out) w' => Ext w w' ∧ No w.heap.size 89 w' out lo ∧ lo.length = k ∧ k ≤ max la.length lb.length + 1 ∧ c < 2 ∧ val lo + 4294967296 ^ k * c = val (la.take k) + val (lb.take k)) (fun (k, c, lo, out) => max la.length lb.length + 2 - k) (0, 0, [], .slice none 0 0) ⟨rfl, rfl, rfl, rfl, rfl, trivial⟩ ⟨Ext.refl _, No.nil _ _ _, rfl, by omega, by omega, by simp [val]⟩ ?_
 rintro ⟨k, c, lo, out⟩ w1 ⟨hE, ho, hlo, hk, hc, hv⟩
 show WP _ _ _ _ _ [(0, va), (1, vb), (5, out), (6, .int .u64 (c : Nat)), (7, .int .i64 (k : Nat))] _
 have hz := hE.size
 have hda := ha.d.getD k
 have hdb := hb.d.getD k
 refine WP_seq ?_
 refine WP_seq ?_
 refine WP_region ?_
 refine O_move rfl rfl rfl ?_
 refine O_move rfl rfl rfl ?_
 refine N_len T22 rfl rfl rfl (ha.ext hE) ?_
 refine O_move rfl rfl rfl ?_
 refine N_len T22 rfl rfl rfl (hb.ext hE) ?_
 refine O_max (r := ((max la.length lb.length : Nat) : Int)) rfl rfl rfl rfl (by omega) ?_
 refine O_leq rfl rfl rfl rfl rfl ?_
 refine WL_end [(0, _), (1, _), (5, _), (6, _), (7, _), (14, _)] ⟨rfl, rfl, rfl, rfl, rfl, rfl, trivial⟩ ?_
 refine WP_condD rfl (fun c14 => ?_) (fun c14 => ?_)
 · --
  refine WP_skip ?_
  refine WP_seq ?_
  refine WP_block ?_
  refine WP_seq ?_
  refine WP_region ?_
  refine O_move rfl rfl rfl ?_
  refine O_move rfl rfl rfl ?_
  refine O_move rfl rfl rfl ?_
  refine O_call enters86 rfl rfl rfl (at_c (ha.ext hE) k rfl) (fun v1 w1 e1 h1 => ?_)
  have z1 := e1.size
  obtain rfl := h1
  refine O_add rfl rfl rfl rfl (wrap_u64_id (by omega) (by omega)) ?_
  refine O_move rfl rfl rfl ?_
  refine O_move rfl rfl rfl ?_
  refine O_call enters86 rfl rfl rfl (at_c (hb.ext (hE.trans e1)) k rfl) (fun v2 w2 e2 h2 => ?_)
  have z2 := e2.size
  obtain rfl := h2
  refine O_add rfl rfl rfl rfl (wrap_u64_id (by omega) (by omega)) ?_
  refine O_assign rfl rfl rfl ?_
  refine WL_end [(0, _), (1, _), (5, _), (6, _), (7, _)] ⟨rfl, rfl, rfl, rfl, rfl, trivial⟩ ?_
  refine WP_seq ?_
  refine WP_region ?_
  refine O_move rfl rfl rfl ?_
  refine O_move rfl rfl rfl ?_
  refine O_conv Tryd.underlying82 Tryd.underlying89 (r := (((c + la.getD k 0 + lb.getD k 0) % 4294967296 : Nat) : Int)) rfl rfl rfl (by rw [wrap_u32]; omega) ?_
  refine N_lit T22 rfl rfl [(c + la.getD k 0 + lb.getD k 0) % 4294967296] (D.cons (by omega) D.nil) rfl (by decide) rfl rfl (fun v3 w3 o3 e3 => ?_)
  have z3 := e3.size
  refine N_append T22 rfl (by decide) rfl rfl rfl rfl (((ho.ext e1).ext e2).ext e3) o3.nl (by (try simp only [lens]); omega) (by omega) (fun v4 w4 o4 r4 => ?_)
  have e4 : Ext w w4 := (((ho.ext e1).ext e2).ext e3).ext_grown r4 (((hE.trans e1).trans e2).trans e3) (by omega)
  have z4 := r4.size
  refine O_assign rfl rfl rfl ?_
  refine WL_end [(0, _), (1, _), (5, _), (6, _), (7, _)] ⟨rfl, rfl, rfl, rfl, rfl, trivial⟩ ?_
  refine WP_region ?_
  refine O_move rfl rfl rfl ?_
  refine O_shr rfl rfl rfl rfl (by decide) (shr32' (c + la.getD k 0 + lb.getD k 0) (by omega)) ?_
  refine O_assign rfl rfl rfl ?_
  refine WL_end [(0, _), (1, _), (5, _), (6, _), (7, _)] ⟨rfl, rfl, rfl, rfl, rfl, trivial⟩ ?_
  refine WP_region ?_
  refine O_move rfl rfl rfl ?_
  refine O_add rfl rfl rfl rfl (wrap_i64_id (by omega) (by omega)) ?_
  refine O_assign rfl rfl rfl ?_
  refine WL_end [(0, _), (1, _), (5, _), (6, _), (7, _)] ⟨rfl, rfl, rfl, rfl, rfl, trivial⟩ ?_
  refine ⟨(k + 1, (c + la.getD k 0 + lb.getD k 0) / 4294967296, lo ++ [(c + la.getD k 0 + lb.getD k 0) % 4294967296], _), ⟨rfl, rfl, rfl, rfl, rfl, trivial⟩, ⟨by assumption, by assumption, by simp [hlo], by omega, by omega, ?_⟩, by dsimp only; omega⟩
  rw [val_snoc, hlo, val_take_succ', val_take_succ', Nat.add_assoc c, carry_step hv, Nat.mul_add]; omega
 · --
  refine WP_exit ?_
  refine inBlk_hit ?_
  refine WP_seq ?_
  refine WP_region ?_
  refine O_move rfl rfl rfl ?_
  refine O_call enters85 rfl rfl rfl (rtrim_c ho.nl (by (try simp only [lens]); omega)) (fun v5 w5 e5 h5 => ?_)
  have z5 := e5.size
  try simp only [val_dig] at h5
  refine O_assign rfl rfl rfl ?_
  refine WL_end [(4, _)] ⟨rfl, trivial⟩ ?_
  refine WP_ret ?_
  refine ret1 Tryd.results89 rfl ?_
  have hk2 : k = max la.length lb.length + 1 := by omega
  subst hk2
  rw [List.take_of_length_le (Nat.le_succ_of_le (Nat.le_max_left _ _)), List.take_of_length_le (Nat.le_succ_of_le (Nat.le_max_right _ _))] at hv
  have hc0 := no_carry hv (val_lt_pow ha.d (Nat.le_max_left _ _)) (val_lt_pow hb.d (Nat.le_max_right _ _))
  subst hc0
  rw [Nat.mul_zero, Nat.add_zero] at hv
  rw [hv] at h5
  exact ⟨_, rfl, hE.trans e5, h5.mono hz⟩

set_option maxHeartbeats 1000000 in
theorem mul_c {w : World} {va vb : Value} {la lb : List Nat} (ha : Nl w va la) (hb : Nl w vb lb) (hla : la.length ≤ 100000000) (hlb : lb.length ≤ 100000000) :
    Calls Tryd.prog 92 #[va, vb] w (Ret w fun r w' => No w.heap.size 89 w' r (dig (val la * val lb))) := by
 refine enter (args := [va, vb]) Tryd.func92 rfl Tryd.ntmps92 rfl ?_
 refine WP_seq ?_
 refine WP_region ?_
 refine O_assign rfl rfl rfl ?_
 refine WL_end [(0, _), (1, _)] ⟨rfl, rfl, trivial⟩ ?_
 refine WP_seq ?_
 refine WP_region ?_
 refine O_move rfl rfl rfl ?_
 refine N_len T22 rfl rfl rfl ha ?_
 refine O_move rfl rfl rfl ?_
 refine N_len T22 rfl rfl rfl hb ?_
 refine O_add (r := ((la.length + lb.length : Nat) : Int)) rfl rfl rfl rfl (by rw [IntKind.wrap_i64]; omega) ?_
 refine N_make T22 (by decide) rfl rfl rfl rfl _ rfl rfl (by omega) (fun v1 w1 o1 e1 => ?_)
 have z1 := e1.size
 refine O_assign rfl rfl rfl ?_
 refine WL_end [(0, _), (1, _), (5, _)] ⟨rfl, rfl, rfl, trivial⟩ ?_
 refine WP_seq ?_
 refine WP_seq ?_
 refine WP_region ?_
 refine O_move rfl rfl rfl ?_
 refine N_len T22 rfl rfl rfl (ha.ext e1) ?_
 refine O_move rfl rfl rfl ?_
 refine WL_end [(1, _), (5, _), (17, _), (18, _), (19, _)] ⟨rfl, rfl, rfl, rfl, rfl, trivial⟩ ?_
 refine WP_block ?_
 refine WP_loop (S := Nat × List Nat) (fun (i, lo) => [(1, vb), (5, v1), (17, va), (18, .int .i64 (la.length : Nat)), (19, .int .i64 (i : Nat))]) (fun (i, lo) w' => Ext w w' ∧ No w.heap.size 89 w' v1 lo ∧ lo.length = la.length + lb.length ∧ i ≤ la.length ∧ val lo = val (la.take i) * val lb ∧ ∀ j, i + lb.length ≤ j → lo.getD j 0 = 0) (fun (i, lo) => la.length - i) (0, List.replicate (la.length + lb.length) 0) ⟨rfl, rfl, rfl, rfl, rfl, trivial⟩ ⟨e1, o1, by simp, by omega, by simp [val_replicate, val], fun j _ => getD_replicate _ _⟩ ?_
 rintro ⟨i, lo⟩ w2 ⟨hE, ho, hlo, hi, hv, hz0⟩
 show WP _ _ _ _ _ [(1, vb), (5, v1), (17, va), (18, .int .i64 (la.length : Nat)), (19, .int .i64 (i : Nat))] _
 have hz := hE.size
 have hxa := ha.d.getD i
 refine WP_seq ?_
 refine WP_region ?_
 refine O_lss rfl rfl rfl rfl rfl ?_
 refine WL_end [(1, _), (5, _), (17, _), (18, _), (19, _), (20, _)] ⟨rfl, rfl, rfl, rfl, rfl, rfl, trivial⟩ ?_
 refine WP_seq ?_
 refine WP_condD rfl (fun c20 => ?_) (fun c20 => ?_)
 · --
  refine WP_skip ?_
  refine WP_seq ?_
  refine WP_block ?_
  refine WP_seq ?_
  refine WP_region ?_
  refine O_move rfl rfl rfl ?_
  refine N_index T22 rfl rfl rfl rfl (ha.ext hE) _ rfl (by omega) ?_
  refine N_load Tryd.underlying89 rfl rfl rfl (ha.ext hE) (by omega) (fun d23 => ?_)
  refine O_assign rfl rfl rfl ?_
  refine O_assign rfl rfl rfl ?_
  refine WL_end [(1, _), (5, _), (6, _), (7, _), (17, _), (18, _), (19, _)] ⟨rfl, rfl, rfl, rfl, rfl, rfl, rfl, trivial⟩ ?_
  refine WP_seq ?_
  refine WP_region ?_
  refine O_assign rfl rfl rfl ?_
  refine WL_end [(1, _), (5, _), (6, _), (7, _), (8, _), (17, _), (18, _), (19, _)] ⟨rfl, rfl, rfl, rfl, rfl, rfl, rfl, rfl, trivial⟩ ?_
  refine WP_seq ?_
  refine WP_seq ?_
  refine WP_region ?_
  refine O_move rfl rfl rfl ?_
  refine N_len T22 rfl rfl rfl (hb.ext hE) ?_
  refine O_move rfl rfl rfl ?_
  refine WL_end [(1, _), (5, _), (6, _), (7, _), (8, _), (17, _), (18, _), (19, _), (24, _), (25, _), (26, _)] ⟨rfl, rfl, rfl, rfl, rfl, rfl, rfl, rfl, rfl, rfl, rfl, trivial⟩ ?_
  refine WP_block ?_
  refine WP_loop (S := Nat × Nat × List Nat) (fun (k, c, l2) => [(1, vb), (5, v1), (6, .int .i64 (i : Nat)), (7, .int .u32 (la.getD i 0 : Nat)), (8, .int .u64 (c : Nat)), (17, va), (18, .int .i64 (la.length : Nat)), (19, .int .i64 (i : Nat)), (24, vb), (25, .int .i64 (lb.length : Nat)), (26, .int .i64 (k : Nat))]) (fun (k, c, l2) w' => Ext w w' ∧ No w.heap.size 89 w' v1 l2 ∧ l2.length = la.length + lb.length ∧ k ≤ lb.length ∧ c < 4294967296 ∧ val l2 + 4294967296 ^ (i + k) * c = val (la.take i) * val lb + 4294967296 ^ i * (la.getD i 0 * val (lb.take k)) ∧ ∀ j, i + lb.length ≤ j → l2.getD j 0 = 0) (fun (k, c, l2) => lb.length - k) (0, 0, lo) ⟨rfl, rfl, rfl, rfl, rfl, rfl, rfl, rfl, rfl, rfl, rfl, trivial⟩ ⟨hE, ho, hlo, by omega, by omega, by simp [val, hv], hz0⟩ ?_
  rintro ⟨k, c, l2⟩ w3 ⟨hE2, ho2, hlo2, hk, hc, hv2, hz2⟩
  show WP _ _ _ _ _ [(1, vb), (5, v1), (6, .int .i64 (i : Nat)), (7, .int .u32 (la.getD i 0 : Nat)), (8, .int .u64 (c : Nat)), (17, va), (18, .int .i64 (la.length : Nat)), (19, .int .i64 (i : Nat)), (24, vb), (25, .int .i64 (lb.length : Nat)), (26, .int .i64 (k : Nat))] _
  have hzz := hE2.size
  have hyb := hb.d.getD k
  have hwl := ho2.d.getD (i + k)
  have hxy : la.getD i 0 * lb.getD k 0 ≤ 4294967295 * 4294967295 := Nat.mul_le_mul (by omega) (by omega)
  have hxy2 : ((la.getD i 0 : Nat) : Int) * ((lb.getD k 0 : Nat) : Int) = ((la.getD i 0 * lb.getD k 0 : Nat) : Int) := by rw [Int.natCast_mul]
  have hxy3 : ((la.getD i 0 * lb.getD k 0 : Nat) : Int) ≤ 4294967295 * 4294967295 := by omega
  refine WP_seq ?_
  refine WP_region ?_
  refine O_lss rfl rfl rfl rfl rfl ?_
  refine WL_end [(1, _), (5, _), (6, _), (7, _), (8, _), (17, _), (18, _), (19, _), (24, _), (25, _), (26, _), (27, _)] ⟨rfl, rfl, rfl, rfl, rfl, rfl, rfl, rfl, rfl, rfl, rfl, rfl, trivial⟩ ?_
  refine WP_seq ?_
  refine WP_condD rfl (fun c27 => ?_) (fun c27 => ?_)
  · --
   refine WP_skip ?_
   refine WP_seq ?_
   refine WP_block ?_
   refine WP_seq ?_
   refine WP_region ?_
   refine O_move rfl rfl rfl ?_
   refine N_index T22 rfl rfl rfl rfl (hb.ext hE2) _ rfl (by omega) ?_
   refine N_load Tryd.underlying89 rfl rfl rfl (hb.ext hE2) (by omega) (fun d30 => ?_)
   refine O_assign rfl rfl rfl ?_
   refine O_assign rfl rfl rfl ?_
   refine WL_end [(1, _), (5, _), (6, _), (7, _), (8, _), (9, _), (10, _), (17, _), (18, _), (19, _), (24, _), (25, _), (26, _)] ⟨rfl, rfl, rfl, rfl, rfl, rfl, rfl, rfl, rfl, rfl, rfl, rfl, rfl, trivial⟩ ?_
   refine WP_seq ?_
   refine WP_region ?_
   refine O_move rfl rfl rfl ?_
   refine O_move rfl rfl rfl ?_
   refine O_conv Tryd.underlying89 Tryd.underlying82 rfl rfl rfl (wrap_u64_id (by omega) (by omega)) ?_
   refine O_move rfl rfl rfl ?_
   refine O_conv Tryd.underlying89 Tryd.underlying82 rfl rfl rfl (wrap_u64_id (by omega) (by omega)) ?_
   refine O_mul (r := ((la.getD i 0 * lb.getD k 0 : Nat) : Int)) rfl rfl rfl rfl (by rw [hxy2]; exact wrap_u64_id (by omega) (by omega)) ?_
   refine O_move rfl rfl rfl ?_
   refine O_move rfl rfl rfl ?_
   refine O_move rfl rfl rfl ?_
   refine O_add (r := ((i + k : Nat) : Int)) rfl rfl rfl rfl (by rw [IntKind.wrap_i64]; omega) ?_
   refine N_index T22 rfl rfl rfl rfl ho2.nl _ rfl (by omega) ?_
   refine N_load Tryd.underlying89 rfl rfl rfl ho2.nl (by omega) (fun d42 => ?_)
   refine O_conv Tryd.underlying89 Tryd.underlying82 rfl rfl rfl (wrap_u64_id (by omega) (by omega)) ?_
   refine O_add rfl rfl rfl rfl (wrap_u64_id (by omega) (by omega)) ?_
   refine O_add rfl rfl rfl rfl (wrap_u64_id (by omega) (by omega)) ?_
   refine O_assign rfl rfl rfl ?_
   refine WL_end [(1, _), (5, _), (6, _), (7, _), (8, _), (9, _), (17, _), (18, _), (19, _), (24, _), (25, _), (26, _)] ⟨rfl, rfl, rfl, rfl, rfl, rfl, rfl, rfl, rfl, rfl, rfl, rfl, trivial⟩ ?_
   refine WP_seq ?_
   refine WP_region ?_
   refine O_move rfl rfl rfl ?_
   refine O_move rfl rfl rfl ?_
   refine O_move rfl rfl rfl ?_
   refine O_add (r := ((i + k : Nat) : Int)) rfl rfl rfl rfl (by rw [IntKind.wrap_i64]; omega) ?_
   refine O_move rfl rfl rfl ?_
   refine O_conv Tryd.underlying82 Tryd.underlying89 (r := (((c + (la.getD i 0 * lb.getD k 0 + l2.getD (i + k) 0)) % 4294967296 : Nat) : Int)) rfl rfl rfl (by rw [wrap_u32]; omega) ?_
   refine N_index T22 rfl rfl rfl rfl ho2.nl _ rfl (by omega) ?_
   refine N_store T22 rfl rfl rfl ho2 (by omega) _ rfl (by omega) (fun w2 o2 q2 a2 b2 => ?_)
   have z2 := q2.size
   have e2 : Ext w w2 := q2.ext hE2 (by omega)
   refine WL_end [(1, _), (5, _), (6, _), (7, _), (8, _), (17, _), (18, _), (19, _), (24, _), (25, _), (26, _)] ⟨rfl, rfl, rfl, rfl, rfl, rfl, rfl, rfl, rfl, rfl, rfl, trivial⟩ ?_
   refine WP_region ?_
   refine O_move rfl rfl rfl ?_
   refine O_shr rfl rfl rfl rfl (by decide) (shr32' (c + (la.getD i 0 * lb.getD k 0 + l2.getD (i + k) 0)) (by omega)) ?_
   refine O_assign rfl rfl rfl ?_
   refine WL_end [(1, _), (5, _), (6, _), (7, _), (8, _), (17, _), (18, _), (19, _), (24, _), (25, _), (26, _)] ⟨rfl, rfl, rfl, rfl, rfl, rfl, rfl, rfl, rfl, rfl, rfl, trivial⟩ ?_
   refine WP_region ?_
   refine O_add rfl rfl rfl rfl (wrap_i64_id (by omega) (by omega)) ?_
   refine O_move rfl rfl rfl ?_
   refine WL_end [(1, _), (5, _), (6, _), (7, _), (8, _), (17, _), (18, _), (19, _), (24, _), (25, _), (26, _)] ⟨rfl, rfl, rfl, rfl, rfl, rfl, rfl, rfl, rfl, rfl, rfl, trivial⟩ ?_
   refine ⟨(k + 1, (c + (la.getD i 0 * lb.getD k 0 + l2.getD (i + k) 0)) / 4294967296, l2.set (i + k) ((c + (la.getD i 0 * lb.getD k 0 + l2.getD (i + k) 0)) % 4294967296)), ⟨rfl, rfl, rfl, rfl, rfl, rfl, rfl, rfl, rfl, rfl, rfl, trivial⟩, ⟨by assumption, by assumption, by simp [hlo2], by omega, by omega, ?_, fun j hj => ?_⟩, by dsimp only; omega⟩
   · exact mul_step (by omega) hv2 rfl (val_take_succ' lb k)
   · rw [getD_set_other _ _ (by omega)]; exact hz2 j hj
  · --
   refine WP_exit ?_
   refine inBlk_hit ?_
   refine WP_region ?_
   refine O_move rfl rfl rfl ?_
   refine O_move rfl rfl rfl ?_
   refine O_move rfl rfl rfl ?_
   refine N_len T22 rfl rfl rfl (hb.ext hE2) ?_
   refine O_add (r := ((i + lb.length : Nat) : Int)) rfl rfl rfl rfl (by rw [IntKind.wrap_i64]; omega) ?_
   refine O_move rfl rfl rfl ?_
   refine O_conv Tryd.underlying82 Tryd.underlying89 (r := ((c : Nat) : Int)) rfl rfl rfl (by rw [wrap_u32]; omega) ?_
   refine N_index T22 rfl rfl rfl rfl ho2.nl _ rfl (by omega) ?_
   refine N_store T22 rfl rfl rfl ho2 (by omega) _ rfl (by omega) (fun w3 o3 q3 a3 b3 => ?_)
   have z3 := q3.size
   have e3 : Ext w w3 := q3.ext hE2 (by omega)
   refine WL_end [(1, _), (5, _), (17, _), (18, _), (19, _)] ⟨rfl, rfl, rfl, rfl, rfl, trivial⟩ ?_
   refine WP_region ?_
   refine O_add rfl rfl rfl rfl (wrap_i64_id (by omega) (by omega)) ?_
   refine O_move rfl rfl rfl ?_
   refine WL_end [(1, _), (5, _), (17, _), (18, _), (19, _)] ⟨rfl, rfl, rfl, rfl, rfl, trivial⟩ ?_
   refine ⟨(i + 1, l2.set (i + lb.length) c), ⟨rfl, rfl, rfl, rfl, rfl, trivial⟩, ⟨by assumption, by assumption, by simp [hlo2], by omega, ?_, fun j hj => ?_⟩, by dsimp only; omega⟩
   · have hk2 : k = lb.length := by omega
     subst hk2
     have h9 := val_set (l := l2) (j := i + lb.length) (by omega) c
     rw [hz2 _ (Nat.le_refl _), Nat.mul_zero, Nat.add_zero, hv2, List.take_of_length_le (Nat.le_refl _)] at h9
     rw [h9, val_take_succ', Nat.add_mul, Nat.mul_assoc]
   · rw [getD_set_other _ _ (by omega)]; exact hz2 j (by omega)
 · --
  refine WP_exit ?_
  refine inBlk_hit ?_
  refine WP_seq ?_
  refine WP_region ?_
  refine O_move rfl rfl rfl ?_
  refine O_call enters97 rfl rfl rfl (trim_c ho.nl (by (try simp only [lens]); omega)) (fun v4 w4 e4 h4 => ?_)
  have z4 := e4.size
  try simp only [val_dig] at h4
  refine O_assign rfl rfl rfl ?_
  refine WL_end [(4, _)] ⟨rfl, trivial⟩ ?_
  refine WP_ret ?_
  refine ret1 Tryd.results92 rfl ?_
  have hi2 : i = la.length := by omega
  subst hi2
  rw [hv, List.take_of_length_le (Nat.le_refl _)] at h4
  exact ⟨_, rfl, hE.trans e4, h4.mono hz⟩

set_option maxHeartbeats 1000000 in
theorem rmul_c {w : World} {va vb : Value} {la lb : List Nat} (ha : Nl w va la) (hb : Nl w vb lb) (hla : la.length ≤ 100000000) (hlb : lb.length ≤ 100000000) :
    Calls Tryd.prog 93 #[va, vb] w (Ret w fun r w' => No w.heap.size 89 w' r (dig (val la * val lb))) := by
 refine enter (args := [va, vb]) Tryd.func93 rfl Tryd.ntmps93 rfl ?_
 refine WP_seq ?_
 refine WP_region ?_
 refine O_assign rfl rfl rfl ?_
 refine WL_end [(0, _), (1, _)] ⟨rfl, rfl, trivial⟩ ?_
 refine WP_seq ?_
 refine WP_region ?_
 refine O_move rfl rfl rfl ?_
 refine N_len T22 rfl rfl rfl ha ?_
 refine O_move rfl rfl rfl ?_
 refine N_len T22 rfl rfl rfl hb ?_
 refine O_add (r := ((la.length + lb.length : Nat) : Int)) rfl rfl rfl rfl (by rw [IntKind.wrap_i64]; omega) ?_
 refine N_make T22 (by decide) rfl rfl rfl rfl _ rfl rfl (by omega) (fun v1 w1 o1 e1 => ?_)
 have z1 := e1.size
 refine O_assign rfl rfl rfl ?_
 refine WL_end [(0, _), (1, _), (5, _)] ⟨rfl, rfl, rfl, trivial⟩ ?_
 refine WP_seq ?_
 refine WP_seq ?_
 refine WP_region ?_
 refine O_move rfl rfl rfl ?_
 refine N_len T22 rfl rfl rfl (ha.ext e1) ?_
 refine O_move rfl rfl rfl ?_
 refine WL_end [(1, _), (5, _), (17, _), (18, _), (19, _)] ⟨rfl, rfl, rfl, rfl, rfl, trivial⟩ ?_
 refine WP_block ?_
 refine WP_loop (S := Nat × List Nat) (fun (i, lo) => [(1, vb), (5, v1), (17, va), (18, .int .i64 (la.length : Nat)), (19, .int .i64 (i : Nat))]) (fun (i, lo) w' => Ext w w' ∧ No w.heap.size 89 w' v1 lo ∧ lo.length = la.length + lb.length ∧ i ≤ la.length ∧ val lo = val (la.take i) * val lb ∧ ∀ j, i + lb.length ≤ j → lo.getD j 0 = 0) (fun (i, lo) => la.length - i) (0, List.replicate (la.length + lb.length) 0) ⟨rfl, rfl, rfl, rfl, rfl, trivial⟩ ⟨e1, o1, by simp, by omega, by simp [val_replicate, val], fun j _ => getD_replicate _ _⟩ ?_
 rintro ⟨i, lo⟩ w2 ⟨hE, ho, hlo, hi, hv, hz0⟩
 show WP _ _ _ _ _ [(1, vb), (5, v1), (17, va), (18, .int .i64 (la.length : Nat)), (19, .int .i64 (i : Nat))] _
 have hz := hE.size
 have hxa := ha.d.getD i
 refine WP_seq ?_
 refine WP_region ?_
 refine O_lss rfl rfl rfl rfl rfl ?_
 refine WL_end [(1, _), (5, _), (17, _), (18, _), (19, _), (20, _)] ⟨rfl, rfl, rfl, rfl, rfl, rfl, trivial⟩ ?_
 refine WP_seq ?_
 refine WP_condD rfl (fun c20 => ?_) (fun c20 => ?_)
 · --
  refine WP_skip ?_
  refine WP_seq ?_
  refine WP_block ?_
  refine WP_seq ?_
  refine WP_region ?_
  refine O_move rfl rfl rfl ?_
  refine N_index T22 rfl rfl rfl rfl (ha.ext hE) _ rfl (by omega) ?_
  refine N_load Tryd.underlying89 rfl rfl rfl (ha.ext hE) (by omega) (fun d23 => ?_)
  refine O_assign rfl rfl rfl ?_
  refine O_assign rfl rfl rfl ?_
  refine WL_end [(1, _), (5, _), (6, _), (7, _), (17, _), (18, _), (19, _)] ⟨rfl, rfl, rfl, rfl, rfl, rfl, rfl, trivial⟩ ?_
  refine WP_seq ?_
  refine WP_region ?_
  refine O_assign rfl rfl rfl ?_
  refine WL_end [(1, _), (5, _), (6, _), (7, _), (8, _), (17, _), (18, _), (19, _)] ⟨rfl, rfl, rfl, rfl, rfl, rfl, rfl, rfl, trivial⟩ ?_
  refine WP_seq ?_
  refine WP_seq ?_
  refine WP_region ?_
  refine O_move rfl rfl rfl ?_
  refine N_len T22 rfl rfl rfl (hb.ext hE) ?_
  refine O_move rfl rfl rfl ?_
  refine WL_end [(1, _), (5, _), (6, _), (7, _), (8, _), (17, _), (18, _), (19, _), (24, _), (25, _), (26, _)] ⟨rfl, rfl, rfl, rfl, rfl, rfl, rfl, rfl, rfl, rfl, rfl, trivial⟩ ?_
  refine WP_block ?_
  refine WP_loop (S := Nat × Nat × List Nat) (fun (k, c, l2) => [(1, vb), (5, v1), (6, .int .i64 (i : Nat)), (7, .int .u32 (la.getD i 0 : Nat)), (8, .int .u64 (c : Nat)), (17, va), (18, .int .i64 (la.length : Nat)), (19, .int .i64 (i : Nat)), (24, vb), (25, .int .i64 (lb.length : Nat)), (26, .int .i64 (k : Nat))]) (fun (k, c, l2) w' => Ext w w' ∧ No w.heap.size 89 w' v1 l2 ∧ l2.length = la.length + lb.length ∧ k ≤ lb.length ∧ c < 4294967296 ∧ val l2 + 4294967296 ^ (i + k) * c = val (la.take i) * val lb + 4294967296 ^ i * (la.getD i 0 * val (lb.take k)) ∧ ∀ j, i + lb.length ≤ j → l2.getD j 0 = 0) (fun (k, c, l2) => lb.length - k) (0, 0, lo) ⟨rfl, rfl, rfl, rfl, rfl, rfl, rfl, rfl, rfl, rfl, rfl, trivial⟩ ⟨hE, ho, hlo, by omega, by omega, by simp [val, hv], hz0⟩ ?_
  rintro ⟨k, c, l2⟩ w3 ⟨hE2, ho2, hlo2, hk, hc, hv2, hz2⟩
  show WP _ _ _ _ _ [(1, vb), (5, v1), (6, .int .i64 (i : Nat)), (7, .int .u32 (la.getD i 0 : Nat)), (8, .int .u64 (c : Nat)), (17, va), (18, .int .i64 (la.length : Nat)), (19, .int .i64 (i : Nat)), (24, vb), (25, .int .i64 (lb.length : Nat)), (26, .int .i64 (k : Nat))] _
  have hzz := hE2.size
  have hyb := hb.d.getD k
  have hwl := ho2.d.getD (i + k)
  have hxy : la.getD i 0 * lb.getD k 0 ≤ 4294967295 * 4294967295 := Nat.mul_le_mul (by omega) (by omega)
  have hxy2 : ((la.getD i 0 : Nat) : Int) * ((lb.getD k 0 : Nat) : Int) = ((la.getD i 0 * lb.getD k 0 : Nat) : Int) := by rw [Int.natCast_mul]
  have hxy3 : ((la.getD i 0 * lb.getD k 0 : Nat) : Int) ≤ 4294967295 * 4294967295 := by omega
  refine WP_seq ?_
  refine WP_region ?_
  refine O_lss rfl rfl rfl rfl rfl ?_
  refine WL_end [(1, _), (5, _), (6, _), (7, _), (8, _), (17, _), (18, _), (19, _), (24, _), (25, _), (26, _), (27, _)] ⟨rfl, rfl, rfl, rfl, rfl, rfl, rfl, rfl, rfl, rfl, rfl, rfl, trivial⟩ ?_
  refine WP_seq ?_
  refine WP_condD rfl (fun c27 => ?_) (fun c27 => ?_)
  · --
   refine WP_skip ?_
   refine WP_seq ?_
   refine WP_block ?_
   refine WP_seq ?_
   refine WP_region ?_
   refine O_move rfl rfl rfl ?_
   refine N_index T22 rfl rfl rfl rfl (hb.ext hE2) _ rfl (by omega) ?_
   refine N_load Tryd.underlying89 rfl rfl rfl (hb.ext hE2) (by omega) (fun d30 => ?_)
   refine O_assign rfl rfl rfl ?_
   refine O_assign rfl rfl rfl ?_
   refine WL_end [(1, _), (5, _), (6, _), (7, _), (8, _), (9, _), (10, _), (17, _), (18, _), (19, _), (24, _), (25, _), (26, _)] ⟨rfl, rfl, rfl, rfl, rfl, rfl, rfl, rfl, rfl, rfl, rfl, rfl, rfl, trivial⟩ ?_
   refine WP_seq ?_
   refine WP_region ?_
   refine O_move rfl rfl rfl ?_
   refine O_move rfl rfl rfl ?_
   refine O_conv Tryd.underlying89 Tryd.underlying82 rfl rfl rfl (wrap_u64_id (by omega) (by omega)) ?_
   refine O_move rfl rfl rfl ?_
   refine O_conv Tryd.underlying89 Tryd.underlying82 rfl rfl rfl (wrap_u64_id (by omega) (by omega)) ?_
   refine O_mul (r := ((la.getD i 0 * lb.getD k 0 : Nat) : Int)) rfl rfl rfl rfl (by rw [hxy2]; exact wrap_u64_id (by omega) (by omega)) ?_
   refine O_add rfl rfl rfl rfl (wrap_u64_id (by omega) (by omega)) ?_
   refine O_move rfl rfl rfl ?_
   refine O_move rfl rfl rfl ?_
   refine O_move rfl rfl rfl ?_
   refine O_add (r := ((i + k : Nat) : Int)) rfl rfl rfl rfl (by rw [IntKind.wrap_i64]; omega) ?_
   refine N_index T22 rfl rfl rfl rfl ho2.nl _ rfl (by omega) ?_
   refine N_load Tryd.underlying89 rfl rfl rfl ho2.nl (by omega) (fun d43 => ?_)
   refine O_conv Tryd.underlying89 Tryd.underlying82 rfl rfl rfl (wrap_u64_id (by omega) (by omega)) ?_
   refine O_add rfl rfl rfl rfl (wrap_u64_id (by omega) (by omega)) ?_
   refine O_assign rfl rfl rfl ?_
   refine WL_end [(1, _), (5, _), (6, _), (7, _), (8, _), (9, _), (17, _), (18, _), (19, _), (24, _), (25, _), (26, _)] ⟨rfl, rfl, rfl, rfl, rfl, rfl, rfl, rfl, rfl, rfl, rfl, rfl, trivial⟩ ?_
   refine WP_seq ?_
   refine WP_region ?_
   refine O_move rfl rfl rfl ?_
   refine O_move rfl rfl rfl ?_
   refine O_move rfl rfl rfl ?_
   refine O_add (r := ((i + k : Nat) : Int)) rfl rfl rfl rfl (by rw [IntKind.wrap_i64]; omega) ?_
   refine O_move rfl rfl rfl ?_
   refine O_conv Tryd.underlying82 Tryd.underlying89 (r := (((c + (la.getD i 0 * lb.getD k 0 + l2.getD (i + k) 0)) % 4294967296 : Nat) : Int)) rfl rfl rfl (by rw [wrap_u32]; omega) ?_
   refine N_index T22 rfl rfl rfl rfl ho2.nl _ rfl (by omega) ?_
   refine N_store T22 rfl rfl rfl ho2 (by omega) _ rfl (by omega) (fun w2 o2 q2 a2 b2 => ?_)
   have z2 := q2.size
   have e2 : Ext w w2 := q2.ext hE2 (by omega)
   refine WL_end [(1, _), (5, _), (6, _), (7, _), (8, _), (17, _), (18, _), (19, _), (24, _), (25, _), (26, _)] ⟨rfl, rfl, rfl, rfl, rfl, rfl, rfl, rfl, rfl, rfl, rfl, trivial⟩ ?_
   refine WP_region ?_
   refine O_move rfl rfl rfl ?_
   refine O_shr rfl rfl rfl rfl (by decide) (shr32' (c + (la.getD i 0 * lb.getD k 0 + l2.getD (i + k) 0)) (by omega)) ?_
   refine O_assign rfl rfl rfl ?_
   refine WL_end [(1, _), (5, _), (6, _), (7, _), (8, _), (17, _), (18, _), (19, _), (24, _), (25, _), (26, _)] ⟨rfl, rfl, rfl, rfl, rfl, rfl, rfl, rfl, rfl, rfl, rfl, trivial⟩ ?_
   refine WP_region ?_
   refine O_add rfl rfl rfl rfl (wrap_i64_id (by omega) (by omega)) ?_
   refine O_move rfl rfl rfl ?_
   refine WL_end [(1, _), (5, _), (6, _), (7, _), (8, _), (17, _), (18, _), (19, _), (24, _), (25, _), (26, _)] ⟨rfl, rfl, rfl, rfl, rfl, rfl, rfl, rfl, rfl, rfl, rfl, trivial⟩ ?_
   refine ⟨(k + 1, (c + (la.getD i 0 * lb.getD k 0 + l2.getD (i + k) 0)) / 4294967296, l2.set (i + k) ((c + (la.getD i 0 * lb.getD k 0 + l2.getD (i + k) 0)) % 4294967296)), ⟨rfl, rfl, rfl, rfl, rfl, rfl, rfl, rfl, rfl, rfl, rfl, trivial⟩, ⟨by assumption, by assumption, by simp [hlo2], by omega, by omega, ?_, fun j hj => ?_⟩, by dsimp only; omega⟩
   · exact mul_step (by omega) hv2 rfl (val_take_succ' lb k)
   · rw [getD_set_other _ _ (by omega)]; exact hz2 j hj
  · --
   refine WP_exit ?_
   refine inBlk_hit ?_
   refine WP_region ?_
   refine O_move rfl rfl rfl ?_
   refine O_move rfl rfl rfl ?_
   refine O_move rfl rfl rfl ?_
   refine N_len T22 rfl rfl rfl (hb.ext hE2) ?_
   refine O_add (r := ((i + lb.length : Nat) : Int)) rfl rfl rfl rfl (by rw [IntKind.wrap_i64]; omega) ?_
   refine O_move rfl rfl rfl ?_
   refine O_conv Tryd.underlying82 Tryd.underlying89 (r := ((c : Nat) : Int)) rfl rfl rfl (by rw [wrap_u32]; omega) ?_
   refine N_index T22 rfl rfl rfl rfl ho2.nl _ rfl (by omega) ?_
   refine N_store T22 rfl rfl rfl ho2 (by omega) _ rfl (by omega) (fun w3 o3 q3 a3 b3 => ?_)
   have z3 := q3.size
   have e3 : Ext w w3 := q3.ext hE2 (by omega)
   refine WL_end [(1, _), (5, _), (17, _), (18, _), (19, _)] ⟨rfl, rfl, rfl, rfl, rfl, trivial⟩ ?_
   refine WP_region ?_
   refine O_add rfl rfl rfl rfl (wrap_i64_id (by omega) (by omega)) ?_
   refine O_move rfl rfl rfl ?_
   refine WL_end [(1, _), (5, _), (17, _), (18, _), (19, _)] ⟨rfl, rfl, rfl, rfl, rfl, trivial⟩ ?_
   refine ⟨(i + 1, l2.set (i + lb.length) c), ⟨rfl, rfl, rfl, rfl, rfl, trivial⟩, ⟨by assumption, by assumption, by simp [hlo2], by omega, ?_, fun j hj => ?_⟩, by dsimp only; omega⟩
   · have hk2 : k = lb.length := by omega
     subst hk2
     have h9 := val_set (l := l2) (j := i + lb.length) (by omega) c
     rw [hz2 _ (Nat.le_refl _), Nat.mul_zero, Nat.add_zero, hv2, List.take_of_length_le (Nat.le_refl _)] at h9
     rw [h9, val_take_succ', Nat.add_mul, Nat.mul_assoc]
   · rw [getD_set_other _ _ (by omega)]; exact hz2 j (by omega)
 · --
  refine WP_exit ?_
  refine inBlk_hit ?_
  refine WP_seq ?_
  refine WP_region ?_
  refine O_move rfl rfl rfl ?_
  refine O_call enters85 rfl rfl rfl (rtrim_c ho.nl (by (try simp only [lens]); omega)) (fun v4 w4 e4 h4 => ?_)
  have z4 := e4.size
  try simp only [val_dig] at h4
  refine O_assign rfl rfl rfl ?_
  refine WL_end [(4, _)] ⟨rfl, trivial⟩ ?_
  refine WP_ret ?_
  refine ret1 Tryd.results93 rfl ?_
  have hi2 : i = la.length := by omega
  subst hi2
  rw [hv, List.take_of_length_le (Nat.le_refl _)] at h4
  exact ⟨_, rfl, hE.trans e4, h4.mono hz⟩

set_option maxHeartbeats 400000 in
theorem small_c {w : World} {v : Value} {l : List Nat} {m c0 : Nat} (hs : Nl w v l) (hl : l.length ≤ 100000000) (hm : m < 4294967296) (hc0 : c0 < 4294967296) :
    Calls Tryd.prog 116 #[v, .int .u32 (m : Nat), .int .u32 (c0 : Nat)] w (Ret w fun r w' => No w.heap.size 89 w' r (dig (val l * m + c0))) := by
 refine enter (args := [v, _, _]) Tryd.func116 rfl Tryd.ntmps116 rfl ?_
 refine WP_seq ?_
 refine WP_region ?_
 refine O_assign rfl rfl rfl ?_
 refine WL_end [(0, _), (1, _), (2, _)] ⟨rfl, rfl, rfl, trivial⟩ ?_
 refine WP_seq ?_
 refine WP_region ?_
 refine O_move rfl rfl rfl ?_
 refine N_len T22 rfl rfl rfl hs ?_
 refine O_add (r := ((l.length + 1 : Nat) : Int)) rfl rfl rfl rfl (by rw [IntKind.wrap_i64]; omega) ?_
 refine N_make T22 (by decide) rfl rfl rfl rfl _ rfl rfl (by omega) (fun v1 w1 o1 e1 => ?_)
 have z1 := e1.size
 refine O_assign rfl rfl rfl ?_
 refine WL_end [(0, _), (1, _), (2, _), (7, _)] ⟨rfl, rfl, rfl, rfl, trivial⟩ ?_
 refine WP_seq ?_
 refine WP_region ?_
 refine O_move rfl rfl rfl ?_
 refine O_conv Tryd.underlying89 Tryd.underlying82 rfl rfl rfl (wrap_u64_id (by omega) (by omega)) ?_
 refine O_assign rfl rfl rfl ?_
 refine WL_end [(0, _), (1, _), (7, _), (8, _)] ⟨rfl, rfl, rfl, rfl, trivial⟩ ?_
 refine WP_seq ?_
 refine WP_seq ?_
 refine WP_region ?_
 refine O_move rfl rfl rfl ?_
 refine N_len T22 rfl rfl rfl (hs.ext e1) ?_
 refine O_move rfl rfl rfl ?_
 refine WL_end [(0, _), (1, _), (7, _), (8, _), (17, _), (18, _), (19, _)] ⟨rfl, rfl, rfl, rfl, rfl, rfl, rfl, trivial⟩ ?_
 refine WP_block ?_
 refine WP_loop (S := Nat × Nat × List Nat) (fun (k, c, lo) => [(0, v), (1, .int .u32 (m : Nat)), (7, v1), (8, .int .u64 (c : Nat)), (17, v), (18, .int .i64 (l.length : Nat)), (19, .int .i64 (k : Nat))]) (fun (k, c, lo) w' => Ext w w' ∧ No w.heap.size 89 w' v1 lo ∧ lo.length = l.length + 1 ∧ k ≤ l.length ∧ c < 4294967296 ∧ val (lo.take k) + 4294967296 ^ k * c = val (l.take k) * m + c0) (fun (k, c, lo) => l.length - k) (0, c0, List.replicate (l.length + 1) 0) ⟨rfl, rfl, rfl, rfl, rfl, rfl, rfl, trivial⟩ ⟨e1, o1, by simp, by omega, by omega, by simp [val]⟩ ?_
 rintro ⟨k, c, lo⟩ w2 ⟨hE, ho, hlo, hk, hc, hv⟩
 show WP _ _ _ _ _ [(0, v), (1, .int .u32 (m : Nat)), (7, v1), (8, .int .u64 (c : Nat)), (17, v), (18, .int .i64 (l.length : Nat)), (19, .int .i64 (k : Nat))] _
 have hz := hE.size
 have hyb := hs.d.getD k
 have hxy : l.getD k 0 * m ≤ 4294967295 * 4294967295 := Nat.mul_le_mul (by omega) (by omega)
 have hxy2 : ((l.getD k 0 : Nat) : Int) * (m : Int) = ((l.getD k 0 * m : Nat) : Int) := by rw [Int.natCast_mul]
 have hxy3 : ((l.getD k 0 * m : Nat) : Int) ≤ 4294967295 * 4294967295 := by omega
 refine WP_seq ?_
 refine WP_region ?_
 refine O_lss rfl rfl rfl rfl rfl ?_
 refine WL_end [(0, _), (1, _), (7, _), (8, _), (17, _), (18, _), (19, _), (20, _)] ⟨rfl, rfl, rfl, rfl, rfl, rfl, rfl, rfl, trivial⟩ ?_
 refine WP_seq ?_
 refine WP_condD rfl (fun c20 => ?_) (fun c20 => ?_)
 · --
  refine WP_skip ?_
  refine WP_seq ?_
  refine WP_block ?_
  refine WP_seq ?_
  refine WP_region ?_
  refine O_move rfl rfl rfl ?_
  refine N_index T22 rfl rfl rfl rfl (hs.ext hE) _ rfl (by omega) ?_
  refine N_load Tryd.underlying89 rfl rfl rfl (hs.ext hE) (by omega) (fun d23 => ?_)
  refine O_assign rfl rfl rfl ?_
  refine O_assign rfl rfl rfl ?_
  refine WL_end [(0, _), (1, _), (7, _), (8, _), (9, _), (10, _), (17, _), (18, _), (19, _)] ⟨rfl, rfl, rfl, rfl, rfl, rfl, rfl, rfl, rfl, trivial⟩ ?_
  refine WP_seq ?_
  refine WP_region ?_
  refine O_move rfl rfl rfl ?_
  refine O_move rfl rfl rfl ?_
  refine O_conv Tryd.underlying89 Tryd.underlying82 rfl rfl rfl (wrap_u64_id (by omega) (by omega)) ?_
  refine O_move rfl rfl rfl ?_
  refine O_conv Tryd.underlying89 Tryd.underlying82 rfl rfl rfl (wrap_u64_id (by omega) (by omega)) ?_
  refine O_mul (r := ((l.getD k 0 * m : Nat) : Int)) rfl rfl rfl rfl (by rw [hxy2]; exact wrap_u64_id (by omega) (by omega)) ?_
  refine O_add rfl rfl rfl rfl (wrap_u64_id (by omega) (by omega)) ?_
  refine O_assign rfl rfl rfl ?_
  refine WL_end [(0, _), (1, _), (7, _), (8, _), (9, _), (17, _), (18, _), (19, _)] ⟨rfl, rfl, rfl, rfl, rfl, rfl, rfl, rfl, trivial⟩ ?_
  refine WP_seq ?_
  refine WP_region ?_
  refine O_move rfl rfl rfl ?_
  refine O_move rfl rfl rfl ?_
  refine O_move rfl rfl rfl ?_
  refine O_conv Tryd.underlying82 Tryd.underlying89 (r := (((c + l.getD k 0 * m) % 4294967296 : Nat) : Int)) rfl rfl rfl (by rw [wrap_u32]; omega) ?_
  refine N_index T22 rfl rfl rfl rfl ho.nl _ rfl (by omega) ?_
  refine N_store T22 rfl rfl rfl ho (by omega) _ rfl (by omega) (fun w2 o2 q2 a2 b2 => ?_)
  have z2 := q2.size
  have e2 : Ext w w2 := q2.ext hE (by omega)
  refine WL_end [(0, _), (1, _), (7, _), (8, _), (17, _), (18, _), (19, _)] ⟨rfl, rfl, rfl, rfl, rfl, rfl, rfl, trivial⟩ ?_
  refine WP_region ?_
  refine O_move rfl rfl rfl ?_
  refine O_shr rfl rfl rfl rfl (by decide) (shr32' (c + l.getD k 0 * m) (by omega)) ?_
  refine O_assign rfl rfl rfl ?_
  refine WL_end [(0, _), (1, _), (7, _), (8, _), (17, _), (18, _), (19, _)] ⟨rfl, rfl, rfl, rfl, rfl, rfl, rfl, trivial⟩ ?_
  refine WP_region ?_
  refine O_add rfl rfl rfl rfl (wrap_i64_id (by omega) (by omega)) ?_
  refine O_move rfl rfl rfl ?_
  refine WL_end [(0, _), (1, _), (7, _), (8, _), (17, _), (18, _), (19, _)] ⟨rfl, rfl, rfl, rfl, rfl, rfl, rfl, trivial⟩ ?_
  refine ⟨(k + 1, (c + l.getD k 0 * m) / 4294967296, lo.set k ((c + l.getD k 0 * m) % 4294967296)), ⟨rfl, rfl, rfl, rfl, rfl, rfl, rfl, trivial⟩, ⟨by assumption, by assumption, by simp [hlo], by omega, by omega, ?_⟩, by dsimp only; omega⟩
  rw [val_take_set (by omega), carry_step hv, val_take_succ', Nat.add_mul, Nat.mul_assoc]; omega
 · --
  refine WP_exit ?_
  refine inBlk_hit ?_
  refine WP_seq ?_
  refine WP_region ?_
  refine O_move rfl rfl rfl ?_
  refine O_move rfl rfl rfl ?_
  refine N_len T22 rfl rfl rfl (hs.ext hE) ?_
  refine O_move rfl rfl rfl ?_
  refine O_conv Tryd.underlying82 Tryd.underlying89 (r := ((c : Nat) : Int)) rfl rfl rfl (by rw [wrap_u32]; omega) ?_
  refine N_index T22 rfl rfl rfl rfl ho.nl l.length rfl (by omega) ?_
  refine N_store T22 rfl rfl rfl ho (by omega) _ rfl (by omega) (fun w3 o3 q3 a3 b3 => ?_)
  have z3 := q3.size
  have e3 : Ext w w3 := q3.ext hE (by omega)
  refine WL_end [(7, _)] ⟨rfl, trivial⟩ ?_
  refine WP_seq ?_
  refine WP_region ?_
  refine O_move rfl rfl rfl ?_
  refine O_call enters97 rfl rfl rfl (trim_c o3.nl (by (try simp only [lens]); omega)) (fun v4 w4 e4 h4 => ?_)
  have z4 := e4.size
  try simp only [val_dig] at h4
  refine O_assign rfl rfl rfl ?_
  refine WL_end [(6, _)] ⟨rfl, trivial⟩ ?_
  refine WP_ret ?_
  refine ret1 Tryd.results116 rfl ?_
  have hk2 : k = l.length := by omega
  subst hk2
  have h9 := val_take_set (l := lo) (k := l.length) (by omega) c
  rw [List.take_of_length_le (by simp [hlo]), hv, List.take_of_length_le (Nat.le_refl _)] at h9
  rw [h9] at h4
  exact ⟨_, rfl, e3.trans e4, h4.mono (by omega)⟩

set_option maxHeartbeats 400000 in
theorem rsmall_c {w : World} {v : Value} {l : List Nat} {m c0 : Nat} (hs : Nl w v l) (hl : l.length ≤ 100000000) (hm : m < 4294967296) (hc0 : c0 < 4294967296) :
    Calls Tryd.prog 120 #[v, .int .u32 (m : Nat), .int .u32 (c0 : Nat)] w (Ret w fun r w' => No w.heap.size 89 w' r (dig (val l * m + c0))) := by
 refine enter (args := [v, _, _]) Tryd.func120 rfl Tryd.ntmps120 rfl ?_
 refine WP_seq ?_
 refine WP_region ?_
 refine O_assign rfl rfl rfl ?_
 refine WL_end [(0, _), (1, _), (2, _)] ⟨rfl, rfl, rfl, trivial⟩ ?_
 refine WP_seq ?_
 refine WP_region ?_
 refine O_assign rfl rfl rfl ?_
 refine WL_end [(0, _), (1, _), (2, _), (7, _)] ⟨rfl, rfl, rfl, rfl, trivial⟩ ?_
 refine WP_seq ?_
 refine WP_region ?_
 refine O_move rfl rfl rfl ?_
 refine O_conv Tryd.underlying89 Tryd.underlying82 rfl rfl rfl (wrap_u64_id (by omega) (by omega)) ?_
 refine O_assign rfl rfl rfl ?_
 refine WL_end [(0, _), (1, _), (7, _), (8, _)] ⟨rfl, rfl, rfl, rfl, trivial⟩ ?_
 refine WP_seq ?_
 refine WP_seq ?_
 refine WP_region ?_
 refine O_move rfl rfl rfl ?_
 refine N_len T22 rfl rfl rfl hs ?_
 refine O_move rfl rfl rfl ?_
 refine WL_end [(1, _), (7, _), (8, _), (13, _), (14, _), (15, _)] ⟨rfl, rfl, rfl, rfl, rfl, rfl, trivial⟩ ?_
 refine WP_block ?_
 refine WP_loop (S := Nat × Nat × List Nat × Value) (fun (k, c, lo, out) => [(1, .int .u32 (m : Nat)), (7, out), (8, .int .u64 (c : Nat)), (13, v), (14, .int .i64 (l.length : Nat)), (15, .int .i64 (k : Nat))]) (fun (k, c, lo, out) w' => Ext w w' ∧ No w.heap.size 89 w' out lo ∧ lo.length = k ∧ k ≤ l.length ∧ c < 4294967296 ∧ val lo + 4294967296 ^ k * c = val (l.take k) * m + c0) (fun (k, c, lo, out) => l.length - k) (0, c0, [], .slice none 0 0) ⟨rfl, rfl, rfl, rfl, rfl, rfl, trivial⟩ ⟨Ext.refl _, No.nil _ _ _, rfl, by omega, by omega, by simp [val]⟩ ?_
 rintro ⟨k, c, lo, out⟩ w1 ⟨hE, ho, hlo, hk, hc, hv⟩
 show WP _ _ _ _ _ [(1, .int .u32 (m : Nat)), (7, out), (8, .int .u64 (c : Nat)), (13, v), (14, .int .i64 (l.length : Nat)), (15, .int .i64 (k : Nat))] _
 have hz := hE.size
 have hyb := hs.d.getD k
 have hxy : l.getD k 0 * m ≤ 4294967295 * 4294967295 := Nat.mul_le_mul (by omega) (by omega)
 have hxy2 : ((l.getD k 0 : Nat) : Int) * (m : Int) = ((l.getD k 0 * m : Nat) : Int) := by rw [Int.natCast_mul]
 have hxy3 : ((l.getD k 0 * m : Nat) : Int) ≤ 4294967295 * 4294967295 := by omega
 refine WP_seq ?_
 refine WP_region ?_
 refine O_lss rfl rfl rfl rfl rfl ?_
 refine WL_end [(1, _), (7, _), (8, _), (13, _), (14, _), (15, _), (16, _)] ⟨rfl, rfl, rfl, rfl, rfl, rfl, rfl, trivial⟩ ?_
 refine WP_seq ?_
 refine WP_condD rfl (fun c16 => ?_) (fun c16 => ?_)
 · --
  refine WP_skip ?_
  refine WP_seq ?_
  refine WP_block ?_
  refine WP_seq ?_
  refine WP_region ?_
  refine N_index T22 rfl rfl rfl rfl (hs.ext hE) _ rfl (by omega) ?_
  refine N_load Tryd.underlying89 rfl rfl rfl (hs.ext hE) (by omega) (fun d18 => ?_)
  refine O_assign rfl rfl rfl ?_
  refine WL_end [(1, _), (7, _), (8, _), (10, _), (13, _), (14, _), (15, _)] ⟨rfl, rfl, rfl, rfl, rfl, rfl, rfl, trivial⟩ ?_
  refine WP_seq ?_
  refine WP_region ?_
  refine O_move rfl rfl rfl ?_
  refine O_move rfl rfl rfl ?_
  refine O_conv Tryd.underlying89 Tryd.underlying82 rfl rfl rfl (wrap_u64_id (by omega) (by omega)) ?_
  refine O_move rfl rfl rfl ?_
  refine O_conv Tryd.underlying89 Tryd.underlying82 rfl rfl rfl (wrap_u64_id (by omega) (by omega)) ?_
  refine O_mul (r := ((l.getD k 0 * m : Nat) : Int)) rfl rfl rfl rfl (by rw [hxy2]; exact wrap_u64_id (by omega) (by omega)) ?_
  refine O_add rfl rfl rfl rfl (wrap_u64_id (by omega) (by omega)) ?_
  refine O_assign rfl rfl rfl ?_
  refine WL_end [(1, _), (7, _), (8, _), (13, _), (14, _), (15, _)] ⟨rfl, rfl, rfl, rfl, rfl, rfl, trivial⟩ ?_
  refine WP_seq ?_
  refine WP_region ?_
  refine O_move rfl rfl rfl ?_
  refine O_move rfl rfl rfl ?_
  refine O_conv Tryd.underlying82 Tryd.underlying89 (r := (((c + l.getD k 0 * m) % 4294967296 : Nat) : Int)) rfl rfl rfl (by rw [wrap_u32]; omega) ?_
  refine N_lit T22 rfl rfl [(c + l.getD k 0 * m) % 4294967296] (D.cons (by omega) D.nil) rfl (by decide) rfl rfl (fun v1 w1 o1 e1 => ?_)
  have z1 := e1.size
  refine N_append T22 rfl (by decide) rfl rfl rfl rfl (ho.ext e1) o1.nl (by (try simp only [lens]); omega) (by omega) (fun v2 w2 o2 r2 => ?_)
  have e2 : Ext w w2 := (ho.ext e1).ext_grown r2 (hE.trans e1) (by omega)
  have z2 := r2.size
  refine O_assign rfl rfl rfl ?_
  refine WL_end [(1, _), (7, _), (8, _), (13, _), (14, _), (15, _)] ⟨rfl, rfl, rfl, rfl, rfl, rfl, trivial⟩ ?_
  refine WP_region ?_
  refine O_move rfl rfl rfl ?_
  refine O_shr rfl rfl rfl rfl (by decide) (shr32' (c + l.getD k 0 * m) (by omega)) ?_
  refine O_assign rfl rfl rfl ?_
  refine WL_end [(1, _), (7, _), (8, _), (13, _), (14, _), (15, _)] ⟨rfl, rfl, rfl, rfl, rfl, rfl, trivial⟩ ?_
  refine WP_region ?_
  refine O_add rfl rfl rfl rfl (wrap_i64_id (by omega) (by omega)) ?_
  refine O_move rfl rfl rfl ?_
  refine WL_end [(1, _), (7, _), (8, _), (13, _), (14, _), (15, _)] ⟨rfl, rfl, rfl, rfl, rfl, rfl, trivial⟩ ?_
  refine ⟨(k + 1, (c + l.getD k 0 * m) / 4294967296, lo ++ [(c + l.getD k 0 * m) % 4294967296], _), ⟨rfl, rfl, rfl, rfl, rfl, rfl, trivial⟩, ⟨by assumption, by assumption, by simp [hlo], by omega, by omega, ?_⟩, by dsimp only; omega⟩
  rw [val_snoc, hlo, carry_step hv, val_take_succ', Nat.add_mul, Nat.mul_assoc]; omega
 · --
  refine WP_exit ?_
  refine inBlk_hit ?_
  refine WP_seq ?_
  refine WP_region ?_
  refine O_move rfl rfl rfl ?_
  refine O_move rfl rfl rfl ?_
  refine O_conv Tryd.underlying82 Tryd.underlying89 (r := ((c : Nat) : Int)) rfl rfl rfl (by rw [wrap_u32]; omega) ?_
  refine N_lit T22 rfl rfl [c] (D.cons hc D.nil) rfl (by decide) rfl rfl (fun v3 w3 o3 e3 => ?_)
  have z3 := e3.size
  refine N_append T22 rfl (by decide) rfl rfl rfl rfl (ho.ext e3) o3.nl (by (try simp only [lens]); omega) (by omega) (fun v4 w4 o4 r4 => ?_)
  have e4 : Ext w w4 := (ho.ext e3).ext_grown r4 (hE.trans e3) (by omega)
  have z4 := r4.size
  refine O_call enters85 rfl rfl rfl (rtrim_c o4.nl (by (try simp only [lens]); omega)) (fun v5 w5 e5 h5 => ?_)
  have z5 := e5.size
  try simp only [val_dig] at h5
  refine O_assign rfl rfl rfl ?_
  refine WL_end [(6, _)] ⟨rfl, trivial⟩ ?_
  refine WP_ret ?_
  refine ret1 Tryd.results120 rfl ?_
  have hk2 : k = l.length := by omega
  subst hk2
  rw [val_snoc, hlo, hv, List.take_of_length_le (Nat.le_refl _)] at h5
  exact ⟨_, rfl, e4.trans e5, h5.mono (by omega)⟩

end Go.Proofs.YtnfnadhbjdcbnaaDoor
