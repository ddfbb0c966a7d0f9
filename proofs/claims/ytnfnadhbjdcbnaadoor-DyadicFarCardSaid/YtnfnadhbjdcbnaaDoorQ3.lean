/-
  Walks.
-/
import Derived.Test.YtnfnadhbjdcbnaaDoorQ2
import Derived.Test.YtnfnadhbjdcbnaaDoorDigit
set_option linter.unusedVariables false
set_option linter.unusedSimpArgs false
set_option maxRecDepth 100000
namespace Go.Proofs.YtnfnadhbjdcbnaaDoor
open Go Go.RowKit
theorem idU32 {n : Nat} (h : n < 4294967296) : IntKind.u32.wrap (n : Int) = (n : Int) := wrap_u32_id (by omega) (by omega)
theorem quoN {a b : Nat} (ha : a < 18446744073709551616) : IntKind.u64.wrap ((a : Int).tdiv (b : Int)) = ((a / b : Nat) : Int) := by
  rw [Int.tdiv_eq_ediv_of_nonneg (by omega), wrap_u64]
  have h1 : a / b ≤ a := Nat.div_le_self _ _
  have h2 : ((a / b : Nat) : Int) = (a : Int) / (b : Int) := by simp
  rw [← h2]
  generalize a / b = q at *
  omega
theorem quo_lt {r x d : Nat} (hr : r < d) (hx : x < 4294967296) : (r * 4294967296 + x) / d < 4294967296 := by
  rw [Nat.div_lt_iff_lt_mul (by omega)]
  have : (r + 1) * 4294967296 ≤ d * 4294967296 := Nat.mul_le_mul_right _ hr
  rw [Nat.mul_comm 4294967296 d]
  omega
theorem small_step {la lo : List Nat} {k d r : Nat} (hk : 0 < k) (hl : k ≤ lo.length) (hv : val (la.drop k) = d * val (lo.drop k) + r) :
    val (la.drop (k - 1)) = d * val ((lo.set (k - 1) ((r * 4294967296 + la.getD (k - 1) 0) / d)).drop (k - 1)) + (r * 4294967296 + la.getD (k - 1) 0) % d := by
  rw [val_drop la, val_drop (lo.set _ _), getD_set_self _ (by omega), show k - 1 + 1 = k from by omega, hv]
  have h1 : (lo.set (k - 1) ((r * 4294967296 + la.getD (k - 1) 0) / d)).drop k = lo.drop k := by
    rw [List.drop_set, if_pos (by omega)]
  rw [h1]
  have h2 := Nat.div_add_mod (r * 4294967296 + la.getD (k - 1) 0) d
  generalize (r * 4294967296 + la.getD (k - 1) 0) / d = q at *
  generalize (r * 4294967296 + la.getD (k - 1) 0) % d = s at *
  generalize val (lo.drop k) = V at *
  rw [Nat.mul_add d q, Nat.mul_left_comm d]
  generalize d * V = X at *
  generalize d * q = Y at *
  omega

theorem qsmall_c {w : World} {va : Value} {la : List Nat} {d : Nat} (ha : Nl w va la) (hla : la.length ≤ 100000000) (hd0 : d ≠ 0) (hd : d < 4294967296) :
    Calls Tryd.prog 117 #[va, .int .u32 (d : Nat)] w (Ret w fun r w' => ∃ q, r = .tuple #[q, .int .u32 (val la % d : Nat), .bool true] ∧ No w.heap.size 89 w' q (dig (val la / d))) := by
 have hmx := ha.len_le
 refine enter (args := [va, _]) Tryd.func117 rfl Tryd.ntmps117 rfl ?_
 refine WP_seq ?_
 refine WP_region ?_
 refine O_assign rfl rfl rfl ?_
 refine O_assign rfl rfl rfl ?_
 refine O_assign rfl rfl rfl ?_
 refine WL_end [(0, _), (1, _)] ⟨rfl, rfl, trivial⟩ ?_
 refine WP_seq ?_
 refine WP_seq ?_
 refine WP_region ?_
 refine O_move rfl rfl rfl ?_
 refine O_eql (t := false) rfl rfl rfl rfl (decide_eq_false (by omega)) ?_
 refine WL_end [(0, _), (1, _), (11, _)] ⟨rfl, rfl, rfl, trivial⟩ ?_
 refine WP_condF rfl ?_
 refine WP_skip ?_
 refine WP_seq ?_
 refine WP_region ?_
 refine O_move rfl rfl rfl ?_
 refine N_len T22 rfl rfl rfl ha ?_
 refine N_make T22 (by decide) rfl rfl rfl rfl la.length rfl rfl (by omega) (fun v1 w1 o1 e1 => ?_)
 have z1 := e1.size
 refine O_assign rfl rfl rfl ?_
 refine WL_end [(0, _), (1, _), (7, _)] ⟨rfl, rfl, rfl, trivial⟩ ?_
 refine WP_seq ?_
 refine WP_region ?_
 refine O_assign rfl rfl rfl ?_
 refine WL_end [(0, _), (1, _), (7, _), (8, _)] ⟨rfl, rfl, rfl, rfl, trivial⟩ ?_
 refine WP_seq ?_
 refine WP_seq ?_
 refine WP_region ?_
 refine O_move rfl rfl rfl ?_
 refine N_len T22 rfl rfl rfl (ha.ext e1) ?_
 refine O_sub rfl rfl rfl rfl (wrap_i64_id (by omega) (by omega)) ?_
 refine O_assign rfl rfl rfl ?_
 refine WL_end [(0, _), (1, _), (7, _), (8, _), (9, _)] ⟨rfl, rfl, rfl, rfl, rfl, trivial⟩ ?_
 refine WP_block ?_
 refine WP_loop (S := Nat × Nat × List Nat) (fun (k, r, lo) => [(0, va), (1, .int .u32 (d : Nat)), (7, v1), (8, .int .u64 (r : Nat)), (9, .int .i64 (((k : Nat) : Int) - 1))]) (fun (k, r, lo) w' => Ext w w' ∧ No w.heap.size 89 w' v1 lo ∧ lo.length = la.length ∧ k ≤ la.length ∧ r < d ∧ val (la.drop k) = d * val (lo.drop k) + r) (fun (k, r, lo) => k) (la.length, 0, List.replicate la.length 0) ⟨rfl, rfl, rfl, rfl, rfl, trivial⟩ ⟨e1, o1.mono (by omega), by simp, by omega, by omega, by rw [List.drop_length, List.drop_eq_nil_of_le (by simp)]; simp [val]⟩ ?_
 rintro ⟨k, r, lo⟩ w4 ⟨hE, ho, hlo, hk, hr, hv⟩
 show WP _ _ _ _ _ [(0, va), (1, .int .u32 (d : Nat)), (7, v1), (8, .int .u64 (r : Nat)), (9, .int .i64 (((k : Nat) : Int) - 1))] _
 have hz := hE.size
 have hxd := ha.d.getD (k - 1)
 have hql := quo_lt hr hxd
 refine WP_seq ?_
 refine WP_seq ?_
 refine WP_region ?_
 refine O_move rfl rfl rfl ?_
 refine O_geq rfl rfl rfl rfl rfl ?_
 refine WL_end [(0, _), (1, _), (7, _), (8, _), (9, _), (19, _)] ⟨rfl, rfl, rfl, rfl, rfl, rfl, trivial⟩ ?_
 refine WP_condD rfl (fun c19 => ?_) (fun c19 => ?_)
 · --
  refine WP_skip ?_
  refine WP_seq ?_
  refine WP_block ?_
  refine WP_seq ?_
  refine WP_region ?_
  refine O_move rfl rfl rfl ?_
  refine O_shl rfl rfl rfl rfl (by decide) (shl32 (by omega)) ?_
  refine O_move rfl rfl rfl ?_
  refine O_move rfl rfl rfl ?_
  refine N_index T22 rfl rfl rfl rfl (ha.ext hE) (k - 1) (by omega) (by omega) ?_
  refine N_load Tryd.underlying89 rfl rfl rfl (ha.ext hE) (by omega) (fun d27 => ?_)
  refine O_conv Tryd.underlying89 Tryd.underlying82 rfl rfl rfl (wrap_u64_id (by omega) (by omega)) ?_
  refine O_or rfl rfl rfl rfl (u64_or_nat _ _ (by omega) (by omega)) ?_
  rw [or_add hxd]
  refine O_assign rfl rfl rfl ?_
  refine WL_end [(0, _), (1, _), (7, _), (8, _), (9, _)] ⟨rfl, rfl, rfl, rfl, rfl, trivial⟩ ?_
  refine WP_seq ?_
  refine WP_region ?_
  refine O_move rfl rfl rfl ?_
  refine O_move rfl rfl rfl ?_
  refine O_move rfl rfl rfl ?_
  refine O_move rfl rfl rfl ?_
  refine O_conv Tryd.underlying89 Tryd.underlying82 rfl rfl rfl (wrap_u64_id (by omega) (by omega)) ?_
  refine O_quo rfl rfl rfl rfl (by omega) (quoN (by omega)) ?_
  refine O_conv Tryd.underlying82 Tryd.underlying89 rfl rfl rfl (idU32 hql) ?_
  refine N_index T22 rfl rfl rfl rfl ho.nl (k - 1) (by omega) (by omega) ?_
  refine N_store T22 rfl rfl rfl ho (by omega) _ rfl hql (fun w2 o2 q2 a2 b2 => ?_)
  have z2 := q2.size
  have e2 : Ext w w2 := q2.ext hE (by omega)
  refine WL_end [(0, _), (1, _), (7, _), (8, _), (9, _)] ⟨rfl, rfl, rfl, rfl, rfl, trivial⟩ ?_
  refine WP_region ?_
  refine O_move rfl rfl rfl ?_
  refine O_move rfl rfl rfl ?_
  refine O_conv Tryd.underlying89 Tryd.underlying82 rfl rfl rfl (wrap_u64_id (by omega) (by omega)) ?_
  refine O_rem rfl rfl rfl rfl (by omega) remN ?_
  refine O_assign rfl rfl rfl ?_
  refine WL_end [(0, _), (1, _), (7, _), (8, _), (9, _)] ⟨rfl, rfl, rfl, rfl, rfl, trivial⟩ ?_
  refine WP_region ?_
  refine O_move rfl rfl rfl ?_
  refine O_sub rfl rfl rfl rfl (wrap_i64_id (by omega) (by omega)) ?_
  refine O_assign rfl rfl rfl ?_
  refine WL_end [(0, _), (1, _), (7, _), (8, _), (9, _)] ⟨rfl, rfl, rfl, rfl, rfl, trivial⟩ ?_
  exact ⟨(k - 1, _, _), ⟨rfl, rfl, rfl, rfl, (by simp only [look]; congr 3; omega), trivial⟩, ⟨e2, o2, by simp [hlo], by omega, Nat.mod_lt _ (by omega), small_step (by omega) (by omega) hv⟩, by dsimp only; omega⟩
 · --
  refine WP_exit ?_
  refine inBlk_hit ?_
  refine WP_seq ?_
  refine WP_region ?_
  refine O_move rfl rfl rfl ?_
  refine O_call enters97 rfl rfl rfl (trim_c ho.nl (by (try simp only [lens]); omega)) (fun v3 w3 e3 h3 => ?_)
  have z3 := e3.size
  try simp only [val_dig] at h3
  refine O_move rfl rfl rfl ?_
  refine O_conv Tryd.underlying82 Tryd.underlying89 rfl rfl rfl (wrap_u32_id (by omega) (by omega)) ?_
  refine O_assign rfl rfl rfl ?_
  refine O_assign rfl rfl rfl ?_
  refine O_assign rfl rfl rfl ?_
  refine WL_end [(4, _), (5, _), (6, _)] ⟨rfl, rfl, rfl, trivial⟩ ?_
  refine WP_ret ?_
  refine ret3 Tryd.results117 rfl rfl rfl ?_
  obtain rfl : k = 0 := by omega
  rw [List.drop_zero, List.drop_zero] at hv
  have h1 : val la / d = val lo := by rw [hv, Nat.mul_add_div (by omega), Nat.div_eq_of_lt hr, Nat.add_zero]
  have h2 : val la % d = r := by rw [hv, Nat.mul_add_mod, Nat.mod_eq_of_lt hr]
  exact ⟨_, rfl, (hE.trans e3), _, by rw [h2], by rw [h1]; exact h3.mono (by omega)⟩

theorem qsmall_z {w : World} {va : Value} :
    Calls Tryd.prog 117 #[va, .int .u32 0] w (Ret w fun r _ => r = .tuple #[.slice none 0 0, .int .u32 0, .bool false]) := by
 refine enter (args := [va, _]) Tryd.func117 rfl Tryd.ntmps117 rfl ?_
 refine WP_seq ?_
 refine WP_region ?_
 refine O_assign rfl rfl rfl ?_
 refine O_assign rfl rfl rfl ?_
 refine O_assign rfl rfl rfl ?_
 refine WL_end [(0, _), (1, _)] ⟨rfl, rfl, trivial⟩ ?_
 refine WP_seq ?_
 refine WP_seq ?_
 refine WP_region ?_
 refine O_move rfl rfl rfl ?_
 refine O_eql (t := true) rfl rfl rfl rfl (decide_eq_true (by omega)) ?_
 refine WL_end [(0, _), (1, _), (11, _)] ⟨rfl, rfl, rfl, trivial⟩ ?_
 refine WP_condT rfl ?_
 refine WP_seq ?_
 refine WP_region ?_
 refine O_assign rfl rfl rfl ?_
 refine O_assign rfl rfl rfl ?_
 refine O_assign rfl rfl rfl ?_
 refine WL_end [(4, _), (5, _), (6, _)] ⟨rfl, rfl, rfl, trivial⟩ ?_
 refine WP_ret ?_
 refine ret3 Tryd.results117 rfl rfl rfl ?_
 exact ⟨_, rfl, (Ext.refl _), rfl⟩

end Go.Proofs.YtnfnadhbjdcbnaaDoor
