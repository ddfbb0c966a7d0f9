/-
  Walks.
-/
import Derived.Test.YtnfnadhbjdcbnaaDoorQ6
set_option linter.unusedVariables false
set_option linter.unusedSimpArgs false
set_option maxRecDepth 100000
namespace Go.Proofs.YtnfnadhbjdcbnaaDoor
open Go Go.RowKit
theorem dig_len_B {r b : Nat} (h : r < b * 4294967296) : (dig r).length ≤ (dig b).length + 2 :=
  Nat.le_trans (dig_len_mono (Nat.le_of_lt h)) (Nat.le_trans (dig_len_mul _ _) (Nat.add_le_add_left (dig_len_of_lt (by decide)) _))
theorem cmpv_le_zero {a b : Nat} : cmpv a b ≤ 0 ↔ a ≤ b := by unfold cmpv; split <;> (try split) <;> omega
theorem cmpv_ge_zero {a b : Nat} : 0 ≤ cmpv a b ↔ b ≤ a := by unfold cmpv; split <;> (try split) <;> omega
theorem rdiv_step {la lq : List Nat} {k b r r1 : Nat} (hk : 0 < k) (hl : k ≤ lq.length) (hv : val (la.drop k) = b * val (lq.drop k) + r) (hr1 : r1 = la.getD (k - 1) 0 + 4294967296 * r) :
    val (la.drop (k - 1)) = b * val ((lq.set (k - 1) (r1 / b)).drop (k - 1)) + r1 % b := by
  rw [val_drop la, val_drop (lq.set _ _), getD_set_self _ (by omega), show k - 1 + 1 = k from by omega, hv, List.drop_set, if_pos (by omega)]
  have h2 := Nat.div_add_mod r1 b
  generalize r1 / b = q at *
  generalize r1 % b = s at *
  generalize val (lq.drop k) = V at *
  rw [Nat.mul_add b q, Nat.mul_left_comm b]
  generalize b * V = X at *
  generalize b * q = Y at *
  omega
theorem rdiv_low {la lq : List Nat} {k b r r1 : Nat} (hk : 0 < k) (hl : k ≤ lq.length) (hz : lq.getD (k - 1) 0 = 0) (hv : val (la.drop k) = b * val (lq.drop k) + r) (hr1 : r1 = la.getD (k - 1) 0 + 4294967296 * r) :
    val (la.drop (k - 1)) = b * val (lq.drop (k - 1)) + r1 := by
  rw [val_drop la, val_drop lq, show k - 1 + 1 = k from by omega, hv, hz, Nat.zero_add, Nat.mul_left_comm b]
  generalize val (lq.drop k) = V at *
  generalize b * V = X at *
  omega

theorem fits_c {w : World} {vr vb : Value} {lr : List Nat} {b : Nat} (hr : Nl w vr lr) (hb : Nl w vb (dig b)) (hlr : lr.length ≤ 100000000) (hlb : (dig b).length ≤ 10000000) (hlt : val lr < b * 4294967296) :
    Calls Tryd.prog 127 #[vr, vb] w (Ret w fun r _ => r = .int .u32 (val lr / b : Nat)) := by
 refine enter (args := [vr, vb]) Tryd.func127 rfl Tryd.ntmps127 rfl ?_
 refine WP_seq ?_
 refine WP_region ?_
 refine O_assign rfl rfl rfl ?_
 refine WL_end [(0, _), (1, _)] ⟨rfl, rfl, trivial⟩ ?_
 refine WP_seq ?_
 refine WP_region ?_
 refine O_assign rfl rfl rfl ?_
 refine O_assign rfl rfl rfl ?_
 refine WL_end [(0, _), (1, _), (5, _), (6, _)] ⟨rfl, rfl, rfl, rfl, trivial⟩ ?_
 refine WP_seq ?_
 refine WP_block ?_
 refine WP_loop (S := Nat × Nat) (fun (lo, hi) => [(0, vr), (1, vb), (5, .int .u64 (lo : Nat)), (6, .int .u64 (hi : Nat))]) (fun (lo, hi) w' => Ext w w' ∧ lo ≤ hi ∧ hi < 4294967296 ∧ b * lo ≤ val lr ∧ val lr < b * (hi + 1)) (fun (lo, hi) => hi - lo) (0, 4294967295) ⟨rfl, rfl, rfl, rfl, trivial⟩ ⟨(Ext.refl _), by omega, by omega, by simp, hlt⟩ ?_
 rintro ⟨lo, hi⟩ wL ⟨hE, hlh, hh, hlo1, hhi2⟩
 show WP _ _ _ _ _ [(0, vr), (1, vb), (5, .int .u64 (lo : Nat)), (6, .int .u64 (hi : Nat))] _
 have hz := hE.size
 obtain ⟨m, hm⟩ : ∃ m, m = (lo + hi + 1) / 2 := ⟨_, rfl⟩
 have hm2 : m < 4294967296 := by omega
 have hL := dig_len_mul b m
 have hL3 : (dig m).length ≤ 1 := dig_len_of_lt (by rw [Nat.pow_one]; exact hm2)
 refine WP_seq ?_
 refine WP_seq ?_
 refine WP_region ?_
 refine O_move rfl rfl rfl ?_
 refine O_move rfl rfl rfl ?_
 refine O_lss rfl rfl rfl rfl rfl ?_
 refine WL_end [(0, _), (1, _), (5, _), (6, _), (10, _)] ⟨rfl, rfl, rfl, rfl, rfl, trivial⟩ ?_
 refine WP_condD rfl (fun c10 => ?_) (fun c10 => ?_)
 · --
  refine WP_skip ?_
  refine WP_block ?_
  refine WP_seq ?_
  refine WP_region ?_
  refine O_move rfl rfl rfl ?_
  refine O_move rfl rfl rfl ?_
  refine O_add rfl rfl rfl rfl (wrap_u64_id (by omega) (by omega)) ?_
  refine O_add rfl rfl rfl rfl (wrap_u64_id (by omega) (by omega)) ?_
  refine O_quo (r := ((m : Nat) : Int)) rfl rfl rfl rfl (by decide) (by rw [Int.tdiv_eq_ediv_of_nonneg (by omega), wrap_u64]; omega) ?_
  refine O_assign rfl rfl rfl ?_
  refine WL_end [(0, _), (1, _), (5, _), (6, _), (7, _)] ⟨rfl, rfl, rfl, rfl, rfl, trivial⟩ ?_
  refine WP_seq ?_
  refine WP_region ?_
  refine O_move rfl rfl rfl ?_
  refine O_move rfl rfl rfl ?_
  refine O_conv Tryd.underlying82 Tryd.underlying89 rfl rfl rfl (wrap_u32_id (by omega) (by omega)) ?_
  refine O_call enters120 rfl rfl rfl (rsmall_c (hb.ext hE) (by omega) (by omega) (by decide)) (fun v1 w1 e1 h1 => ?_)
  have z1 := e1.size
  try simp only [val_dig] at h1
  rw [Nat.add_zero] at h1
  refine O_move rfl rfl rfl ?_
  refine O_call enters90 rfl rfl rfl (rcmp_c h1.nl (hr.ext (hE.trans e1)) (by (try simp only [lens]); omega) (by (try simp only [lens]); omega)) (fun v2 w2 e2 h2 => ?_)
  have z2 := e2.size
  obtain rfl := h2
  simp only [val_dig, Nat.add_zero]
  refine O_leq rfl rfl rfl rfl rfl ?_
  refine WL_end [(0, _), (1, _), (5, _), (6, _), (7, _), (22, _)] ⟨rfl, rfl, rfl, rfl, rfl, rfl, trivial⟩ ?_
  refine WP_condD rfl (fun c22 => ?_) (fun c22 => ?_)
  · --
   refine WP_region ?_
   refine O_move rfl rfl rfl ?_
   refine O_assign rfl rfl rfl ?_
   refine WL_end [(0, _), (1, _), (5, _), (6, _)] ⟨rfl, rfl, rfl, rfl, trivial⟩ ?_
   exact ⟨(m, hi), ⟨rfl, rfl, rfl, rfl, trivial⟩, ⟨((hE.trans e1).trans e2), by omega, by omega, cmpv_le_zero.1 c22, hhi2⟩, by dsimp only; omega⟩
  · --
   refine WP_region ?_
   refine O_move rfl rfl rfl ?_
   refine O_sub (r := ((m - 1 : Nat) : Int)) rfl rfl rfl rfl (by rw [wrap_u64]; omega) ?_
   refine O_assign rfl rfl rfl ?_
   refine WL_end [(0, _), (1, _), (5, _), (6, _)] ⟨rfl, rfl, rfl, rfl, trivial⟩ ?_
   have h9 : val lr < b * m := Nat.not_le.1 fun h => c22 (cmpv_le_zero.2 h)
   have h8 : m - 1 + 1 = m := by omega
   exact ⟨(lo, m - 1), ⟨rfl, rfl, rfl, rfl, trivial⟩, ⟨((hE.trans e1).trans e2), by omega, by omega, hlo1, by rw [h8]; exact h9⟩, by dsimp only; omega⟩
 · --
  refine WP_exit ?_
  refine inBlk_hit ?_
  refine WP_seq ?_
  refine WP_region ?_
  refine O_move rfl rfl rfl ?_
  refine O_conv Tryd.underlying82 Tryd.underlying89 rfl rfl rfl (wrap_u32_id (by omega) (by omega)) ?_
  refine O_assign rfl rfl rfl ?_
  refine WL_end [(4, _)] ⟨rfl, trivial⟩ ?_
  refine WP_ret ?_
  refine ret1 Tryd.results127 rfl ?_
  obtain rfl : hi = lo := by omega
  exact ⟨_, rfl, hE, by rw [Nat.div_eq_of_lt_le (by rw [Nat.mul_comm]; exact hlo1) (by rw [Nat.mul_comm]; exact hhi2)]⟩

theorem rdivmod0 {w : World} {va vb : Value} {la : List Nat} {b : Nat} (ha : Nl w va la) (hb : Nl w vb (dig b)) (hla : la.length ≤ 10000000) (hlb : (dig b).length ≤ 10000000) (h0 : b = 0) :
    Calls Tryd.prog 119 #[va, vb] w (Ret w fun r w' => ∃ q r2, r = .tuple #[q, r2, .bool (decide (b ≠ 0))] ∧ No w.heap.size 89 w' q (dig (val la / b)) ∧ No w.heap.size 89 w' r2 (dig (rem0 (val la) b))) := by
 refine enter (args := [va, vb]) Tryd.func119 rfl Tryd.ntmps119 rfl ?_
 refine WP_seq ?_
 refine WP_region ?_
 refine O_assign rfl rfl rfl ?_
 refine O_assign rfl rfl rfl ?_
 refine O_assign rfl rfl rfl ?_
 refine WL_end [(0, _), (1, _)] ⟨rfl, rfl, trivial⟩ ?_
 refine WP_seq ?_
 refine WP_seq ?_
 refine WP_region ?_
 refine O_move rfl rfl rfl ?_
 refine N_len T22 rfl rfl rfl hb ?_
 refine O_eql (t := true) rfl rfl rfl rfl (decide_eq_true (by rw [h0, dig_zero]; rfl)) ?_
 refine WL_end [(0, _), (1, _), (12, _)] ⟨rfl, rfl, rfl, trivial⟩ ?_
 refine WP_condT rfl ?_
 refine WP_seq ?_
 refine WP_region ?_
 refine O_assign rfl rfl rfl ?_
 refine O_assign rfl rfl rfl ?_
 refine O_assign rfl rfl rfl ?_
 refine WL_end [(4, _), (5, _), (6, _)] ⟨rfl, rfl, rfl, trivial⟩ ?_
 refine WP_ret ?_
 refine ret3 Tryd.results119 rfl rfl rfl ?_
 rw [h0, Nat.div_zero, rem0_zero, dig_zero]
 exact ⟨_, rfl, (Ext.refl _), _, _, rfl, No.nil _ _ _, No.nil _ _ _⟩

set_option maxHeartbeats 1000000 in
theorem rdivmod1 {w : World} {va vb : Value} {la : List Nat} {b : Nat} (ha : Nl w va la) (hb : Nl w vb (dig b)) (hla : la.length ≤ 10000000) (hlb : (dig b).length ≤ 10000000) (h0 : b ≠ 0) :
    Calls Tryd.prog 119 #[va, vb] w (Ret w fun r w' => ∃ q r2, r = .tuple #[q, r2, .bool (decide (b ≠ 0))] ∧ No w.heap.size 89 w' q (dig (val la / b)) ∧ No w.heap.size 89 w' r2 (dig (rem0 (val la) b))) := by
 refine enter (args := [va, vb]) Tryd.func119 rfl Tryd.ntmps119 rfl ?_
 refine WP_seq ?_
 refine WP_region ?_
 refine O_assign rfl rfl rfl ?_
 refine O_assign rfl rfl rfl ?_
 refine O_assign rfl rfl rfl ?_
 refine WL_end [(0, _), (1, _)] ⟨rfl, rfl, trivial⟩ ?_
 refine WP_seq ?_
 refine WP_seq ?_
 refine WP_region ?_
 refine O_move rfl rfl rfl ?_
 refine N_len T22 rfl rfl rfl hb ?_
 refine O_eql (t := false) rfl rfl rfl rfl (decide_eq_false (by intro e; exact h0 (dig_len_zero.1 (by omega)))) ?_
 refine WL_end [(0, _), (1, _), (12, _)] ⟨rfl, rfl, rfl, trivial⟩ ?_
 refine WP_condF rfl ?_
 refine WP_skip ?_
 refine WP_seq ?_
 refine WP_region ?_
 refine O_move rfl rfl rfl ?_
 refine N_len T22 rfl rfl rfl ha ?_
 refine N_make T22 (by decide) rfl rfl rfl rfl la.length rfl rfl (by omega) (fun v1 w1 o1 e1 => ?_)
 have z1 := e1.size
 refine O_assign rfl rfl rfl ?_
 refine WL_end [(0, _), (1, _), (7, _)] ⟨rfl, rfl, rfl, trivial⟩ ?_
 refine WP_seq ?_
 refine WP_region ?_
 refine O_assign rfl rfl rfl ?_
 refine WL_end [(0, _), (1, _), (7, _), (8, _)] ⟨rfl, rfl, rfl, rfl, trivial⟩ ?_
 refine WP_seq ?_
 refine WP_seq ?_
 refine WP_region ?_
 refine O_move rfl rfl rfl ?_
 refine N_len T22 rfl rfl rfl (ha.ext e1) ?_
 refine O_sub rfl rfl rfl rfl (wrap_i64_id (by omega) (by omega)) ?_
 refine O_assign rfl rfl rfl ?_
 refine WL_end [(0, _), (1, _), (7, _), (8, _), (9, _)] ⟨rfl, rfl, rfl, rfl, rfl, trivial⟩ ?_
 refine WP_block ?_
 refine WP_loop (S := Nat × Nat × List Nat × Value) (fun (k, r, lq, out) => [(0, va), (1, vb), (7, v1), (8, out), (9, .int .i64 (((k : Nat) : Int) - 1))]) (fun (k, r, lq, out) w' => Ext w w' ∧ No w.heap.size 89 w' v1 lq ∧ No w.heap.size 89 w' out (dig r) ∧ lq.length = la.length ∧ k ≤ la.length ∧ r < b ∧ val (la.drop k) = b * val (lq.drop k) + r ∧ ∀ j, j < k → lq.getD j 0 = 0) (fun (k, r, lq, out) => k) (la.length, 0, List.replicate la.length 0, .slice none 0 0) ⟨rfl, rfl, rfl, rfl, rfl, trivial⟩ ⟨e1, o1.mono (by omega), by rw [dig_zero]; exact No.nil _ _ _, by simp, by omega, by omega, by rw [List.drop_length, List.drop_eq_nil_of_le (by simp)]; simp [val], fun j _ => getD_replicate _ _⟩ ?_
 rintro ⟨k, r, lq, out⟩ wL ⟨hE, hq, ho, hlq, hk, hr, hv, hz0⟩
 show WP _ _ _ _ _ [(0, va), (1, vb), (7, v1), (8, out), (9, .int .i64 (((k : Nat) : Int) - 1))] _
 have hz := hE.size
 have hxd := ha.d.getD (k - 1)
 have hL := dig_len_mono (Nat.le_of_lt hr)
 have hbq : 0 < k → vblk v1 < wL.heap.size := fun h => (hq.blk (by rintro rfl; simp at hlq; omega)).2
 obtain ⟨r1, hr1⟩ : ∃ t, t = la.getD (k - 1) 0 + 4294967296 * r := ⟨_, rfl⟩
 have hr1b : r1 < b * 4294967296 := by omega
 have hL1 := dig_len_B hr1b
 refine WP_seq ?_
 refine WP_seq ?_
 refine WP_region ?_
 refine O_move rfl rfl rfl ?_
 refine O_geq rfl rfl rfl rfl rfl ?_
 refine WL_end [(0, _), (1, _), (7, _), (8, _), (9, _), (20, _)] ⟨rfl, rfl, rfl, rfl, rfl, rfl, trivial⟩ ?_
 refine WP_condD rfl (fun c20 => ?_) (fun c20 => ?_)
 · --
  refine WP_skip ?_
  refine WP_seq ?_
  refine WP_block ?_
  refine WP_seq ?_
  refine WP_region ?_
  refine O_move rfl rfl rfl ?_
  refine O_move rfl rfl rfl ?_
  refine N_index T22 rfl rfl rfl rfl (ha.ext hE) (k - 1) (by omega) (by omega) ?_
  refine N_load Tryd.underlying89 rfl rfl rfl (ha.ext hE) (by omega) (fun d26 => ?_)
  refine N_lit T22 rfl rfl [la.getD (k - 1) 0] (D.cons hxd D.nil) rfl (by decide) rfl rfl (fun v2 w2 o2 e2 => ?_)
  have z2 := e2.size
  have hb27 := o2.blk (by simp)
  refine O_move rfl rfl rfl ?_
  refine N_append T22 rfl (by decide) rfl rfl rfl rfl o2 (ho.ext e2).nl (by (try simp only [lens]); omega) (by omega) (fun v3 w3 o3 r3 => ?_)
  have e3 : Ext w w3 := o2.ext_grown r3 (hE.trans e2) (by omega)
  have z3 := r3.size
  have x3 := grown_extB r3
  refine O_call enters85 rfl rfl rfl (rtrim_c o3.nl (by (try simp only [lens]); omega)) (fun v4 w4 e4 h4 => ?_)
  have z4 := e4.size
  try simp only [val_dig] at h4
  simp only [List.cons_append, List.nil_append, val, val_dig] at h4
  rw [← hr1] at h4
  have hbr := fun h : r1 ≠ 0 => h4.blk (fun e => h (dig_nil e))
  refine O_assign rfl rfl rfl ?_
  refine WL_end [(0, _), (1, _), (7, _), (8, _), (9, _)] ⟨rfl, rfl, rfl, rfl, rfl, trivial⟩ ?_
  refine WP_seq ?_
  refine WP_region ?_
  refine O_move rfl rfl rfl ?_
  refine O_move rfl rfl rfl ?_
  refine O_call enters90 rfl rfl rfl (rcmp_c h4.nl (hb.ext (e3.trans e4)) (by (try simp only [lens]); omega) (by (try simp only [lens]); omega)) (fun v5 w5 e5 h5 => ?_)
  have z5 := e5.size
  obtain rfl := h5
  rw [val_dig, val_dig]
  refine O_geq rfl rfl rfl rfl rfl ?_
  refine WL_end [(0, _), (1, _), (7, _), (8, _), (9, _), (34, _)] ⟨rfl, rfl, rfl, rfl, rfl, rfl, trivial⟩ ?_
  refine WP_condD rfl (fun c34 => ?_) (fun c34 => ?_)
  · --
   refine WP_seq ?_
   refine WP_region ?_
   have hb1 : b ≤ r1 := cmpv_ge_zero.1 c34
   refine O_move rfl rfl rfl ?_
   refine O_move rfl rfl rfl ?_
   refine O_move rfl rfl rfl ?_
   refine O_move rfl rfl rfl ?_
   refine O_call enters127 rfl rfl rfl (fits_c (h4.ext e5).nl (hb.ext ((e3.trans e4).trans e5)) (by (try simp only [lens]); omega) (by (try simp only [lens]); omega) (by rw [val_dig]; omega)) (fun v6 w6 e6 h6 => ?_)
   have z6 := e6.size
   obtain rfl := h6
   rw [val_dig]
   refine N_index T22 rfl rfl rfl rfl (((((hq.ext e2).extB x3 (by omega)).ext e4).ext e5).ext e6).nl (k - 1) (by omega) (by omega) ?_
   refine N_store T22 rfl rfl rfl (((((hq.ext e2).extB x3 (by omega)).ext e4).ext e5).ext e6) (by omega) _ rfl (Nat.div_lt_of_lt_mul hr1b) (fun w7 o7 q7 a7 b7 => ?_)
   have z7 := q7.size
   have e7 : Ext w w7 := q7.ext (((e3.trans e4).trans e5).trans e6) (by omega)
   refine WL_end [(0, _), (1, _), (7, _), (8, _), (9, _)] ⟨rfl, rfl, rfl, rfl, rfl, trivial⟩ ?_
   refine WP_region ?_
   refine O_move rfl rfl rfl ?_
   refine O_move rfl rfl rfl ?_
   refine O_move rfl rfl rfl ?_
   refine O_move rfl rfl rfl ?_
   refine N_index T22 rfl rfl rfl rfl o7.nl (k - 1) (by omega) (by rw [List.length_set]; omega) ?_
   refine N_load Tryd.underlying89 rfl rfl rfl o7.nl (by rw [List.length_set]; omega) (fun d46 => ?_)
   rw [getD_set_self _ (by omega)]
   refine O_call enters120 rfl rfl rfl (rsmall_c (hb.ext e7) (by (try simp only [lens]); omega) (Nat.div_lt_of_lt_mul hr1b) (by decide)) (fun v8 w8 e8 h8 => ?_)
   have z8 := e8.size
   try simp only [val_dig] at h8
   rw [Nat.add_zero] at h8
   have hL2 := dig_len_mono (Nat.mul_div_le r1 b)
   refine O_call enters91 rfl rfl rfl (less_c ((((h4.ext e5).ext e6).chg q7 (by omega)).ext e8).nl h8.nl (by (try simp only [lens]); omega) (by (try simp only [lens]); omega)) (fun v9 w9 e9 h9 => ?_)
   have z9 := e9.size
   try simp only [val_dig] at h9
   refine O_assign rfl rfl rfl ?_
   refine WL_end [(0, _), (1, _), (7, _), (8, _), (9, _)] ⟨rfl, rfl, rfl, rfl, rfl, trivial⟩ ?_
   refine WP_region ?_
   refine O_move rfl rfl rfl ?_
   refine O_sub (r := (((k : Nat) : Int) - 1 - 1)) rfl rfl rfl rfl (wrap_i64_id (by omega) (by omega)) ?_
   refine O_assign rfl rfl rfl ?_
   refine WL_end [(0, _), (1, _), (7, _), (8, _), (9, _)] ⟨rfl, rfl, rfl, rfl, rfl, trivial⟩ ?_
   have hmm : r1 - b * (r1 / b) = r1 % b := by have := Nat.div_add_mod r1 b; omega
   rw [hmm] at h9
   exact ⟨(k - 1, r1 % b, _, _), ⟨rfl, rfl, rfl, rfl, (by simp only [look]; congr 3; omega), trivial⟩, ⟨((e7.trans e8).trans e9), ((o7.ext e8).ext e9), h9.mono (by omega), by simp [hlq], by omega, Nat.mod_lt _ (by omega), rdiv_step (by omega) (by omega) hv hr1, fun j hj => by rw [getD_set_other _ _ (by omega)]; exact hz0 j (by omega)⟩, by dsimp only; omega⟩
  · --
   refine WP_skip ?_
   refine WP_region ?_
   refine O_move rfl rfl rfl ?_
   refine O_sub (r := (((k : Nat) : Int) - 1 - 1)) rfl rfl rfl rfl (wrap_i64_id (by omega) (by omega)) ?_
   refine O_assign rfl rfl rfl ?_
   refine WL_end [(0, _), (1, _), (7, _), (8, _), (9, _)] ⟨rfl, rfl, rfl, rfl, rfl, trivial⟩ ?_
   have hlt1 : r1 < b := Nat.not_le.1 fun h => c34 (cmpv_ge_zero.2 h)
   exact ⟨(k - 1, r1, _, _), ⟨rfl, rfl, rfl, rfl, (by simp only [look]; congr 3; omega), trivial⟩, ⟨((e3.trans e4).trans e5), ((((hq.ext e2).extB x3 (by omega)).ext e4).ext e5), (h4.ext e5).mono (by omega), by simp [hlq], by omega, hlt1, rdiv_low (by omega) (by omega) (hz0 _ (by omega)) hv hr1, fun j hj => hz0 j (by omega)⟩, by dsimp only; omega⟩
 · --
  refine WP_exit ?_
  refine inBlk_hit ?_
  refine WP_seq ?_
  refine WP_region ?_
  refine O_move rfl rfl rfl ?_
  refine O_call enters85 rfl rfl rfl (rtrim_c hq.nl (by (try simp only [lens]); omega)) (fun v10 w10 e10 h10 => ?_)
  have z10 := e10.size
  try simp only [val_dig] at h10
  refine O_move rfl rfl rfl ?_
  refine O_assign rfl rfl rfl ?_
  refine O_assign rfl rfl rfl ?_
  refine O_assign rfl rfl rfl ?_
  refine WL_end [(4, _), (5, _), (6, _)] ⟨rfl, rfl, rfl, trivial⟩ ?_
  refine WP_ret ?_
  refine ret3 Tryd.results119 rfl rfl rfl ?_
  obtain rfl : k = 0 := by omega
  rw [List.drop_zero, List.drop_zero] at hv
  have h1 : val la / b = val lq := by rw [hv, Nat.mul_add_div (by omega), Nat.div_eq_of_lt hr, Nat.add_zero]
  have h2 : val la % b = r := by rw [hv, Nat.mul_add_mod, Nat.mod_eq_of_lt hr]
  exact ⟨_, rfl, (hE.trans e10), v10, out, by rw [decide_eq_true h0], by rw [h1]; exact h10.mono (by omega), by rw [rem0_pos h0, h2]; exact (ho.ext e10).mono (by omega)⟩

theorem rdivmod_c {w : World} {va vb : Value} {la : List Nat} {b : Nat} (ha : Nl w va la) (hb : Nl w vb (dig b)) (hla : la.length ≤ 10000000) (hlb : (dig b).length ≤ 10000000) : Calls Tryd.prog 119 #[va, vb] w (Ret w fun r w' => ∃ q r2, r = .tuple #[q, r2, .bool (decide (b ≠ 0))] ∧ No w.heap.size 89 w' q (dig (val la / b)) ∧ No w.heap.size 89 w' r2 (dig (rem0 (val la) b))) := by
  by_cases h0 : b = 0
  · exact rdivmod0 ha hb hla hlb h0
  · exact rdivmod1 ha hb hla hlb h0

theorem rdivmod_t {w : World} {va vb : Value} {la : List Nat} {b : Nat} (ha : Nl w va la) (hb : Nl w vb (dig b)) (hla : la.length ≤ 10000000) (hlb : (dig b).length ≤ 10000000) (h0 : b ≠ 0) : Calls Tryd.prog 119 #[va, vb] w (Ret w fun r w' => ∃ q r2, r = .tuple #[q, r2, .bool true] ∧ No w.heap.size 89 w' q (dig (val la / b)) ∧ No w.heap.size 89 w' r2 (dig (val la % b))) :=
  (rdivmod_c ha hb hla hlb).mono fun e w' ⟨r, he, hx, q, r2, hr, hq, hr2⟩ => ⟨r, he, hx, q, r2, by rw [hr, decide_eq_true h0], hq, by rw [rem0_pos h0] at hr2; exact hr2⟩
theorem rdivmod_z {w : World} {va vb : Value} {la : List Nat} {b : Nat} (ha : Nl w va la) (hb : Nl w vb (dig b)) (hla : la.length ≤ 10000000) (hlb : (dig b).length ≤ 10000000) (h0 : b = 0) : Calls Tryd.prog 119 #[va, vb] w (Ret w fun r w' => ∃ q r2, r = .tuple #[q, r2, .bool false] ∧ No w.heap.size 89 w' q [] ∧ No w.heap.size 89 w' r2 []) :=
  (rdivmod_c ha hb hla hlb).mono fun e w' ⟨r, he, hx, q, r2, hr, hq, hr2⟩ => ⟨r, he, hx, q, r2, by rw [hr, decide_eq_false (by omega)], by rw [h0, Nat.div_zero, dig_zero] at hq; exact hq, by rw [h0, rem0_zero, dig_zero] at hr2; exact hr2⟩

theorem rdiv_c {w : World} {va vb : Value} {la : List Nat} {b : Nat} (ha : Nl w va la) (hb : Nl w vb (dig b)) (hla : la.length ≤ 10000000) (hlb : (dig b).length ≤ 10000000) :
    Calls Tryd.prog 122 #[va, vb] w (Ret w fun r w' => No w.heap.size 89 w' r (dig (val la / b))) := by
 refine enter (args := [va, vb]) Tryd.func122 rfl Tryd.ntmps122 rfl ?_
 refine WP_seq ?_
 refine WP_region ?_
 refine O_assign rfl rfl rfl ?_
 refine WL_end [(0, _), (1, _)] ⟨rfl, rfl, trivial⟩ ?_
 refine WP_seq ?_
 refine WP_region ?_
 refine O_move rfl rfl rfl ?_
 refine O_move rfl rfl rfl ?_
 refine O_call enters119 rfl rfl rfl (rdivmod_c ha hb (by (try simp only [lens]); omega) (by (try simp only [lens]); omega)) (fun v1 w1 e1 h1 => ?_)
 have z1 := e1.size
 try simp only [val_dig] at h1
 obtain ⟨q1, r1, rfl, hq1, hr1⟩ := h1
 refine O_move rfl rfl rfl ?_
 refine O_extract rfl rfl rfl rfl ?_
 refine O_extract rfl rfl rfl rfl ?_
 refine O_extract rfl rfl rfl rfl ?_
 refine O_assign rfl rfl rfl ?_
 refine O_assign rfl rfl rfl ?_
 refine O_assign rfl rfl rfl ?_
 refine WL_end [(5, _)] ⟨rfl, trivial⟩ ?_
 refine WP_seq ?_
 refine WP_region ?_
 refine O_move rfl rfl rfl ?_
 refine O_assign rfl rfl rfl ?_
 refine WL_end [(4, _)] ⟨rfl, trivial⟩ ?_
 refine WP_ret ?_
 refine ret1 Tryd.results122 rfl ?_
 exact ⟨_, rfl, e1, hq1⟩

end Go.Proofs.YtnfnadhbjdcbnaaDoor
