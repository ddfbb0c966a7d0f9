/-
  Walks.
-/
import Derived.Test.YthbfhljpfkicpaaDoorQ4
import Derived.Test.YthbfhljpfkicpaaDoorDiv
set_option linter.unusedVariables false
set_option linter.unusedSimpArgs false
set_option maxRecDepth 100000
namespace Go.Proofs.YthbfhljpfkicpaaDoor
open Go Go.RowKit
set_option maxHeartbeats 4000000 in
theorem divmod_c {w : World} {va vb : Value} {la lb : List Nat} (ha : Nl w va la) (hb : Nl w vb lb) (hla : la.length ≤ 10000000) (hlb : lb.length ≤ 10000000) :
    Calls Tryd.prog 134 #[va, vb] w (Ret w fun r w' => ∃ q r2, r = .tuple #[q, r2, .bool (decide (val lb ≠ 0))] ∧ No w.heap.size 111 w' q (dig (val la / val lb)) ∧ No w.heap.size 111 w' r2 (dig (rem0 (val la) (val lb)))) := by
 have hla1 := dig_len_le ha.d
 have hlb1 := dig_len_le hb.d
 refine enter (args := [va, vb]) Tryd.func134 rfl Tryd.ntmps134 rfl ?_
 refine WP_seq ?_
 refine WP_region ?_
 refine O_assign rfl rfl rfl ?_
 refine O_assign rfl rfl rfl ?_
 refine O_assign rfl rfl rfl ?_
 refine WL_end [(0, _), (1, _)] ⟨rfl, rfl, trivial⟩ ?_
 refine WP_seq ?_
 refine WP_region ?_
 refine O_move rfl rfl rfl ?_
 refine O_call enters131 rfl rfl rfl (trim_c ha (by (try simp only [lens]); omega)) (fun v1 w1 e1 h1 => ?_)
 have z1 := e1.size
 try simp only [val_dig] at h1
 refine O_move rfl rfl rfl ?_
 refine O_call enters131 rfl rfl rfl (trim_c (hb.ext e1) (by (try simp only [lens]); omega)) (fun v2 w2 e2 h2 => ?_)
 have z2 := e2.size
 try simp only [val_dig] at h2
 refine O_assign rfl rfl rfl ?_
 refine O_assign rfl rfl rfl ?_
 refine WL_end [(0, _), (1, _)] ⟨rfl, rfl, trivial⟩ ?_
 refine WP_seq ?_
 refine WP_block ?_
 refine WP_seq ?_
 refine WP_region ?_
 refine O_move rfl rfl rfl ?_
 refine N_len T22 rfl rfl rfl h2.nl ?_
 refine O_eql rfl rfl rfl rfl rfl ?_
 refine O_assign rfl rfl rfl ?_
 refine WL_end [(0, _), (1, _), (20, _)] ⟨rfl, rfl, rfl, trivial⟩ ?_
 refine WP_condD rfl (fun c20 => ?_) (fun c20 => ?_)
 · --
  refine WP_seq ?_
  refine WP_region ?_
  refine O_assign rfl rfl rfl ?_
  refine O_assign rfl rfl rfl ?_
  refine O_assign rfl rfl rfl ?_
  refine WL_end [(4, _), (5, _), (6, _)] ⟨rfl, rfl, rfl, trivial⟩ ?_
  refine WP_ret ?_
  refine inBlk_ret ?_
  refine ret3 Tryd.results134 rfl rfl rfl ?_
  have hb0 : val lb = 0 := dig_len_zero.1 (by omega)
  rw [hb0, Nat.div_zero, rem0_zero, dig_zero]
  exact ⟨_, rfl, (e1.trans e2), _, _, rfl, No.nil _ _ _, No.nil _ _ _⟩
 · --
  refine WP_seq ?_
  refine WP_region ?_
  refine O_move rfl rfl rfl ?_
  refine O_move rfl rfl rfl ?_
  refine O_call enters150 rfl rfl rfl (cmp_c (h1.ext e2).nl h2.nl) (fun v3 w3 e3 h3 => ?_)
  have z3 := e3.size
  obtain rfl := h3
  rw [val_dig, val_dig]
  refine O_lss rfl rfl rfl rfl rfl ?_
  refine O_assign rfl rfl rfl ?_
  refine WL_end [(0, _), (1, _), (24, _)] ⟨rfl, rfl, rfl, trivial⟩ ?_
  refine WP_condD rfl (fun c24 => ?_) (fun c24 => ?_)
  · --
   refine WP_seq ?_
   refine WP_region ?_
   refine O_move rfl rfl rfl ?_
   refine O_assign rfl rfl rfl ?_
   refine O_assign rfl rfl rfl ?_
   refine O_assign rfl rfl rfl ?_
   refine WL_end [(4, _), (5, _), (6, _)] ⟨rfl, rfl, rfl, trivial⟩ ?_
   refine WP_ret ?_
   refine inBlk_ret ?_
   refine ret3 Tryd.results134 rfl rfl rfl ?_
   have hlt := cmpv_lt_zero.1 c24
   have hb0 : val lb ≠ 0 := by omega
   rw [Nat.div_eq_of_lt hlt, rem0_pos hb0, Nat.mod_eq_of_lt hlt, dig_zero]
   exact ⟨_, rfl, ((e1.trans e2).trans e3), _, v1, by rw [decide_eq_true hb0], No.nil _ _ _, ((h1.ext e2).ext e3).mono (by omega)⟩
  · --
   refine WP_seq ?_
   refine WP_region ?_
   refine O_move rfl rfl rfl ?_
   refine N_len T22 rfl rfl rfl (h2.ext e3).nl ?_
   refine O_eql rfl rfl rfl rfl rfl ?_
   refine O_assign rfl rfl rfl ?_
   refine WL_end [(0, _), (1, _), (30, _)] ⟨rfl, rfl, rfl, trivial⟩ ?_
   refine WP_condD rfl (fun c30 => ?_) (fun c30 => ?_)
   · --
    refine WP_seq ?_
    refine WP_region ?_
    refine O_move rfl rfl rfl ?_
    refine O_move rfl rfl rfl ?_
    obtain ⟨hd1, hd2, hd3⟩ := dig_len_one (n := val lb) (by omega)
    have hmr := Nat.mod_lt (val la) (Nat.pos_of_ne_zero hd2)
    refine N_index T22 rfl rfl rfl rfl (h2.ext e3).nl 0 rfl (by omega) ?_
    refine N_load Tryd.underlying111 rfl rfl rfl (h2.ext e3).nl (by omega) (fun d38 => ?_)
    rw [hd1]
    refine O_call enters157 rfl rfl rfl (qsmall_c ((h1.ext e2).ext e3).nl (by (try simp only [lens]); omega) (by (try simp only [lens]); omega) (by (try simp only [lens]); omega)) (fun v4 w4 e4 h4 => ?_)
    have z4 := e4.size
    try simp only [val_dig] at h4
    obtain ⟨q4, rfl, hq4⟩ := h4
    refine O_move rfl rfl rfl ?_
    refine O_extract rfl rfl rfl rfl ?_
    refine O_extract rfl rfl rfl rfl ?_
    refine O_extract rfl rfl rfl rfl ?_
    refine O_assign rfl rfl rfl ?_
    refine O_assign rfl rfl rfl ?_
    refine O_assign rfl rfl rfl ?_
    refine WL_end [(7, _), (8, _)] ⟨rfl, rfl, trivial⟩ ?_
    refine WP_seq ?_
    refine WP_region ?_
    refine O_move rfl rfl rfl ?_
    refine O_move rfl rfl rfl ?_
    refine O_conv Tryd.underlying111 Tryd.underlying83 rfl rfl rfl (wrap_u64_id (by omega) (by omega)) ?_
    refine O_call enters118 rfl rfl rfl (of_c _ (by omega)) (fun v5 w5 e5 h5 => ?_)
    have z5 := e5.size
    try simp only [val_dig] at h5
    refine O_assign rfl rfl rfl ?_
    refine O_assign rfl rfl rfl ?_
    refine O_assign rfl rfl rfl ?_
    refine WL_end [(4, _), (5, _), (6, _)] ⟨rfl, rfl, rfl, trivial⟩ ?_
    refine WP_ret ?_
    refine inBlk_ret ?_
    refine ret3 Tryd.results134 rfl rfl rfl ?_
    exact ⟨_, rfl, ((((e1.trans e2).trans e3).trans e4).trans e5), q4, v5, by rw [decide_eq_true hd2] <;> rfl, (hq4.ext e5).mono (by omega), by rw [rem0_pos hd2]; exact h5.mono (by omega)⟩
   · --
    refine WP_skip ?_
    refine WP_seq ?_
    refine WP_region ?_
    have hb0 : val lb ≠ 0 := fun e => c20 (by rw [e, dig_zero]; rfl)
    have hab : val lb ≤ val la := Nat.not_lt.1 fun h => c24 (cmpv_lt_zero.2 h)
    have hlb2 : 2 ≤ (dig (val lb)).length := by omega
    have htd := top_dig hb0
    refine O_move rfl rfl rfl ?_
    refine O_move rfl rfl rfl ?_
    refine N_len T22 rfl rfl rfl (h2.ext e3).nl ?_
    refine O_sub (r := (((dig (val lb)).length - 1 : Nat) : Int)) rfl rfl rfl rfl (by rw [IntKind.wrap_i64]; omega) ?_
    refine N_index T22 rfl rfl rfl rfl (h2.ext e3).nl ((dig (val lb)).length - 1) rfl (by omega) ?_
    refine N_load Tryd.underlying111 rfl rfl rfl (h2.ext e3).nl (by omega) (fun d52 => ?_)
    refine O_call enters158 rfl rfl rfl (lz32_c (by (try simp only [lens]); omega)) (fun v6 w6 e6 h6 => ?_)
    have z6 := e6.size
    obtain rfl := h6
    have hbl1 := bl_pos htd
    generalize hs : 32 - bl ((dig (val lb)).getD ((dig (val lb)).length - 1) 0) = s
    have hs31 : s ≤ 31 := by omega
    have hp : 0 < 2 ^ s := Nat.two_pow_pos s
    have hp1 : (dig (2 ^ s)).length ≤ 1 := dig_len_of_lt (by rw [Nat.pow_one]; exact Nat.lt_of_le_of_lt (Nat.pow_le_pow_right (by decide) hs31) (by decide))
    obtain ⟨V, hVd⟩ : ∃ V, V = val lb * 2 ^ s := ⟨_, rfl⟩
    obtain ⟨U, hUd⟩ : ∃ U, U = val la * 2 ^ s := ⟨_, rfl⟩
    have hV0 : V ≠ 0 := by rw [hVd]; exact Nat.mul_ne_zero hb0 (by omega)
    have hVU : V ≤ U := by rw [hVd, hUd]; exact Nat.mul_le_mul_right _ hab
    obtain ⟨n, hVl⟩ : ∃ n, (dig V).length = n := ⟨_, rfl⟩
    have hn2 : 2 ≤ n := by rw [← hVl]; exact Nat.le_trans hlb2 (dig_len_mono (by rw [hVd]; exact Nat.le_mul_of_pos_right _ hp))
    have hn9 : n ≤ 20000000 := by rw [← hVl, hVd]; exact Nat.le_trans (dig_len_mul _ _) (by omega)
    have hnU : n ≤ (dig U).length := by rw [← hVl]; exact dig_len_mono hVU
    have hU9 : (dig U).length ≤ 20000000 := by rw [hUd]; exact Nat.le_trans (dig_len_mul _ _) (by omega)
    have hVn : dig V ≠ [] := fun e => hV0 (dig_nil e)
    have hUn : dig U ≠ [] := by intro e; rw [e] at hnU; simp at hnU; omega
    have hVB : V < 4294967296 ^ n := by rw [← hVl]; exact lt_of_dig_len (Nat.le_refl _)
    have htv : (dig V).getD (n - 1) 0 ≠ 0 := by rw [← hVl]; exact top_dig hV0
    refine O_assign rfl rfl rfl ?_
    refine WL_end [(0, _), (1, _), (10, _)] ⟨rfl, rfl, rfl, trivial⟩ ?_
    refine WP_seq ?_
    refine WP_region ?_
    refine O_move rfl rfl rfl ?_
    refine O_move rfl rfl rfl ?_
    refine O_call enters89 rfl rfl rfl (shl_c ((h2.ext e3).ext e6).nl (by (try simp only [lens]); omega) (by (try simp only [lens]); omega)) (fun v7 w7 e7 h7 => ?_)
    have z7 := e7.size
    try simp only [val_dig] at h7
    rw [← hVd] at h7
    have hbv := h7.blk hVn
    refine O_assign rfl rfl rfl ?_
    refine WL_end [(0, _), (10, _), (11, _)] ⟨rfl, rfl, rfl, trivial⟩ ?_
    refine WP_seq ?_
    refine WP_region ?_
    refine O_move rfl rfl rfl ?_
    refine O_move rfl rfl rfl ?_
    refine O_call enters89 rfl rfl rfl (shl_c ((((h1.ext e2).ext e3).ext e6).ext e7).nl (by (try simp only [lens]); omega) (by (try simp only [lens]); omega)) (fun v8 w8 e8 h8 => ?_)
    have z8 := e8.size
    try simp only [val_dig] at h8
    rw [← hUd] at h8
    have hbu0 := h8.blk hUn
    refine N_lit T22 rfl rfl [0] (by simp [D]) rfl (by decide) rfl rfl (fun v9 w9 o9 e9 => ?_)
    have z9 := e9.size
    refine N_append T22 rfl (by decide) rfl rfl rfl rfl (h8.ext e9) o9.nl (by (try simp only [lens]); omega) (by omega) (fun v10 w10 o10 r10 => ?_)
    have e10 : Ext w w10 := (h8.ext e9).ext_grown r10 ((((((e1.trans e2).trans e3).trans e6).trans e7).trans e8).trans e9) (by omega)
    have z10 := r10.size
    have x10 := grown_extB r10
    have hbu := o10.blk (by simp)
    have hbu := o10.blk (by simp)
    refine O_assign rfl rfl rfl ?_
    refine WL_end [(10, _), (11, _), (12, _)] ⟨rfl, rfl, rfl, trivial⟩ ?_
    refine WP_seq ?_
    refine WP_region ?_
    refine O_move rfl rfl rfl ?_
    refine N_len T22 rfl rfl rfl (((h7.ext e8).ext e9).extB x10 (by omega)).nl ?_
    rw [hVl]
    refine O_assign rfl rfl rfl ?_
    refine WL_end [(10, _), (11, _), (12, _), (13, _)] ⟨rfl, rfl, rfl, rfl, trivial⟩ ?_
    refine WP_seq ?_
    refine WP_region ?_
    refine O_move rfl rfl rfl ?_
    refine N_len T22 rfl rfl rfl o10.nl ?_
    rw [List.length_append, List.length_singleton]
    refine O_move rfl rfl rfl ?_
    refine O_sub (r := (((dig U).length + 1 - n : Nat) : Int)) rfl rfl rfl rfl (by rw [IntKind.wrap_i64]; omega) ?_
    refine N_make T22 (by decide) rfl rfl rfl rfl ((dig U).length + 1 - n) rfl rfl (by omega) (fun v11 w11 o11 e11 => ?_)
    have z11 := e11.size
    refine O_assign rfl rfl rfl ?_
    refine WL_end [(10, _), (11, _), (12, _), (13, _), (14, _)] ⟨rfl, rfl, rfl, rfl, rfl, trivial⟩ ?_
    refine WP_seq ?_
    refine WP_seq ?_
    refine WP_region ?_
    refine O_move rfl rfl rfl ?_
    refine N_len T22 rfl rfl rfl (o10.ext e11).nl ?_
    rw [List.length_append, List.length_singleton]
    refine O_move rfl rfl rfl ?_
    refine O_sub (r := (((dig U).length + 1 - n : Nat) : Int)) rfl rfl rfl rfl (by rw [IntKind.wrap_i64]; omega) ?_
    refine O_sub rfl rfl rfl rfl (wrap_i64_id (by omega) (by omega)) ?_
    have hbq := o11.blk (by intro e; have := congrArg List.length e; simp at this; omega)
    refine O_assign rfl rfl rfl ?_
    refine WL_end [(10, _), (11, _), (12, _), (13, _), (14, _), (15, _)] ⟨rfl, rfl, rfl, rfl, rfl, rfl, trivial⟩ ?_
    refine WP_block ?_
    refine WP_loop (S := Nat × List Nat × List Nat) (fun (k, u, lq) => [(10, .int .i64 (s : Nat)), (11, v7), (12, v10), (13, .int .i64 (n : Nat)), (14, v11), (15, .int .i64 (((k : Nat) : Int) - 1))]) (fun (k, u, lq) w' => Ext w w' ∧ Nl w' v7 (dig V) ∧ No w.heap.size 111 w' v10 u ∧ No w.heap.size 111 w' v11 lq ∧ u.length = (dig U).length + 1 ∧ lq.length = (dig U).length + 1 - n ∧ k ≤ lq.length ∧ val u + V * (4294967296 ^ k * val (lq.drop k)) = U ∧ val (u.drop k) < V) (fun (k, u, lq) => k) ((dig U).length + 1 - n, dig U ++ [0], List.replicate ((dig U).length + 1 - n) 0) ⟨rfl, rfl, rfl, rfl, rfl, rfl, trivial⟩ ⟨(e10.trans e11), ((((h7.ext e8).ext e9).extB x10 (by omega)).ext e11).nl, (o10.ext e11).mono (by omega), o11.mono (by omega), by simp, by simp, by simp, by rw [List.drop_eq_nil_of_le (by simp), val_snoc_zero, val_dig]; simp [val], div_start hnU (by omega) hVl.symm⟩ ?_
    rintro ⟨k, u, lq⟩ wL ⟨hE, hv9, ho, hq, hlu, hlq, hk, hval, hm⟩
    show WP _ _ _ _ _ [(10, .int .i64 (s : Nat)), (11, v7), (12, v10), (13, .int .i64 (n : Nat)), (14, v11), (15, .int .i64 (((k : Nat) : Int) - 1))] _
    have hz := hE.size
    have hun9 : (dig (val (u.take n))).length ≤ 20000000 := Nat.le_trans (dig_len_le (ho.d.take n)) (by rw [List.length_take]; omega)
    refine WP_seq ?_
    refine WP_seq ?_
    refine WP_region ?_
    refine O_move rfl rfl rfl ?_
    refine O_geq rfl rfl rfl rfl rfl ?_
    refine WL_end [(10, _), (11, _), (12, _), (13, _), (14, _), (15, _), (75, _)] ⟨rfl, rfl, rfl, rfl, rfl, rfl, rfl, trivial⟩ ?_
    refine WP_condD rfl (fun c75 => ?_) (fun c75 => ?_)
    · --
     refine WP_skip ?_
     refine WP_seq ?_
     refine WP_block ?_
     refine WP_region ?_
     refine O_move rfl rfl rfl ?_
     refine O_move rfl rfl rfl ?_
     refine O_move rfl rfl rfl ?_
     refine O_move rfl rfl rfl ?_
     refine O_move rfl rfl rfl ?_
     refine O_move rfl rfl rfl ?_
     refine O_add rfl rfl rfl rfl (wrap_i64_id (by omega) (by omega)) ?_
     refine O_add rfl rfl rfl rfl (wrap_i64_id (by omega) (by omega)) ?_
     refine N_slice T22 rfl rfl rfl rfl rfl ho.nl (k - 1) (k - 1 + n + 1) (by omega) (by omega) (by omega) (by omega) ?_
     refine O_move rfl rfl rfl ?_
     have hm9 : val (u.drop (k - 1 + 1)) < V := by rw [show k - 1 + 1 = k from by omega]; exact hm
     refine O_callB enters159 rfl rfl rfl (digit_c (k := k - 1) (n := n) ho hv9 (by omega) hVl hn2 (by omega) (by omega) (by omega) htv (by rw [sg_dig hVl]; exact seg_lt ho.d hm9 hVB)) (fun v12 w12 e12 h12 => ?_)
     obtain ⟨rfl, u3, ho3, hlu3, hout3, hs3⟩ := h12
     have z12 := e12.size
     have eE12 : Ext w w12 := Ext.extB hE e12 (by omega)
     rw [sg_dig hVl] at hs3 ⊢
     refine N_index T22 rfl rfl rfl rfl (hq.extB e12 (by omega)).nl (k - 1) (by omega) (by omega) ?_
     refine N_store T22 rfl rfl rfl (hq.extB e12 (by omega)) (by omega) _ rfl (Nat.div_lt_of_lt_mul (seg_lt ho.d hm9 hVB)) (fun w13 o13 q13 a13 b13 => ?_)
     have z13 := q13.size
     have e13 : Ext w w13 := q13.ext eE12 (by omega)
     refine WL_end [(10, _), (11, _), (12, _), (13, _), (14, _), (15, _)] ⟨rfl, rfl, rfl, rfl, rfl, rfl, trivial⟩ ?_
     refine WP_region ?_
     refine O_move rfl rfl rfl ?_
     refine O_sub rfl rfl rfl rfl (wrap_i64_id (by omega) (by omega)) ?_
     refine O_assign rfl rfl rfl ?_
     refine WL_end [(10, _), (11, _), (12, _), (13, _), (14, _), (15, _)] ⟨rfl, rfl, rfl, rfl, rfl, rfl, trivial⟩ ?_
     obtain ⟨hval3, hm3⟩ := div_step (k := k - 1) (lq := lq) (A := U) ho.d ho3.d (by omega) hm9 hVB (by rw [show k - 1 + 1 = k from by omega]; exact hval) hout3 hs3
     exact ⟨(k - 1, u3, _), ⟨rfl, rfl, rfl, rfl, rfl, (by simp only [look]; congr 3; omega), trivial⟩, ⟨e13, ((hv9.extB e12 (fun _ => by omega)).chg q13 (fun _ => by omega)), (ho3.chg q13 (by omega)), o13, by omega, by simp [hlq], by simp; omega, hval3, hm3⟩, by dsimp only; omega⟩
    · --
     refine WP_exit ?_
     refine inBlk_hit ?_
     refine WP_seq ?_
     refine WP_sub [(10, _), (12, _), (13, _), (14, _)] ⟨rfl, rfl, rfl, rfl, trivial⟩ ?_
     refine WP_anyR 7 [10, 12, 13, 14] mixed rfl (by kernel_rfl) ?_
     apply AnyR_val [14] rfl (by kernel_rfl)
     · --
      intro y14 hy14
      have zy14 := hy14.size
      refine AllV_nil ?_
      refine O_move rfl rfl rfl ?_
      exact WL_nil ⟨(Ext.refl _), rfl⟩
     apply AnyR_no [90] rfl (by kernel_rfl)
     · --
      intro y15 hy15
      have zy15 := hy15.size
      refine AllV_v ?_
      refine AllV_nil ?_
      refine O_call enters131 rfl rfl rfl (trim_c (hq.ext hy15).nl (by (try simp only [lens]); omega)) (fun v16 w16 e16 h16 => ?_)
      have z16 := e16.size
      try simp only [val_dig] at h16
      exact WL_nil ⟨e16, _, rfl, NoR.mk' h16⟩
     apply AnyR_val [12] rfl (by kernel_rfl)
     · --
      intro y17 hy17
      have zy17 := hy17.size
      refine AllV_nil ?_
      refine O_move rfl rfl rfl ?_
      exact WL_nil ⟨(Ext.refl _), rfl⟩
     apply AnyR_val [13] rfl (by kernel_rfl)
     · --
      intro y18 hy18
      have zy18 := hy18.size
      refine AllV_nil ?_
      refine O_move rfl rfl rfl ?_
      exact WL_nil ⟨(Ext.refl _), rfl⟩
     apply AnyR_nl [92, 93] rfl (by kernel_rfl)
     · --
      intro y19 hy19
      have zy19 := hy19.size
      refine AllV_v ?_
      refine AllV_v ?_
      refine AllV_nil ?_
      refine N_sliceTo T22 rfl rfl rfl rfl (ho.ext hy19).nl n rfl (by omega) ?_
      have ht := (ho.ext hy19).nl.take n (by omega)
      generalize slTake _ _ = t at ht ⊢
      exact WL_nil ⟨(Ext.refl _), _, rfl, ht⟩
     apply AnyR_no [94] rfl (by kernel_rfl)
     · --
      intro y20 hy20
      have zy20 := hy20.size
      refine AllV_r fun a21 b21 v21 la21 lb21 lc21 h21 ap21 => ?_
      clear ap21
      have h21 : Nl _ v21 _ := h21
      refine AllV_nil ?_
      refine O_call enters131 rfl rfl rfl (trim_c h21 (by (try simp only [lens]); omega)) (fun v22 w22 e22 h22 => ?_)
      have z22 := e22.size
      try simp only [val_dig] at h22
      exact WL_nil ⟨e22, _, rfl, NoR.mk' h22⟩
     apply AnyR_val [10] rfl (by kernel_rfl)
     · --
      intro y23 hy23
      have zy23 := hy23.size
      refine AllV_nil ?_
      refine O_move rfl rfl rfl ?_
      exact WL_nil ⟨(Ext.refl _), rfl⟩
     refine AnyR_nil fun y24 hy24 => ?_
     have zy24 := hy24.size
     refine AllV_v ?_
     refine AllV_r fun a25 b25 v25 la25 lb25 lc25 h25 ap25 => ?_
     clear ap25
     refine AllV_v ?_
     refine AllV_v ?_
     refine AllV_r fun a26 b26 v26 la26 lb26 lc26 h26 ap26 => ?_
     clear ap26
     have h26 : Nl _ v26 _ := h26
     refine AllV_r fun a27 b27 v27 la27 lb27 lc27 h27 ap27 => ?_
     obtain ⟨-, p27_25, -⟩ := ap27
     refine AllV_v ?_
     refine AllV_nil ?_
     refine O_call enters114 rfl rfl rfl (shr_c h27.1.nl (by (try simp only [lens]); omega) (by (try simp only [lens]); omega)) (fun v28 w28 e28 h28 => ?_)
     have z28 := e28.size
     try simp only [val_dig] at h28
     refine O_assign rfl rfl rfl ?_
     refine O_assign rfl rfl rfl ?_
     refine O_assign rfl rfl rfl ?_
     refine WL_end [(4, _), (5, _), (6, _)] ⟨rfl, rfl, rfl, trivial⟩ ?_
     refine WP_ret ?_
     refine ret3 Tryd.results134 rfl rfl rfl ?_
     obtain rfl : k = 0 := by omega
     rw [List.drop_zero] at hval hm
     obtain ⟨hq1, hq2⟩ := div_end hval hm
     obtain ⟨hs1, hs2⟩ := unshift (A := val la) (B := val lb) (s := s)
     rw [← hUd, ← hVd] at hs1 hs2
     exact ⟨_, rfl, ((hE.trans hy24).trans e28), v25, v28, by rw [decide_eq_true hb0], by rw [← hs1, hq1]; exact (h25.1.ext e28).mono (by omega), by rw [rem0_pos hb0, ← hs2, hq2, ← val_take_of_lt ho.d (Nat.lt_trans hm hVB)]; exact h28.mono (by omega)⟩

theorem divmod_t {w : World} {va vb : Value} {la lb : List Nat} (ha : Nl w va la) (hb : Nl w vb lb) (hla : la.length ≤ 10000000) (hlb : lb.length ≤ 10000000) (h0 : val lb ≠ 0) : Calls Tryd.prog 134 #[va, vb] w (Ret w fun r w' => ∃ q r2, r = .tuple #[q, r2, .bool true] ∧ No w.heap.size 111 w' q (dig (val la / val lb)) ∧ No w.heap.size 111 w' r2 (dig (val la % val lb))) :=
  (divmod_c ha hb hla hlb).mono fun e w' ⟨r, he, hx, q, r2, hr, hq, hr2⟩ => ⟨r, he, hx, q, r2, by rw [hr, decide_eq_true h0], hq, by rw [rem0_pos h0] at hr2; exact hr2⟩
theorem divmod_z {w : World} {va vb : Value} {la lb : List Nat} (ha : Nl w va la) (hb : Nl w vb lb) (hla : la.length ≤ 10000000) (hlb : lb.length ≤ 10000000) (h0 : val lb = 0) : Calls Tryd.prog 134 #[va, vb] w (Ret w fun r w' => ∃ q r2, r = .tuple #[q, r2, .bool false] ∧ No w.heap.size 111 w' q [] ∧ No w.heap.size 111 w' r2 []) :=
  (divmod_c ha hb hla hlb).mono fun e w' ⟨r, he, hx, q, r2, hr, hq, hr2⟩ => ⟨r, he, hx, q, r2, by rw [hr, decide_eq_false (by omega)], by rw [h0, Nat.div_zero, dig_zero] at hq; exact hq, by rw [h0, rem0_zero, dig_zero] at hr2; exact hr2⟩

end Go.Proofs.YthbfhljpfkicpaaDoor
