/-
  Walks.
-/
import Derived.Test.YtbaapijfenmhiaaR1
import Derived.Test.YtbaapijfenmhiaaQL
set_option linter.unusedVariables false
set_option linter.unusedSimpArgs false
set_option maxRecDepth 100000
namespace Go.Proofs.Ytbaapijfenmhiaa
open Go Go.RowKit
theorem below_sq (a : Nat) : rt 2 a * rt 2 a + (a - rt 2 a * rt 2 a) = a := by have := sq_le a; omega
theorem gcd_mul_mod (x y z : Nat) : Nat.gcd (x * z) (y * z) % z = 0 := by
  rw [Nat.gcd_mul_right]; exact Nat.mul_mod_left _ _
theorem mod_gcd_l (x y : Nat) : x % Nat.gcd x y = 0 := Nat.mod_eq_zero_of_dvd (Nat.gcd_dvd_left x y)
theorem mod_gcd_r (x y : Nat) : y % Nat.gcd x y = 0 := Nat.mod_eq_zero_of_dvd (Nat.gcd_dvd_right x y)
theorem rdivides_T {w : World} {va vb : Value} {a b : Nat} (hb : Nl w vb (dig b)) (ha : Nl w va (dig a)) (hlb : (dig b).length ≤ 10000000) (hla : (dig a).length ≤ 10000000) (h : a % b = 0) :
    Calls Try.prog 29 #[vb, va] w (Ret w fun r _ => r = .bool true) :=
  (rdivides_c hb ha hlb hla).mono fun e w' ⟨r, he, hx, hr⟩ => ⟨r, he, hx, by rw [hr, decide_eq_true h]⟩
theorem rsquare_T {w : World} {va : Value} {a : Nat} (ha : Nl w va (dig (a * a))) (hla : (dig (a * a)).length ≤ 30000) :
    Calls Try.prog 40 #[va] w (Ret w fun r w' => ∃ q, r = .tuple #[q, .bool true] ∧ No w.heap.size 27 w' q (dig a)) :=
  (rsquare_c ha hla).mono fun e w' ⟨r, he, hx, q, hr, hq⟩ => ⟨r, he, hx, q, by rw [hr, sqb_sq], by rw [sqq_sq] at hq; exact hq⟩
theorem awake4_c {w : World} :
    Calls Try.prog 32 #[] w (Ret w fun r _ => r = .bool true) := by
  refine enter (args := []) Try.func32 rfl Try.ntmps32 rfl ?_
  refine WP_seq ?_
  refine WP_region ?_
  refine O_assign rfl rfl rfl ?_
  refine WL_end [] trivial ?_
  refine WP_seq ?_
  refine WP_region ?_
  refine O_call enters44 rfl rfl rfl (of_c 10 (by decide)) (fun v1 w1 e1 h1 => ?_)
  have z1 := e1.size
  try simp only [val_dig] at h1
  have hl10 : (dig 10).length ≤ 1 := dig_len_of_lt (by decide)
  refine O_call enters34 rfl rfl rfl (sqrt_c h1.nl (by (try simp only [val_dig, List.length_take, List.length_nil, List.length_cons, List.length_append, List.length_replicate, List.length_set, List.length_map, List.length_drop]); omega)) (fun v2 w2 e2 h2 => ?_)
  have z2 := e2.size
  try simp only [val_dig] at h2
  obtain ⟨q2, r2, rfl, hq2, hr2⟩ := h2
  rw [show rt 2 10 = 3 from rt_eq (by decide) (by decide) (by decide), dig_small (by decide) (by decide)] at hq2
  rw [show rt 2 10 = 3 from rt_eq (by decide) (by decide) (by decide), show 10 - 3 * 3 = 1 from rfl, dig_one] at hr2
  refine O_move rfl rfl rfl ?_
  refine O_extract rfl rfl rfl rfl ?_
  refine O_extract rfl rfl rfl rfl ?_
  refine O_assign rfl rfl rfl ?_
  refine O_assign rfl rfl rfl ?_
  refine WL_end [(1, _), (2, _)] ⟨rfl, rfl, trivial⟩ ?_
  refine WP_seq ?_
  refine WP_region ?_
  refine O_call enters44 rfl rfl rfl (of_c 80 (by decide)) (fun v3 w3 e3 h3 => ?_)
  have z3 := e3.size
  try simp only [val_dig] at h3
  have hl80 : (dig 80).length ≤ 1 := dig_len_of_lt (by decide)
  refine O_call enters36 rfl rfl rfl (root_c (k := 4) h3.nl (by (try simp only [val_dig, List.length_take, List.length_nil, List.length_cons, List.length_append, List.length_replicate, List.length_set, List.length_map, List.length_drop]); omega) (by decide) (by decide)) (fun v4 w4 e4 h4 => ?_)
  have z4 := e4.size
  try simp only [val_dig] at h4
  obtain ⟨q4, rfl, hq4⟩ := h4
  rw [show rt 4 80 = 2 from rt_eq (by decide) (by decide) (by decide), dig_small (by decide) (by decide)] at hq4
  refine O_move rfl rfl rfl ?_
  refine O_extract rfl rfl rfl rfl ?_
  refine O_extract rfl rfl rfl rfl ?_
  refine O_assign rfl rfl rfl ?_
  refine O_assign rfl rfl rfl ?_
  refine WL_end [(1, _), (2, _), (3, _), (4, _)] ⟨rfl, rfl, rfl, rfl, trivial⟩ ?_
  refine WP_seq ?_
  refine WP_region ?_
  refine O_move rfl rfl rfl ?_
  refine N_lit T22 rfl rfl [3] (by simp [D]) rfl (by decide) rfl rfl (fun v5 w5 o5 e5 => ?_)
  have z5 := e5.size
  refine O_call enters23 rfl rfl rfl (rsame_c (((hq2.ext e3).ext e4).ext e5).nl o5.nl (by (try simp only [val_dig, List.length_take, List.length_nil, List.length_cons, List.length_append, List.length_replicate, List.length_set, List.length_map, List.length_drop]); omega) (by (try simp only [val_dig, List.length_take, List.length_nil, List.length_cons, List.length_append, List.length_replicate, List.length_set, List.length_map, List.length_drop]); omega) rfl) (fun v6 w6 e6 h6 => ?_)
  have z6 := e6.size
  obtain rfl := h6
  refine O_move rfl rfl rfl ?_
  refine O_move rfl rfl rfl ?_
  refine N_lit T22 rfl rfl [1] (by simp [D]) rfl (by decide) rfl rfl (fun v7 w7 o7 e7 => ?_)
  have z7 := e7.size
  refine O_call enters23 rfl rfl rfl (rsame_c (((((hr2.ext e3).ext e4).ext e5).ext e6).ext e7).nl o7.nl (by (try simp only [val_dig, List.length_take, List.length_nil, List.length_cons, List.length_append, List.length_replicate, List.length_set, List.length_map, List.length_drop]); omega) (by (try simp only [val_dig, List.length_take, List.length_nil, List.length_cons, List.length_append, List.length_replicate, List.length_set, List.length_map, List.length_drop]); omega) rfl) (fun v8 w8 e8 h8 => ?_)
  have z8 := e8.size
  obtain rfl := h8
  refine O_pickT rfl rfl rfl rfl ?_
  refine O_move rfl rfl rfl ?_
  refine O_move rfl rfl rfl ?_
  refine N_lit T22 rfl rfl [2] (by simp [D]) rfl (by decide) rfl rfl (fun v9 w9 o9 e9 => ?_)
  have z9 := e9.size
  refine O_call enters23 rfl rfl rfl (rsame_c (((((hq4.ext e5).ext e6).ext e7).ext e8).ext e9).nl o9.nl (by (try simp only [val_dig, List.length_take, List.length_nil, List.length_cons, List.length_append, List.length_replicate, List.length_set, List.length_map, List.length_drop]); omega) (by (try simp only [val_dig, List.length_take, List.length_nil, List.length_cons, List.length_append, List.length_replicate, List.length_set, List.length_map, List.length_drop]); omega) rfl) (fun v10 w10 e10 h10 => ?_)
  have z10 := e10.size
  obtain rfl := h10
  refine O_pickT rfl rfl rfl rfl ?_
  refine O_move rfl rfl rfl ?_
  refine O_move rfl rfl rfl ?_
  refine O_pickT rfl rfl rfl rfl ?_
  refine O_move rfl rfl rfl ?_
  refine O_call enters38 rfl rfl rfl (gcd_c (a := 0) (b := 0) (by rw [dig_zero]; exact Nl.nil _) (by rw [dig_zero]; exact Nl.nil _) (by rw [dig_zero]; decide) (by rw [dig_zero]; decide)) (fun v11 w11 e11 h11 => ?_)
  have z11 := e11.size
  try simp only [val_dig] at h11
  rw [show Nat.gcd 0 0 = 0 from rfl, dig_zero] at h11
  refine N_len T22 rfl rfl rfl h11.nl ?_
  refine O_eql (t := true) rfl rfl rfl rfl (decide_eq_true (by simp)) ?_
  refine O_pickT rfl rfl rfl rfl ?_
  refine O_assign rfl rfl rfl ?_
  refine WL_end [(0, _)] ⟨rfl, trivial⟩ ?_
  refine WP_ret ?_
  refine ret1 Try.results32 rfl ?_
  exact ⟨_, rfl, ((((((((((e1.trans e2).trans e3).trans e4).trans e5).trans e6).trans e7).trans e8).trans e9).trans e10).trans e11), rfl⟩

theorem below_c {w : World} {vr va : Value} {r a k : Nat} (hr : Nl w vr (dig r)) (ha : Nl w va (dig a)) (hla : (dig a).length ≤ 30000) (hk1 : 1 ≤ k) (hk64 : k ≤ 64) (hrt : rt k a = r) :
    Calls Try.prog 35 #[vr, va, .int .i64 (k : Nat)] w (Ret w fun r _ => r = .bool true) := by
  have hb1 := rt_le a hk1
  have hb2 := rt_gt a hk1
  have hb3 := rt_le_self a hk1
  rw [hrt] at hb1 hb2 hb3
  have hL1 := dig_len_mono hb3
  have hL2 := dig_len_pow64 (D_dig r) (show (dig r).length ≤ 100000 by omega) (e := k) hk64
  rw [val_dig] at hL2
  have hL0 : (dig 1).length ≤ 1 := dig_len_of_lt (by decide)
  have hL3 := dig_len_add r 1
  have hL4 := dig_len_pow64 (D_dig (r + 1)) (show (dig (r + 1)).length ≤ 100000 by omega) (e := k) hk64
  rw [val_dig] at hL4
  refine enter (args := [vr, va, _]) Try.func35 rfl Try.ntmps35 rfl ?_
  refine WP_seq ?_
  refine WP_region ?_
  refine O_assign rfl rfl rfl ?_
  refine WL_end [(0, _), (1, _), (2, _)] ⟨rfl, rfl, rfl, trivial⟩ ?_
  refine WP_seq ?_
  refine WP_region ?_
  refine O_move rfl rfl rfl ?_
  refine O_call enters22 rfl rfl rfl (validT_c hr (by first | exact validv_dig _ | exact validv_nil)) (fun v1 w1 e1 h1 => ?_)
  have z1 := e1.size
  obtain rfl := h1
  refine O_move rfl rfl rfl ?_
  refine O_move rfl rfl rfl ?_
  refine O_move rfl rfl rfl ?_
  refine O_call enters37 rfl rfl rfl (rpower_c (hr.ext e1) (by (try simp only [val_dig, List.length_take, List.length_nil, List.length_cons, List.length_append, List.length_replicate, List.length_set, List.length_map, List.length_drop]); omega) (by (try simp only [val_dig, List.length_take, List.length_nil, List.length_cons, List.length_append, List.length_replicate, List.length_set, List.length_map, List.length_drop]); omega)) (fun v2 w2 e2 h2 => ?_)
  have z2 := e2.size
  try simp only [val_dig] at h2
  refine O_move rfl rfl rfl ?_
  refine O_call enters46 rfl rfl rfl (rcmp_c h2.nl (ha.ext (e1.trans e2)) (by (try simp only [val_dig, List.length_take, List.length_nil, List.length_cons, List.length_append, List.length_replicate, List.length_set, List.length_map, List.length_drop]); omega) (by (try simp only [val_dig, List.length_take, List.length_nil, List.length_cons, List.length_append, List.length_replicate, List.length_set, List.length_map, List.length_drop]); omega)) (fun v3 w3 e3 h3 => ?_)
  have z3 := e3.size
  obtain rfl := h3
  refine O_leq (t := true) rfl rfl rfl rfl (decide_eq_true (by simp only [val_dig]; exact cmpv_le_zero.2 hb1)) ?_
  refine O_pickT rfl rfl rfl rfl ?_
  refine O_move rfl rfl rfl ?_
  refine O_move rfl rfl rfl ?_
  refine O_call enters18 rfl rfl rfl (rof_c 1 (by decide)) (fun v4 w4 e4 h4 => ?_)
  have z4 := e4.size
  try simp only [val_dig] at h4
  refine O_call enters19 rfl rfl rfl (radd_c (hr.ext (((e1.trans e2).trans e3).trans e4)) h4.nl (by (try simp only [val_dig, List.length_take, List.length_nil, List.length_cons, List.length_append, List.length_replicate, List.length_set, List.length_map, List.length_drop]); omega) (by (try simp only [val_dig, List.length_take, List.length_nil, List.length_cons, List.length_append, List.length_replicate, List.length_set, List.length_map, List.length_drop]); omega)) (fun v5 w5 e5 h5 => ?_)
  have z5 := e5.size
  try simp only [val_dig] at h5
  refine O_move rfl rfl rfl ?_
  refine O_call enters37 rfl rfl rfl (rpower_c h5.nl (by (try simp only [val_dig, List.length_take, List.length_nil, List.length_cons, List.length_append, List.length_replicate, List.length_set, List.length_map, List.length_drop]); omega) (by (try simp only [val_dig, List.length_take, List.length_nil, List.length_cons, List.length_append, List.length_replicate, List.length_set, List.length_map, List.length_drop]); omega)) (fun v6 w6 e6 h6 => ?_)
  have z6 := e6.size
  try simp only [val_dig] at h6
  refine O_move rfl rfl rfl ?_
  refine O_call enters46 rfl rfl rfl (rcmp_c h6.nl (ha.ext (((((e1.trans e2).trans e3).trans e4).trans e5).trans e6)) (by (try simp only [val_dig, List.length_take, List.length_nil, List.length_cons, List.length_append, List.length_replicate, List.length_set, List.length_map, List.length_drop]); omega) (by (try simp only [val_dig, List.length_take, List.length_nil, List.length_cons, List.length_append, List.length_replicate, List.length_set, List.length_map, List.length_drop]); omega)) (fun v7 w7 e7 h7 => ?_)
  have z7 := e7.size
  obtain rfl := h7
  refine O_gtr (t := true) rfl rfl rfl rfl (decide_eq_true (by simp only [val_dig]; rw [cmpv_gt hb2]; decide)) ?_
  refine O_pickT rfl rfl rfl rfl ?_
  refine O_assign rfl rfl rfl ?_
  refine WL_end [(6, _)] ⟨rfl, trivial⟩ ?_
  refine WP_ret ?_
  refine ret1 Try.results35 rfl ?_
  exact ⟨_, rfl, ((((((e1.trans e2).trans e3).trans e4).trans e5).trans e6).trans e7), rfl⟩

theorem law_RootSqrt {w : World} {va : Value} {la : List Nat} {near : Bool} {by_ : Int} (ha : Nl w va la) :
    Calls Try.prog 8 #[va, .bool near, .int .i64 by_] w (Ret w fun r _ => r = .bool true) := by
  have dA := dig_len_le ha.d
  have hLr := fun X : Nat => dig_len_mono (rt_le_self X (k := 2) (by decide))
  have hLs := fun X : Nat => dig_len_mono (sq_le X)
  have hLt := fun X : Nat => dig_len_mono (Nat.sub_le X (rt 2 X * rt 2 X))
  have hLm := dig_len_mul (val la) (val la)
  have hLd := fun d : Nat => dig_len_mono (Nat.sub_le (val la * val la) d)
  have q1 := hLr (val la)
  have q2 := hLs (val la)
  have q3 := hLt (val la)
  have q4 := hLr (val la * val la)
  have q5 := hLs (val la * val la)
  have q6 := hLt (val la * val la)
  refine enter (args := [va, _, _]) Try.func8 rfl Try.ntmps8 rfl ?_
  refine WP_seq ?_
  refine WP_region ?_
  refine O_assign rfl rfl rfl ?_
  refine WL_end [(0, _), (1, _), (2, _)] ⟨rfl, rfl, rfl, trivial⟩ ?_
  refine WP_seq ?_
  refine WP_seq ?_
  refine WP_region ?_
  refine O_call enters32 rfl rfl rfl (awake4_c) (fun v1 w1 e1 h1 => ?_)
  have z1 := e1.size
  obtain rfl := h1
  refine O_not rfl rfl rfl rfl ?_
  refine WL_end [(0, _), (1, _), (2, _), (14, _)] ⟨rfl, rfl, rfl, rfl, trivial⟩ ?_
  refine WP_condF rfl ?_
  refine WP_skip ?_
  refine WP_seq ?_
  refine WP_region ?_
  refine O_move rfl rfl rfl ?_
  refine O_call enters14 rfl rfl rfl (mnat_any (ha.ext e1) (by (try simp only [val_dig, List.length_take, List.length_nil, List.length_cons, List.length_append, List.length_replicate, List.length_set, List.length_map, List.length_drop]); omega)) (fun v2 w2 e2 h2 => ?_)
  have z2 := e2.size
  try simp only [val_dig] at h2
  obtain ⟨q2, rfl, hq2⟩ := h2
  refine O_move rfl rfl rfl ?_
  refine O_extract rfl rfl rfl rfl ?_
  refine O_extract rfl rfl rfl rfl ?_
  refine O_assign rfl rfl rfl ?_
  refine O_assign rfl rfl rfl ?_
  refine WL_end [(1, _), (2, _), (7, _), (8, _)] ⟨rfl, rfl, rfl, rfl, trivial⟩ ?_
  refine WP_seq ?_
  refine WP_seq ?_
  refine WP_region ?_
  refine O_move rfl rfl rfl ?_
  refine O_not rfl rfl rfl (decide_not).symm ?_
  refine WL_end [(1, _), (2, _), (7, _), (21, _)] ⟨rfl, rfl, rfl, rfl, trivial⟩ ?_
  refine WP_condN rfl (fun c21 => ?_) (fun c21 => ?_)
  · --
    refine WP_seq ?_
    refine WP_region ?_
    refine O_assign rfl rfl rfl ?_
    refine WL_end [(6, _)] ⟨rfl, trivial⟩ ?_
    refine WP_ret ?_
    refine ret1 Try.results8 rfl ?_
    exact ⟨_, rfl, (e1.trans e2), rfl⟩
  · --
    refine WP_skip ?_
    refine WP_seq ?_
    refine WP_seq ?_
    refine WP_region ?_
    refine O_move rfl rfl rfl ?_
    refine WL_end [(2, _), (7, _), (22, _)] ⟨rfl, rfl, rfl, trivial⟩ ?_
    refine WP_cond rfl (fun c22 => ?_) (fun c22 => ?_)
    · --
      refine WP_seq ?_
      refine WP_region ?_
      refine O_move rfl rfl rfl ?_
      refine O_move rfl rfl rfl ?_
      refine O_call enters16 rfl rfl rfl (rmul_c (hq2 (by omega)).nl (hq2 (by omega)).nl (by (try simp only [val_dig, List.length_take, List.length_nil, List.length_cons, List.length_append, List.length_replicate, List.length_set, List.length_map, List.length_drop]); omega) (by (try simp only [val_dig, List.length_take, List.length_nil, List.length_cons, List.length_append, List.length_replicate, List.length_set, List.length_map, List.length_drop]); omega)) (fun v3 w3 e3 h3 => ?_)
      have z3 := e3.size
      try simp only [val_dig] at h3
      refine O_assign rfl rfl rfl ?_
      refine WL_end [(2, _), (7, _)] ⟨rfl, rfl, trivial⟩ ?_
      refine WP_seq ?_
      refine WP_region ?_
      refine O_move rfl rfl rfl ?_
      refine O_move rfl rfl rfl ?_
      refine O_call enters33 rfl rfl rfl (mod_c (by (try simp only [val_dig, List.length_take, List.length_nil, List.length_cons, List.length_append, List.length_replicate, List.length_set, List.length_map, List.length_drop]); omega) (by (try simp only [val_dig, List.length_take, List.length_nil, List.length_cons, List.length_append, List.length_replicate, List.length_set, List.length_map, List.length_drop]); omega)) (fun v4 w4 e4 h4 => ?_)
      have z4 := e4.size
      obtain rfl := h4
      have hm0 := Int.emod_nonneg by_ (show (3 : Int) ≠ 0 by decide)
      have hm1 := Int.emod_lt_of_pos by_ (show (0 : Int) < 3 by decide)
      obtain ⟨d, hd⟩ := Int.eq_ofNat_of_zero_le hm0
      rw [hd]
      refine O_conv Try.underlying3 Try.underlying31 rfl rfl rfl (wrap_u64_id (by omega) (by omega)) ?_
      have hdl : (dig d).length ≤ 1 := dig_len_of_lt (by omega)
      have hLd1 := hLd d
      have q7 := hLr (val la * val la - d)
      have q8 := hLs (val la * val la - d)
      have q9 := hLt (val la * val la - d)
      refine O_call enters18 rfl rfl rfl (rof_c d (by omega)) (fun v5 w5 e5 h5 => ?_)
      have z5 := e5.size
      try simp only [val_dig] at h5
      refine O_call enters17 rfl rfl rfl (rsub_c ((h3.ext e4).ext e5).nl h5.nl (by (try simp only [val_dig, List.length_take, List.length_nil, List.length_cons, List.length_append, List.length_replicate, List.length_set, List.length_map, List.length_drop]); omega) (by (try simp only [val_dig, List.length_take, List.length_nil, List.length_cons, List.length_append, List.length_replicate, List.length_set, List.length_map, List.length_drop]); omega)) (fun v6 w6 e6 h6 => ?_)
      have z6 := e6.size
      try simp only [val_dig] at h6
      obtain ⟨q6, rfl, hq6⟩ := h6
      refine O_move rfl rfl rfl ?_
      refine O_extract rfl rfl rfl rfl ?_
      refine O_extract rfl rfl rfl rfl ?_
      refine O_assign rfl rfl rfl ?_
      refine O_assign rfl rfl rfl ?_
      refine WL_end [(7, _), (9, _), (10, _)] ⟨rfl, rfl, rfl, trivial⟩ ?_
      refine WP_seq ?_
      refine WP_region ?_
      refine O_move rfl rfl rfl ?_
      refine WL_end [(7, _), (9, _), (35, _)] ⟨rfl, rfl, rfl, trivial⟩ ?_
      refine WP_condD rfl (fun c35 => ?_) (fun c35 => ?_)
      · --
        refine WP_region ?_
        refine O_move rfl rfl rfl ?_
        refine O_assign rfl rfl rfl ?_
        refine WL_end [(7, _)] ⟨rfl, trivial⟩ ?_
        refine WP_seq ?_
        refine WP_region ?_
        refine O_move rfl rfl rfl ?_
        refine O_call enters34 rfl rfl rfl (sqrt_c hq6.nl (by (try simp only [val_dig, List.length_take, List.length_nil, List.length_cons, List.length_append, List.length_replicate, List.length_set, List.length_map, List.length_drop]); omega)) (fun v7 w7 e7 h7 => ?_)
        have z7 := e7.size
        try simp only [val_dig] at h7
        obtain ⟨q7, r7, rfl, hq7, hr7⟩ := h7
        refine O_move rfl rfl rfl ?_
        refine O_extract rfl rfl rfl rfl ?_
        refine O_extract rfl rfl rfl rfl ?_
        refine O_assign rfl rfl rfl ?_
        refine O_assign rfl rfl rfl ?_
        refine WL_end [(7, _), (11, _), (12, _)] ⟨rfl, rfl, rfl, trivial⟩ ?_
        refine WP_seq ?_
        refine WP_region ?_
        refine O_move rfl rfl rfl ?_
        refine O_move rfl rfl rfl ?_
        refine O_call enters35 rfl rfl rfl (below_c (k := 2) hq7.nl (hq6.ext e7).nl (by (try simp only [val_dig, List.length_take, List.length_nil, List.length_cons, List.length_append, List.length_replicate, List.length_set, List.length_map, List.length_drop]); omega) (by (try simp only [val_dig, List.length_take, List.length_nil, List.length_cons, List.length_append, List.length_replicate, List.length_set, List.length_map, List.length_drop]); omega) (by (try simp only [val_dig, List.length_take, List.length_nil, List.length_cons, List.length_append, List.length_replicate, List.length_set, List.length_map, List.length_drop]); omega) rfl) (fun v8 w8 e8 h8 => ?_)
        have z8 := e8.size
        obtain rfl := h8
        refine O_move rfl rfl rfl ?_
        refine O_move rfl rfl rfl ?_
        refine O_move rfl rfl rfl ?_
        refine O_call enters16 rfl rfl rfl (rmul_c (hq7.ext e8).nl (hq7.ext e8).nl (by (try simp only [val_dig, List.length_take, List.length_nil, List.length_cons, List.length_append, List.length_replicate, List.length_set, List.length_map, List.length_drop]); omega) (by (try simp only [val_dig, List.length_take, List.length_nil, List.length_cons, List.length_append, List.length_replicate, List.length_set, List.length_map, List.length_drop]); omega)) (fun v9 w9 e9 h9 => ?_)
        have z9 := e9.size
        try simp only [val_dig] at h9
        refine O_move rfl rfl rfl ?_
        refine O_call enters19 rfl rfl rfl (radd_c h9.nl ((hr7.ext e8).ext e9).nl (by (try simp only [val_dig, List.length_take, List.length_nil, List.length_cons, List.length_append, List.length_replicate, List.length_set, List.length_map, List.length_drop]); omega) (by (try simp only [val_dig, List.length_take, List.length_nil, List.length_cons, List.length_append, List.length_replicate, List.length_set, List.length_map, List.length_drop]); omega)) (fun v10 w10 e10 h10 => ?_)
        have z10 := e10.size
        try simp only [val_dig] at h10
        rw [below_sq] at h10
        refine O_move rfl rfl rfl ?_
        refine O_call enters23 rfl rfl rfl (rsame_c h10.nl ((((hq6.ext e7).ext e8).ext e9).ext e10).nl (by (try simp only [val_dig, List.length_take, List.length_nil, List.length_cons, List.length_append, List.length_replicate, List.length_set, List.length_map, List.length_drop]); omega) (by (try simp only [val_dig, List.length_take, List.length_nil, List.length_cons, List.length_append, List.length_replicate, List.length_set, List.length_map, List.length_drop]); omega) rfl) (fun v11 w11 e11 h11 => ?_)
        have z11 := e11.size
        obtain rfl := h11
        refine O_pickT rfl rfl rfl rfl ?_
        refine O_assign rfl rfl rfl ?_
        refine WL_end [(6, _)] ⟨rfl, trivial⟩ ?_
        refine WP_ret ?_
        refine ret1 Try.results8 rfl ?_
        exact ⟨_, rfl, ((((((((((e1.trans e2).trans e3).trans e4).trans e5).trans e6).trans e7).trans e8).trans e9).trans e10).trans e11), rfl⟩
      · --
        refine WP_skip ?_
        refine WP_seq ?_
        refine WP_region ?_
        refine O_move rfl rfl rfl ?_
        refine O_call enters34 rfl rfl rfl (sqrt_c (((h3.ext e4).ext e5).ext e6).nl (by (try simp only [val_dig, List.length_take, List.length_nil, List.length_cons, List.length_append, List.length_replicate, List.length_set, List.length_map, List.length_drop]); omega)) (fun v12 w12 e12 h12 => ?_)
        have z12 := e12.size
        try simp only [val_dig] at h12
        obtain ⟨q12, r12, rfl, hq12, hr12⟩ := h12
        refine O_move rfl rfl rfl ?_
        refine O_extract rfl rfl rfl rfl ?_
        refine O_extract rfl rfl rfl rfl ?_
        refine O_assign rfl rfl rfl ?_
        refine O_assign rfl rfl rfl ?_
        refine WL_end [(7, _), (11, _), (12, _)] ⟨rfl, rfl, rfl, trivial⟩ ?_
        refine WP_seq ?_
        refine WP_region ?_
        refine O_move rfl rfl rfl ?_
        refine O_move rfl rfl rfl ?_
        refine O_call enters35 rfl rfl rfl (below_c (k := 2) hq12.nl ((((h3.ext e4).ext e5).ext e6).ext e12).nl (by (try simp only [val_dig, List.length_take, List.length_nil, List.length_cons, List.length_append, List.length_replicate, List.length_set, List.length_map, List.length_drop]); omega) (by (try simp only [val_dig, List.length_take, List.length_nil, List.length_cons, List.length_append, List.length_replicate, List.length_set, List.length_map, List.length_drop]); omega) (by (try simp only [val_dig, List.length_take, List.length_nil, List.length_cons, List.length_append, List.length_replicate, List.length_set, List.length_map, List.length_drop]); omega) rfl) (fun v13 w13 e13 h13 => ?_)
        have z13 := e13.size
        obtain rfl := h13
        refine O_move rfl rfl rfl ?_
        refine O_move rfl rfl rfl ?_
        refine O_move rfl rfl rfl ?_
        refine O_call enters16 rfl rfl rfl (rmul_c (hq12.ext e13).nl (hq12.ext e13).nl (by (try simp only [val_dig, List.length_take, List.length_nil, List.length_cons, List.length_append, List.length_replicate, List.length_set, List.length_map, List.length_drop]); omega) (by (try simp only [val_dig, List.length_take, List.length_nil, List.length_cons, List.length_append, List.length_replicate, List.length_set, List.length_map, List.length_drop]); omega)) (fun v14 w14 e14 h14 => ?_)
        have z14 := e14.size
        try simp only [val_dig] at h14
        refine O_move rfl rfl rfl ?_
        refine O_call enters19 rfl rfl rfl (radd_c h14.nl ((hr12.ext e13).ext e14).nl (by (try simp only [val_dig, List.length_take, List.length_nil, List.length_cons, List.length_append, List.length_replicate, List.length_set, List.length_map, List.length_drop]); omega) (by (try simp only [val_dig, List.length_take, List.length_nil, List.length_cons, List.length_append, List.length_replicate, List.length_set, List.length_map, List.length_drop]); omega)) (fun v15 w15 e15 h15 => ?_)
        have z15 := e15.size
        try simp only [val_dig] at h15
        rw [below_sq] at h15
        refine O_move rfl rfl rfl ?_
        refine O_call enters23 rfl rfl rfl (rsame_c h15.nl (((((((h3.ext e4).ext e5).ext e6).ext e12).ext e13).ext e14).ext e15).nl (by (try simp only [val_dig, List.length_take, List.length_nil, List.length_cons, List.length_append, List.length_replicate, List.length_set, List.length_map, List.length_drop]); omega) (by (try simp only [val_dig, List.length_take, List.length_nil, List.length_cons, List.length_append, List.length_replicate, List.length_set, List.length_map, List.length_drop]); omega) rfl) (fun v16 w16 e16 h16 => ?_)
        have z16 := e16.size
        obtain rfl := h16
        refine O_pickT rfl rfl rfl rfl ?_
        refine O_assign rfl rfl rfl ?_
        refine WL_end [(6, _)] ⟨rfl, trivial⟩ ?_
        refine WP_ret ?_
        refine ret1 Try.results8 rfl ?_
        exact ⟨_, rfl, ((((((((((e1.trans e2).trans e3).trans e4).trans e5).trans e6).trans e12).trans e13).trans e14).trans e15).trans e16), rfl⟩
    · --
      refine WP_skip ?_
      refine WP_seq ?_
      refine WP_region ?_
      refine O_move rfl rfl rfl ?_
      refine O_call enters34 rfl rfl rfl (sqrt_c (hq2 (by omega)).nl (by (try simp only [val_dig, List.length_take, List.length_nil, List.length_cons, List.length_append, List.length_replicate, List.length_set, List.length_map, List.length_drop]); omega)) (fun v17 w17 e17 h17 => ?_)
      have z17 := e17.size
      try simp only [val_dig] at h17
      obtain ⟨q17, r17, rfl, hq17, hr17⟩ := h17
      refine O_move rfl rfl rfl ?_
      refine O_extract rfl rfl rfl rfl ?_
      refine O_extract rfl rfl rfl rfl ?_
      refine O_assign rfl rfl rfl ?_
      refine O_assign rfl rfl rfl ?_
      refine WL_end [(7, _), (11, _), (12, _)] ⟨rfl, rfl, rfl, trivial⟩ ?_
      refine WP_seq ?_
      refine WP_region ?_
      refine O_move rfl rfl rfl ?_
      refine O_move rfl rfl rfl ?_
      refine O_call enters35 rfl rfl rfl (below_c (k := 2) hq17.nl ((hq2 (by omega)).ext e17).nl (by (try simp only [val_dig, List.length_take, List.length_nil, List.length_cons, List.length_append, List.length_replicate, List.length_set, List.length_map, List.length_drop]); omega) (by (try simp only [val_dig, List.length_take, List.length_nil, List.length_cons, List.length_append, List.length_replicate, List.length_set, List.length_map, List.length_drop]); omega) (by (try simp only [val_dig, List.length_take, List.length_nil, List.length_cons, List.length_append, List.length_replicate, List.length_set, List.length_map, List.length_drop]); omega) rfl) (fun v18 w18 e18 h18 => ?_)
      have z18 := e18.size
      obtain rfl := h18
      refine O_move rfl rfl rfl ?_
      refine O_move rfl rfl rfl ?_
      refine O_move rfl rfl rfl ?_
      refine O_call enters16 rfl rfl rfl (rmul_c (hq17.ext e18).nl (hq17.ext e18).nl (by (try simp only [val_dig, List.length_take, List.length_nil, List.length_cons, List.length_append, List.length_replicate, List.length_set, List.length_map, List.length_drop]); omega) (by (try simp only [val_dig, List.length_take, List.length_nil, List.length_cons, List.length_append, List.length_replicate, List.length_set, List.length_map, List.length_drop]); omega)) (fun v19 w19 e19 h19 => ?_)
      have z19 := e19.size
      try simp only [val_dig] at h19
      refine O_move rfl rfl rfl ?_
      refine O_call enters19 rfl rfl rfl (radd_c h19.nl ((hr17.ext e18).ext e19).nl (by (try simp only [val_dig, List.length_take, List.length_nil, List.length_cons, List.length_append, List.length_replicate, List.length_set, List.length_map, List.length_drop]); omega) (by (try simp only [val_dig, List.length_take, List.length_nil, List.length_cons, List.length_append, List.length_replicate, List.length_set, List.length_map, List.length_drop]); omega)) (fun v20 w20 e20 h20 => ?_)
      have z20 := e20.size
      try simp only [val_dig] at h20
      rw [below_sq] at h20
      refine O_move rfl rfl rfl ?_
      refine O_call enters23 rfl rfl rfl (rsame_c h20.nl (((((hq2 (by omega)).ext e17).ext e18).ext e19).ext e20).nl (by (try simp only [val_dig, List.length_take, List.length_nil, List.length_cons, List.length_append, List.length_replicate, List.length_set, List.length_map, List.length_drop]); omega) (by (try simp only [val_dig, List.length_take, List.length_nil, List.length_cons, List.length_append, List.length_replicate, List.length_set, List.length_map, List.length_drop]); omega) rfl) (fun v21 w21 e21 h21 => ?_)
      have z21 := e21.size
      obtain rfl := h21
      refine O_pickT rfl rfl rfl rfl ?_
      refine O_assign rfl rfl rfl ?_
      refine WL_end [(6, _)] ⟨rfl, trivial⟩ ?_
      refine WP_ret ?_
      refine ret1 Try.results8 rfl ?_
      exact ⟨_, rfl, ((((((e1.trans e2).trans e17).trans e18).trans e19).trans e20).trans e21), rfl⟩

theorem law_RootSquares {w : World} {va : Value} {la : List Nat} (ha : Nl w va la) :
    Calls Try.prog 11 #[va] w (Ret w fun r _ => r = .bool true) := by
  have dA := dig_len_le ha.d
  have hLm := dig_len_mul (val la) (val la)
  have hLq := dig_len_mono (sqq_le (val la))
  refine enter (args := [va]) Try.func11 rfl Try.ntmps11 rfl ?_
  refine WP_seq ?_
  refine WP_region ?_
  refine O_assign rfl rfl rfl ?_
  refine WL_end [(0, _)] ⟨rfl, trivial⟩ ?_
  refine WP_seq ?_
  refine WP_seq ?_
  refine WP_region ?_
  refine O_call enters32 rfl rfl rfl (awake4_c) (fun v1 w1 e1 h1 => ?_)
  have z1 := e1.size
  obtain rfl := h1
  refine O_not rfl rfl rfl rfl ?_
  refine WL_end [(0, _), (12, _)] ⟨rfl, rfl, trivial⟩ ?_
  refine WP_condF rfl ?_
  refine WP_skip ?_
  refine WP_seq ?_
  refine WP_region ?_
  refine O_move rfl rfl rfl ?_
  refine O_call enters14 rfl rfl rfl (mnat_any (ha.ext e1) (by (try simp only [val_dig, List.length_take, List.length_nil, List.length_cons, List.length_append, List.length_replicate, List.length_set, List.length_map, List.length_drop]); omega)) (fun v2 w2 e2 h2 => ?_)
  have z2 := e2.size
  try simp only [val_dig] at h2
  obtain ⟨q2, rfl, hq2⟩ := h2
  refine O_move rfl rfl rfl ?_
  refine O_extract rfl rfl rfl rfl ?_
  refine O_extract rfl rfl rfl rfl ?_
  refine O_assign rfl rfl rfl ?_
  refine O_assign rfl rfl rfl ?_
  refine WL_end [(3, _), (4, _)] ⟨rfl, rfl, trivial⟩ ?_
  refine WP_seq ?_
  refine WP_seq ?_
  refine WP_region ?_
  refine O_move rfl rfl rfl ?_
  refine O_not rfl rfl rfl (decide_not).symm ?_
  refine WL_end [(3, _), (19, _)] ⟨rfl, rfl, trivial⟩ ?_
  refine WP_condN rfl (fun c19 => ?_) (fun c19 => ?_)
  · --
    refine WP_seq ?_
    refine WP_region ?_
    refine O_assign rfl rfl rfl ?_
    refine WL_end [(2, _)] ⟨rfl, trivial⟩ ?_
    refine WP_ret ?_
    refine ret1 Try.results11 rfl ?_
    exact ⟨_, rfl, (e1.trans e2), rfl⟩
  · --
    refine WP_skip ?_
    refine WP_seq ?_
    refine WP_region ?_
    refine O_move rfl rfl rfl ?_
    refine O_move rfl rfl rfl ?_
    refine O_call enters16 rfl rfl rfl (rmul_c (hq2 (by omega)).nl (hq2 (by omega)).nl (by (try simp only [val_dig, List.length_take, List.length_nil, List.length_cons, List.length_append, List.length_replicate, List.length_set, List.length_map, List.length_drop]); omega) (by (try simp only [val_dig, List.length_take, List.length_nil, List.length_cons, List.length_append, List.length_replicate, List.length_set, List.length_map, List.length_drop]); omega)) (fun v3 w3 e3 h3 => ?_)
    have z3 := e3.size
    try simp only [val_dig] at h3
    refine O_call enters40 rfl rfl rfl (rsquare_T h3.nl (by (try simp only [val_dig, List.length_take, List.length_nil, List.length_cons, List.length_append, List.length_replicate, List.length_set, List.length_map, List.length_drop]); omega)) (fun v4 w4 e4 h4 => ?_)
    have z4 := e4.size
    try simp only [val_dig] at h4
    obtain ⟨q4, rfl, hq4⟩ := h4
    refine O_move rfl rfl rfl ?_
    refine O_extract rfl rfl rfl rfl ?_
    refine O_extract rfl rfl rfl rfl ?_
    refine O_assign rfl rfl rfl ?_
    refine O_assign rfl rfl rfl ?_
    refine WL_end [(3, _), (5, _), (6, _)] ⟨rfl, rfl, rfl, trivial⟩ ?_
    refine WP_seq ?_
    refine WP_region ?_
    refine O_move rfl rfl rfl ?_
    refine O_call enters41 rfl rfl rfl (refsquare_c (((hq2 (by omega)).ext e3).ext e4).nl (by (try simp only [val_dig, List.length_take, List.length_nil, List.length_cons, List.length_append, List.length_replicate, List.length_set, List.length_map, List.length_drop]); omega)) (fun v5 w5 e5 h5 => ?_)
    have z5 := e5.size
    try simp only [val_dig] at h5
    obtain ⟨q5, rfl, hq5⟩ := h5
    refine O_move rfl rfl rfl ?_
    refine O_extract rfl rfl rfl rfl ?_
    refine O_extract rfl rfl rfl rfl ?_
    refine O_assign rfl rfl rfl ?_
    refine O_assign rfl rfl rfl ?_
    refine WL_end [(3, _), (5, _), (6, _), (7, _), (8, _)] ⟨rfl, rfl, rfl, rfl, rfl, trivial⟩ ?_
    refine WP_seq ?_
    refine WP_region ?_
    refine O_move rfl rfl rfl ?_
    refine O_call enters40 rfl rfl rfl (rsquare_c ((((hq2 (by omega)).ext e3).ext e4).ext e5).nl (by (try simp only [val_dig, List.length_take, List.length_nil, List.length_cons, List.length_append, List.length_replicate, List.length_set, List.length_map, List.length_drop]); omega)) (fun v6 w6 e6 h6 => ?_)
    have z6 := e6.size
    try simp only [val_dig] at h6
    obtain ⟨q6, rfl, hq6⟩ := h6
    refine O_move rfl rfl rfl ?_
    refine O_extract rfl rfl rfl rfl ?_
    refine O_extract rfl rfl rfl rfl ?_
    refine O_assign rfl rfl rfl ?_
    refine O_assign rfl rfl rfl ?_
    refine WL_end [(3, _), (5, _), (6, _), (7, _), (8, _), (9, _), (10, _)] ⟨rfl, rfl, rfl, rfl, rfl, rfl, rfl, trivial⟩ ?_
    refine WP_seq ?_
    refine WP_region ?_
    refine O_move rfl rfl rfl ?_
    refine O_move rfl rfl rfl ?_
    refine O_move rfl rfl rfl ?_
    refine O_move rfl rfl rfl ?_
    refine O_call enters23 rfl rfl rfl (rsame_c ((hq4.ext e5).ext e6).nl (((((hq2 (by omega)).ext e3).ext e4).ext e5).ext e6).nl (by (try simp only [val_dig, List.length_take, List.length_nil, List.length_cons, List.length_append, List.length_replicate, List.length_set, List.length_map, List.length_drop]); omega) (by (try simp only [val_dig, List.length_take, List.length_nil, List.length_cons, List.length_append, List.length_replicate, List.length_set, List.length_map, List.length_drop]); omega) rfl) (fun v7 w7 e7 h7 => ?_)
    have z7 := e7.size
    obtain rfl := h7
    refine O_pickT rfl rfl rfl rfl ?_
    refine O_move rfl rfl rfl ?_
    refine O_move rfl rfl rfl ?_
    refine O_move rfl rfl rfl ?_
    refine O_beql Try.underlying4 (t := true) rfl rfl rfl rfl (beq_self_eq_true _) ?_
    refine O_pickT rfl rfl rfl rfl ?_
    refine O_move rfl rfl rfl ?_
    refine O_move rfl rfl rfl ?_
    refine O_move rfl rfl rfl ?_
    refine O_call enters23 rfl rfl rfl (rsame_c (hq6.ext e7).nl ((hq5.ext e6).ext e7).nl (by (try simp only [val_dig, List.length_take, List.length_nil, List.length_cons, List.length_append, List.length_replicate, List.length_set, List.length_map, List.length_drop]); omega) (by (try simp only [val_dig, List.length_take, List.length_nil, List.length_cons, List.length_append, List.length_replicate, List.length_set, List.length_map, List.length_drop]); omega) rfl) (fun v8 w8 e8 h8 => ?_)
    have z8 := e8.size
    obtain rfl := h8
    refine O_pickT rfl rfl rfl rfl ?_
    refine O_assign rfl rfl rfl ?_
    refine WL_end [(2, _)] ⟨rfl, trivial⟩ ?_
    refine WP_ret ?_
    refine ret1 Try.results11 rfl ?_
    exact ⟨_, rfl, (((((((e1.trans e2).trans e3).trans e4).trans e5).trans e6).trans e7).trans e8), rfl⟩

theorem law_rr_lo {w : World} {va : Value} {la : List Nat} {near : Bool} {k : Int} (ha : Nl w va la) (h : k < 1) :
    Calls Try.prog 9 #[va, .int .i64 k, .bool near] w (Ret w fun r _ => r = .bool true) := by
  have hk : k < 1 ∨ 64 < k := .inl h
  have dA := dig_len_le ha.d
  refine enter (args := [va, _, _]) Try.func9 rfl Try.ntmps9 rfl ?_
  refine WP_seq ?_
  refine WP_region ?_
  refine O_assign rfl rfl rfl ?_
  refine WL_end [(0, _), (1, _), (2, _)] ⟨rfl, rfl, rfl, trivial⟩ ?_
  refine WP_seq ?_
  refine WP_seq ?_
  refine WP_region ?_
  refine O_call enters32 rfl rfl rfl (awake4_c) (fun v1 w1 e1 h1 => ?_)
  have z1 := e1.size
  obtain rfl := h1
  refine O_not rfl rfl rfl rfl ?_
  refine WL_end [(0, _), (1, _), (2, _), (14, _)] ⟨rfl, rfl, rfl, rfl, trivial⟩ ?_
  refine WP_condF rfl ?_
  refine WP_skip ?_
  refine WP_seq ?_
  refine WP_region ?_
  refine O_move rfl rfl rfl ?_
  refine O_call enters14 rfl rfl rfl (mnat_any (ha.ext e1) (by (try simp only [val_dig, List.length_take, List.length_nil, List.length_cons, List.length_append, List.length_replicate, List.length_set, List.length_map, List.length_drop]); omega)) (fun v2 w2 e2 h2 => ?_)
  have z2 := e2.size
  try simp only [val_dig] at h2
  obtain ⟨q2, rfl, hq2⟩ := h2
  refine O_move rfl rfl rfl ?_
  refine O_extract rfl rfl rfl rfl ?_
  refine O_extract rfl rfl rfl rfl ?_
  refine O_assign rfl rfl rfl ?_
  refine O_assign rfl rfl rfl ?_
  refine WL_end [(1, _), (2, _), (7, _), (8, _)] ⟨rfl, rfl, rfl, rfl, trivial⟩ ?_
  refine WP_seq ?_
  refine WP_seq ?_
  refine WP_region ?_
  refine O_move rfl rfl rfl ?_
  refine O_not rfl rfl rfl (decide_not).symm ?_
  refine WL_end [(1, _), (2, _), (7, _), (21, _)] ⟨rfl, rfl, rfl, rfl, trivial⟩ ?_
  refine WP_condN rfl (fun c21 => ?_) (fun c21 => ?_)
  · --
    refine WP_seq ?_
    refine WP_region ?_
    refine O_assign rfl rfl rfl ?_
    refine WL_end [(6, _)] ⟨rfl, trivial⟩ ?_
    refine WP_ret ?_
    refine ret1 Try.results9 rfl ?_
    exact ⟨_, rfl, (e1.trans e2), rfl⟩
  · --
    refine WP_skip ?_
    refine WP_seq ?_
    refine WP_seq ?_
    refine WP_region ?_
    refine O_move rfl rfl rfl ?_
    refine O_move rfl rfl rfl ?_
    refine O_call enters36 rfl rfl rfl (root_no hk) (fun v3 w3 e3 h3 => ?_)
    have z3 := e3.size
    try simp only [val_dig] at h3
    obtain rfl := h3
    refine O_move rfl rfl rfl ?_
    refine O_extract rfl rfl rfl rfl ?_
    refine O_extract rfl rfl rfl rfl ?_
    refine O_assign rfl rfl rfl ?_
    refine O_assign rfl rfl rfl ?_
    refine WL_end [(1, _), (2, _), (7, _), (9, _), (10, _)] ⟨rfl, rfl, rfl, rfl, rfl, trivial⟩ ?_
    refine WP_seq ?_
    refine WP_region ?_
    refine O_move rfl rfl rfl ?_
    refine O_lss (t := true) rfl rfl rfl rfl (decide_eq_true (by omega)) ?_
    refine O_move rfl rfl rfl ?_
    refine O_skip rfl rfl ?_
    refine O_skip rfl rfl ?_
    refine O_pickT rfl rfl rfl rfl ?_
    refine WL_end [(1, _), (2, _), (7, _), (9, _), (10, _), (33, _)] ⟨rfl, rfl, rfl, rfl, rfl, rfl, trivial⟩ ?_
    refine WP_condT rfl ?_
    refine WP_seq ?_
    refine WP_region ?_
    refine O_move rfl rfl rfl ?_
    refine O_not rfl rfl rfl rfl ?_
    refine O_move rfl rfl rfl ?_
    refine O_move rfl rfl rfl ?_
    refine N_len T22 rfl rfl rfl (Nl.nil _) ?_
    refine O_eql (t := true) rfl rfl rfl rfl (decide_eq_true rfl) ?_
    refine O_pickT rfl rfl rfl rfl ?_
    refine O_assign rfl rfl rfl ?_
    refine WL_end [(6, _)] ⟨rfl, trivial⟩ ?_
    refine WP_ret ?_
    refine ret1 Try.results9 rfl ?_
    exact ⟨_, rfl, ((e1.trans e2).trans e3), rfl⟩

theorem law_rr_hi {w : World} {va : Value} {la : List Nat} {near : Bool} {k : Int} (ha : Nl w va la) (h : 64 < k) :
    Calls Try.prog 9 #[va, .int .i64 k, .bool near] w (Ret w fun r _ => r = .bool true) := by
  have hk : k < 1 ∨ 64 < k := .inr h
  have dA := dig_len_le ha.d
  refine enter (args := [va, _, _]) Try.func9 rfl Try.ntmps9 rfl ?_
  refine WP_seq ?_
  refine WP_region ?_
  refine O_assign rfl rfl rfl ?_
  refine WL_end [(0, _), (1, _), (2, _)] ⟨rfl, rfl, rfl, trivial⟩ ?_
  refine WP_seq ?_
  refine WP_seq ?_
  refine WP_region ?_
  refine O_call enters32 rfl rfl rfl (awake4_c) (fun v1 w1 e1 h1 => ?_)
  have z1 := e1.size
  obtain rfl := h1
  refine O_not rfl rfl rfl rfl ?_
  refine WL_end [(0, _), (1, _), (2, _), (14, _)] ⟨rfl, rfl, rfl, rfl, trivial⟩ ?_
  refine WP_condF rfl ?_
  refine WP_skip ?_
  refine WP_seq ?_
  refine WP_region ?_
  refine O_move rfl rfl rfl ?_
  refine O_call enters14 rfl rfl rfl (mnat_any (ha.ext e1) (by (try simp only [val_dig, List.length_take, List.length_nil, List.length_cons, List.length_append, List.length_replicate, List.length_set, List.length_map, List.length_drop]); omega)) (fun v2 w2 e2 h2 => ?_)
  have z2 := e2.size
  try simp only [val_dig] at h2
  obtain ⟨q2, rfl, hq2⟩ := h2
  refine O_move rfl rfl rfl ?_
  refine O_extract rfl rfl rfl rfl ?_
  refine O_extract rfl rfl rfl rfl ?_
  refine O_assign rfl rfl rfl ?_
  refine O_assign rfl rfl rfl ?_
  refine WL_end [(1, _), (2, _), (7, _), (8, _)] ⟨rfl, rfl, rfl, rfl, trivial⟩ ?_
  refine WP_seq ?_
  refine WP_seq ?_
  refine WP_region ?_
  refine O_move rfl rfl rfl ?_
  refine O_not rfl rfl rfl (decide_not).symm ?_
  refine WL_end [(1, _), (2, _), (7, _), (21, _)] ⟨rfl, rfl, rfl, rfl, trivial⟩ ?_
  refine WP_condN rfl (fun c21 => ?_) (fun c21 => ?_)
  · --
    refine WP_seq ?_
    refine WP_region ?_
    refine O_assign rfl rfl rfl ?_
    refine WL_end [(6, _)] ⟨rfl, trivial⟩ ?_
    refine WP_ret ?_
    refine ret1 Try.results9 rfl ?_
    exact ⟨_, rfl, (e1.trans e2), rfl⟩
  · --
    refine WP_skip ?_
    refine WP_seq ?_
    refine WP_seq ?_
    refine WP_region ?_
    refine O_move rfl rfl rfl ?_
    refine O_move rfl rfl rfl ?_
    refine O_call enters36 rfl rfl rfl (root_no hk) (fun v3 w3 e3 h3 => ?_)
    have z3 := e3.size
    try simp only [val_dig] at h3
    obtain rfl := h3
    refine O_move rfl rfl rfl ?_
    refine O_extract rfl rfl rfl rfl ?_
    refine O_extract rfl rfl rfl rfl ?_
    refine O_assign rfl rfl rfl ?_
    refine O_assign rfl rfl rfl ?_
    refine WL_end [(1, _), (2, _), (7, _), (9, _), (10, _)] ⟨rfl, rfl, rfl, rfl, rfl, trivial⟩ ?_
    refine WP_seq ?_
    refine WP_region ?_
    refine O_move rfl rfl rfl ?_
    refine O_lss (t := false) rfl rfl rfl rfl (decide_eq_false (by omega)) ?_
    refine O_move rfl rfl rfl ?_
    refine O_move rfl rfl rfl ?_
    refine O_gtr (t := true) rfl rfl rfl rfl (decide_eq_true (by omega)) ?_
    refine O_pickF rfl rfl rfl rfl ?_
    refine WL_end [(1, _), (2, _), (7, _), (9, _), (10, _), (33, _)] ⟨rfl, rfl, rfl, rfl, rfl, rfl, trivial⟩ ?_
    refine WP_condT rfl ?_
    refine WP_seq ?_
    refine WP_region ?_
    refine O_move rfl rfl rfl ?_
    refine O_not rfl rfl rfl rfl ?_
    refine O_move rfl rfl rfl ?_
    refine O_move rfl rfl rfl ?_
    refine N_len T22 rfl rfl rfl (Nl.nil _) ?_
    refine O_eql (t := true) rfl rfl rfl rfl (decide_eq_true rfl) ?_
    refine O_pickT rfl rfl rfl rfl ?_
    refine O_assign rfl rfl rfl ?_
    refine WL_end [(6, _)] ⟨rfl, trivial⟩ ?_
    refine WP_ret ?_
    refine ret1 Try.results9 rfl ?_
    exact ⟨_, rfl, ((e1.trans e2).trans e3), rfl⟩

theorem law_rr_in {w : World} {va : Value} {la : List Nat} {near : Bool} {k : Nat} (ha : Nl w va la) (hk1 : 1 ≤ k) (hk64 : k ≤ 64) :
    Calls Try.prog 9 #[va, .int .i64 (k : Nat), .bool near] w (Ret w fun r _ => r = .bool true) := by
  have dA := dig_len_le ha.d
  refine enter (args := [va, _, _]) Try.func9 rfl Try.ntmps9 rfl ?_
  refine WP_seq ?_
  refine WP_region ?_
  refine O_assign rfl rfl rfl ?_
  refine WL_end [(0, _), (1, _), (2, _)] ⟨rfl, rfl, rfl, trivial⟩ ?_
  refine WP_seq ?_
  refine WP_seq ?_
  refine WP_region ?_
  refine O_call enters32 rfl rfl rfl (awake4_c) (fun v1 w1 e1 h1 => ?_)
  have z1 := e1.size
  obtain rfl := h1
  refine O_not rfl rfl rfl rfl ?_
  refine WL_end [(0, _), (1, _), (2, _), (14, _)] ⟨rfl, rfl, rfl, rfl, trivial⟩ ?_
  refine WP_condF rfl ?_
  refine WP_skip ?_
  refine WP_seq ?_
  refine WP_region ?_
  refine O_move rfl rfl rfl ?_
  refine O_call enters14 rfl rfl rfl (mnat_any (ha.ext e1) (by (try simp only [val_dig, List.length_take, List.length_nil, List.length_cons, List.length_append, List.length_replicate, List.length_set, List.length_map, List.length_drop]); omega)) (fun v2 w2 e2 h2 => ?_)
  have z2 := e2.size
  try simp only [val_dig] at h2
  obtain ⟨q2, rfl, hq2⟩ := h2
  refine O_move rfl rfl rfl ?_
  refine O_extract rfl rfl rfl rfl ?_
  refine O_extract rfl rfl rfl rfl ?_
  refine O_assign rfl rfl rfl ?_
  refine O_assign rfl rfl rfl ?_
  refine WL_end [(1, _), (2, _), (7, _), (8, _)] ⟨rfl, rfl, rfl, rfl, trivial⟩ ?_
  refine WP_seq ?_
  refine WP_seq ?_
  refine WP_region ?_
  refine O_move rfl rfl rfl ?_
  refine O_not rfl rfl rfl (decide_not).symm ?_
  refine WL_end [(1, _), (2, _), (7, _), (21, _)] ⟨rfl, rfl, rfl, rfl, trivial⟩ ?_
  refine WP_condN rfl (fun c21 => ?_) (fun c21 => ?_)
  · --
    refine WP_seq ?_
    refine WP_region ?_
    refine O_assign rfl rfl rfl ?_
    refine WL_end [(6, _)] ⟨rfl, trivial⟩ ?_
    refine WP_ret ?_
    refine ret1 Try.results9 rfl ?_
    exact ⟨_, rfl, (e1.trans e2), rfl⟩
  · --
    refine WP_skip ?_
    refine WP_seq ?_
    refine WP_seq ?_
    refine WP_region ?_
    refine O_move rfl rfl rfl ?_
    refine O_move rfl rfl rfl ?_
    refine O_call enters36 rfl rfl rfl (root_c (hq2 (by omega)).nl (by (try simp only [val_dig, List.length_take, List.length_nil, List.length_cons, List.length_append, List.length_replicate, List.length_set, List.length_map, List.length_drop]); omega) (by (try simp only [val_dig, List.length_take, List.length_nil, List.length_cons, List.length_append, List.length_replicate, List.length_set, List.length_map, List.length_drop]); omega) (by (try simp only [val_dig, List.length_take, List.length_nil, List.length_cons, List.length_append, List.length_replicate, List.length_set, List.length_map, List.length_drop]); omega)) (fun v3 w3 e3 h3 => ?_)
    have z3 := e3.size
    try simp only [val_dig] at h3
    obtain ⟨q3, rfl, hq3⟩ := h3
    refine O_move rfl rfl rfl ?_
    refine O_extract rfl rfl rfl rfl ?_
    refine O_extract rfl rfl rfl rfl ?_
    refine O_assign rfl rfl rfl ?_
    refine O_assign rfl rfl rfl ?_
    refine WL_end [(1, _), (2, _), (7, _), (9, _), (10, _)] ⟨rfl, rfl, rfl, rfl, rfl, trivial⟩ ?_
    refine WP_seq ?_
    refine WP_region ?_
    refine O_move rfl rfl rfl ?_
    refine O_lss (t := false) rfl rfl rfl rfl (decide_eq_false (by omega)) ?_
    refine O_move rfl rfl rfl ?_
    refine O_move rfl rfl rfl ?_
    refine O_gtr (t := false) rfl rfl rfl rfl (decide_eq_false (by omega)) ?_
    refine O_pickF rfl rfl rfl rfl ?_
    refine WL_end [(1, _), (2, _), (7, _), (9, _), (10, _), (33, _)] ⟨rfl, rfl, rfl, rfl, rfl, rfl, trivial⟩ ?_
    refine WP_condF rfl ?_
    refine WP_skip ?_
    refine WP_seq ?_
    refine WP_seq ?_
    refine WP_region ?_
    refine O_move rfl rfl rfl ?_
    refine O_move rfl rfl rfl ?_
    refine WL_bool 42 rfl (fun g42 => ?_) (fun g42 => ?_)
    · --
      refine O_move rfl rfl rfl ?_
      refine N_len T22 rfl rfl rfl ((hq2 (by omega)).ext e3).nl ?_
      refine O_leq rfl rfl rfl rfl rfl ?_
      refine O_pickT rfl rfl rfl rfl ?_
      refine WL_end [(1, _), (7, _), (46, _)] ⟨rfl, rfl, rfl, trivial⟩ ?_
      refine WP_condD rfl (fun c46 => ?_) (fun c46 => ?_)
      · --
        refine WP_region ?_
        refine O_move rfl rfl rfl ?_
        refine O_move rfl rfl rfl ?_
        have hLp := dig_len_pow64 (D_dig (val la)) (show (dig (val la)).length ≤ 100000 by omega) (e := k) hk64
        rw [val_dig] at hLp
        have hLq := dig_len_pow (D_dig (val la)) k
        rw [val_dig] at hLq
        have hLk : (dig (val la)).length * k ≤ 1 * 64 := Nat.mul_le_mul (by omega) hk64
        refine O_call enters37 rfl rfl rfl (rpower_c ((hq2 (by omega)).ext e3).nl (by (try simp only [val_dig, List.length_take, List.length_nil, List.length_cons, List.length_append, List.length_replicate, List.length_set, List.length_map, List.length_drop]); omega) (by (try simp only [val_dig, List.length_take, List.length_nil, List.length_cons, List.length_append, List.length_replicate, List.length_set, List.length_map, List.length_drop]); omega)) (fun v4 w4 e4 h4 => ?_)
        have z4 := e4.size
        try simp only [val_dig] at h4
        refine O_assign rfl rfl rfl ?_
        refine WL_end [(1, _), (7, _)] ⟨rfl, rfl, trivial⟩ ?_
        refine WP_seq ?_
        refine WP_region ?_
        refine O_move rfl rfl rfl ?_
        refine O_move rfl rfl rfl ?_
        refine O_call enters36 rfl rfl rfl (root_c h4.nl (by (try simp only [val_dig, List.length_take, List.length_nil, List.length_cons, List.length_append, List.length_replicate, List.length_set, List.length_map, List.length_drop]); omega) (by (try simp only [val_dig, List.length_take, List.length_nil, List.length_cons, List.length_append, List.length_replicate, List.length_set, List.length_map, List.length_drop]); omega) (by (try simp only [val_dig, List.length_take, List.length_nil, List.length_cons, List.length_append, List.length_replicate, List.length_set, List.length_map, List.length_drop]); omega)) (fun v5 w5 e5 h5 => ?_)
        have z5 := e5.size
        try simp only [val_dig] at h5
        obtain ⟨q5, rfl, hq5⟩ := h5
        refine O_move rfl rfl rfl ?_
        refine O_extract rfl rfl rfl rfl ?_
        refine O_extract rfl rfl rfl rfl ?_
        refine O_assign rfl rfl rfl ?_
        refine O_assign rfl rfl rfl ?_
        refine WL_end [(1, _), (7, _), (11, _), (12, _)] ⟨rfl, rfl, rfl, rfl, trivial⟩ ?_
        refine WP_seq ?_
        refine WP_region ?_
        refine O_move rfl rfl rfl ?_
        refine O_move rfl rfl rfl ?_
        refine O_move rfl rfl rfl ?_
        refine O_move rfl rfl rfl ?_
        refine O_move rfl rfl rfl ?_
        refine O_call enters35 rfl rfl rfl (below_c hq5.nl (h4.ext e5).nl (by (try simp only [val_dig, List.length_take, List.length_nil, List.length_cons, List.length_append, List.length_replicate, List.length_set, List.length_map, List.length_drop]); omega) (by (try simp only [val_dig, List.length_take, List.length_nil, List.length_cons, List.length_append, List.length_replicate, List.length_set, List.length_map, List.length_drop]); omega) (by (try simp only [val_dig, List.length_take, List.length_nil, List.length_cons, List.length_append, List.length_replicate, List.length_set, List.length_map, List.length_drop]); omega) rfl) (fun v6 w6 e6 h6 => ?_)
        have z6 := e6.size
        obtain rfl := h6
        refine O_pickT rfl rfl rfl rfl ?_
        refine O_assign rfl rfl rfl ?_
        refine WL_end [(6, _)] ⟨rfl, trivial⟩ ?_
        refine WP_ret ?_
        refine ret1 Try.results9 rfl ?_
        exact ⟨_, rfl, (((((e1.trans e2).trans e3).trans e4).trans e5).trans e6), rfl⟩
      · --
        refine WP_skip ?_
        refine WP_seq ?_
        refine WP_region ?_
        refine O_move rfl rfl rfl ?_
        refine O_move rfl rfl rfl ?_
        refine O_call enters36 rfl rfl rfl (root_c ((hq2 (by omega)).ext e3).nl (by (try simp only [val_dig, List.length_take, List.length_nil, List.length_cons, List.length_append, List.length_replicate, List.length_set, List.length_map, List.length_drop]); omega) (by (try simp only [val_dig, List.length_take, List.length_nil, List.length_cons, List.length_append, List.length_replicate, List.length_set, List.length_map, List.length_drop]); omega) (by (try simp only [val_dig, List.length_take, List.length_nil, List.length_cons, List.length_append, List.length_replicate, List.length_set, List.length_map, List.length_drop]); omega)) (fun v7 w7 e7 h7 => ?_)
        have z7 := e7.size
        try simp only [val_dig] at h7
        obtain ⟨q7, rfl, hq7⟩ := h7
        refine O_move rfl rfl rfl ?_
        refine O_extract rfl rfl rfl rfl ?_
        refine O_extract rfl rfl rfl rfl ?_
        refine O_assign rfl rfl rfl ?_
        refine O_assign rfl rfl rfl ?_
        refine WL_end [(1, _), (7, _), (11, _), (12, _)] ⟨rfl, rfl, rfl, rfl, trivial⟩ ?_
        refine WP_seq ?_
        refine WP_region ?_
        refine O_move rfl rfl rfl ?_
        refine O_move rfl rfl rfl ?_
        refine O_move rfl rfl rfl ?_
        refine O_move rfl rfl rfl ?_
        refine O_move rfl rfl rfl ?_
        refine O_call enters35 rfl rfl rfl (below_c hq7.nl (((hq2 (by omega)).ext e3).ext e7).nl (by (try simp only [val_dig, List.length_take, List.length_nil, List.length_cons, List.length_append, List.length_replicate, List.length_set, List.length_map, List.length_drop]); omega) (by (try simp only [val_dig, List.length_take, List.length_nil, List.length_cons, List.length_append, List.length_replicate, List.length_set, List.length_map, List.length_drop]); omega) (by (try simp only [val_dig, List.length_take, List.length_nil, List.length_cons, List.length_append, List.length_replicate, List.length_set, List.length_map, List.length_drop]); omega) rfl) (fun v8 w8 e8 h8 => ?_)
        have z8 := e8.size
        obtain rfl := h8
        refine O_pickT rfl rfl rfl rfl ?_
        refine O_assign rfl rfl rfl ?_
        refine WL_end [(6, _)] ⟨rfl, trivial⟩ ?_
        refine WP_ret ?_
        refine ret1 Try.results9 rfl ?_
        exact ⟨_, rfl, ((((e1.trans e2).trans e3).trans e7).trans e8), rfl⟩
    · --
      refine O_skip rfl rfl ?_
      refine O_skip rfl rfl ?_
      refine O_skip rfl rfl ?_
      refine O_pickF rfl rfl rfl rfl ?_
      refine WL_end [(1, _), (7, _), (46, _)] ⟨rfl, rfl, rfl, trivial⟩ ?_
      refine WP_condF rfl ?_
      refine WP_skip ?_
      refine WP_seq ?_
      refine WP_region ?_
      refine O_move rfl rfl rfl ?_
      refine O_move rfl rfl rfl ?_
      refine O_call enters36 rfl rfl rfl (root_c ((hq2 (by omega)).ext e3).nl (by (try simp only [val_dig, List.length_take, List.length_nil, List.length_cons, List.length_append, List.length_replicate, List.length_set, List.length_map, List.length_drop]); omega) (by (try simp only [val_dig, List.length_take, List.length_nil, List.length_cons, List.length_append, List.length_replicate, List.length_set, List.length_map, List.length_drop]); omega) (by (try simp only [val_dig, List.length_take, List.length_nil, List.length_cons, List.length_append, List.length_replicate, List.length_set, List.length_map, List.length_drop]); omega)) (fun v9 w9 e9 h9 => ?_)
      have z9 := e9.size
      try simp only [val_dig] at h9
      obtain ⟨q9, rfl, hq9⟩ := h9
      refine O_move rfl rfl rfl ?_
      refine O_extract rfl rfl rfl rfl ?_
      refine O_extract rfl rfl rfl rfl ?_
      refine O_assign rfl rfl rfl ?_
      refine O_assign rfl rfl rfl ?_
      refine WL_end [(1, _), (7, _), (11, _), (12, _)] ⟨rfl, rfl, rfl, rfl, trivial⟩ ?_
      refine WP_seq ?_
      refine WP_region ?_
      refine O_move rfl rfl rfl ?_
      refine O_move rfl rfl rfl ?_
      refine O_move rfl rfl rfl ?_
      refine O_move rfl rfl rfl ?_
      refine O_move rfl rfl rfl ?_
      refine O_call enters35 rfl rfl rfl (below_c hq9.nl (((hq2 (by omega)).ext e3).ext e9).nl (by (try simp only [val_dig, List.length_take, List.length_nil, List.length_cons, List.length_append, List.length_replicate, List.length_set, List.length_map, List.length_drop]); omega) (by (try simp only [val_dig, List.length_take, List.length_nil, List.length_cons, List.length_append, List.length_replicate, List.length_set, List.length_map, List.length_drop]); omega) (by (try simp only [val_dig, List.length_take, List.length_nil, List.length_cons, List.length_append, List.length_replicate, List.length_set, List.length_map, List.length_drop]); omega) rfl) (fun v10 w10 e10 h10 => ?_)
      have z10 := e10.size
      obtain rfl := h10
      refine O_pickT rfl rfl rfl rfl ?_
      refine O_assign rfl rfl rfl ?_
      refine WL_end [(6, _)] ⟨rfl, trivial⟩ ?_
      refine WP_ret ?_
      refine ret1 Try.results9 rfl ?_
      exact ⟨_, rfl, ((((e1.trans e2).trans e3).trans e9).trans e10), rfl⟩

theorem law_RootRoots {w : World} {va : Value} {la : List Nat} {near : Bool} {k : Int} (ha : Nl w va la) : Calls Try.prog 9 #[va, .int .i64 k, .bool near] w (Ret w fun r _ => r = .bool true) := by
  by_cases h : k < 1
  · exact law_rr_lo ha h
  · by_cases h2 : 64 < k
    · exact law_rr_hi ha h2
    · obtain ⟨n, rfl⟩ := Int.eq_ofNat_of_zero_le (show 0 ≤ k by omega)
      exact law_rr_in ha (by omega) (by omega)

theorem law_RootGcd {w : World} {va vb vc : Value} {la lb lc : List Nat} (ha : Nl w va la) (hb : Nl w vb lb) (hc : Nl w vc lc) :
    Calls Try.prog 10 #[va, vb, vc] w (Ret w fun r _ => r = .bool true) := by
  have dA := dig_len_le ha.d
  have dB := dig_len_le hb.d
  have dC := dig_len_le hc.d
  have d1 := dig_len_mul (val la) (val lc)
  have d2 := dig_len_mul (val lb) (val lc)
  have d3 := dig_len_gcd (val la * val lc) (val lb * val lc)
  refine enter (args := [va, vb, vc]) Try.func10 rfl Try.ntmps10 rfl ?_
  refine WP_seq ?_
  refine WP_region ?_
  refine O_assign rfl rfl rfl ?_
  refine WL_end [(0, _), (1, _), (2, _)] ⟨rfl, rfl, rfl, trivial⟩ ?_
  refine WP_seq ?_
  refine WP_seq ?_
  refine WP_region ?_
  refine O_call enters32 rfl rfl rfl (awake4_c) (fun v1 w1 e1 h1 => ?_)
  have z1 := e1.size
  obtain rfl := h1
  refine O_not rfl rfl rfl rfl ?_
  refine WL_end [(0, _), (1, _), (2, _), (17, _)] ⟨rfl, rfl, rfl, rfl, trivial⟩ ?_
  refine WP_condF rfl ?_
  refine WP_skip ?_
  refine WP_seq ?_
  refine WP_region ?_
  refine O_move rfl rfl rfl ?_
  refine O_call enters14 rfl rfl rfl (mnat_any (ha.ext e1) (by (try simp only [val_dig, List.length_take, List.length_nil, List.length_cons, List.length_append, List.length_replicate, List.length_set, List.length_map, List.length_drop]); omega)) (fun v2 w2 e2 h2 => ?_)
  have z2 := e2.size
  try simp only [val_dig] at h2
  obtain ⟨q2, rfl, hq2⟩ := h2
  refine O_move rfl rfl rfl ?_
  refine O_extract rfl rfl rfl rfl ?_
  refine O_extract rfl rfl rfl rfl ?_
  refine O_assign rfl rfl rfl ?_
  refine O_assign rfl rfl rfl ?_
  refine WL_end [(1, _), (2, _), (7, _), (8, _)] ⟨rfl, rfl, rfl, rfl, trivial⟩ ?_
  refine WP_seq ?_
  refine WP_region ?_
  refine O_move rfl rfl rfl ?_
  refine O_call enters14 rfl rfl rfl (mnat_any (hb.ext (e1.trans e2)) (by (try simp only [val_dig, List.length_take, List.length_nil, List.length_cons, List.length_append, List.length_replicate, List.length_set, List.length_map, List.length_drop]); omega)) (fun v3 w3 e3 h3 => ?_)
  have z3 := e3.size
  try simp only [val_dig] at h3
  obtain ⟨q3, rfl, hq3⟩ := h3
  refine O_move rfl rfl rfl ?_
  refine O_extract rfl rfl rfl rfl ?_
  refine O_extract rfl rfl rfl rfl ?_
  refine O_assign rfl rfl rfl ?_
  refine O_assign rfl rfl rfl ?_
  refine WL_end [(2, _), (7, _), (8, _), (9, _), (10, _)] ⟨rfl, rfl, rfl, rfl, rfl, trivial⟩ ?_
  refine WP_seq ?_
  refine WP_region ?_
  refine O_move rfl rfl rfl ?_
  refine O_call enters14 rfl rfl rfl (mnat_any (hc.ext ((e1.trans e2).trans e3)) (by (try simp only [val_dig, List.length_take, List.length_nil, List.length_cons, List.length_append, List.length_replicate, List.length_set, List.length_map, List.length_drop]); omega)) (fun v4 w4 e4 h4 => ?_)
  have z4 := e4.size
  try simp only [val_dig] at h4
  obtain ⟨q4, rfl, hq4⟩ := h4
  refine O_move rfl rfl rfl ?_
  refine O_extract rfl rfl rfl rfl ?_
  refine O_extract rfl rfl rfl rfl ?_
  refine O_assign rfl rfl rfl ?_
  refine O_assign rfl rfl rfl ?_
  refine WL_end [(7, _), (8, _), (9, _), (10, _), (11, _), (12, _)] ⟨rfl, rfl, rfl, rfl, rfl, rfl, trivial⟩ ?_
  refine WP_seq ?_
  refine WP_seq ?_
  refine WP_region ?_
  refine O_move rfl rfl rfl ?_
  refine O_not rfl rfl rfl (decide_not).symm ?_
  refine O_move rfl rfl rfl ?_
  refine WL_ndec 35 rfl (fun g35 => ?_) (fun g35 => ?_)
  · --
    refine O_skip rfl rfl ?_
    refine O_skip rfl rfl ?_
    refine O_pickT rfl rfl rfl rfl ?_
    refine O_move rfl rfl rfl ?_
    refine O_skip rfl rfl ?_
    refine O_skip rfl rfl ?_
    refine O_pickT rfl rfl rfl rfl ?_
    refine WL_end [(7, _), (9, _), (11, _), (42, _)] ⟨rfl, rfl, rfl, rfl, trivial⟩ ?_
    refine WP_condT rfl ?_
    refine WP_seq ?_
    refine WP_region ?_
    refine O_assign rfl rfl rfl ?_
    refine WL_end [(6, _)] ⟨rfl, trivial⟩ ?_
    refine WP_ret ?_
    refine ret1 Try.results10 rfl ?_
    exact ⟨_, rfl, (((e1.trans e2).trans e3).trans e4), rfl⟩
  · --
    refine O_move rfl rfl rfl ?_
    refine O_not rfl rfl rfl (decide_not).symm ?_
    refine O_pickF rfl rfl rfl rfl ?_
    refine O_move rfl rfl rfl ?_
    refine WL_ndec 39 rfl (fun g39 => ?_) (fun g39 => ?_)
    · --
      refine O_skip rfl rfl ?_
      refine O_skip rfl rfl ?_
      refine O_pickT rfl rfl rfl rfl ?_
      refine WL_end [(7, _), (9, _), (11, _), (42, _)] ⟨rfl, rfl, rfl, rfl, trivial⟩ ?_
      refine WP_condT rfl ?_
      refine WP_seq ?_
      refine WP_region ?_
      refine O_assign rfl rfl rfl ?_
      refine WL_end [(6, _)] ⟨rfl, trivial⟩ ?_
      refine WP_ret ?_
      refine ret1 Try.results10 rfl ?_
      exact ⟨_, rfl, (((e1.trans e2).trans e3).trans e4), rfl⟩
    · --
      refine O_move rfl rfl rfl ?_
      refine O_not rfl rfl rfl (decide_not).symm ?_
      refine O_pickF rfl rfl rfl rfl ?_
      refine WL_end [(7, _), (9, _), (11, _), (42, _)] ⟨rfl, rfl, rfl, rfl, trivial⟩ ?_
      refine WP_condN rfl (fun c42 => ?_) (fun c42 => ?_)
      · --
        refine WP_seq ?_
        refine WP_region ?_
        refine O_assign rfl rfl rfl ?_
        refine WL_end [(6, _)] ⟨rfl, trivial⟩ ?_
        refine WP_ret ?_
        refine ret1 Try.results10 rfl ?_
        exact ⟨_, rfl, (((e1.trans e2).trans e3).trans e4), rfl⟩
      · --
        refine WP_skip ?_
        refine WP_seq ?_
        refine WP_region ?_
        refine O_move rfl rfl rfl ?_
        refine O_move rfl rfl rfl ?_
        refine O_call enters16 rfl rfl rfl (rmul_c (((hq2 (by omega)).ext e3).ext e4).nl (hq4 (by omega)).nl (by (try simp only [val_dig, List.length_take, List.length_nil, List.length_cons, List.length_append, List.length_replicate, List.length_set, List.length_map, List.length_drop]); omega) (by (try simp only [val_dig, List.length_take, List.length_nil, List.length_cons, List.length_append, List.length_replicate, List.length_set, List.length_map, List.length_drop]); omega)) (fun v5 w5 e5 h5 => ?_)
        have z5 := e5.size
        try simp only [val_dig] at h5
        refine O_move rfl rfl rfl ?_
        refine O_move rfl rfl rfl ?_
        refine O_call enters16 rfl rfl rfl (rmul_c (((hq3 (by omega)).ext e4).ext e5).nl ((hq4 (by omega)).ext e5).nl (by (try simp only [val_dig, List.length_take, List.length_nil, List.length_cons, List.length_append, List.length_replicate, List.length_set, List.length_map, List.length_drop]); omega) (by (try simp only [val_dig, List.length_take, List.length_nil, List.length_cons, List.length_append, List.length_replicate, List.length_set, List.length_map, List.length_drop]); omega)) (fun v6 w6 e6 h6 => ?_)
        have z6 := e6.size
        try simp only [val_dig] at h6
        refine O_assign rfl rfl rfl ?_
        refine O_assign rfl rfl rfl ?_
        refine WL_end [(11, _), (13, _), (14, _)] ⟨rfl, rfl, rfl, trivial⟩ ?_
        refine WP_seq ?_
        refine WP_region ?_
        refine O_move rfl rfl rfl ?_
        refine O_move rfl rfl rfl ?_
        refine O_call enters38 rfl rfl rfl (gcd_c (h5.ext e6).nl h6.nl (by (try simp only [val_dig, List.length_take, List.length_nil, List.length_cons, List.length_append, List.length_replicate, List.length_set, List.length_map, List.length_drop]); omega) (by (try simp only [val_dig, List.length_take, List.length_nil, List.length_cons, List.length_append, List.length_replicate, List.length_set, List.length_map, List.length_drop]); omega)) (fun v7 w7 e7 h7 => ?_)
        have z7 := e7.size
        try simp only [val_dig] at h7
        refine O_assign rfl rfl rfl ?_
        refine WL_end [(11, _), (13, _), (14, _), (15, _)] ⟨rfl, rfl, rfl, rfl, trivial⟩ ?_
        refine WP_seq ?_
        refine WP_region ?_
        refine O_move rfl rfl rfl ?_
        refine O_call enters22 rfl rfl rfl (validT_c h7.nl (by first | exact validv_dig _ | exact validv_nil)) (fun v8 w8 e8 h8 => ?_)
        have z8 := e8.size
        obtain rfl := h8
        refine O_move rfl rfl rfl ?_
        refine O_move rfl rfl rfl ?_
        refine O_move rfl rfl rfl ?_
        refine O_move rfl rfl rfl ?_
        refine O_call enters39 rfl rfl rfl (rgcd_c (((h5.ext e6).ext e7).ext e8).nl ((h6.ext e7).ext e8).nl (by (try simp only [val_dig, List.length_take, List.length_nil, List.length_cons, List.length_append, List.length_replicate, List.length_set, List.length_map, List.length_drop]); omega) (by (try simp only [val_dig, List.length_take, List.length_nil, List.length_cons, List.length_append, List.length_replicate, List.length_set, List.length_map, List.length_drop]); omega)) (fun v9 w9 e9 h9 => ?_)
        have z9 := e9.size
        refine O_call enters23 rfl rfl rfl (rsame_c ((h7.ext e8).ext e9).nl h9 (by (try simp only [val_dig, List.length_take, List.length_nil, List.length_cons, List.length_append, List.length_replicate, List.length_set, List.length_map, List.length_drop]); omega) (by (try simp only [val_dig, List.length_take, List.length_nil, List.length_cons, List.length_append, List.length_replicate, List.length_set, List.length_map, List.length_drop]); omega) rfl) (fun v10 w10 e10 h10 => ?_)
        have z10 := e10.size
        obtain rfl := h10
        refine O_pickT rfl rfl rfl rfl ?_
        refine O_move rfl rfl rfl ?_
        refine O_move rfl rfl rfl ?_
        refine O_move rfl rfl rfl ?_
        refine O_call enters29 rfl rfl rfl (rdivides_T (((h7.ext e8).ext e9).ext e10).nl (((((h5.ext e6).ext e7).ext e8).ext e9).ext e10).nl (by (try simp only [val_dig, List.length_take, List.length_nil, List.length_cons, List.length_append, List.length_replicate, List.length_set, List.length_map, List.length_drop]); omega) (by (try simp only [val_dig, List.length_take, List.length_nil, List.length_cons, List.length_append, List.length_replicate, List.length_set, List.length_map, List.length_drop]); omega) (mod_gcd_l _ _)) (fun v11 w11 e11 h11 => ?_)
        have z11 := e11.size
        obtain rfl := h11
        refine O_pickT rfl rfl rfl rfl ?_
        refine O_move rfl rfl rfl ?_
        refine O_move rfl rfl rfl ?_
        refine O_move rfl rfl rfl ?_
        refine O_call enters29 rfl rfl rfl (rdivides_T ((((h7.ext e8).ext e9).ext e10).ext e11).nl (((((h6.ext e7).ext e8).ext e9).ext e10).ext e11).nl (by (try simp only [val_dig, List.length_take, List.length_nil, List.length_cons, List.length_append, List.length_replicate, List.length_set, List.length_map, List.length_drop]); omega) (by (try simp only [val_dig, List.length_take, List.length_nil, List.length_cons, List.length_append, List.length_replicate, List.length_set, List.length_map, List.length_drop]); omega) (mod_gcd_r _ _)) (fun v12 w12 e12 h12 => ?_)
        have z12 := e12.size
        obtain rfl := h12
        refine O_pickT rfl rfl rfl rfl ?_
        refine O_move rfl rfl rfl ?_
        refine O_move rfl rfl rfl ?_
        refine O_move rfl rfl rfl ?_
        refine O_call enters29 rfl rfl rfl (rdivides_T (((((((((hq4 (by omega)).ext e5).ext e6).ext e7).ext e8).ext e9).ext e10).ext e11).ext e12).nl (((((h7.ext e8).ext e9).ext e10).ext e11).ext e12).nl (by (try simp only [val_dig, List.length_take, List.length_nil, List.length_cons, List.length_append, List.length_replicate, List.length_set, List.length_map, List.length_drop]); omega) (by (try simp only [val_dig, List.length_take, List.length_nil, List.length_cons, List.length_append, List.length_replicate, List.length_set, List.length_map, List.length_drop]); omega) (gcd_mul_mod _ _ _)) (fun v13 w13 e13 h13 => ?_)
        have z13 := e13.size
        obtain rfl := h13
        refine O_pickT rfl rfl rfl rfl ?_
        refine O_move rfl rfl rfl ?_
        refine O_move rfl rfl rfl ?_
        refine O_move rfl rfl rfl ?_
        refine O_move rfl rfl rfl ?_
        refine O_call enters38 rfl rfl rfl (gcd_c (((((((h6.ext e7).ext e8).ext e9).ext e10).ext e11).ext e12).ext e13).nl ((((((((h5.ext e6).ext e7).ext e8).ext e9).ext e10).ext e11).ext e12).ext e13).nl (by (try simp only [val_dig, List.length_take, List.length_nil, List.length_cons, List.length_append, List.length_replicate, List.length_set, List.length_map, List.length_drop]); omega) (by (try simp only [val_dig, List.length_take, List.length_nil, List.length_cons, List.length_append, List.length_replicate, List.length_set, List.length_map, List.length_drop]); omega)) (fun v14 w14 e14 h14 => ?_)
        have z14 := e14.size
        try simp only [val_dig] at h14
        rw [Nat.gcd_comm] at h14
        refine O_call enters23 rfl rfl rfl (rsame_c (((((((h7.ext e8).ext e9).ext e10).ext e11).ext e12).ext e13).ext e14).nl h14.nl (by (try simp only [val_dig, List.length_take, List.length_nil, List.length_cons, List.length_append, List.length_replicate, List.length_set, List.length_map, List.length_drop]); omega) (by (try simp only [val_dig, List.length_take, List.length_nil, List.length_cons, List.length_append, List.length_replicate, List.length_set, List.length_map, List.length_drop]); omega) rfl) (fun v15 w15 e15 h15 => ?_)
        have z15 := e15.size
        obtain rfl := h15
        refine O_pickT rfl rfl rfl rfl ?_
        refine O_assign rfl rfl rfl ?_
        refine WL_end [(6, _)] ⟨rfl, trivial⟩ ?_
        refine WP_ret ?_
        refine ret1 Try.results10 rfl ?_
        exact ⟨_, rfl, ((((((((((((((e1.trans e2).trans e3).trans e4).trans e5).trans e6).trans e7).trans e8).trans e9).trans e10).trans e11).trans e12).trans e13).trans e14).trans e15), rfl⟩

theorem law_rl_b {w : World} {va vb vc : Value} {la lb lc : List Nat} (ha : Nl w va la) (hb : Nl w vb lb) (hc : Nl w vc lc) (h1 : val lb = 0) :
    Calls Try.prog 12 #[va, vb, vc] w (Ret w fun r _ => r = .bool true) := by
  have dA := dig_len_le ha.d
  have dB := dig_len_le hb.d
  have dC := dig_len_le hc.d
  have d1 := dig_len_mul (val la) (val lc)
  have d2 := dig_len_mul (val lb) (val lc)
  have d3 := dig_len_gcd (val la * val lc) (val lb * val lc)
  have h0 : val lb * val lc = 0 := by rw [h1, Nat.zero_mul]
  refine enter (args := [va, vb, vc]) Try.func12 rfl Try.ntmps12 rfl ?_
  refine WP_seq ?_
  refine WP_region ?_
  refine O_assign rfl rfl rfl ?_
  refine WL_end [(0, _), (1, _), (2, _)] ⟨rfl, rfl, rfl, trivial⟩ ?_
  refine WP_seq ?_
  refine WP_seq ?_
  refine WP_region ?_
  refine O_call enters32 rfl rfl rfl (awake4_c) (fun v1 w1 e1 h1 => ?_)
  have z1 := e1.size
  obtain rfl := h1
  refine O_not rfl rfl rfl rfl ?_
  refine WL_end [(0, _), (1, _), (2, _), (17, _)] ⟨rfl, rfl, rfl, rfl, trivial⟩ ?_
  refine WP_condF rfl ?_
  refine WP_skip ?_
  refine WP_seq ?_
  refine WP_region ?_
  refine O_move rfl rfl rfl ?_
  refine O_call enters14 rfl rfl rfl (mnat_any (ha.ext e1) (by (try simp only [val_dig, List.length_take, List.length_nil, List.length_cons, List.length_append, List.length_replicate, List.length_set, List.length_map, List.length_drop]); omega)) (fun v2 w2 e2 h2 => ?_)
  have z2 := e2.size
  try simp only [val_dig] at h2
  obtain ⟨q2, rfl, hq2⟩ := h2
  refine O_move rfl rfl rfl ?_
  refine O_extract rfl rfl rfl rfl ?_
  refine O_extract rfl rfl rfl rfl ?_
  refine O_assign rfl rfl rfl ?_
  refine O_assign rfl rfl rfl ?_
  refine WL_end [(1, _), (2, _), (7, _), (8, _)] ⟨rfl, rfl, rfl, rfl, trivial⟩ ?_
  refine WP_seq ?_
  refine WP_region ?_
  refine O_move rfl rfl rfl ?_
  refine O_call enters14 rfl rfl rfl (mnat_any (hb.ext (e1.trans e2)) (by (try simp only [val_dig, List.length_take, List.length_nil, List.length_cons, List.length_append, List.length_replicate, List.length_set, List.length_map, List.length_drop]); omega)) (fun v3 w3 e3 h3 => ?_)
  have z3 := e3.size
  try simp only [val_dig] at h3
  obtain ⟨q3, rfl, hq3⟩ := h3
  refine O_move rfl rfl rfl ?_
  refine O_extract rfl rfl rfl rfl ?_
  refine O_extract rfl rfl rfl rfl ?_
  refine O_assign rfl rfl rfl ?_
  refine O_assign rfl rfl rfl ?_
  refine WL_end [(2, _), (7, _), (8, _), (9, _), (10, _)] ⟨rfl, rfl, rfl, rfl, rfl, trivial⟩ ?_
  refine WP_seq ?_
  refine WP_region ?_
  refine O_move rfl rfl rfl ?_
  refine O_call enters14 rfl rfl rfl (mnat_any (hc.ext ((e1.trans e2).trans e3)) (by (try simp only [val_dig, List.length_take, List.length_nil, List.length_cons, List.length_append, List.length_replicate, List.length_set, List.length_map, List.length_drop]); omega)) (fun v4 w4 e4 h4 => ?_)
  have z4 := e4.size
  try simp only [val_dig] at h4
  obtain ⟨q4, rfl, hq4⟩ := h4
  refine O_move rfl rfl rfl ?_
  refine O_extract rfl rfl rfl rfl ?_
  refine O_extract rfl rfl rfl rfl ?_
  refine O_assign rfl rfl rfl ?_
  refine O_assign rfl rfl rfl ?_
  refine WL_end [(7, _), (8, _), (9, _), (10, _), (11, _), (12, _)] ⟨rfl, rfl, rfl, rfl, rfl, rfl, trivial⟩ ?_
  refine WP_seq ?_
  refine WP_seq ?_
  refine WP_region ?_
  refine O_move rfl rfl rfl ?_
  refine O_not rfl rfl rfl (decide_not).symm ?_
  refine O_move rfl rfl rfl ?_
  refine WL_ndec 35 rfl (fun g35 => ?_) (fun g35 => ?_)
  · --
    refine O_skip rfl rfl ?_
    refine O_skip rfl rfl ?_
    refine O_pickT rfl rfl rfl rfl ?_
    refine O_move rfl rfl rfl ?_
    refine O_skip rfl rfl ?_
    refine O_skip rfl rfl ?_
    refine O_pickT rfl rfl rfl rfl ?_
    refine WL_end [(7, _), (9, _), (11, _), (42, _)] ⟨rfl, rfl, rfl, rfl, trivial⟩ ?_
    refine WP_condT rfl ?_
    refine WP_seq ?_
    refine WP_region ?_
    refine O_assign rfl rfl rfl ?_
    refine WL_end [(6, _)] ⟨rfl, trivial⟩ ?_
    refine WP_ret ?_
    refine ret1 Try.results12 rfl ?_
    exact ⟨_, rfl, (((e1.trans e2).trans e3).trans e4), rfl⟩
  · --
    refine O_move rfl rfl rfl ?_
    refine O_not rfl rfl rfl (decide_not).symm ?_
    refine O_pickF rfl rfl rfl rfl ?_
    refine O_move rfl rfl rfl ?_
    refine WL_ndec 39 rfl (fun g39 => ?_) (fun g39 => ?_)
    · --
      refine O_skip rfl rfl ?_
      refine O_skip rfl rfl ?_
      refine O_pickT rfl rfl rfl rfl ?_
      refine WL_end [(7, _), (9, _), (11, _), (42, _)] ⟨rfl, rfl, rfl, rfl, trivial⟩ ?_
      refine WP_condT rfl ?_
      refine WP_seq ?_
      refine WP_region ?_
      refine O_assign rfl rfl rfl ?_
      refine WL_end [(6, _)] ⟨rfl, trivial⟩ ?_
      refine WP_ret ?_
      refine ret1 Try.results12 rfl ?_
      exact ⟨_, rfl, (((e1.trans e2).trans e3).trans e4), rfl⟩
    · --
      refine O_move rfl rfl rfl ?_
      refine O_not rfl rfl rfl (decide_not).symm ?_
      refine O_pickF rfl rfl rfl rfl ?_
      refine WL_end [(7, _), (9, _), (11, _), (42, _)] ⟨rfl, rfl, rfl, rfl, trivial⟩ ?_
      refine WP_condN rfl (fun c42 => ?_) (fun c42 => ?_)
      · --
        refine WP_seq ?_
        refine WP_region ?_
        refine O_assign rfl rfl rfl ?_
        refine WL_end [(6, _)] ⟨rfl, trivial⟩ ?_
        refine WP_ret ?_
        refine ret1 Try.results12 rfl ?_
        exact ⟨_, rfl, (((e1.trans e2).trans e3).trans e4), rfl⟩
      · --
        refine WP_skip ?_
        refine WP_seq ?_
        refine WP_region ?_
        refine O_move rfl rfl rfl ?_
        refine O_move rfl rfl rfl ?_
        refine O_call enters16 rfl rfl rfl (rmul_c (((hq2 (by omega)).ext e3).ext e4).nl (hq4 (by omega)).nl (by (try simp only [val_dig, List.length_take, List.length_nil, List.length_cons, List.length_append, List.length_replicate, List.length_set, List.length_map, List.length_drop]); omega) (by (try simp only [val_dig, List.length_take, List.length_nil, List.length_cons, List.length_append, List.length_replicate, List.length_set, List.length_map, List.length_drop]); omega)) (fun v5 w5 e5 h5 => ?_)
        have z5 := e5.size
        try simp only [val_dig] at h5
        refine O_move rfl rfl rfl ?_
        refine O_move rfl rfl rfl ?_
        refine O_call enters16 rfl rfl rfl (rmul_c (((hq3 (by omega)).ext e4).ext e5).nl ((hq4 (by omega)).ext e5).nl (by (try simp only [val_dig, List.length_take, List.length_nil, List.length_cons, List.length_append, List.length_replicate, List.length_set, List.length_map, List.length_drop]); omega) (by (try simp only [val_dig, List.length_take, List.length_nil, List.length_cons, List.length_append, List.length_replicate, List.length_set, List.length_map, List.length_drop]); omega)) (fun v6 w6 e6 h6 => ?_)
        have z6 := e6.size
        try simp only [val_dig] at h6
        refine O_call enters42 rfl rfl rfl (lowest_z (h5.ext e6).nl h6.nl (by (try simp only [val_dig, List.length_take, List.length_nil, List.length_cons, List.length_append, List.length_replicate, List.length_set, List.length_map, List.length_drop]); omega) (by (try simp only [val_dig, List.length_take, List.length_nil, List.length_cons, List.length_append, List.length_replicate, List.length_set, List.length_map, List.length_drop]); omega) h0) (fun v7 w7 e7 h7 => ?_)
        have z7 := e7.size
        try simp only [val_dig] at h7
        obtain rfl := h7
        refine O_move rfl rfl rfl ?_
        refine O_extract rfl rfl rfl rfl ?_
        refine O_extract rfl rfl rfl rfl ?_
        refine O_extract rfl rfl rfl rfl ?_
        refine O_assign rfl rfl rfl ?_
        refine O_assign rfl rfl rfl ?_
        refine O_assign rfl rfl rfl ?_
        refine WL_end [(7, _), (9, _), (11, _), (13, _), (14, _), (15, _)] ⟨rfl, rfl, rfl, rfl, rfl, rfl, trivial⟩ ?_
        refine WP_seq ?_
        refine WP_seq ?_
        refine WP_region ?_
        refine O_move rfl rfl rfl ?_
        refine N_len T22 rfl rfl rfl (((((hq3 (by omega)).ext e4).ext e5).ext e6).ext e7).nl ?_
        refine O_eql (t := true) rfl rfl rfl rfl (decide_eq_true (by rw [h1, dig_zero]; rfl)) ?_
        refine O_move rfl rfl rfl ?_
        refine O_skip rfl rfl ?_
        refine O_skip rfl rfl ?_
        refine O_skip rfl rfl ?_
        refine O_pickT rfl rfl rfl rfl ?_
        refine WL_end [(7, _), (9, _), (13, _), (14, _), (15, _), (61, _)] ⟨rfl, rfl, rfl, rfl, rfl, rfl, trivial⟩ ?_
        refine WP_condT rfl ?_
        refine WP_seq ?_
        refine WP_region ?_
        refine O_move rfl rfl rfl ?_
        refine O_not rfl rfl rfl rfl ?_
        refine O_move rfl rfl rfl ?_
        refine O_move rfl rfl rfl ?_
        refine N_len T22 rfl rfl rfl (Nl.nil _) ?_
        refine O_eql (t := true) rfl rfl rfl rfl (decide_eq_true rfl) ?_
        refine O_pickT rfl rfl rfl rfl ?_
        refine O_move rfl rfl rfl ?_
        refine O_move rfl rfl rfl ?_
        refine N_len T22 rfl rfl rfl (Nl.nil _) ?_
        refine O_eql (t := true) rfl rfl rfl rfl (decide_eq_true rfl) ?_
        refine O_pickT rfl rfl rfl rfl ?_
        refine O_assign rfl rfl rfl ?_
        refine WL_end [(6, _)] ⟨rfl, trivial⟩ ?_
        refine WP_ret ?_
        refine ret1 Try.results12 rfl ?_
        exact ⟨_, rfl, ((((((e1.trans e2).trans e3).trans e4).trans e5).trans e6).trans e7), rfl⟩

theorem law_rl_c {w : World} {va vb vc : Value} {la lb lc : List Nat} (ha : Nl w va la) (hb : Nl w vb lb) (hc : Nl w vc lc) (h1 : val lc = 0) (h2 : val lb ≠ 0) :
    Calls Try.prog 12 #[va, vb, vc] w (Ret w fun r _ => r = .bool true) := by
  have dA := dig_len_le ha.d
  have dB := dig_len_le hb.d
  have dC := dig_len_le hc.d
  have d1 := dig_len_mul (val la) (val lc)
  have d2 := dig_len_mul (val lb) (val lc)
  have d3 := dig_len_gcd (val la * val lc) (val lb * val lc)
  have h0 : val lb * val lc = 0 := by rw [h1, Nat.mul_zero]
  refine enter (args := [va, vb, vc]) Try.func12 rfl Try.ntmps12 rfl ?_
  refine WP_seq ?_
  refine WP_region ?_
  refine O_assign rfl rfl rfl ?_
  refine WL_end [(0, _), (1, _), (2, _)] ⟨rfl, rfl, rfl, trivial⟩ ?_
  refine WP_seq ?_
  refine WP_seq ?_
  refine WP_region ?_
  refine O_call enters32 rfl rfl rfl (awake4_c) (fun v1 w1 e1 h1 => ?_)
  have z1 := e1.size
  obtain rfl := h1
  refine O_not rfl rfl rfl rfl ?_
  refine WL_end [(0, _), (1, _), (2, _), (17, _)] ⟨rfl, rfl, rfl, rfl, trivial⟩ ?_
  refine WP_condF rfl ?_
  refine WP_skip ?_
  refine WP_seq ?_
  refine WP_region ?_
  refine O_move rfl rfl rfl ?_
  refine O_call enters14 rfl rfl rfl (mnat_any (ha.ext e1) (by (try simp only [val_dig, List.length_take, List.length_nil, List.length_cons, List.length_append, List.length_replicate, List.length_set, List.length_map, List.length_drop]); omega)) (fun v2 w2 e2 h2 => ?_)
  have z2 := e2.size
  try simp only [val_dig] at h2
  obtain ⟨q2, rfl, hq2⟩ := h2
  refine O_move rfl rfl rfl ?_
  refine O_extract rfl rfl rfl rfl ?_
  refine O_extract rfl rfl rfl rfl ?_
  refine O_assign rfl rfl rfl ?_
  refine O_assign rfl rfl rfl ?_
  refine WL_end [(1, _), (2, _), (7, _), (8, _)] ⟨rfl, rfl, rfl, rfl, trivial⟩ ?_
  refine WP_seq ?_
  refine WP_region ?_
  refine O_move rfl rfl rfl ?_
  refine O_call enters14 rfl rfl rfl (mnat_any (hb.ext (e1.trans e2)) (by (try simp only [val_dig, List.length_take, List.length_nil, List.length_cons, List.length_append, List.length_replicate, List.length_set, List.length_map, List.length_drop]); omega)) (fun v3 w3 e3 h3 => ?_)
  have z3 := e3.size
  try simp only [val_dig] at h3
  obtain ⟨q3, rfl, hq3⟩ := h3
  refine O_move rfl rfl rfl ?_
  refine O_extract rfl rfl rfl rfl ?_
  refine O_extract rfl rfl rfl rfl ?_
  refine O_assign rfl rfl rfl ?_
  refine O_assign rfl rfl rfl ?_
  refine WL_end [(2, _), (7, _), (8, _), (9, _), (10, _)] ⟨rfl, rfl, rfl, rfl, rfl, trivial⟩ ?_
  refine WP_seq ?_
  refine WP_region ?_
  refine O_move rfl rfl rfl ?_
  refine O_call enters14 rfl rfl rfl (mnat_any (hc.ext ((e1.trans e2).trans e3)) (by (try simp only [val_dig, List.length_take, List.length_nil, List.length_cons, List.length_append, List.length_replicate, List.length_set, List.length_map, List.length_drop]); omega)) (fun v4 w4 e4 h4 => ?_)
  have z4 := e4.size
  try simp only [val_dig] at h4
  obtain ⟨q4, rfl, hq4⟩ := h4
  refine O_move rfl rfl rfl ?_
  refine O_extract rfl rfl rfl rfl ?_
  refine O_extract rfl rfl rfl rfl ?_
  refine O_assign rfl rfl rfl ?_
  refine O_assign rfl rfl rfl ?_
  refine WL_end [(7, _), (8, _), (9, _), (10, _), (11, _), (12, _)] ⟨rfl, rfl, rfl, rfl, rfl, rfl, trivial⟩ ?_
  refine WP_seq ?_
  refine WP_seq ?_
  refine WP_region ?_
  refine O_move rfl rfl rfl ?_
  refine O_not rfl rfl rfl (decide_not).symm ?_
  refine O_move rfl rfl rfl ?_
  refine WL_ndec 35 rfl (fun g35 => ?_) (fun g35 => ?_)
  · --
    refine O_skip rfl rfl ?_
    refine O_skip rfl rfl ?_
    refine O_pickT rfl rfl rfl rfl ?_
    refine O_move rfl rfl rfl ?_
    refine O_skip rfl rfl ?_
    refine O_skip rfl rfl ?_
    refine O_pickT rfl rfl rfl rfl ?_
    refine WL_end [(7, _), (9, _), (11, _), (42, _)] ⟨rfl, rfl, rfl, rfl, trivial⟩ ?_
    refine WP_condT rfl ?_
    refine WP_seq ?_
    refine WP_region ?_
    refine O_assign rfl rfl rfl ?_
    refine WL_end [(6, _)] ⟨rfl, trivial⟩ ?_
    refine WP_ret ?_
    refine ret1 Try.results12 rfl ?_
    exact ⟨_, rfl, (((e1.trans e2).trans e3).trans e4), rfl⟩
  · --
    refine O_move rfl rfl rfl ?_
    refine O_not rfl rfl rfl (decide_not).symm ?_
    refine O_pickF rfl rfl rfl rfl ?_
    refine O_move rfl rfl rfl ?_
    refine WL_ndec 39 rfl (fun g39 => ?_) (fun g39 => ?_)
    · --
      refine O_skip rfl rfl ?_
      refine O_skip rfl rfl ?_
      refine O_pickT rfl rfl rfl rfl ?_
      refine WL_end [(7, _), (9, _), (11, _), (42, _)] ⟨rfl, rfl, rfl, rfl, trivial⟩ ?_
      refine WP_condT rfl ?_
      refine WP_seq ?_
      refine WP_region ?_
      refine O_assign rfl rfl rfl ?_
      refine WL_end [(6, _)] ⟨rfl, trivial⟩ ?_
      refine WP_ret ?_
      refine ret1 Try.results12 rfl ?_
      exact ⟨_, rfl, (((e1.trans e2).trans e3).trans e4), rfl⟩
    · --
      refine O_move rfl rfl rfl ?_
      refine O_not rfl rfl rfl (decide_not).symm ?_
      refine O_pickF rfl rfl rfl rfl ?_
      refine WL_end [(7, _), (9, _), (11, _), (42, _)] ⟨rfl, rfl, rfl, rfl, trivial⟩ ?_
      refine WP_condN rfl (fun c42 => ?_) (fun c42 => ?_)
      · --
        refine WP_seq ?_
        refine WP_region ?_
        refine O_assign rfl rfl rfl ?_
        refine WL_end [(6, _)] ⟨rfl, trivial⟩ ?_
        refine WP_ret ?_
        refine ret1 Try.results12 rfl ?_
        exact ⟨_, rfl, (((e1.trans e2).trans e3).trans e4), rfl⟩
      · --
        refine WP_skip ?_
        refine WP_seq ?_
        refine WP_region ?_
        refine O_move rfl rfl rfl ?_
        refine O_move rfl rfl rfl ?_
        refine O_call enters16 rfl rfl rfl (rmul_c (((hq2 (by omega)).ext e3).ext e4).nl (hq4 (by omega)).nl (by (try simp only [val_dig, List.length_take, List.length_nil, List.length_cons, List.length_append, List.length_replicate, List.length_set, List.length_map, List.length_drop]); omega) (by (try simp only [val_dig, List.length_take, List.length_nil, List.length_cons, List.length_append, List.length_replicate, List.length_set, List.length_map, List.length_drop]); omega)) (fun v5 w5 e5 h5 => ?_)
        have z5 := e5.size
        try simp only [val_dig] at h5
        refine O_move rfl rfl rfl ?_
        refine O_move rfl rfl rfl ?_
        refine O_call enters16 rfl rfl rfl (rmul_c (((hq3 (by omega)).ext e4).ext e5).nl ((hq4 (by omega)).ext e5).nl (by (try simp only [val_dig, List.length_take, List.length_nil, List.length_cons, List.length_append, List.length_replicate, List.length_set, List.length_map, List.length_drop]); omega) (by (try simp only [val_dig, List.length_take, List.length_nil, List.length_cons, List.length_append, List.length_replicate, List.length_set, List.length_map, List.length_drop]); omega)) (fun v6 w6 e6 h6 => ?_)
        have z6 := e6.size
        try simp only [val_dig] at h6
        refine O_call enters42 rfl rfl rfl (lowest_z (h5.ext e6).nl h6.nl (by (try simp only [val_dig, List.length_take, List.length_nil, List.length_cons, List.length_append, List.length_replicate, List.length_set, List.length_map, List.length_drop]); omega) (by (try simp only [val_dig, List.length_take, List.length_nil, List.length_cons, List.length_append, List.length_replicate, List.length_set, List.length_map, List.length_drop]); omega) h0) (fun v7 w7 e7 h7 => ?_)
        have z7 := e7.size
        try simp only [val_dig] at h7
        obtain rfl := h7
        refine O_move rfl rfl rfl ?_
        refine O_extract rfl rfl rfl rfl ?_
        refine O_extract rfl rfl rfl rfl ?_
        refine O_extract rfl rfl rfl rfl ?_
        refine O_assign rfl rfl rfl ?_
        refine O_assign rfl rfl rfl ?_
        refine O_assign rfl rfl rfl ?_
        refine WL_end [(7, _), (9, _), (11, _), (13, _), (14, _), (15, _)] ⟨rfl, rfl, rfl, rfl, rfl, rfl, trivial⟩ ?_
        refine WP_seq ?_
        refine WP_seq ?_
        refine WP_region ?_
        refine O_move rfl rfl rfl ?_
        refine N_len T22 rfl rfl rfl (((((hq3 (by omega)).ext e4).ext e5).ext e6).ext e7).nl ?_
        refine O_eql (t := false) rfl rfl rfl rfl (decide_eq_false (by intro e; exact h2 (dig_len_zero.1 (by omega)))) ?_
        refine O_move rfl rfl rfl ?_
        refine O_move rfl rfl rfl ?_
        refine N_len T22 rfl rfl rfl ((((hq4 (by omega)).ext e5).ext e6).ext e7).nl ?_
        refine O_eql (t := true) rfl rfl rfl rfl (decide_eq_true (by rw [h1, dig_zero]; rfl)) ?_
        refine O_pickF rfl rfl rfl rfl ?_
        refine WL_end [(7, _), (9, _), (13, _), (14, _), (15, _), (61, _)] ⟨rfl, rfl, rfl, rfl, rfl, rfl, trivial⟩ ?_
        refine WP_condT rfl ?_
        refine WP_seq ?_
        refine WP_region ?_
        refine O_move rfl rfl rfl ?_
        refine O_not rfl rfl rfl rfl ?_
        refine O_move rfl rfl rfl ?_
        refine O_move rfl rfl rfl ?_
        refine N_len T22 rfl rfl rfl (Nl.nil _) ?_
        refine O_eql (t := true) rfl rfl rfl rfl (decide_eq_true rfl) ?_
        refine O_pickT rfl rfl rfl rfl ?_
        refine O_move rfl rfl rfl ?_
        refine O_move rfl rfl rfl ?_
        refine N_len T22 rfl rfl rfl (Nl.nil _) ?_
        refine O_eql (t := true) rfl rfl rfl rfl (decide_eq_true rfl) ?_
        refine O_pickT rfl rfl rfl rfl ?_
        refine O_assign rfl rfl rfl ?_
        refine WL_end [(6, _)] ⟨rfl, trivial⟩ ?_
        refine WP_ret ?_
        refine ret1 Try.results12 rfl ?_
        exact ⟨_, rfl, ((((((e1.trans e2).trans e3).trans e4).trans e5).trans e6).trans e7), rfl⟩

set_option maxHeartbeats 2000000 in
theorem law_rl_t {w : World} {va vb vc : Value} {la lb lc : List Nat} (ha : Nl w va la) (hb : Nl w vb lb) (hc : Nl w vc lc) (h2 : val lb ≠ 0) (h3 : val lc ≠ 0) :
    Calls Try.prog 12 #[va, vb, vc] w (Ret w fun r _ => r = .bool true) := by
  have dA := dig_len_le ha.d
  have dB := dig_len_le hb.d
  have dC := dig_len_le hc.d
  have d1 := dig_len_mul (val la) (val lc)
  have d2 := dig_len_mul (val lb) (val lc)
  have d3 := dig_len_gcd (val la * val lc) (val lb * val lc)
  have h0 : val lb * val lc ≠ 0 := Nat.mul_ne_zero h2 h3
  have d4 := dig_len_mono (Nat.div_le_self (val la * val lc) (Nat.gcd (val la * val lc) (val lb * val lc)))
  have d5 := dig_len_mono (Nat.div_le_self (val lb * val lc) (Nat.gcd (val la * val lc) (val lb * val lc)))
  have d6 := dig_len_mul (val la * val lc / Nat.gcd (val la * val lc) (val lb * val lc)) (val lb)
  have d7 := dig_len_mul (val lb * val lc / Nat.gcd (val la * val lc) (val lb * val lc)) (val la)
  have d8 := dig_len_gcd (val la * val lc / Nat.gcd (val la * val lc) (val lb * val lc)) (val lb * val lc / Nat.gcd (val la * val lc) (val lb * val lc))
  have d9 : (dig 1).length ≤ 1 := dig_len_of_lt (by decide)
  refine enter (args := [va, vb, vc]) Try.func12 rfl Try.ntmps12 rfl ?_
  refine WP_seq ?_
  refine WP_region ?_
  refine O_assign rfl rfl rfl ?_
  refine WL_end [(0, _), (1, _), (2, _)] ⟨rfl, rfl, rfl, trivial⟩ ?_
  refine WP_seq ?_
  refine WP_seq ?_
  refine WP_region ?_
  refine O_call enters32 rfl rfl rfl (awake4_c) (fun v1 w1 e1 h1 => ?_)
  have z1 := e1.size
  obtain rfl := h1
  refine O_not rfl rfl rfl rfl ?_
  refine WL_end [(0, _), (1, _), (2, _), (17, _)] ⟨rfl, rfl, rfl, rfl, trivial⟩ ?_
  refine WP_condF rfl ?_
  refine WP_skip ?_
  refine WP_seq ?_
  refine WP_region ?_
  refine O_move rfl rfl rfl ?_
  refine O_call enters14 rfl rfl rfl (mnat_any (ha.ext e1) (by (try simp only [val_dig, List.length_take, List.length_nil, List.length_cons, List.length_append, List.length_replicate, List.length_set, List.length_map, List.length_drop]); omega)) (fun v2 w2 e2 h2 => ?_)
  have z2 := e2.size
  try simp only [val_dig] at h2
  obtain ⟨q2, rfl, hq2⟩ := h2
  refine O_move rfl rfl rfl ?_
  refine O_extract rfl rfl rfl rfl ?_
  refine O_extract rfl rfl rfl rfl ?_
  refine O_assign rfl rfl rfl ?_
  refine O_assign rfl rfl rfl ?_
  refine WL_end [(1, _), (2, _), (7, _), (8, _)] ⟨rfl, rfl, rfl, rfl, trivial⟩ ?_
  refine WP_seq ?_
  refine WP_region ?_
  refine O_move rfl rfl rfl ?_
  refine O_call enters14 rfl rfl rfl (mnat_any (hb.ext (e1.trans e2)) (by (try simp only [val_dig, List.length_take, List.length_nil, List.length_cons, List.length_append, List.length_replicate, List.length_set, List.length_map, List.length_drop]); omega)) (fun v3 w3 e3 h3 => ?_)
  have z3 := e3.size
  try simp only [val_dig] at h3
  obtain ⟨q3, rfl, hq3⟩ := h3
  refine O_move rfl rfl rfl ?_
  refine O_extract rfl rfl rfl rfl ?_
  refine O_extract rfl rfl rfl rfl ?_
  refine O_assign rfl rfl rfl ?_
  refine O_assign rfl rfl rfl ?_
  refine WL_end [(2, _), (7, _), (8, _), (9, _), (10, _)] ⟨rfl, rfl, rfl, rfl, rfl, trivial⟩ ?_
  refine WP_seq ?_
  refine WP_region ?_
  refine O_move rfl rfl rfl ?_
  refine O_call enters14 rfl rfl rfl (mnat_any (hc.ext ((e1.trans e2).trans e3)) (by (try simp only [val_dig, List.length_take, List.length_nil, List.length_cons, List.length_append, List.length_replicate, List.length_set, List.length_map, List.length_drop]); omega)) (fun v4 w4 e4 h4 => ?_)
  have z4 := e4.size
  try simp only [val_dig] at h4
  obtain ⟨q4, rfl, hq4⟩ := h4
  refine O_move rfl rfl rfl ?_
  refine O_extract rfl rfl rfl rfl ?_
  refine O_extract rfl rfl rfl rfl ?_
  refine O_assign rfl rfl rfl ?_
  refine O_assign rfl rfl rfl ?_
  refine WL_end [(7, _), (8, _), (9, _), (10, _), (11, _), (12, _)] ⟨rfl, rfl, rfl, rfl, rfl, rfl, trivial⟩ ?_
  refine WP_seq ?_
  refine WP_seq ?_
  refine WP_region ?_
  refine O_move rfl rfl rfl ?_
  refine O_not rfl rfl rfl (decide_not).symm ?_
  refine O_move rfl rfl rfl ?_
  refine WL_ndec 35 rfl (fun g35 => ?_) (fun g35 => ?_)
  · --
    refine O_skip rfl rfl ?_
    refine O_skip rfl rfl ?_
    refine O_pickT rfl rfl rfl rfl ?_
    refine O_move rfl rfl rfl ?_
    refine O_skip rfl rfl ?_
    refine O_skip rfl rfl ?_
    refine O_pickT rfl rfl rfl rfl ?_
    refine WL_end [(7, _), (9, _), (11, _), (42, _)] ⟨rfl, rfl, rfl, rfl, trivial⟩ ?_
    refine WP_condT rfl ?_
    refine WP_seq ?_
    refine WP_region ?_
    refine O_assign rfl rfl rfl ?_
    refine WL_end [(6, _)] ⟨rfl, trivial⟩ ?_
    refine WP_ret ?_
    refine ret1 Try.results12 rfl ?_
    exact ⟨_, rfl, (((e1.trans e2).trans e3).trans e4), rfl⟩
  · --
    refine O_move rfl rfl rfl ?_
    refine O_not rfl rfl rfl (decide_not).symm ?_
    refine O_pickF rfl rfl rfl rfl ?_
    refine O_move rfl rfl rfl ?_
    refine WL_ndec 39 rfl (fun g39 => ?_) (fun g39 => ?_)
    · --
      refine O_skip rfl rfl ?_
      refine O_skip rfl rfl ?_
      refine O_pickT rfl rfl rfl rfl ?_
      refine WL_end [(7, _), (9, _), (11, _), (42, _)] ⟨rfl, rfl, rfl, rfl, trivial⟩ ?_
      refine WP_condT rfl ?_
      refine WP_seq ?_
      refine WP_region ?_
      refine O_assign rfl rfl rfl ?_
      refine WL_end [(6, _)] ⟨rfl, trivial⟩ ?_
      refine WP_ret ?_
      refine ret1 Try.results12 rfl ?_
      exact ⟨_, rfl, (((e1.trans e2).trans e3).trans e4), rfl⟩
    · --
      refine O_move rfl rfl rfl ?_
      refine O_not rfl rfl rfl (decide_not).symm ?_
      refine O_pickF rfl rfl rfl rfl ?_
      refine WL_end [(7, _), (9, _), (11, _), (42, _)] ⟨rfl, rfl, rfl, rfl, trivial⟩ ?_
      refine WP_condN rfl (fun c42 => ?_) (fun c42 => ?_)
      · --
        refine WP_seq ?_
        refine WP_region ?_
        refine O_assign rfl rfl rfl ?_
        refine WL_end [(6, _)] ⟨rfl, trivial⟩ ?_
        refine WP_ret ?_
        refine ret1 Try.results12 rfl ?_
        exact ⟨_, rfl, (((e1.trans e2).trans e3).trans e4), rfl⟩
      · --
        refine WP_skip ?_
        refine WP_seq ?_
        refine WP_region ?_
        refine O_move rfl rfl rfl ?_
        refine O_move rfl rfl rfl ?_
        refine O_call enters16 rfl rfl rfl (rmul_c (((hq2 (by omega)).ext e3).ext e4).nl (hq4 (by omega)).nl (by (try simp only [val_dig, List.length_take, List.length_nil, List.length_cons, List.length_append, List.length_replicate, List.length_set, List.length_map, List.length_drop]); omega) (by (try simp only [val_dig, List.length_take, List.length_nil, List.length_cons, List.length_append, List.length_replicate, List.length_set, List.length_map, List.length_drop]); omega)) (fun v5 w5 e5 h5 => ?_)
        have z5 := e5.size
        try simp only [val_dig] at h5
        refine O_move rfl rfl rfl ?_
        refine O_move rfl rfl rfl ?_
        refine O_call enters16 rfl rfl rfl (rmul_c (((hq3 (by omega)).ext e4).ext e5).nl ((hq4 (by omega)).ext e5).nl (by (try simp only [val_dig, List.length_take, List.length_nil, List.length_cons, List.length_append, List.length_replicate, List.length_set, List.length_map, List.length_drop]); omega) (by (try simp only [val_dig, List.length_take, List.length_nil, List.length_cons, List.length_append, List.length_replicate, List.length_set, List.length_map, List.length_drop]); omega)) (fun v6 w6 e6 h6 => ?_)
        have z6 := e6.size
        try simp only [val_dig] at h6
        refine O_call enters42 rfl rfl rfl (lowest_c (h5.ext e6).nl h6.nl (by (try simp only [val_dig, List.length_take, List.length_nil, List.length_cons, List.length_append, List.length_replicate, List.length_set, List.length_map, List.length_drop]); omega) (by (try simp only [val_dig, List.length_take, List.length_nil, List.length_cons, List.length_append, List.length_replicate, List.length_set, List.length_map, List.length_drop]); omega) h0) (fun v7 w7 e7 h7 => ?_)
        have z7 := e7.size
        try simp only [val_dig] at h7
        obtain ⟨q7, r7, rfl, hq7, hr7⟩ := h7
        refine O_move rfl rfl rfl ?_
        refine O_extract rfl rfl rfl rfl ?_
        refine O_extract rfl rfl rfl rfl ?_
        refine O_extract rfl rfl rfl rfl ?_
        refine O_assign rfl rfl rfl ?_
        refine O_assign rfl rfl rfl ?_
        refine O_assign rfl rfl rfl ?_
        refine WL_end [(7, _), (9, _), (11, _), (13, _), (14, _), (15, _)] ⟨rfl, rfl, rfl, rfl, rfl, rfl, trivial⟩ ?_
        refine WP_seq ?_
        refine WP_seq ?_
        refine WP_region ?_
        refine O_move rfl rfl rfl ?_
        refine N_len T22 rfl rfl rfl (((((hq3 (by omega)).ext e4).ext e5).ext e6).ext e7).nl ?_
        refine O_eql (t := false) rfl rfl rfl rfl (decide_eq_false (by intro e; exact h2 (dig_len_zero.1 (by omega)))) ?_
        refine O_move rfl rfl rfl ?_
        refine O_move rfl rfl rfl ?_
        refine N_len T22 rfl rfl rfl ((((hq4 (by omega)).ext e5).ext e6).ext e7).nl ?_
        refine O_eql (t := false) rfl rfl rfl rfl (decide_eq_false (by intro e; exact h3 (dig_len_zero.1 (by omega)))) ?_
        refine O_pickF rfl rfl rfl rfl ?_
        refine WL_end [(7, _), (9, _), (13, _), (14, _), (15, _), (61, _)] ⟨rfl, rfl, rfl, rfl, rfl, rfl, trivial⟩ ?_
        refine WP_condF rfl ?_
        refine WP_skip ?_
        refine WP_seq ?_
        refine WP_region ?_
        refine O_move rfl rfl rfl ?_
        refine O_move rfl rfl rfl ?_
        refine O_move rfl rfl rfl ?_
        refine O_move rfl rfl rfl ?_
        refine O_call enters16 rfl rfl rfl (rmul_c hq7.nl (((((hq3 (by omega)).ext e4).ext e5).ext e6).ext e7).nl (by (try simp only [val_dig, List.length_take, List.length_nil, List.length_cons, List.length_append, List.length_replicate, List.length_set, List.length_map, List.length_drop]); omega) (by (try simp only [val_dig, List.length_take, List.length_nil, List.length_cons, List.length_append, List.length_replicate, List.length_set, List.length_map, List.length_drop]); omega)) (fun v8 w8 e8 h8 => ?_)
        have z8 := e8.size
        try simp only [val_dig] at h8
        refine O_move rfl rfl rfl ?_
        refine O_move rfl rfl rfl ?_
        refine O_call enters16 rfl rfl rfl (rmul_c (hr7.ext e8).nl (((((((hq2 (by omega)).ext e3).ext e4).ext e5).ext e6).ext e7).ext e8).nl (by (try simp only [val_dig, List.length_take, List.length_nil, List.length_cons, List.length_append, List.length_replicate, List.length_set, List.length_map, List.length_drop]); omega) (by (try simp only [val_dig, List.length_take, List.length_nil, List.length_cons, List.length_append, List.length_replicate, List.length_set, List.length_map, List.length_drop]); omega)) (fun v9 w9 e9 h9 => ?_)
        have z9 := e9.size
        try simp only [val_dig] at h9
        refine O_call enters23 rfl rfl rfl (rsame_c (h8.ext e9).nl h9.nl (by (try simp only [val_dig, List.length_take, List.length_nil, List.length_cons, List.length_append, List.length_replicate, List.length_set, List.length_map, List.length_drop]); omega) (by (try simp only [val_dig, List.length_take, List.length_nil, List.length_cons, List.length_append, List.length_replicate, List.length_set, List.length_map, List.length_drop]); omega) (by rw [lowest_cross h2 h3])) (fun v10 w10 e10 h10 => ?_)
        have z10 := e10.size
        obtain rfl := h10
        refine O_pickT rfl rfl rfl rfl ?_
        refine O_move rfl rfl rfl ?_
        refine O_move rfl rfl rfl ?_
        refine O_move rfl rfl rfl ?_
        refine O_call enters39 rfl rfl rfl (rgcd_c (((hq7.ext e8).ext e9).ext e10).nl (((hr7.ext e8).ext e9).ext e10).nl (by (try simp only [val_dig, List.length_take, List.length_nil, List.length_cons, List.length_append, List.length_replicate, List.length_set, List.length_map, List.length_drop]); omega) (by (try simp only [val_dig, List.length_take, List.length_nil, List.length_cons, List.length_append, List.length_replicate, List.length_set, List.length_map, List.length_drop]); omega)) (fun v11 w11 e11 h11 => ?_)
        have z11 := e11.size
        refine O_call enters18 rfl rfl rfl (rof_c 1 (by decide)) (fun v12 w12 e12 h12 => ?_)
        have z12 := e12.size
        try simp only [val_dig] at h12
        refine O_call enters23 rfl rfl rfl (rsame_c (h11.ext e12) h12.nl (by (try simp only [val_dig, List.length_take, List.length_nil, List.length_cons, List.length_append, List.length_replicate, List.length_set, List.length_map, List.length_drop]); omega) (by (try simp only [val_dig, List.length_take, List.length_nil, List.length_cons, List.length_append, List.length_replicate, List.length_set, List.length_map, List.length_drop]); omega) (by rw [lowest_one h0])) (fun v13 w13 e13 h13 => ?_)
        have z13 := e13.size
        obtain rfl := h13
        refine O_pickT rfl rfl rfl rfl ?_
        refine O_assign rfl rfl rfl ?_
        refine WL_end [(6, _)] ⟨rfl, trivial⟩ ?_
        refine WP_ret ?_
        refine ret1 Try.results12 rfl ?_
        exact ⟨_, rfl, ((((((((((((e1.trans e2).trans e3).trans e4).trans e5).trans e6).trans e7).trans e8).trans e9).trans e10).trans e11).trans e12).trans e13), rfl⟩

theorem law_RootLowest {w : World} {va vb vc : Value} {la lb lc : List Nat} (ha : Nl w va la) (hb : Nl w vb lb) (hc : Nl w vc lc) : Calls Try.prog 12 #[va, vb, vc] w (Ret w fun r _ => r = .bool true) := by
  by_cases h1 : val lb = 0
  · exact law_rl_b ha hb hc h1
  · by_cases h2 : val lc = 0
    · exact law_rl_c ha hb hc h2 h1
    · exact law_rl_t ha hb hc h1 h2

end Go.Proofs.Ytbaapijfenmhiaa
