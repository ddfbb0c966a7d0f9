/-
  Walks.
-/
import Derived.Test.YtnfnadhbjdcbnaaDoorD13
set_option linter.unusedVariables false
set_option linter.unusedSimpArgs false
set_option maxRecDepth 100000
namespace Go.Proofs.YtnfnadhbjdcbnaaDoor
open Go Go.RowKit
set_option maxHeartbeats 4000000 in
theorem law_DyadicFar {w : World} {vx vy : Value} {lx ly : List Nat} {bx by_ : Bool} {e f : Int} (hx : Nl w vx lx) (hy : Nl w vy ly) {n m : Int} (hT : Tab w) :
    Calls Tryd.prog 3 #[.agg #[.bool bx, vx, .int .i64 e], .agg #[.bool by_, vy, .int .i64 f], .int .i64 n, .int .i64 m] w (Ret w fun r _ => r = .bool true) := by
 have hn1 := Int.emod_nonneg n (show (131073 : Int) ≠ 0 by decide)
 have hn2 := Int.emod_lt_of_pos n (show (0 : Int) < 131073 by decide)
 have hm1 := Int.emod_nonneg m (show (131073 : Int) ≠ 0 by decide)
 have hm2 := Int.emod_lt_of_pos m (show (0 : Int) < 131073 by decide)
 refine enter (args := [_, _, _, _]) Tryd.func3 rfl Tryd.ntmps3 rfl ?_
 refine WP_seq ?_
 refine WP_region ?_
 refine O_box _ rfl rfl rfl rfl (fun g1 w1 b1 e1 gl1 gh1 => ?_)
 have z1 := e1.size
 refine O_box _ rfl rfl rfl rfl (fun g2 w2 b2 e2 gl2 gh2 => ?_)
 have z2 := e2.size
 refine O_assign rfl rfl rfl ?_
 refine WL_end [(2, _), (3, _), (4, _), (5, _)] ⟨rfl, rfl, rfl, rfl, trivial⟩ ?_
 refine WP_seq ?_
 refine WP_seq ?_
 refine WP_region ?_
 refine O_call enters9 rfl rfl rfl (awake8_c (hT.ext (e1.trans e2))) (fun v3 w3 e3 h3 => ?_)
 have z3 := e3.size
 obtain rfl := h3
 refine O_not rfl rfl rfl rfl ?_
 refine WL_end [(2, _), (3, _), (4, _), (5, _), (21, _)] ⟨rfl, rfl, rfl, rfl, rfl, trivial⟩ ?_
 refine WP_condF rfl ?_
 refine WP_skip ?_
 refine WP_seq ?_
 refine WP_region ?_
 refine O_loadA (vs := [_, _, _]) S26 rfl rfl rfl ((b1.ext e2).ext e3) rfl rfl ?_
 refine O_loadA (vs := [_, _, _]) S26 rfl rfl rfl (b2.ext e3) rfl rfl ?_
 refine O_call enters10 rfl rfl rfl (two08_c (hx.ext ((e1.trans e2).trans e3)) (hy.ext ((e1.trans e2).trans e3))) (fun v4 w4 e4 h4 => ?_)
 have z4 := e4.size
 try simp only [val_dig] at h4
 obtain ⟨X, E, Y, F, qX, qY, bT, rfl, hqX, hqY, ⟨hvX, hE1, hE2, hlX⟩, ⟨hvY, hF1, hF2, hlY⟩⟩ := h4
 refine O_move rfl rfl rfl ?_
 refine O_extract rfl rfl rfl rfl ?_
 refine O_extract rfl rfl rfl rfl ?_
 refine O_extract rfl rfl rfl rfl ?_
 refine O_alloc S26 rfl rfl (fun g5 w5 b5 e5 gl5 gh5 => ?_)
 have z5 := e5.size
 refine O_alloc S26 rfl rfl (fun g6 w6 b6 e6 gl6 gh6 => ?_)
 have z6 := e6.size
 refine O_storeA (cs' := [_, _, _]) S26 rfl rfl rfl (b5.ext e6) rfl rfl (one_cons rfl (one_cons (((hqX.ext e5).ext e6).nl).one (one_cons rfl one_nil))) rfl (fun w7 b7 q7 => ?_)
 have z7 := Nat.le_of_eq q7.size.symm
 have e7 : Ext w w7 := q7.ext (((((e1.trans e2).trans e3).trans e4).trans e5).trans e6) (by omega)
 refine O_storeA (cs' := [_, _, _]) S26 rfl rfl rfl (b6.chg q7 (by first | assumption | omega)) rfl rfl (one_cons rfl (one_cons ((((hqY.ext e5).ext e6).chgBk (b5.ext e6) (by decide) q7).nl).one (one_cons rfl one_nil))) rfl (fun w8 b8 q8 => ?_)
 have z8 := Nat.le_of_eq q8.size.symm
 have e8 : Ext w w8 := q8.ext e7 (by omega)
 refine O_assign rfl rfl rfl ?_
 refine WL_end [(2, _), (3, _), (9, _), (10, _), (11, _)] ⟨rfl, rfl, rfl, rfl, rfl, trivial⟩ ?_
 refine WP_seq ?_
 refine WP_seq ?_
 refine WP_region ?_
 refine O_move rfl rfl rfl ?_
 refine O_not rfl rfl rfl rfl ?_
 refine WL_end [(2, _), (3, _), (9, _), (10, _), (30, _)] ⟨rfl, rfl, rfl, rfl, rfl, trivial⟩ ?_
 refine WP_cond rfl (fun c30 => ?_) (fun c30 => ?_)
 · --
  refine WP_seq ?_
  refine WP_region ?_
  refine O_assign rfl rfl rfl ?_
  refine WL_end [(8, _)] ⟨rfl, trivial⟩ ?_
  refine WP_ret ?_
  refine ret1 Tryd.results3 rfl ?_
  exact ⟨_, rfl, e8, rfl⟩
 · --
  refine WP_skip ?_
  refine WP_seq ?_
  obtain ⟨K6, hKd6⟩ : ∃ K : World → Prop, K = fun w' => No 0 89 w' qX (dig (X).natAbs) ∧ No 0 89 w' qY (dig (Y).natAbs) ∧ Bk w' g6 26 [.bool (decide (Y < 0)), qY, .int .i64 (F)] ∧ Ext w w' ∧ w8.heap.size ≤ w'.heap.size := ⟨_, rfl⟩
  have hK6 : K6 w8 := by rw [hKd6]; exact ⟨(((((hqX.ext e5).ext e6).chgBk (b5.ext e6) (by decide) q7).chgBk (b6.chg q7 (by first | assumption | omega)) (by decide) q8)).mono (Nat.zero_le _), (((((hqY.ext e5).ext e6).chgBk (b5.ext e6) (by decide) q7).chgBk (b6.chg q7 (by first | assumption | omega)) (by decide) q8)).mono (Nat.zero_le _), b8, e8, Nat.le_refl _⟩
  have hb06 := (b7.chg q8 (by first | assumption | omega))
  have hKe6 : ∀ a b, Ext a b → K6 a → K6 b := by rw [hKd6]; rintro a b he ⟨k1, k2, k3, k4, k5⟩; exact ⟨k1.ext he, k2.ext he, k3.ext he, k4.trans he, Nat.le_trans k5 he.size⟩
  have hKc6 : ∀ a b cs, Bk a g5 26 cs → Chg g5 a b → K6 a → K6 b := by rw [hKd6]; rintro a b cs hb hc ⟨k1, k2, k3, k4, k5⟩; exact ⟨k1.chgBk hb (by decide) hc, k2.chgBk hb (by decide) hc, k3.chg hc (by omega), hc.ext k4 (by omega), by rw [hc.size]; exact k5⟩
  refine WP_sub [(2, _), (3, _), (9, _), (10, _)] ⟨rfl, rfl, rfl, rfl, trivial⟩ ?_
  refine WP_anyF (fun vs w' => ∃ a0 a1 a2 a3 a4, vs = [a0, a1, a2, a3, a4] ∧ XF K6 w8.heap.size 89 26 g5 [.bool (decide (X < 0)), qX, .int .i64 E] (dig (dman X (n % 131073 - 65536)).natAbs) (fun q => .tuple #[.agg #[.bool (decide (dman X (n % 131073 - 65536) < 0)), q, .int .i64 (dexp X (n % 131073 - 65536))], .int .i64 (dcode X (n % 131073 - 65536))]) (fun q => .agg #[.bool (decide (dman X (n % 131073 - 65536) < 0)), q, .int .i64 (dexp X (n % 131073 - 65536))]) (.int .i64 (dcode X (n % 131073 - 65536))) (fun q => [.bool (decide (dman X (n % 131073 - 65536) < 0)), q, .int .i64 (dexp X (n % 131073 - 65536))]) a0 a1 a2 a3 a4 w') (fun _ => True) 10 [2, 3, 9, 10] [5, 6, 7, 8, 9] [some 37, some 31, some 38, some 39, none] [[], [0], [1], [1], [2]] mixed rfl (by kernel_rfl) (by kernel_rfl) (fun _ _ _ => trivial) (fun w' he => ⟨none, none, none, none, none, rfl, XF.init (hKe6 _ _ he hK6) (hb06.ext he)⟩) ?_
  apply AnyF_val [9] (fun _ _ _ => trivial) rfl rfl rfl
  · --
   intro y9_ hy
   refine O_field F26_0 rfl rfl rfl ?_
   exact WL_nil ⟨rfl, rfl⟩
  apply AnyF_valN [4] [32] rfl rfl rfl (by kernel_rfl)
  · --
   intro vs y9_ hl hns hX
   obtain ⟨a0, a1, a2, a3, a4, rfl, hx⟩ := hX
   obtain rfl : a4 = none := by simpa using hns 4 (by simp)
   have hby := hx.2.1 rfl
   refine O_loadA (vs := [_, _]) S24 rfl rfl rfl hby rfl rfl ?_
   exact WL_nil ⟨rfl, rfl⟩
  apply AnyF_val [2] (fun _ _ _ => trivial) rfl rfl rfl
  · --
   intro y9_ hy
   refine O_move rfl rfl rfl ?_
   exact WL_nil ⟨rfl, rfl⟩
  apply AnyF_val [34] (fun _ _ _ => trivial) rfl rfl rfl
  · --
   intro y9_ hy
   refine O_callR enters12 rfl rfl rfl (modp_c (by decide) (by decide)) (fun e5 w5 hR5 => ?_)
   obtain ⟨rfl, rfl⟩ := hR5
   refine ⟨_, rfl, ?_⟩
   exact WL_nil ⟨rfl, rfl⟩
  apply AnyF_val [35] (fun _ _ _ => trivial) rfl rfl rfl
  · --
   intro y9_ hy
   refine O_sub (r := (n % 131073 - 65536)) rfl rfl rfl rfl (by rw [IntKind.wrap_i64]; omega) ?_
   exact WL_nil ⟨rfl, rfl⟩
  apply AnyF_eff 0 [] [33, 36] rfl rfl rfl rfl
  · --
   intro vs y9_ hl hnone hwait hX
   obtain ⟨a0, a1, a2, a3, a4, rfl, hx⟩ := hX
   obtain rfl : a0 = none := by simpa using hnone
   have hk := hx.1
   rw [hKd6] at hk
   obtain ⟨k1, k2, k3, k4, k5⟩ := hk
   refine O_call enters11 rfl rfl rfl (rdmake_c rfl k1.nl (by omega)) (fun v5 w5 e5 h5 => ?_)
   obtain ⟨q5, rfl, hq5⟩ := h5
   exact WL_nil ⟨_, rfl, ⟨_, _, _, _, _, rfl, hx.s0 hKe6 e5 (hq5.mono k5)⟩⟩
  apply AnyF_eff 1 [0] [37] rfl rfl rfl rfl
  · --
   intro vs y9_ hl hnone hwait hX
   obtain ⟨a0, a1, a2, a3, a4, rfl, hx⟩ := hX
   obtain rfl : a1 = none := by simpa using hnone
   obtain ⟨u0, hu0⟩ := hwait 0 (by simp)
   obtain rfl : a0 = some u0 := by simpa using hu0
   refine O_move rfl rfl rfl ?_
   exact WL_nil ⟨_, rfl, ⟨_, _, _, _, _, rfl, hx.s1⟩⟩
  apply AnyF_eff 2 [1] [31] rfl rfl rfl rfl
  · --
   intro vs y9_ hl hnone hwait hX
   obtain ⟨a0, a1, a2, a3, a4, rfl, hx⟩ := hX
   obtain rfl : a2 = none := by simpa using hnone
   obtain ⟨u1, hu1⟩ := hwait 1 (by simp)
   obtain rfl : a1 = some u1 := by simpa using hu1
   obtain ⟨q5, rfl, hx2⟩ := hx.s2
   refine O_extract rfl rfl rfl rfl ?_
   exact WL_nil ⟨_, rfl, ⟨_, _, _, _, _, rfl, hx2⟩⟩
  apply AnyF_eff 3 [1] [31] rfl rfl rfl rfl
  · --
   intro vs y9_ hl hnone hwait hX
   obtain ⟨a0, a1, a2, a3, a4, rfl, hx⟩ := hX
   obtain rfl : a3 = none := by simpa using hnone
   obtain ⟨u1, hu1⟩ := hwait 1 (by simp)
   obtain rfl : a1 = some u1 := by simpa using hu1
   obtain ⟨q5, rfl, hx2⟩ := hx.s3
   refine O_extract rfl rfl rfl rfl ?_
   exact WL_nil ⟨_, rfl, ⟨_, _, _, _, _, rfl, hx2⟩⟩
  apply AnyF_st 4 [2] [9, 38] rfl rfl rfl rfl
  · --
   intro vs y9_ hl hnone hwait hX
   obtain ⟨a0, a1, a2, a3, a4, rfl, hx⟩ := hX
   obtain rfl : a4 = none := by simpa using hnone
   obtain ⟨u2, hu2⟩ := hwait 2 (by simp)
   obtain rfl : a2 = some u2 := by simpa using hu2
   obtain ⟨q5, rfl, hb5, hn5, hx2⟩ := hx.s4 hKc6 (by decide)
   refine O_storeA (cs' := [_, _, _]) S26 rfl rfl rfl hb5 rfl rfl (one_cons rfl (one_cons hn5.nl.one (one_cons rfl one_nil))) rfl (fun w5 b5 c5 => ?_)
   exact WL_nil ⟨_, _, _, _, _, rfl, hx2 _ _ c5 b5⟩
  refine AnyF_nil fun vs y9_ hl hdone hX => ?_
  obtain ⟨a0, a1, a2, a3, a4, rfl, hx⟩ := hX
  obtain ⟨u0, hu0⟩ := hdone 0 (by decide)
  obtain rfl : a0 = some u0 := by simpa using hu0
  obtain ⟨u1, hu1⟩ := hdone 1 (by decide)
  obtain rfl : a1 = some u1 := by simpa using hu1
  obtain ⟨u2, hu2⟩ := hdone 2 (by decide)
  obtain rfl : a2 = some u2 := by simpa using hu2
  obtain ⟨u3, hu3⟩ := hdone 3 (by decide)
  obtain rfl : a3 = some u3 := by simpa using hu3
  obtain ⟨u4, hu4⟩ := hdone 4 (by decide)
  obtain rfl : a4 = some u4 := by simpa using hu4
  obtain ⟨hk6, rfl, q6, hb6, hq6⟩ := hx.fin
  rw [hKd6] at hk6
  obtain ⟨k16, k26, k36, k46, k56⟩ := hk6
  have zk6 := k46.size
  refine O_assign rfl rfl rfl ?_
  refine WL_end [(3, _), (9, _), (10, _), (12, _)] ⟨rfl, rfl, rfl, rfl, trivial⟩ ?_
  refine WP_seq ?_
  obtain ⟨K7, hKd7⟩ : ∃ K : World → Prop, K = fun w' => No 0 89 w' qY (dig (Y).natAbs) ∧ No 0 89 w' q6 (dig (dman X (n % 131073 - 65536)).natAbs) ∧ Bk w' g5 26 [.bool (decide (dman X (n % 131073 - 65536) < 0)), q6, .int .i64 (dexp X (n % 131073 - 65536))] ∧ Ext w w' ∧ y9_.heap.size ≤ w'.heap.size := ⟨_, rfl⟩
  have hK7 : K7 y9_ := by rw [hKd7]; exact ⟨(k26).mono (Nat.zero_le _), (hq6).mono (Nat.zero_le _), hb6, k46, Nat.le_refl _⟩
  have hb07 := k36
  have hKe7 : ∀ a b, Ext a b → K7 a → K7 b := by rw [hKd7]; rintro a b he ⟨k1, k2, k3, k4, k5⟩; exact ⟨k1.ext he, k2.ext he, k3.ext he, k4.trans he, Nat.le_trans k5 he.size⟩
  have hKc7 : ∀ a b cs, Bk a g6 26 cs → Chg g6 a b → K7 a → K7 b := by rw [hKd7]; rintro a b cs hb hc ⟨k1, k2, k3, k4, k5⟩; exact ⟨k1.chgBk hb (by decide) hc, k2.chgBk hb (by decide) hc, k3.chg hc (by omega), hc.ext k4 (by omega), by rw [hc.size]; exact k5⟩
  refine WP_sub [(3, _), (9, _), (10, _), (12, _)] ⟨rfl, rfl, rfl, rfl, trivial⟩ ?_
  refine WP_anyF (fun vs w' => ∃ a0 a1 a2 a3 a4, vs = [a0, a1, a2, a3, a4] ∧ XF K7 y9_.heap.size 89 26 g6 [.bool (decide (Y < 0)), qY, .int .i64 F] (dig (dman Y (m % 131073 - 65536)).natAbs) (fun q => .tuple #[.agg #[.bool (decide (dman Y (m % 131073 - 65536) < 0)), q, .int .i64 (dexp Y (m % 131073 - 65536))], .int .i64 (dcode Y (m % 131073 - 65536))]) (fun q => .agg #[.bool (decide (dman Y (m % 131073 - 65536) < 0)), q, .int .i64 (dexp Y (m % 131073 - 65536))]) (.int .i64 (dcode Y (m % 131073 - 65536))) (fun q => [.bool (decide (dman Y (m % 131073 - 65536) < 0)), q, .int .i64 (dexp Y (m % 131073 - 65536))]) a0 a1 a2 a3 a4 w') (fun _ => True) 10 [3, 9, 10, 12] [5, 6, 7, 8, 9] [some 46, some 40, some 47, some 48, none] [[], [0], [1], [1], [2]] mixed rfl (by kernel_rfl) (by kernel_rfl) (fun _ _ _ => trivial) (fun w' he => ⟨none, none, none, none, none, rfl, XF.init (hKe7 _ _ he hK7) (hb07.ext he)⟩) ?_
  apply AnyF_val [10] (fun _ _ _ => trivial) rfl rfl rfl
  · --
   intro y10_ hy
   refine O_field F26_0 rfl rfl rfl ?_
   exact WL_nil ⟨rfl, rfl⟩
  apply AnyF_valN [4] [41] rfl rfl rfl (by kernel_rfl)
  · --
   intro vs y10_ hl hns hX
   obtain ⟨a0, a1, a2, a3, a4, rfl, hx⟩ := hX
   obtain rfl : a4 = none := by simpa using hns 4 (by simp)
   have hby := hx.2.1 rfl
   refine O_loadA (vs := [_, _]) S24 rfl rfl rfl hby rfl rfl ?_
   exact WL_nil ⟨rfl, rfl⟩
  apply AnyF_val [3] (fun _ _ _ => trivial) rfl rfl rfl
  · --
   intro y10_ hy
   refine O_move rfl rfl rfl ?_
   exact WL_nil ⟨rfl, rfl⟩
  apply AnyF_val [43] (fun _ _ _ => trivial) rfl rfl rfl
  · --
   intro y10_ hy
   refine O_callR enters12 rfl rfl rfl (modp_c (by decide) (by decide)) (fun e5 w5 hR5 => ?_)
   obtain ⟨rfl, rfl⟩ := hR5
   refine ⟨_, rfl, ?_⟩
   exact WL_nil ⟨rfl, rfl⟩
  apply AnyF_val [44] (fun _ _ _ => trivial) rfl rfl rfl
  · --
   intro y10_ hy
   refine O_sub (r := (m % 131073 - 65536)) rfl rfl rfl rfl (by rw [IntKind.wrap_i64]; omega) ?_
   exact WL_nil ⟨rfl, rfl⟩
  apply AnyF_eff 0 [] [42, 45] rfl rfl rfl rfl
  · --
   intro vs y10_ hl hnone hwait hX
   obtain ⟨a0, a1, a2, a3, a4, rfl, hx⟩ := hX
   obtain rfl : a0 = none := by simpa using hnone
   have hk := hx.1
   rw [hKd7] at hk
   obtain ⟨k1, k2, k3, k4, k5⟩ := hk
   refine O_call enters11 rfl rfl rfl (rdmake_c rfl k1.nl (by omega)) (fun v5 w5 e5 h5 => ?_)
   obtain ⟨q5, rfl, hq5⟩ := h5
   exact WL_nil ⟨_, rfl, ⟨_, _, _, _, _, rfl, hx.s0 hKe7 e5 (hq5.mono k5)⟩⟩
  apply AnyF_eff 1 [0] [46] rfl rfl rfl rfl
  · --
   intro vs y10_ hl hnone hwait hX
   obtain ⟨a0, a1, a2, a3, a4, rfl, hx⟩ := hX
   obtain rfl : a1 = none := by simpa using hnone
   obtain ⟨u0, hu0⟩ := hwait 0 (by simp)
   obtain rfl : a0 = some u0 := by simpa using hu0
   refine O_move rfl rfl rfl ?_
   exact WL_nil ⟨_, rfl, ⟨_, _, _, _, _, rfl, hx.s1⟩⟩
  apply AnyF_eff 2 [1] [40] rfl rfl rfl rfl
  · --
   intro vs y10_ hl hnone hwait hX
   obtain ⟨a0, a1, a2, a3, a4, rfl, hx⟩ := hX
   obtain rfl : a2 = none := by simpa using hnone
   obtain ⟨u1, hu1⟩ := hwait 1 (by simp)
   obtain rfl : a1 = some u1 := by simpa using hu1
   obtain ⟨q5, rfl, hx2⟩ := hx.s2
   refine O_extract rfl rfl rfl rfl ?_
   exact WL_nil ⟨_, rfl, ⟨_, _, _, _, _, rfl, hx2⟩⟩
  apply AnyF_eff 3 [1] [40] rfl rfl rfl rfl
  · --
   intro vs y10_ hl hnone hwait hX
   obtain ⟨a0, a1, a2, a3, a4, rfl, hx⟩ := hX
   obtain rfl : a3 = none := by simpa using hnone
   obtain ⟨u1, hu1⟩ := hwait 1 (by simp)
   obtain rfl : a1 = some u1 := by simpa using hu1
   obtain ⟨q5, rfl, hx2⟩ := hx.s3
   refine O_extract rfl rfl rfl rfl ?_
   exact WL_nil ⟨_, rfl, ⟨_, _, _, _, _, rfl, hx2⟩⟩
  apply AnyF_st 4 [2] [10, 47] rfl rfl rfl rfl
  · --
   intro vs y10_ hl hnone hwait hX
   obtain ⟨a0, a1, a2, a3, a4, rfl, hx⟩ := hX
   obtain rfl : a4 = none := by simpa using hnone
   obtain ⟨u2, hu2⟩ := hwait 2 (by simp)
   obtain rfl : a2 = some u2 := by simpa using hu2
   obtain ⟨q5, rfl, hb5, hn5, hx2⟩ := hx.s4 hKc7 (by decide)
   refine O_storeA (cs' := [_, _, _]) S26 rfl rfl rfl hb5 rfl rfl (one_cons rfl (one_cons hn5.nl.one (one_cons rfl one_nil))) rfl (fun w5 b5 c5 => ?_)
   exact WL_nil ⟨_, _, _, _, _, rfl, hx2 _ _ c5 b5⟩
  refine AnyF_nil fun vs y10_ hl hdone hX => ?_
  obtain ⟨a0, a1, a2, a3, a4, rfl, hx⟩ := hX
  obtain ⟨u0, hu0⟩ := hdone 0 (by decide)
  obtain rfl : a0 = some u0 := by simpa using hu0
  obtain ⟨u1, hu1⟩ := hdone 1 (by decide)
  obtain rfl : a1 = some u1 := by simpa using hu1
  obtain ⟨u2, hu2⟩ := hdone 2 (by decide)
  obtain rfl : a2 = some u2 := by simpa using hu2
  obtain ⟨u3, hu3⟩ := hdone 3 (by decide)
  obtain rfl : a3 = some u3 := by simpa using hu3
  obtain ⟨u4, hu4⟩ := hdone 4 (by decide)
  obtain rfl : a4 = some u4 := by simpa using hu4
  obtain ⟨hk7, rfl, q7, hb7, hq7⟩ := hx.fin
  rw [hKd7] at hk7
  obtain ⟨k17, k27, k37, k47, k57⟩ := hk7
  have zk7 := k47.size
  refine O_assign rfl rfl rfl ?_
  refine WL_end [(9, _), (10, _), (12, _), (13, _)] ⟨rfl, rfl, rfl, rfl, trivial⟩ ?_
  refine WP_seq ?_
  refine WP_seq ?_
  by_cases hc1 : dcode X (n % 131073 - 65536) = 0
  by_cases hc2 : dcode Y (m % 131073 - 65536) = 0
  · --
   have g1 := dexp_bd X (n % 131073 - 65536)
   have g2 := dexp_bd Y (m % 131073 - 65536)
   have i1 := dval_dman X (n % 131073 - 65536)
   have i2 := dval_dman Y (m % 131073 - 65536)
   have j1 := dman_len (e := n % 131073 - 65536) hlX
   have j2 := dman_len (e := m % 131073 - 65536) hlY
   generalize dman X (n % 131073 - 65536) = X1 at *
   generalize dman Y (m % 131073 - 65536) = Y1 at *
   generalize dexp X (n % 131073 - 65536) = E1 at *
   generalize dexp Y (m % 131073 - 65536) = F1 at *
   have a1 := shl_len' (k := (E1 - min E1 F1).toNat) j1
   have a2 := shl_len' (k := (F1 - min E1 F1).toNat) j2
   have a3 : (dig (dman (dsum X1 E1 Y1 F1) (min E1 F1)).natAbs).length ≤ 100000000 := dman_len (Nat.le_trans (add_len a1 a2) (by omega))
   have a4 : (dig (dman (X1 * Y1) (E1 + F1)).natAbs).length ≤ 100000000 := dman_len (Nat.le_trans (mul_len j1 j2) (by omega))
   refine WP_region ?_
   refine O_move rfl rfl rfl ?_
   refine O_neq (t := false) rfl rfl rfl rfl (decide_eq_false (fun h => h hc1)) ?_
   refine O_move rfl rfl rfl ?_
   refine O_move rfl rfl rfl ?_
   refine O_neq (t := false) rfl rfl rfl rfl (decide_eq_false (fun h => h hc2)) ?_
   refine O_pickF rfl rfl rfl rfl ?_
   refine WL_end [(9, _), (10, _), (54, _)] ⟨rfl, rfl, rfl, trivial⟩ ?_
   refine WP_condF rfl ?_
   refine WP_skip ?_
   refine WP_seq ?_
   refine WP_region ?_
   refine O_loadA (vs := [_, _, _]) S26 rfl rfl rfl k37 rfl rfl ?_
   refine O_loadA (vs := [_, _, _]) S26 rfl rfl rfl hb7 rfl rfl ?_
   refine O_call enters13 rfl rfl rfl (dadd_c rfl k27.nl rfl hq7.nl (by with_reducible assumption) (by with_reducible assumption) (hT.ext k47)) (fun v11 w11 e11 h11 => ?_)
   have z11 := e11.size
   try simp only [val_dig] at h11
   obtain ⟨q11, rfl, hq11⟩ := h11
   refine O_move rfl rfl rfl ?_
   refine O_extract rfl rfl rfl rfl ?_
   refine O_extract rfl rfl rfl rfl ?_
   refine O_alloc S26 rfl rfl (fun g12 w12 b12 e12 gl12 gh12 => ?_)
   have z12 := e12.size
   refine O_storeA (cs' := [_, _, _]) S26 rfl rfl rfl b12 rfl rfl (one_cons rfl (one_cons ((hq11.ext e12).nl).one (one_cons rfl one_nil))) rfl (fun w13 b13 q13 => ?_)
   have z13 := Nat.le_of_eq q13.size.symm
   have e13 : Ext w w13 := q13.ext ((k47.trans e11).trans e12) (by omega)
   refine O_assign rfl rfl rfl ?_
   refine WL_end [(9, _), (10, _), (12, _), (14, _)] ⟨rfl, rfl, rfl, rfl, trivial⟩ ?_
   refine WP_seq ?_
   refine WP_region ?_
   refine O_loadA (vs := [_, _, _]) S26 rfl rfl rfl (((k37.ext e11).ext e12).chg q13 (by first | assumption | omega)) rfl rfl ?_
   refine O_loadA (vs := [_, _, _]) S26 rfl rfl rfl (((hb7.ext e11).ext e12).chg q13 (by first | assumption | omega)) rfl rfl ?_
   refine O_call enters14 rfl rfl rfl (rdadd_c rfl (((k27.ext e11).ext e12).chgBk b12 (by decide) q13).nl rfl (((hq7.ext e11).ext e12).chgBk b12 (by decide) q13).nl (by with_reducible assumption) (by with_reducible assumption)) (fun v14 w14 e14 h14 => ?_)
   have z14 := e14.size
   try simp only [val_dig] at h14
   obtain ⟨q14, rfl, hq14⟩ := h14
   refine O_move rfl rfl rfl ?_
   refine O_extract rfl rfl rfl rfl ?_
   refine O_extract rfl rfl rfl rfl ?_
   refine O_alloc S26 rfl rfl (fun g15 w15 b15 e15 gl15 gh15 => ?_)
   have z15 := e15.size
   refine O_storeA (cs' := [_, _, _]) S26 rfl rfl rfl b15 rfl rfl (one_cons rfl (one_cons ((hq14.ext e15).nl).one (one_cons rfl one_nil))) rfl (fun w16 b16 q16 => ?_)
   have z16 := Nat.le_of_eq q16.size.symm
   have e16 : Ext w w16 := q16.ext ((e13.trans e14).trans e15) (by omega)
   refine O_assign rfl rfl rfl ?_
   refine WL_end [(9, _), (10, _), (12, _), (13, _), (14, _), (15, _)] ⟨rfl, rfl, rfl, rfl, rfl, rfl, trivial⟩ ?_
   refine WP_seq ?_
   refine WP_region ?_
   refine O_loadA (vs := [_, _, _]) S26 rfl rfl rfl ((((((k37.ext e11).ext e12).chg q13 (by first | assumption | omega)).ext e14).ext e15).chg q16 (by first | assumption | omega)) rfl rfl ?_
   refine O_loadA (vs := [_, _, _]) S26 rfl rfl rfl ((((((hb7.ext e11).ext e12).chg q13 (by first | assumption | omega)).ext e14).ext e15).chg q16 (by first | assumption | omega)) rfl rfl ?_
   refine O_call enters15 rfl rfl rfl (dmul_c rfl ((((((k27.ext e11).ext e12).chgBk b12 (by decide) q13).ext e14).ext e15).chgBk b15 (by decide) q16).nl rfl ((((((hq7.ext e11).ext e12).chgBk b12 (by decide) q13).ext e14).ext e15).chgBk b15 (by decide) q16).nl (by with_reducible assumption) (by with_reducible assumption) (hT.ext e16)) (fun v17 w17 e17 h17 => ?_)
   have z17 := e17.size
   try simp only [val_dig] at h17
   obtain ⟨q17, rfl, hq17⟩ := h17
   refine O_move rfl rfl rfl ?_
   refine O_extract rfl rfl rfl rfl ?_
   refine O_extract rfl rfl rfl rfl ?_
   refine O_alloc S26 rfl rfl (fun g18 w18 b18 e18 gl18 gh18 => ?_)
   have z18 := e18.size
   refine O_storeA (cs' := [_, _, _]) S26 rfl rfl rfl b18 rfl rfl (one_cons rfl (one_cons ((hq17.ext e18).nl).one (one_cons rfl one_nil))) rfl (fun w19 b19 q19 => ?_)
   have z19 := Nat.le_of_eq q19.size.symm
   have e19 : Ext w w19 := q19.ext ((e16.trans e17).trans e18) (by omega)
   refine O_assign rfl rfl rfl ?_
   refine WL_end [(9, _), (10, _), (12, _), (13, _), (14, _), (15, _), (16, _), (17, _)] ⟨rfl, rfl, rfl, rfl, rfl, rfl, rfl, rfl, trivial⟩ ?_
   refine WP_seq ?_
   refine WP_region ?_
   refine O_loadA (vs := [_, _, _]) S26 rfl rfl rfl (((((((((k37.ext e11).ext e12).chg q13 (by first | assumption | omega)).ext e14).ext e15).chg q16 (by first | assumption | omega)).ext e17).ext e18).chg q19 (by first | assumption | omega)) rfl rfl ?_
   refine O_loadA (vs := [_, _, _]) S26 rfl rfl rfl (((((((((hb7.ext e11).ext e12).chg q13 (by first | assumption | omega)).ext e14).ext e15).chg q16 (by first | assumption | omega)).ext e17).ext e18).chg q19 (by first | assumption | omega)) rfl rfl ?_
   refine O_call enters16 rfl rfl rfl (rdmul_c rfl (((((((((k27.ext e11).ext e12).chgBk b12 (by decide) q13).ext e14).ext e15).chgBk b15 (by decide) q16).ext e17).ext e18).chgBk b18 (by decide) q19).nl rfl (((((((((hq7.ext e11).ext e12).chgBk b12 (by decide) q13).ext e14).ext e15).chgBk b15 (by decide) q16).ext e17).ext e18).chgBk b18 (by decide) q19).nl (by with_reducible assumption) (by with_reducible assumption)) (fun v20 w20 e20 h20 => ?_)
   have z20 := e20.size
   try simp only [val_dig] at h20
   obtain ⟨q20, rfl, hq20⟩ := h20
   refine O_move rfl rfl rfl ?_
   refine O_extract rfl rfl rfl rfl ?_
   refine O_extract rfl rfl rfl rfl ?_
   refine O_alloc S26 rfl rfl (fun g21 w21 b21 e21 gl21 gh21 => ?_)
   have z21 := e21.size
   refine O_storeA (cs' := [_, _, _]) S26 rfl rfl rfl b21 rfl rfl (one_cons rfl (one_cons ((hq20.ext e21).nl).one (one_cons rfl one_nil))) rfl (fun w22 b22 q22 => ?_)
   have z22 := Nat.le_of_eq q22.size.symm
   have e22 : Ext w w22 := q22.ext ((e19.trans e20).trans e21) (by omega)
   refine O_assign rfl rfl rfl ?_
   refine WL_end [(9, _), (10, _), (12, _), (13, _), (14, _), (15, _), (16, _), (17, _), (18, _), (19, _)] ⟨rfl, rfl, rfl, rfl, rfl, rfl, rfl, rfl, rfl, rfl, trivial⟩ ?_
   refine WP_seq ?_
   refine WP_sub [(9, _), (10, _), (12, _), (13, _), (14, _), (15, _), (16, _), (17, _), (18, _), (19, _)] ⟨rfl, rfl, rfl, rfl, rfl, rfl, rfl, rfl, rfl, rfl, trivial⟩ ?_
   refine WP_anyR 27 [9, 10, 12, 13, 14, 15, 16, 17, 18, 19] mixed rfl (by kernel_rfl) ?_
   apply AnyR_val [12] rfl (by kernel_rfl)
   · --
    intro y23 hy23
    have zy23 := hy23.size
    refine AllV_nil ?_
    refine O_move rfl rfl rfl ?_
    exact WL_nil ⟨(Ext.refl _), rfl⟩
   apply AnyR_val [13] rfl (by kernel_rfl)
   · --
    intro y24 hy24
    have zy24 := hy24.size
    refine AllV_nil ?_
    refine O_move rfl rfl rfl ?_
    exact WL_nil ⟨(Ext.refl _), rfl⟩
   apply AnyR_val [79, 80] rfl (by kernel_rfl)
   · --
    intro y25 hy25
    have zy25 := hy25.size
    refine AllV_v ?_
    refine AllV_v ?_
    refine AllV_nil ?_
    refine O_eql (t := true) rfl rfl rfl rfl (decide_eq_true (dcode3_eq (by omega) (by omega))) ?_
    exact WL_nil ⟨(Ext.refl _), rfl⟩
   apply AnyR_val [81] rfl (by kernel_rfl)
   · --
    intro y26 hy26
    have zy26 := hy26.size
    refine AllV_v ?_
    refine AllV_nil ?_
    refine O_move rfl rfl rfl ?_
    exact WL_nil ⟨(Ext.refl _), rfl⟩
   apply AnyR_val [82, 14] rfl (by kernel_rfl)
   · --
    intro y27 hy27
    have zy27 := hy27.size
    refine AllV_v ?_
    refine AllV_nil ?_
    refine O_loadA (vs := [_, _, _]) S26 rfl rfl rfl ((((((((((b13.ext e14).ext e15).chg q16 (by first | assumption | omega)).ext e17).ext e18).chg q19 (by first | assumption | omega)).ext e20).ext e21).chg q22 (by first | assumption | omega)).ext hy27) rfl rfl ?_
    exact WL_nil ⟨(Ext.refl _), rfl⟩
   apply AnyR_val [82, 15] rfl (by kernel_rfl)
   · --
    intro y28 hy28
    have zy28 := hy28.size
    refine AllV_v ?_
    refine AllV_nil ?_
    refine O_loadA (vs := [_, _, _]) S26 rfl rfl rfl (((((((b16.ext e17).ext e18).chg q19 (by first | assumption | omega)).ext e20).ext e21).chg q22 (by first | assumption | omega)).ext hy28) rfl rfl ?_
    exact WL_nil ⟨(Ext.refl _), rfl⟩
   apply AnyR_val [82, 83, 84] rfl (by kernel_rfl)
   · --
    intro y29 hy29
    have zy29 := hy29.size
    refine AllV_v ?_
    refine AllV_v ?_
    refine AllV_v ?_
    refine AllV_nil ?_
    refine O_call enters17 rfl rfl rfl (rdsame_c rfl ((((((((((((hq11.ext e12).chgBk b12 (by decide) q13).ext e14).ext e15).chgBk b15 (by decide) q16).ext e17).ext e18).chgBk b18 (by decide) q19).ext e20).ext e21).chgBk b21 (by decide) q22).ext hy29).nl (((((((((hq14.ext e15).chgBk b15 (by decide) q16).ext e17).ext e18).chgBk b18 (by decide) q19).ext e20).ext e21).chgBk b21 (by decide) q22).ext hy29).nl (by (try simp only [lens]); omega) (by (try simp only [lens]); omega) rfl rfl) (fun v30 w30 e30 h30 => ?_)
    have z30 := e30.size
    obtain rfl := h30
    exact WL_nil ⟨e30, rfl⟩
   apply AnyR_val [82, 85] rfl (by kernel_rfl)
   · --
    intro y31 hy31
    have zy31 := hy31.size
    refine AllV_v ?_
    refine AllV_v ?_
    refine AllV_nil ?_
    refine O_pickT rfl rfl rfl rfl ?_
    exact WL_nil ⟨(Ext.refl _), rfl⟩
   apply AnyR_val [86] rfl (by kernel_rfl)
   · --
    intro y32 hy32
    have zy32 := hy32.size
    refine AllV_v ?_
    refine AllV_nil ?_
    refine O_move rfl rfl rfl ?_
    exact WL_nil ⟨(Ext.refl _), rfl⟩
   apply AnyR_val [87, 17] rfl (by kernel_rfl)
   · --
    intro y33 hy33
    have zy33 := hy33.size
    refine AllV_v ?_
    refine AllV_nil ?_
    refine O_move rfl rfl rfl ?_
    exact WL_nil ⟨(Ext.refl _), rfl⟩
   apply AnyR_val [87, 19] rfl (by kernel_rfl)
   · --
    intro y34 hy34
    have zy34 := hy34.size
    refine AllV_v ?_
    refine AllV_nil ?_
    refine O_move rfl rfl rfl ?_
    exact WL_nil ⟨(Ext.refl _), rfl⟩
   apply AnyR_val [87, 88, 89] rfl (by kernel_rfl)
   · --
    intro y35 hy35
    have zy35 := hy35.size
    refine AllV_v ?_
    refine AllV_v ?_
    refine AllV_v ?_
    refine AllV_nil ?_
    refine O_eql (t := true) rfl rfl rfl rfl (decide_eq_true (dcode3_eq (by omega) (by omega))) ?_
    exact WL_nil ⟨(Ext.refl _), rfl⟩
   apply AnyR_val [87, 90] rfl (by kernel_rfl)
   · --
    intro y36 hy36
    have zy36 := hy36.size
    refine AllV_v ?_
    refine AllV_v ?_
    refine AllV_nil ?_
    refine O_pickT rfl rfl rfl rfl ?_
    exact WL_nil ⟨(Ext.refl _), rfl⟩
   apply AnyR_val [91] rfl (by kernel_rfl)
   · --
    intro y37 hy37
    have zy37 := hy37.size
    refine AllV_v ?_
    refine AllV_nil ?_
    refine O_move rfl rfl rfl ?_
    exact WL_nil ⟨(Ext.refl _), rfl⟩
   apply AnyR_val [92, 16] rfl (by kernel_rfl)
   · --
    intro y38 hy38
    have zy38 := hy38.size
    refine AllV_v ?_
    refine AllV_nil ?_
    refine O_loadA (vs := [_, _, _]) S26 rfl rfl rfl ((((b19.ext e20).ext e21).chg q22 (by first | assumption | omega)).ext hy38) rfl rfl ?_
    exact WL_nil ⟨(Ext.refl _), rfl⟩
   apply AnyR_val [92, 18] rfl (by kernel_rfl)
   · --
    intro y39 hy39
    have zy39 := hy39.size
    refine AllV_v ?_
    refine AllV_nil ?_
    refine O_loadA (vs := [_, _, _]) S26 rfl rfl rfl (b22.ext hy39) rfl rfl ?_
    exact WL_nil ⟨(Ext.refl _), rfl⟩
   apply AnyR_val [92, 93, 94] rfl (by kernel_rfl)
   · --
    intro y40 hy40
    have zy40 := hy40.size
    refine AllV_v ?_
    refine AllV_v ?_
    refine AllV_v ?_
    refine AllV_nil ?_
    refine O_call enters17 rfl rfl rfl (rdsame_c rfl ((((((hq17.ext e18).chgBk b18 (by decide) q19).ext e20).ext e21).chgBk b21 (by decide) q22).ext hy40).nl (((hq20.ext e21).chgBk b21 (by decide) q22).ext hy40).nl (by (try simp only [lens]); omega) (by (try simp only [lens]); omega) rfl rfl) (fun v41 w41 e41 h41 => ?_)
    have z41 := e41.size
    obtain rfl := h41
    exact WL_nil ⟨e41, rfl⟩
   apply AnyR_val [92, 95] rfl (by kernel_rfl)
   · --
    intro y42 hy42
    have zy42 := hy42.size
    refine AllV_v ?_
    refine AllV_v ?_
    refine AllV_nil ?_
    refine O_pickT rfl rfl rfl rfl ?_
    exact WL_nil ⟨(Ext.refl _), rfl⟩
   apply AnyR_val [96] rfl (by kernel_rfl)
   · --
    intro y43 hy43
    have zy43 := hy43.size
    refine AllV_v ?_
    refine AllV_nil ?_
    refine O_move rfl rfl rfl ?_
    exact WL_nil ⟨(Ext.refl _), rfl⟩
   apply AnyR_val [97, 9] rfl (by kernel_rfl)
   · --
    intro y44 hy44
    have zy44 := hy44.size
    refine AllV_v ?_
    refine AllV_nil ?_
    refine O_loadA (vs := [_, _, _]) S26 rfl rfl rfl (((((((((((((k37.ext e11).ext e12).chg q13 (by first | assumption | omega)).ext e14).ext e15).chg q16 (by first | assumption | omega)).ext e17).ext e18).chg q19 (by first | assumption | omega)).ext e20).ext e21).chg q22 (by first | assumption | omega)).ext hy44) rfl rfl ?_
    exact WL_nil ⟨(Ext.refl _), rfl⟩
   apply AnyR_val [97, 10] rfl (by kernel_rfl)
   · --
    intro y45 hy45
    have zy45 := hy45.size
    refine AllV_v ?_
    refine AllV_nil ?_
    refine O_loadA (vs := [_, _, _]) S26 rfl rfl rfl (((((((((((((hb7.ext e11).ext e12).chg q13 (by first | assumption | omega)).ext e14).ext e15).chg q16 (by first | assumption | omega)).ext e17).ext e18).chg q19 (by first | assumption | omega)).ext e20).ext e21).chg q22 (by first | assumption | omega)).ext hy45) rfl rfl ?_
    exact WL_nil ⟨(Ext.refl _), rfl⟩
   apply AnyR_val [97, 98, 99] rfl (by kernel_rfl)
   · --
    intro y46 hy46
    have zy46 := hy46.size
    refine AllV_v ?_
    refine AllV_v ?_
    refine AllV_v ?_
    refine AllV_nil ?_
    refine O_call enters18 rfl rfl rfl (dcmp_c rfl (((((((((((((k27.ext e11).ext e12).chgBk b12 (by decide) q13).ext e14).ext e15).chgBk b15 (by decide) q16).ext e17).ext e18).chgBk b18 (by decide) q19).ext e20).ext e21).chgBk b21 (by decide) q22).ext hy46).nl rfl (((((((((((((hq7.ext e11).ext e12).chgBk b12 (by decide) q13).ext e14).ext e15).chgBk b15 (by decide) q16).ext e17).ext e18).chgBk b18 (by decide) q19).ext e20).ext e21).chgBk b21 (by decide) q22).ext hy46).nl (by (try simp only [lens]); omega) (by (try simp only [lens]); omega) (by (try simp only [lens]); omega) (by (try simp only [lens]); omega) (by (try simp only [lens]); omega) (by (try simp only [lens]); omega)) (fun v47 w47 e47 h47 => ?_)
    have z47 := e47.size
    obtain rfl := h47
    exact WL_nil ⟨e47, rfl⟩
   apply AnyR_val [97, 9] rfl (by kernel_rfl)
   · --
    intro y48 hy48
    have zy48 := hy48.size
    refine AllV_v ?_
    refine AllV_nil ?_
    refine O_loadA (vs := [_, _, _]) S26 rfl rfl rfl (((((((((((((k37.ext e11).ext e12).chg q13 (by first | assumption | omega)).ext e14).ext e15).chg q16 (by first | assumption | omega)).ext e17).ext e18).chg q19 (by first | assumption | omega)).ext e20).ext e21).chg q22 (by first | assumption | omega)).ext hy48) rfl rfl ?_
    exact WL_nil ⟨(Ext.refl _), rfl⟩
   apply AnyR_val [97, 10] rfl (by kernel_rfl)
   · --
    intro y49 hy49
    have zy49 := hy49.size
    refine AllV_v ?_
    refine AllV_nil ?_
    refine O_loadA (vs := [_, _, _]) S26 rfl rfl rfl (((((((((((((hb7.ext e11).ext e12).chg q13 (by first | assumption | omega)).ext e14).ext e15).chg q16 (by first | assumption | omega)).ext e17).ext e18).chg q19 (by first | assumption | omega)).ext e20).ext e21).chg q22 (by first | assumption | omega)).ext hy49) rfl rfl ?_
    exact WL_nil ⟨(Ext.refl _), rfl⟩
   apply AnyR_val [97, 101, 102] rfl (by kernel_rfl)
   · --
    intro y50 hy50
    have zy50 := hy50.size
    refine AllV_v ?_
    refine AllV_v ?_
    refine AllV_v ?_
    refine AllV_nil ?_
    refine O_call enters19 rfl rfl rfl (rdcmp_c rfl (((((((((((((k27.ext e11).ext e12).chgBk b12 (by decide) q13).ext e14).ext e15).chgBk b15 (by decide) q16).ext e17).ext e18).chgBk b18 (by decide) q19).ext e20).ext e21).chgBk b21 (by decide) q22).ext hy50).nl rfl (((((((((((((hq7.ext e11).ext e12).chgBk b12 (by decide) q13).ext e14).ext e15).chgBk b15 (by decide) q16).ext e17).ext e18).chgBk b18 (by decide) q19).ext e20).ext e21).chgBk b21 (by decide) q22).ext hy50).nl (by (try simp only [lens]); omega) (by (try simp only [lens]); omega) (by (try simp only [lens]); omega) (by (try simp only [lens]); omega) (by (try simp only [lens]); omega) (by (try simp only [lens]); omega)) (fun v51 w51 e51 h51 => ?_)
    have z51 := e51.size
    obtain rfl := h51
    exact WL_nil ⟨e51, rfl⟩
   apply AnyR_val [97, 100, 103] rfl (by kernel_rfl)
   · --
    intro y52 hy52
    have zy52 := hy52.size
    refine AllV_v ?_
    refine AllV_v ?_
    refine AllV_v ?_
    refine AllV_nil ?_
    refine O_eql (t := true) rfl rfl rfl rfl (decide_eq_true rfl) ?_
    exact WL_nil ⟨(Ext.refl _), rfl⟩
   apply AnyR_val [97, 104] rfl (by kernel_rfl)
   · --
    intro y53 hy53
    have zy53 := hy53.size
    refine AllV_v ?_
    refine AllV_v ?_
    refine AllV_nil ?_
    refine O_pickT rfl rfl rfl rfl ?_
    exact WL_nil ⟨(Ext.refl _), rfl⟩
   refine AnyR_nil fun y54 hy54 => ?_
   have zy54 := hy54.size
   refine AllV_v ?_
   refine AllV_v ?_
   refine AllV_v ?_
   refine AllV_v ?_
   refine AllV_v ?_
   refine AllV_v ?_
   refine AllV_v ?_
   refine AllV_v ?_
   refine AllV_v ?_
   refine AllV_v ?_
   refine AllV_v ?_
   refine AllV_v ?_
   refine AllV_v ?_
   refine AllV_v ?_
   refine AllV_v ?_
   refine AllV_v ?_
   refine AllV_v ?_
   refine AllV_v ?_
   refine AllV_v ?_
   refine AllV_v ?_
   refine AllV_v ?_
   refine AllV_v ?_
   refine AllV_v ?_
   refine AllV_v ?_
   refine AllV_v ?_
   refine AllV_v ?_
   refine AllV_v ?_
   refine AllV_nil ?_
   refine O_assign rfl rfl rfl ?_
   refine WL_end [(8, _)] ⟨rfl, trivial⟩ ?_
   refine WP_ret ?_
   refine ret1 Tryd.results3 rfl ?_
   exact ⟨_, rfl, (e22.trans hy54), rfl⟩
  · --
   skip
   refine WP_region ?_
   refine O_move rfl rfl rfl ?_
   refine O_neq (t := false) rfl rfl rfl rfl (decide_eq_false (fun h => h hc1)) ?_
   refine O_move rfl rfl rfl ?_
   refine O_move rfl rfl rfl ?_
   refine O_neq (t := true) rfl rfl rfl rfl (decide_eq_true hc2) ?_
   refine O_pickF rfl rfl rfl rfl ?_
   refine WL_end [(9, _), (10, _), (54, _)] ⟨rfl, rfl, rfl, trivial⟩ ?_
   refine WP_condT rfl ?_
   refine WP_seq ?_
   refine WP_region ?_
   refine O_assign rfl rfl rfl ?_
   refine WL_end [(8, _)] ⟨rfl, trivial⟩ ?_
   refine WP_ret ?_
   refine ret1 Tryd.results3 rfl ?_
   exact ⟨_, rfl, k47, rfl⟩
  · --
   skip
   refine WP_region ?_
   refine O_move rfl rfl rfl ?_
   refine O_neq (t := true) rfl rfl rfl rfl (decide_eq_true hc1) ?_
   refine O_move rfl rfl rfl ?_
   refine O_skip rfl rfl ?_
   refine O_skip rfl rfl ?_
   refine O_pickT rfl rfl rfl rfl ?_
   refine WL_end [(9, _), (10, _), (54, _)] ⟨rfl, rfl, rfl, trivial⟩ ?_
   refine WP_condT rfl ?_
   refine WP_seq ?_
   refine WP_region ?_
   refine O_assign rfl rfl rfl ?_
   refine WL_end [(8, _)] ⟨rfl, trivial⟩ ?_
   refine WP_ret ?_
   refine ret1 Tryd.results3 rfl ?_
   exact ⟨_, rfl, k47, rfl⟩

end Go.Proofs.YtnfnadhbjdcbnaaDoor
