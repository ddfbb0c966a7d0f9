/-
  Walks.
-/
import Derived.Test.YtnfnadhbjdcbnaaGreatDoorE1
set_option linter.unusedVariables false
set_option linter.unusedSimpArgs false
set_option maxRecDepth 100000
namespace Go.Proofs.YtnfnadhbjdcbnaaGreatDoor
open Go Go.RowKit
theorem rdratO_p {w : World} {vx : Value} {x : Int} {bx : Bool} (hbx : bx = decide (x < 0)) (hx : No 0 83 w vx (dig x.natAbs)) (hlx : (dig x.natAbs).length ≤ 30000) {k : Nat} (hk : k ≤ 200000) :
    Calls Tryz.prog 10 #[.agg #[.bool bx, vx, .int .i64 (k : Nat)]] w (Ret w fun r w' => ∃ q s, r = .agg #[.bool (decide (rnum x (k : Int) < 0)), q, s] ∧ No 0 83 w' q (dig (rnum x (k : Int)).natAbs) ∧ No 0 83 w' s (dig (rden (k : Int)))) := by
 subst hbx
 refine enter (args := [_]) Tryz.func10 rfl Tryz.ntmps10 rfl ?_
 refine WP_seq ?_
 refine WP_region ?_
 refine O_box _ rfl rfl rfl rfl (fun g1 w1 b1 e1 gl1 gh1 => ?_)
 have z1 := e1.size
 refine O_alloc S35 rfl rfl (fun g2 w2 b2 e2 gl2 gh2 => ?_)
 have z2 := e2.size
 refine WL_end [(1, _), (2, _)] ⟨rfl, rfl, trivial⟩ ?_
 refine WP_seq ?_
 refine WP_seq ?_
 refine WP_region ?_
 refine O_field F26_1 rfl rfl rfl ?_
 refine O_loadC Tryz.underlying3 rfl rfl rfl rfl (b1.ext e2) rfl ?_
 refine O_geq (t := true) rfl rfl rfl rfl (decide_eq_true (Int.natCast_nonneg k)) ?_
 refine WL_end [(1, _), (2, _), (5, _)] ⟨rfl, rfl, rfl, trivial⟩ ?_
 refine WP_condT rfl ?_
 refine WP_seq ?_
 refine WP_region ?_
 refine O_field F26_0 rfl rfl rfl ?_
 refine O_loadA (vs := [_, _]) S24 rfl rfl rfl (b1.ext e2) rfl rfl ?_
 refine O_field F26_1 rfl rfl rfl ?_
 refine O_loadC Tryz.underlying3 rfl rfl rfl rfl (b1.ext e2) rfl ?_
 refine O_call enters36 rfl rfl rfl (rishl_c rfl (hx.ext (e1.trans e2)).nl (by (try simp only [lens]); omega) (by (try simp only [lens]); omega)) (fun v3 w3 e3 h3 => ?_)
 have z3 := e3.size
 try simp only [val_dig] at h3
 obtain ⟨q3, rfl, hq3⟩ := h3
 refine O_call enters37 rfl rfl rfl (rof_c 1 (by decide)) (fun v4 w4 e4 h4 => ?_)
 have z4 := e4.size
 try simp only [val_dig] at h4
 refine O_build (cs := [_, _, _]) B35 rfl rfl rfl (cells_cons rfl (cells_cons (h4.nl).cells1 cells_nil)) rfl ?_
 refine O_storeA (cs' := [_, _, _]) S35 rfl rfl rfl ((b2.ext e3).ext e4) rfl rfl (one_cons rfl (one_cons ((hq3.ext e4).nl).one (one_cons (h4.nl).one one_nil))) rfl (fun w5 b5 q5 => ?_)
 have z5 := Nat.le_of_eq q5.size.symm
 have e5 : Ext w w5 := q5.ext (((e1.trans e2).trans e3).trans e4) (by omega)
 refine WL_end [(2, _)] ⟨rfl, trivial⟩ ?_
 refine WP_ret ?_
 refine retL Tryz.results10 (.cell rfl S35 b5 rfl .nil) ?_
 have h1 : rnum x (k : Int) = x * 2 ^ k := by unfold rnum; rw [if_pos (Int.natCast_nonneg k), Int.toNat_natCast]
 have h2 : rden (k : Int) = 1 := if_pos (Int.natCast_nonneg k)
 rw [h1, h2]
 exact ⟨_, rfl, e5, _, _, rfl, ((hq3.ext e4).chgBk ((b2.ext e3).ext e4) (by decide) q5).mono (Nat.zero_le _), (h4.chgBk ((b2.ext e3).ext e4) (by decide) q5).mono (Nat.zero_le _)⟩

theorem rdratO_n {w : World} {vx : Value} {x : Int} {bx : Bool} (hbx : bx = decide (x < 0)) (hx : No 0 83 w vx (dig x.natAbs)) (hlx : (dig x.natAbs).length ≤ 30000) {k : Nat} (hk : k ≤ 200000) (hk0 : 0 < k) :
    Calls Tryz.prog 10 #[.agg #[.bool bx, vx, .int .i64 (-((k : Nat) : Int))]] w (Ret w fun r w' => ∃ q s, r = .agg #[.bool (decide (rnum x (-((k : Nat) : Int)) < 0)), q, s] ∧ No 0 83 w' q (dig (rnum x (-((k : Nat) : Int))).natAbs) ∧ No 0 83 w' s (dig (rden (-((k : Nat) : Int))))) := by
 subst hbx
 have hd1 : (dig 1).length ≤ 1 := dig_len_of_lt (by decide)
 have hd2 := dig_len_two k
 refine enter (args := [_]) Tryz.func10 rfl Tryz.ntmps10 rfl ?_
 refine WP_seq ?_
 refine WP_region ?_
 refine O_box _ rfl rfl rfl rfl (fun g1 w1 b1 e1 gl1 gh1 => ?_)
 have z1 := e1.size
 refine O_alloc S35 rfl rfl (fun g2 w2 b2 e2 gl2 gh2 => ?_)
 have z2 := e2.size
 refine WL_end [(1, _), (2, _)] ⟨rfl, rfl, trivial⟩ ?_
 refine WP_seq ?_
 refine WP_seq ?_
 refine WP_region ?_
 refine O_field F26_1 rfl rfl rfl ?_
 refine O_loadC Tryz.underlying3 rfl rfl rfl rfl (b1.ext e2) rfl ?_
 refine O_geq (t := false) rfl rfl rfl rfl (decide_eq_false (by omega)) ?_
 refine WL_end [(1, _), (2, _), (5, _)] ⟨rfl, rfl, rfl, trivial⟩ ?_
 refine WP_condF rfl ?_
 refine WP_skip ?_
 refine WP_seq ?_
 refine WP_sub [(1, _), (2, _)] ⟨rfl, rfl, trivial⟩ ?_
 refine WP_anyR 6 [1, 2] mixed rfl (by kernel_rfl) ?_
 apply AnyR_val [1] rfl (by kernel_rfl)
 · --
  intro y3 hy3
  have zy3 := hy3.size
  refine AllV_nil ?_
  refine O_field F26_0 rfl rfl rfl ?_
  exact WL_nil ⟨(Ext.refl _), rfl⟩
 apply AnyR_val [13] rfl (by kernel_rfl)
 · --
  intro y4 hy4
  have zy4 := hy4.size
  refine AllV_v ?_
  refine AllV_nil ?_
  refine O_loadA (vs := [_, _]) S24 rfl rfl rfl ((b1.ext e2).ext hy4) rfl rfl ?_
  exact WL_nil ⟨(Ext.refl _), rfl⟩
 apply AnyR_val [1] rfl (by kernel_rfl)
 · --
  intro y5 hy5
  have zy5 := hy5.size
  refine AllV_nil ?_
  refine O_field F26_1 rfl rfl rfl ?_
  exact WL_nil ⟨(Ext.refl _), rfl⟩
 apply AnyR_val [15] rfl (by kernel_rfl)
 · --
  intro y6 hy6
  have zy6 := hy6.size
  refine AllV_v ?_
  refine AllV_nil ?_
  refine O_loadC Tryz.underlying3 rfl rfl rfl rfl ((b1.ext e2).ext hy6) rfl ?_
  exact WL_nil ⟨(Ext.refl _), rfl⟩
 apply AnyR_val [16] rfl (by kernel_rfl)
 · --
  intro y7 hy7
  have zy7 := hy7.size
  refine AllV_v ?_
  refine AllV_nil ?_
  refine O_neg (r := ((k : Nat) : Int)) rfl rfl rfl (by rw [IntKind.wrap_i64]; omega) ?_
  exact WL_nil ⟨(Ext.refl _), rfl⟩
 apply AnyR_no [17] rfl (by kernel_rfl)
 · --
  intro y8 hy8
  have zy8 := hy8.size
  refine AllV_v ?_
  refine AllV_nil ?_
  refine O_call enters38 rfl rfl rfl (one08_c (by (try simp only [lens]); omega)) (fun v9 w9 e9 h9 => ?_)
  have z9 := e9.size
  try simp only [val_dig] at h9
  exact WL_nil ⟨e9, _, rfl, NoR.mk' h9⟩
 refine AnyR_nil fun y10 hy10 => ?_
 have zy10 := hy10.size
 refine AllV_v ?_
 refine AllV_v ?_
 refine AllV_v ?_
 refine AllV_v ?_
 refine AllV_v ?_
 refine AllV_r fun a11 b11 v11 la11 lb11 lc11 h11 ap11 => ?_
 clear ap11
 refine AllV_nil ?_
 refine O_build (cs := [_, _, _]) B35 rfl rfl rfl (cells_cons rfl (cells_cons (h11.1.nl).cells1 cells_nil)) rfl ?_
 refine O_storeA (cs' := [_, _, _]) S35 rfl rfl rfl (b2.ext hy10) rfl rfl (one_cons rfl (one_cons ((hx.ext ((e1.trans e2).trans hy10)).nl).one (one_cons (h11.1.nl).one one_nil))) rfl (fun w12 b12 q12 => ?_)
 have z12 := Nat.le_of_eq q12.size.symm
 have e12 : Ext w w12 := q12.ext ((e1.trans e2).trans hy10) (by omega)
 refine WL_end [(2, _)] ⟨rfl, trivial⟩ ?_
 refine WP_ret ?_
 refine retL Tryz.results10 (.cell rfl S35 b12 rfl .nil) ?_
 have h1 : rnum x (-((k : Nat) : Int)) = x := if_neg (by omega)
 have h2 : rden (-((k : Nat) : Int)) = 2 ^ k := by unfold rden; rw [if_neg (by omega), Int.neg_neg, Int.toNat_natCast]
 rw [h1, h2]
 exact ⟨_, rfl, e12, _, _, rfl, (hx.ext e12).mono (Nat.zero_le _), (h11.1.chgBk (b2.ext hy10) (by decide) q12).mono (Nat.zero_le _)⟩

theorem rdratO_c {w : World} {vx : Value} {x e : Int} {bx : Bool} (hbx : bx = decide (x < 0)) (hx : No 0 83 w vx (dig x.natAbs)) (hlx : (dig x.natAbs).length ≤ 30000) (he1 : -200000 ≤ e) (he2 : e ≤ 200000) : Calls Tryz.prog 10 #[.agg #[.bool bx, vx, .int .i64 e]] w (Ret w fun r w' => ∃ q s, r = .agg #[.bool (decide (rnum x e < 0)), q, s] ∧ No 0 83 w' q (dig (rnum x e).natAbs) ∧ No 0 83 w' s (dig (rden e))) := by
  by_cases h0 : 0 ≤ e
  · obtain ⟨k, rfl⟩ : ∃ k : Nat, e = (k : Int) := ⟨e.toNat, by omega⟩
    exact rdratO_p hbx hx hlx (by omega)
  · obtain ⟨k, rfl⟩ : ∃ k : Nat, e = -(k : Int) := ⟨(-e).toNat, by omega⟩
    exact rdratO_n hbx hx hlx (by omega) (by omega)

theorem dval_neg (x e : Int) : dval (-x) e = dval x e := by
  unfold dval
  by_cases h : x = 0
  · subst h; rfl
  · rw [if_neg (by omega), if_neg h, Int.natAbs_neg]
theorem low_nat {a b n D : Nat} (hb : 0 < b) (hg : Nat.gcd n D = 1) (h : a * D = n * b) : a / Nat.gcd a b = n ∧ b / Nat.gcd a b = D := by
  have h1 : D ∣ b := (Nat.Coprime.dvd_of_dvd_mul_left (show Nat.Coprime D n from (Nat.gcd_comm D n).trans hg) ⟨a, by rw [← h, Nat.mul_comm]⟩)
  obtain ⟨k, rfl⟩ := h1
  have hD : 0 < D := Nat.pos_of_mul_pos_right hb
  have hk : 0 < k := Nat.pos_of_mul_pos_left hb
  have ha : a = n * k := by
    apply Nat.eq_of_mul_eq_mul_right hD
    rw [h, Nat.mul_assoc, Nat.mul_comm D k]
  subst ha
  rw [Nat.gcd_mul_right, hg, Nat.one_mul]
  exact ⟨Nat.mul_div_cancel _ hk, Nat.mul_div_cancel _ hk⟩
theorem low_unique {x y M : Int} {D : Nat} (hy : 0 < y) (hD : 0 < D) (hg : Nat.gcd M.natAbs D = 1) (h : x * (D : Int) = M * y) :
    mk (!(decide (x < 0) == decide (y < 0))) (x.natAbs / Nat.gcd x.natAbs y.natAbs) = M ∧ y.natAbs / Nat.gcd x.natAbs y.natAbs = D := by
  have h1 : x.natAbs * D = M.natAbs * y.natAbs := by
    have := congrArg Int.natAbs h
    rw [Int.natAbs_mul, Int.natAbs_mul, Int.natAbs_natCast] at this
    exact this
  obtain ⟨h2, h3⟩ := low_nat (by omega) hg h1
  rw [h2]
  refine ⟨?_, h3⟩
  have hyn : decide (y < 0) = false := decide_eq_false (by omega)
  have hD2 : (0 : Int) < (D : Int) := by omega
  have hs : decide (x < 0) = decide (M < 0) := by
    rw [decide_eq_decide]
    constructor
    · intro hx
      rcases Int.lt_or_le M 0 with k | k
      · exact k
      · have k1 := Int.mul_neg_of_neg_of_pos hx hD2
        have k2 := Int.mul_nonneg k (Int.le_of_lt hy)
        omega
    · intro hM
      rcases Int.lt_or_le x 0 with k | k
      · exact k
      · have k1 := Int.mul_neg_of_neg_of_pos hM hy
        have k2 := Int.mul_nonneg k (Int.le_of_lt hD2)
        omega
  rw [hyn, hs]
  have := mk_self M
  cases hm : decide (M < 0) <;> rw [hm] at this <;> simpa using this
theorem rat_gcd {x e : Int} (h : dval x e = true) : Nat.gcd (rnum x e).natAbs (rden e) = 1 := by
  by_cases h0 : 0 ≤ e
  · rw [show rden e = 1 from if_pos h0]; exact Nat.gcd_one_right _
  · have hd : rden e = 2 ^ (-e).toNat := if_neg h0
    have hn : rnum x e = x := if_neg h0
    have hx : x ≠ 0 := fun hx => by rw [dval_at0 hx, decide_eq_true_eq] at h; omega
    rw [dval_nz hx, decide_eq_true_eq] at h
    rw [hd, hn]
    have h2 : Nat.Coprime x.natAbs 2 := by
      show Nat.gcd x.natAbs 2 = 1
      rw [Nat.gcd_comm, Nat.gcd_rec, h.2.2.2]
      exact Nat.gcd_one_left 2
    exact Nat.Coprime.pow_right _ h2
theorem q_add {a b c A B P de df dg : Int} (h1 : a * P = A * de) (h2 : b * P = B * df) (h3 : c * P = (A + B) * dg) : ((a * df + b * de) * dg) * P = (c * (de * df)) * P := by grind
theorem q_mul {a b c A B C P de df dg : Int} (h1 : a * P = A * de) (h2 : b * P = B * df) (h3 : c * P = C * dg) (h4 : A * B = C * P) : ((a * b) * dg) * (P * P) = (c * (de * df)) * (P * P) := by grind
theorem rat_add {x e y f s g : Int} (h1 : -((70000 : Nat) : Int) ≤ e) (h2 : -((70000 : Nat) : Int) ≤ f) (h3 : -((70000 : Nat) : Int) ≤ g) (hs : sv 70000 s g = sv 70000 x e + sv 70000 y f) :
    (rnum x e * (rden f : Nat) + rnum y f * (rden e : Nat)) * ((rden g : Nat) : Int) = rnum s g * (((rden e : Nat) : Int) * ((rden f : Nat) : Int)) := by
  have k3 := sv_rat (x := s) h3
  rw [hs] at k3
  have hp := ipow_pos 70000
  have k := q_add (sv_rat (x := x) h1) (sv_rat (x := y) h2) k3
  exact Int.eq_of_mul_eq_mul_right (by omega) k
theorem rat_mul {x e y f s g : Int} (h1 : -((35000 : Nat) : Int) ≤ e) (h2 : -((35000 : Nat) : Int) ≤ f) (h3 : -((70000 : Nat) : Int) ≤ g) (hs : sv 70000 s g = sv 70000 (x * y) (e + f)) :
    (rnum x e * rnum y f) * ((rden g : Nat) : Int) = rnum s g * (((rden e : Nat) : Int) * ((rden f : Nat) : Int)) := by
  have k3 := sv_rat (x := s) h3
  have hp := ipow_pos 70000
  have h4 : sv 70000 x e * sv 70000 y f = sv 70000 s g * 2 ^ 70000 := by
    rw [hs]
    have e1 : (e + ((70000 : Nat) : Int)).toNat + (f + ((70000 : Nat) : Int)).toNat = (e + f + ((70000 : Nat) : Int)).toNat + 70000 := by omega
    have e2 : (2 : Int) ^ (e + ((70000 : Nat) : Int)).toNat * 2 ^ (f + ((70000 : Nat) : Int)).toNat = 2 ^ (e + f + ((70000 : Nat) : Int)).toNat * 2 ^ 70000 := by rw [← Int.pow_add, ← Int.pow_add, e1]
    unfold sv
    generalize (2 : Int) ^ (e + ((70000 : Nat) : Int)).toNat = u at *
    generalize (2 : Int) ^ (f + ((70000 : Nat) : Int)).toNat = v at *
    generalize (2 : Int) ^ (e + f + ((70000 : Nat) : Int)).toNat = t at *
    generalize (2 : Int) ^ 70000 = P at *
    clear k3 hs hp e1
    grind
  have k := q_mul (sv_rat (x := x) (show -((70000 : Nat) : Int) ≤ e by omega)) (sv_rat (x := y) (show -((70000 : Nat) : Int) ≤ f by omega)) k3 h4
  exact Int.eq_of_mul_eq_mul_right (by have := Int.mul_pos hp hp; omega) k
theorem rnum_neg (x e : Int) : rnum (-x) e = -rnum x e := by
  unfold rnum; split
  · exact Int.neg_mul _ _
  · rfl

theorem of07_c {w : World} {vx vy : Value} {x y : Int} {bx by_ : Bool} (hbx : bx = decide (x < 0)) (hx : Nl w vx (dig x.natAbs)) (hby : by_ = decide (y < 0)) (hy : Nl w vy (dig y.natAbs)) (hlx : (dig x.natAbs).length ≤ 90000) (hly : (dig y.natAbs).length ≤ 90000) {M : Int} {D : Nat} (hy0 : 0 < y) (hD : 0 < D) (hg : Nat.gcd M.natAbs D = 1) (he : x * (D : Int) = M * y) :
    Calls Tryz.prog 44 #[.agg #[.bool bx, vx], .agg #[.bool by_, vy]] w (Ret w fun r w' => ∃ q9 s9, r = .agg #[.bool (decide ((M) < 0)), q9, s9] ∧ No w.heap.size 83 w' q9 (dig (M).natAbs) ∧ No w.heap.size 83 w' s9 (dig (D))) := by
 obtain ⟨hu1, hu2⟩ := low_unique hy0 hD hg he
 subst hbx
 subst hby
 refine enter (args := [_, _]) Tryz.func44 rfl Tryz.ntmps44 rfl ?_
 refine WP_seq ?_
 refine WP_region ?_
 refine O_box _ rfl rfl rfl rfl (fun g1 w1 b1 e1 gl1 gh1 => ?_)
 have z1 := e1.size
 refine O_box _ rfl rfl rfl rfl (fun g2 w2 b2 e2 gl2 gh2 => ?_)
 have z2 := e2.size
 refine O_alloc S35 rfl rfl (fun g3 w3 b3 e3 gl3 gh3 => ?_)
 have z3 := e3.size
 refine WL_end [(2, _), (3, _), (4, _)] ⟨rfl, rfl, rfl, trivial⟩ ?_
 refine WP_seq ?_
 refine WP_region ?_
 refine O_loadA (vs := [_, _]) S24 rfl rfl rfl ((b1.ext e2).ext e3) rfl rfl ?_
 refine O_loadA (vs := [_, _]) S24 rfl rfl rfl (b2.ext e3) rfl rfl ?_
 refine O_call enters73 rfl rfl rfl (rmake07_c rfl (hx.ext ((e1.trans e2).trans e3)) rfl (hy.ext ((e1.trans e2).trans e3)) (by (try simp only [lens]); omega) (by (try simp only [lens]); omega) (by (try simp only [lens]); omega)) (fun v4 w4 e4 h4 => ?_)
 have z4 := e4.size
 try simp only [val_dig] at h4
 obtain ⟨q4, s4, rfl, hq4, hs4⟩ := h4
 simp only [hu1, hu2] at hq4 hs4 ⊢
 refine O_move rfl rfl rfl ?_
 refine O_extract rfl rfl rfl rfl ?_
 refine O_extract rfl rfl rfl rfl ?_
 refine O_alloc S35 rfl rfl (fun g5 w5 b5 e5 gl5 gh5 => ?_)
 have z5 := e5.size
 refine O_storeA (cs' := [_, _, _]) S35 rfl rfl rfl b5 rfl rfl (one_cons rfl (one_cons ((hq4.ext e5).nl).one (one_cons ((hs4.ext e5).nl).one one_nil))) rfl (fun w6 b6 q6 => ?_)
 have z6 := Nat.le_of_eq q6.size.symm
 have e6 : Ext w w6 := q6.ext ((((e1.trans e2).trans e3).trans e4).trans e5) (by omega)
 refine O_assign rfl rfl rfl ?_
 refine WL_end [(4, _), (5, _)] ⟨rfl, rfl, trivial⟩ ?_
 refine WP_seq ?_
 refine WP_region ?_
 refine O_loadA (vs := [_, _, _]) S35 rfl rfl rfl b6 rfl rfl ?_
 refine O_storeA (cs' := [_, _, _]) S35 rfl rfl rfl (((b3.ext e4).ext e5).chg q6 (by first | assumption | omega)) rfl rfl (one_cons rfl (one_cons (((hq4.ext e5).chgBk b5 (by decide) q6).nl).one (one_cons (((hs4.ext e5).chgBk b5 (by decide) q6).nl).one one_nil))) rfl (fun w7 b7 q7 => ?_)
 have z7 := Nat.le_of_eq q7.size.symm
 have e7 : Ext w w7 := q7.ext e6 (by omega)
 refine WL_end [(4, _)] ⟨rfl, trivial⟩ ?_
 refine WP_ret ?_
 refine retL Tryz.results44 (.cell rfl S35 b7 rfl .nil) ?_
 exact ⟨_, rfl, e7, _, _, rfl, (((hq4.ext e5).chgBk b5 (by decide) q6).chgBk (((b3.ext e4).ext e5).chg q6 (by first | assumption | omega)) (by decide) q7).mono (by omega), (((hs4.ext e5).chgBk b5 (by decide) q6).chgBk (((b3.ext e4).ext e5).chg q6 (by first | assumption | omega)) (by decide) q7).mono (by omega)⟩

set_option maxHeartbeats 1000000 in
theorem radd07_c {w : World} {vp vq : Value} {p : Int} {q : Nat} {bp : Bool} (hbp : bp = decide (p < 0)) (hp : Nl w vp (dig p.natAbs)) (hq : Nl w vq (dig q)) (hlp : (dig p.natAbs).length ≤ 20000) (hlq : (dig q).length ≤ 20000) {vs vt : Value} {s : Int} {t : Nat} {bs : Bool} (hbs : bs = decide (s < 0)) (hs : Nl w vs (dig s.natAbs)) (ht : Nl w vt (dig t)) (hls : (dig s.natAbs).length ≤ 20000) (hlt : (dig t).length ≤ 20000) {M : Int} {D : Nat} (hq0 : 0 < q) (ht0 : 0 < t) (hD : 0 < D) (hg : Nat.gcd M.natAbs D = 1) (he : (p * (t : Int) + s * (q : Int)) * (D : Int) = M * ((q : Int) * (t : Int))) :
    Calls Tryz.prog 13 #[.agg #[.bool bp, vp, vq], .agg #[.bool bs, vs, vt]] w (Ret w fun r w' => ∃ q9 s9, r = .agg #[.bool (decide ((M) < 0)), q9, s9] ∧ No w.heap.size 83 w' q9 (dig (M).natAbs) ∧ No w.heap.size 83 w' s9 (dig (D))) := by
 subst hbp
 subst hbs
 have hq9 : (dig (q : Int).natAbs).length ≤ 20000 := by rw [Int.natAbs_natCast]; exact hlq
 have ht9 : (dig (t : Int).natAbs).length ≤ 20000 := by rw [Int.natAbs_natCast]; exact hlt
 have hqt := mul_len hq9 ht9
 have hqt0 : (0 : Int) < (q : Int) * (t : Int) := Int.mul_pos (by omega) (by omega)
 have hc1 := mul_len hlp ht9
 have hc2 := mul_len hls hq9
 have hc3 := add_len hc1 hc2
 refine enter (args := [_, _]) Tryz.func13 rfl Tryz.ntmps13 rfl ?_
 refine WP_seq ?_
 refine WP_region ?_
 refine O_box _ rfl rfl rfl rfl (fun g1 w1 b1 e1 gl1 gh1 => ?_)
 have z1 := e1.size
 refine O_box _ rfl rfl rfl rfl (fun g2 w2 b2 e2 gl2 gh2 => ?_)
 have z2 := e2.size
 refine O_alloc S35 rfl rfl (fun g3 w3 b3 e3 gl3 gh3 => ?_)
 have z3 := e3.size
 refine WL_end [(2, _), (3, _), (4, _)] ⟨rfl, rfl, rfl, trivial⟩ ?_
 refine WP_seq ?_
 refine WP_sub [(2, _), (3, _), (4, _)] ⟨rfl, rfl, rfl, trivial⟩ ?_
 refine WP_anyR 14 [2, 3, 4] mixed rfl (by kernel_rfl) ?_
 apply AnyR_val [2] rfl (by kernel_rfl)
 · --
  intro y4 hy4
  have zy4 := hy4.size
  refine AllV_nil ?_
  refine O_field F35_0 rfl rfl rfl ?_
  exact WL_nil ⟨(Ext.refl _), rfl⟩
 apply AnyR_val [5] rfl (by kernel_rfl)
 · --
  intro y5 hy5
  have zy5 := hy5.size
  refine AllV_v ?_
  refine AllV_nil ?_
  refine O_loadA (vs := [_, _]) S24 rfl rfl rfl (((b1.ext e2).ext e3).ext hy5) rfl rfl ?_
  exact WL_nil ⟨(Ext.refl _), rfl⟩
 apply AnyR_val [3] rfl (by kernel_rfl)
 · --
  intro y6 hy6
  have zy6 := hy6.size
  refine AllV_nil ?_
  refine O_loadA (vs := [_, _, _]) S35 rfl rfl rfl ((b2.ext e3).ext hy6) rfl rfl ?_
  exact WL_nil ⟨(Ext.refl _), rfl⟩
 apply AnyR_rel (RelP (pAgg [pEq _, pNo w3.heap.size 83 _])) [7] rfl (RelP.mono (pAgg_mono (PsM.cons pEq_mono (PsM.cons pNo_mono PsM.nil)))) (by kernel_rfl)
 · --
  intro y7 hy7
  have zy7 := hy7.size
  refine AllV_v ?_
  refine AllV_nil ?_
  refine O_call enters47 rfl rfl rfl (den07_c rfl (hs.ext (((e1.trans e2).trans e3).trans hy7)) (ht.ext (((e1.trans e2).trans e3).trans hy7)) (by first | with_reducible assumption | omega) (by first | with_reducible assumption | omega)) (fun v8 w8 e8 h8 => ?_)
  have z8 := e8.size
  try simp only [val_dig] at h8
  obtain ⟨q8, rfl, hq8⟩ := h8
  exact WL_nil ⟨e8, _, rfl, ⟨_, rfl, (AllP.cons rfl (AllP.cons (hq8.mono (by omega)) AllP.nil))⟩⟩
 apply AnyR_rel (RelP (pAgg [pEq _, pNo w3.heap.size 83 _])) [6, 8] rfl (RelP.mono (pAgg_mono (PsM.cons pEq_mono (PsM.cons pNo_mono PsM.nil)))) (by kernel_rfl)
 · --
  intro y9 hy9
  have zy9 := hy9.size
  refine AllV_v ?_
  refine AllV_r fun a10 b10 v10 la10 lb10 lc10 h10 ap10 => ?_
  clear ap10
  obtain ⟨_, rfl, v10_0, _, rfl, rfl, v10_1, _, rfl, h10_1, rfl⟩ := h10
  refine AllV_nil ?_
  refine O_call enters46 rfl rfl rfl (rimul_c rfl (hp.ext (((e1.trans e2).trans e3).trans hy9)) rfl h10_1.nl (by (try simp only [lens]); omega) (by (try simp only [lens]); omega)) (fun v11 w11 e11 h11 => ?_)
  have z11 := e11.size
  try simp only [val_dig] at h11
  obtain ⟨q11, rfl, hq11⟩ := h11
  exact WL_nil ⟨e11, _, rfl, ⟨_, rfl, (AllP.cons rfl (AllP.cons (hq11.mono (by omega)) AllP.nil))⟩⟩
 apply AnyR_val [3] rfl (by kernel_rfl)
 · --
  intro y12 hy12
  have zy12 := hy12.size
  refine AllV_nil ?_
  refine O_field F35_0 rfl rfl rfl ?_
  exact WL_nil ⟨(Ext.refl _), rfl⟩
 apply AnyR_val [10] rfl (by kernel_rfl)
 · --
  intro y13 hy13
  have zy13 := hy13.size
  refine AllV_v ?_
  refine AllV_nil ?_
  refine O_loadA (vs := [_, _]) S24 rfl rfl rfl ((b2.ext e3).ext hy13) rfl rfl ?_
  exact WL_nil ⟨(Ext.refl _), rfl⟩
 apply AnyR_val [2] rfl (by kernel_rfl)
 · --
  intro y14 hy14
  have zy14 := hy14.size
  refine AllV_nil ?_
  refine O_loadA (vs := [_, _, _]) S35 rfl rfl rfl (((b1.ext e2).ext e3).ext hy14) rfl rfl ?_
  exact WL_nil ⟨(Ext.refl _), rfl⟩
 apply AnyR_rel (RelP (pAgg [pEq _, pNo w3.heap.size 83 _])) [12] rfl (RelP.mono (pAgg_mono (PsM.cons pEq_mono (PsM.cons pNo_mono PsM.nil)))) (by kernel_rfl)
 · --
  intro y15 hy15
  have zy15 := hy15.size
  refine AllV_v ?_
  refine AllV_nil ?_
  refine O_call enters47 rfl rfl rfl (den07_c rfl (hp.ext (((e1.trans e2).trans e3).trans hy15)) (hq.ext (((e1.trans e2).trans e3).trans hy15)) (by first | with_reducible assumption | omega) (by first | with_reducible assumption | omega)) (fun v16 w16 e16 h16 => ?_)
  have z16 := e16.size
  try simp only [val_dig] at h16
  obtain ⟨q16, rfl, hq16⟩ := h16
  exact WL_nil ⟨e16, _, rfl, ⟨_, rfl, (AllP.cons rfl (AllP.cons (hq16.mono (by omega)) AllP.nil))⟩⟩
 apply AnyR_rel (RelP (pAgg [pEq _, pNo w3.heap.size 83 _])) [11, 13] rfl (RelP.mono (pAgg_mono (PsM.cons pEq_mono (PsM.cons pNo_mono PsM.nil)))) (by kernel_rfl)
 · --
  intro y17 hy17
  have zy17 := hy17.size
  refine AllV_v ?_
  refine AllV_r fun a18 b18 v18 la18 lb18 lc18 h18 ap18 => ?_
  clear ap18
  obtain ⟨_, rfl, v18_0, _, rfl, rfl, v18_1, _, rfl, h18_1, rfl⟩ := h18
  refine AllV_nil ?_
  refine O_call enters46 rfl rfl rfl (rimul_c rfl (hs.ext (((e1.trans e2).trans e3).trans hy17)) rfl h18_1.nl (by (try simp only [lens]); omega) (by (try simp only [lens]); omega)) (fun v19 w19 e19 h19 => ?_)
  have z19 := e19.size
  try simp only [val_dig] at h19
  obtain ⟨q19, rfl, hq19⟩ := h19
  exact WL_nil ⟨e19, _, rfl, ⟨_, rfl, (AllP.cons rfl (AllP.cons (hq19.mono (by omega)) AllP.nil))⟩⟩
 apply AnyR_rel (RelP (pAgg [pEq _, pNo w3.heap.size 83 _])) [9, 14] rfl (RelP.mono (pAgg_mono (PsM.cons pEq_mono (PsM.cons pNo_mono PsM.nil)))) (by kernel_rfl)
 · --
  intro y20 hy20
  have zy20 := hy20.size
  refine AllV_r fun a21 b21 v21 la21 lb21 lc21 h21 ap21 => ?_
  clear ap21
  obtain ⟨_, rfl, v21_0, _, rfl, rfl, v21_1, _, rfl, h21_1, rfl⟩ := h21
  refine AllV_r fun a22 b22 v22 la22 lb22 lc22 h22 ap22 => ?_
  clear ap22
  obtain ⟨_, rfl, v22_0, _, rfl, rfl, v22_1, _, rfl, h22_1, rfl⟩ := h22
  refine AllV_nil ?_
  refine O_call enters45 rfl rfl rfl (riadd_c rfl h21_1.nl rfl h22_1.nl (by (try simp only [lens]); omega) (by (try simp only [lens]); omega)) (fun v23 w23 e23 h23 => ?_)
  have z23 := e23.size
  try simp only [val_dig] at h23
  obtain ⟨q23, rfl, hq23⟩ := h23
  exact WL_nil ⟨e23, _, rfl, ⟨_, rfl, (AllP.cons rfl (AllP.cons (hq23.mono (by omega)) AllP.nil))⟩⟩
 apply AnyR_val [2] rfl (by kernel_rfl)
 · --
  intro y24 hy24
  have zy24 := hy24.size
  refine AllV_nil ?_
  refine O_loadA (vs := [_, _, _]) S35 rfl rfl rfl (((b1.ext e2).ext e3).ext hy24) rfl rfl ?_
  exact WL_nil ⟨(Ext.refl _), rfl⟩
 apply AnyR_rel (RelP (pAgg [pEq _, pNo w3.heap.size 83 _])) [16] rfl (RelP.mono (pAgg_mono (PsM.cons pEq_mono (PsM.cons pNo_mono PsM.nil)))) (by kernel_rfl)
 · --
  intro y25 hy25
  have zy25 := hy25.size
  refine AllV_v ?_
  refine AllV_nil ?_
  refine O_call enters47 rfl rfl rfl (den07_c rfl (hp.ext (((e1.trans e2).trans e3).trans hy25)) (hq.ext (((e1.trans e2).trans e3).trans hy25)) (by first | with_reducible assumption | omega) (by first | with_reducible assumption | omega)) (fun v26 w26 e26 h26 => ?_)
  have z26 := e26.size
  try simp only [val_dig] at h26
  obtain ⟨q26, rfl, hq26⟩ := h26
  exact WL_nil ⟨e26, _, rfl, ⟨_, rfl, (AllP.cons rfl (AllP.cons (hq26.mono (by omega)) AllP.nil))⟩⟩
 apply AnyR_val [3] rfl (by kernel_rfl)
 · --
  intro y27 hy27
  have zy27 := hy27.size
  refine AllV_nil ?_
  refine O_loadA (vs := [_, _, _]) S35 rfl rfl rfl ((b2.ext e3).ext hy27) rfl rfl ?_
  exact WL_nil ⟨(Ext.refl _), rfl⟩
 refine AnyR_nil fun y28 hy28 => ?_
 have zy28 := hy28.size
 refine AllV_v ?_
 refine AllV_v ?_
 refine AllV_v ?_
 refine AllV_r fun a29 b29 v29 la29 lb29 lc29 h29 ap29 => ?_
 clear ap29
 obtain ⟨_, rfl, v29_0, _, rfl, rfl, v29_1, _, rfl, h29_1, rfl⟩ := h29
 refine AllV_r fun a30 b30 v30 la30 lb30 lc30 h30 ap30 => ?_
 clear ap30
 obtain ⟨_, rfl, v30_0, _, rfl, rfl, v30_1, _, rfl, h30_1, rfl⟩ := h30
 refine AllV_v ?_
 refine AllV_v ?_
 refine AllV_v ?_
 refine AllV_r fun a31 b31 v31 la31 lb31 lc31 h31 ap31 => ?_
 clear ap31
 obtain ⟨_, rfl, v31_0, _, rfl, rfl, v31_1, _, rfl, h31_1, rfl⟩ := h31
 refine AllV_r fun a32 b32 v32 la32 lb32 lc32 h32 ap32 => ?_
 clear ap32
 obtain ⟨_, rfl, v32_0, _, rfl, rfl, v32_1, _, rfl, h32_1, rfl⟩ := h32
 refine AllV_r fun a33 b33 v33 la33 lb33 lc33 h33 ap33 => ?_
 clear ap33
 obtain ⟨_, rfl, v33_0, _, rfl, rfl, v33_1, _, rfl, h33_1, rfl⟩ := h33
 refine AllV_v ?_
 refine AllV_r fun a34 b34 v34 la34 lb34 lc34 h34 ap34 => ?_
 clear ap34
 obtain ⟨_, rfl, v34_0, _, rfl, rfl, v34_1, _, rfl, h34_1, rfl⟩ := h34
 refine AllV_v ?_
 refine AllV_nil ?_
 refine O_call enters47 rfl rfl rfl (den07_c rfl (hs.ext (((e1.trans e2).trans e3).trans hy28)) (ht.ext (((e1.trans e2).trans e3).trans hy28)) (by first | with_reducible assumption | omega) (by first | with_reducible assumption | omega)) (fun v35 w35 e35 h35 => ?_)
 have z35 := e35.size
 try simp only [val_dig] at h35
 obtain ⟨q35, rfl, hq35⟩ := h35
 refine O_call enters46 rfl rfl rfl (rimul_c rfl (h34_1.ext e35).nl rfl hq35.nl (by (try simp only [lens]); omega) (by (try simp only [lens]); omega)) (fun v36 w36 e36 h36 => ?_)
 have z36 := e36.size
 try simp only [val_dig] at h36
 obtain ⟨q36, rfl, hq36⟩ := h36
 refine O_call enters44 rfl rfl rfl (of07_c (M := M) (D := D) rfl ((h33_1.ext e35).ext e36).nl rfl hq36.nl (by (try simp only [lens]); omega) (by (try simp only [lens]); omega) hqt0 hD hg he) (fun v37 w37 e37 h37 => ?_)
 have z37 := e37.size
 try simp only [val_dig] at h37
 obtain ⟨q37, s37, rfl, hq37, hs37⟩ := h37
 refine O_storeA (cs' := [_, _, _]) S35 rfl rfl rfl ((((b3.ext hy28).ext e35).ext e36).ext e37) rfl rfl (one_cons rfl (one_cons (hq37.nl).one (one_cons (hs37.nl).one one_nil))) rfl (fun w38 b38 q38 => ?_)
 have z38 := Nat.le_of_eq q38.size.symm
 have e38 : Ext w w38 := q38.ext ((((((e1.trans e2).trans e3).trans hy28).trans e35).trans e36).trans e37) (by omega)
 refine WL_end [(4, _)] ⟨rfl, trivial⟩ ?_
 refine WP_ret ?_
 refine retL Tryz.results13 (.cell rfl S35 b38 rfl .nil) ?_
 exact ⟨_, rfl, e38, _, _, rfl, (hq37.chgBk ((((b3.ext hy28).ext e35).ext e36).ext e37) (by decide) q38).mono (by omega), (hs37.chgBk ((((b3.ext hy28).ext e35).ext e36).ext e37) (by decide) q38).mono (by omega)⟩

set_option maxHeartbeats 1000000 in
theorem rmul07_c {w : World} {vp vq : Value} {p : Int} {q : Nat} {bp : Bool} (hbp : bp = decide (p < 0)) (hp : Nl w vp (dig p.natAbs)) (hq : Nl w vq (dig q)) (hlp : (dig p.natAbs).length ≤ 20000) (hlq : (dig q).length ≤ 20000) {vs vt : Value} {s : Int} {t : Nat} {bs : Bool} (hbs : bs = decide (s < 0)) (hs : Nl w vs (dig s.natAbs)) (ht : Nl w vt (dig t)) (hls : (dig s.natAbs).length ≤ 20000) (hlt : (dig t).length ≤ 20000) {M : Int} {D : Nat} (hq0 : 0 < q) (ht0 : 0 < t) (hD : 0 < D) (hg : Nat.gcd M.natAbs D = 1) (he : (p * s) * (D : Int) = M * ((q : Int) * (t : Int))) :
    Calls Tryz.prog 15 #[.agg #[.bool bp, vp, vq], .agg #[.bool bs, vs, vt]] w (Ret w fun r w' => ∃ q9 s9, r = .agg #[.bool (decide ((M) < 0)), q9, s9] ∧ No w.heap.size 83 w' q9 (dig (M).natAbs) ∧ No w.heap.size 83 w' s9 (dig (D))) := by
 subst hbp
 subst hbs
 have hq9 : (dig (q : Int).natAbs).length ≤ 20000 := by rw [Int.natAbs_natCast]; exact hlq
 have ht9 : (dig (t : Int).natAbs).length ≤ 20000 := by rw [Int.natAbs_natCast]; exact hlt
 have hqt := mul_len hq9 ht9
 have hqt0 : (0 : Int) < (q : Int) * (t : Int) := Int.mul_pos (by omega) (by omega)
 have hc1 := mul_len hlp hls
 refine enter (args := [_, _]) Tryz.func15 rfl Tryz.ntmps15 rfl ?_
 refine WP_seq ?_
 refine WP_region ?_
 refine O_box _ rfl rfl rfl rfl (fun g1 w1 b1 e1 gl1 gh1 => ?_)
 have z1 := e1.size
 refine O_box _ rfl rfl rfl rfl (fun g2 w2 b2 e2 gl2 gh2 => ?_)
 have z2 := e2.size
 refine O_alloc S35 rfl rfl (fun g3 w3 b3 e3 gl3 gh3 => ?_)
 have z3 := e3.size
 refine WL_end [(2, _), (3, _), (4, _)] ⟨rfl, rfl, rfl, trivial⟩ ?_
 refine WP_seq ?_
 refine WP_sub [(2, _), (3, _), (4, _)] ⟨rfl, rfl, rfl, trivial⟩ ?_
 refine WP_anyR 8 [2, 3, 4] mixed rfl (by kernel_rfl) ?_
 apply AnyR_val [2] rfl (by kernel_rfl)
 · --
  intro y4 hy4
  have zy4 := hy4.size
  refine AllV_nil ?_
  refine O_field F35_0 rfl rfl rfl ?_
  exact WL_nil ⟨(Ext.refl _), rfl⟩
 apply AnyR_val [5] rfl (by kernel_rfl)
 · --
  intro y5 hy5
  have zy5 := hy5.size
  refine AllV_v ?_
  refine AllV_nil ?_
  refine O_loadA (vs := [_, _]) S24 rfl rfl rfl (((b1.ext e2).ext e3).ext hy5) rfl rfl ?_
  exact WL_nil ⟨(Ext.refl _), rfl⟩
 apply AnyR_val [3] rfl (by kernel_rfl)
 · --
  intro y6 hy6
  have zy6 := hy6.size
  refine AllV_nil ?_
  refine O_field F35_0 rfl rfl rfl ?_
  exact WL_nil ⟨(Ext.refl _), rfl⟩
 apply AnyR_val [7] rfl (by kernel_rfl)
 · --
  intro y7 hy7
  have zy7 := hy7.size
  refine AllV_v ?_
  refine AllV_nil ?_
  refine O_loadA (vs := [_, _]) S24 rfl rfl rfl ((b2.ext e3).ext hy7) rfl rfl ?_
  exact WL_nil ⟨(Ext.refl _), rfl⟩
 apply AnyR_rel (RelP (pAgg [pEq _, pNo w3.heap.size 83 _])) [6, 8] rfl (RelP.mono (pAgg_mono (PsM.cons pEq_mono (PsM.cons pNo_mono PsM.nil)))) (by kernel_rfl)
 · --
  intro y8 hy8
  have zy8 := hy8.size
  refine AllV_v ?_
  refine AllV_v ?_
  refine AllV_nil ?_
  refine O_call enters46 rfl rfl rfl (rimul_c rfl (hp.ext (((e1.trans e2).trans e3).trans hy8)) rfl (hs.ext (((e1.trans e2).trans e3).trans hy8)) (by (try simp only [lens]); omega) (by (try simp only [lens]); omega)) (fun v9 w9 e9 h9 => ?_)
  have z9 := e9.size
  try simp only [val_dig] at h9
  obtain ⟨q9, rfl, hq9⟩ := h9
  exact WL_nil ⟨e9, _, rfl, ⟨_, rfl, (AllP.cons rfl (AllP.cons (hq9.mono (by omega)) AllP.nil))⟩⟩
 apply AnyR_val [2] rfl (by kernel_rfl)
 · --
  intro y10 hy10
  have zy10 := hy10.size
  refine AllV_nil ?_
  refine O_loadA (vs := [_, _, _]) S35 rfl rfl rfl (((b1.ext e2).ext e3).ext hy10) rfl rfl ?_
  exact WL_nil ⟨(Ext.refl _), rfl⟩
 apply AnyR_rel (RelP (pAgg [pEq _, pNo w3.heap.size 83 _])) [10] rfl (RelP.mono (pAgg_mono (PsM.cons pEq_mono (PsM.cons pNo_mono PsM.nil)))) (by kernel_rfl)
 · --
  intro y11 hy11
  have zy11 := hy11.size
  refine AllV_v ?_
  refine AllV_nil ?_
  refine O_call enters47 rfl rfl rfl (den07_c rfl (hp.ext (((e1.trans e2).trans e3).trans hy11)) (hq.ext (((e1.trans e2).trans e3).trans hy11)) (by first | with_reducible assumption | omega) (by first | with_reducible assumption | omega)) (fun v12 w12 e12 h12 => ?_)
  have z12 := e12.size
  try simp only [val_dig] at h12
  obtain ⟨q12, rfl, hq12⟩ := h12
  exact WL_nil ⟨e12, _, rfl, ⟨_, rfl, (AllP.cons rfl (AllP.cons (hq12.mono (by omega)) AllP.nil))⟩⟩
 apply AnyR_val [3] rfl (by kernel_rfl)
 · --
  intro y13 hy13
  have zy13 := hy13.size
  refine AllV_nil ?_
  refine O_loadA (vs := [_, _, _]) S35 rfl rfl rfl ((b2.ext e3).ext hy13) rfl rfl ?_
  exact WL_nil ⟨(Ext.refl _), rfl⟩
 refine AnyR_nil fun y14 hy14 => ?_
 have zy14 := hy14.size
 refine AllV_v ?_
 refine AllV_v ?_
 refine AllV_v ?_
 refine AllV_v ?_
 refine AllV_r fun a15 b15 v15 la15 lb15 lc15 h15 ap15 => ?_
 clear ap15
 obtain ⟨_, rfl, v15_0, _, rfl, rfl, v15_1, _, rfl, h15_1, rfl⟩ := h15
 refine AllV_v ?_
 refine AllV_r fun a16 b16 v16 la16 lb16 lc16 h16 ap16 => ?_
 clear ap16
 obtain ⟨_, rfl, v16_0, _, rfl, rfl, v16_1, _, rfl, h16_1, rfl⟩ := h16
 refine AllV_v ?_
 refine AllV_nil ?_
 refine O_call enters47 rfl rfl rfl (den07_c rfl (hs.ext (((e1.trans e2).trans e3).trans hy14)) (ht.ext (((e1.trans e2).trans e3).trans hy14)) (by first | with_reducible assumption | omega) (by first | with_reducible assumption | omega)) (fun v17 w17 e17 h17 => ?_)
 have z17 := e17.size
 try simp only [val_dig] at h17
 obtain ⟨q17, rfl, hq17⟩ := h17
 refine O_call enters46 rfl rfl rfl (rimul_c rfl (h16_1.ext e17).nl rfl hq17.nl (by (try simp only [lens]); omega) (by (try simp only [lens]); omega)) (fun v18 w18 e18 h18 => ?_)
 have z18 := e18.size
 try simp only [val_dig] at h18
 obtain ⟨q18, rfl, hq18⟩ := h18
 refine O_call enters44 rfl rfl rfl (of07_c (M := M) (D := D) rfl ((h15_1.ext e17).ext e18).nl rfl hq18.nl (by (try simp only [lens]); omega) (by (try simp only [lens]); omega) hqt0 hD hg he) (fun v19 w19 e19 h19 => ?_)
 have z19 := e19.size
 try simp only [val_dig] at h19
 obtain ⟨q19, s19, rfl, hq19, hs19⟩ := h19
 refine O_storeA (cs' := [_, _, _]) S35 rfl rfl rfl ((((b3.ext hy14).ext e17).ext e18).ext e19) rfl rfl (one_cons rfl (one_cons (hq19.nl).one (one_cons (hs19.nl).one one_nil))) rfl (fun w20 b20 q20 => ?_)
 have z20 := Nat.le_of_eq q20.size.symm
 have e20 : Ext w w20 := q20.ext ((((((e1.trans e2).trans e3).trans hy14).trans e17).trans e18).trans e19) (by omega)
 refine WL_end [(4, _)] ⟨rfl, trivial⟩ ?_
 refine WP_ret ?_
 refine retL Tryz.results15 (.cell rfl S35 b20 rfl .nil) ?_
 exact ⟨_, rfl, e20, _, _, rfl, (hq19.chgBk ((((b3.ext hy14).ext e17).ext e18).ext e19) (by decide) q20).mono (by omega), (hs19.chgBk ((((b3.ext hy14).ext e17).ext e18).ext e19) (by decide) q20).mono (by omega)⟩

theorem rneg07_c {w : World} {vp vq : Value} {p : Int} {q : Nat} {bp : Bool} (hbp : bp = decide (p < 0)) (hp : Nl w vp (dig p.natAbs)) (hq : Nl w vq (dig q)) (hlp : (dig p.natAbs).length ≤ 30000) (hlq : (dig q).length ≤ 30000) :
    Calls Tryz.prog 48 #[.agg #[.bool bp, vp, vq]] w (Ret w fun r w' => ∃ u v, r = .agg #[.bool (decide (-p < 0)), u, v] ∧ Nl w' u (dig (-p).natAbs) ∧ Nl w' v (dig q)) := by
 subst hbp
 refine enter (args := [_]) Tryz.func48 rfl Tryz.ntmps48 rfl ?_
 refine WP_seq ?_
 refine WP_region ?_
 refine O_box _ rfl rfl rfl rfl (fun g1 w1 b1 e1 gl1 gh1 => ?_)
 have z1 := e1.size
 refine O_alloc S35 rfl rfl (fun g2 w2 b2 e2 gl2 gh2 => ?_)
 have z2 := e2.size
 refine WL_end [(1, _), (2, _)] ⟨rfl, rfl, trivial⟩ ?_
 refine WP_seq ?_
 refine WP_sub [(1, _), (2, _)] ⟨rfl, rfl, trivial⟩ ?_
 refine WP_anyR 5 [1, 2] mixed rfl (by kernel_rfl) ?_
 apply AnyR_val [1] rfl (by kernel_rfl)
 · --
  intro y3 hy3
  have zy3 := hy3.size
  refine AllV_nil ?_
  refine O_field F35_0 rfl rfl rfl ?_
  exact WL_nil ⟨(Ext.refl _), rfl⟩
 apply AnyR_val [3] rfl (by kernel_rfl)
 · --
  intro y4 hy4
  have zy4 := hy4.size
  refine AllV_v ?_
  refine AllV_nil ?_
  refine O_loadA (vs := [_, _]) S24 rfl rfl rfl ((b1.ext e2).ext hy4) rfl rfl ?_
  exact WL_nil ⟨(Ext.refl _), rfl⟩
 apply AnyR_rel (RelP (pAgg [pEq _, pNo w2.heap.size 83 _])) [4] rfl (RelP.mono (pAgg_mono (PsM.cons pEq_mono (PsM.cons pNo_mono PsM.nil)))) (by kernel_rfl)
 · --
  intro y5 hy5
  have zy5 := hy5.size
  refine AllV_v ?_
  refine AllV_nil ?_
  refine O_call enters50 rfl rfl rfl (rineg_c rfl (hp.ext ((e1.trans e2).trans hy5)) (by (try simp only [lens]); omega)) (fun v6 w6 e6 h6 => ?_)
  have z6 := e6.size
  try simp only [val_dig] at h6
  obtain ⟨q6, rfl, hq6⟩ := h6
  exact WL_nil ⟨e6, _, rfl, ⟨_, rfl, (AllP.cons rfl (AllP.cons (hq6.mono (by omega)) AllP.nil))⟩⟩
 apply AnyR_val [1] rfl (by kernel_rfl)
 · --
  intro y7 hy7
  have zy7 := hy7.size
  refine AllV_nil ?_
  refine O_field F35_1 rfl rfl rfl ?_
  exact WL_nil ⟨(Ext.refl _), rfl⟩
 apply AnyR_val [6] rfl (by kernel_rfl)
 · --
  intro y8 hy8
  have zy8 := hy8.size
  refine AllV_v ?_
  refine AllV_nil ?_
  refine O_loadC Tryz.underlying22 rfl rfl rfl rfl ((b1.ext e2).ext hy8) rfl ?_
  exact WL_nil ⟨(Ext.refl _), rfl⟩
 refine AnyR_nil fun y9 hy9 => ?_
 have zy9 := hy9.size
 refine AllV_v ?_
 refine AllV_v ?_
 refine AllV_r fun a10 b10 v10 la10 lb10 lc10 h10 ap10 => ?_
 clear ap10
 obtain ⟨_, rfl, v10_0, _, rfl, rfl, v10_1, _, rfl, h10_1, rfl⟩ := h10
 refine AllV_v ?_
 refine AllV_v ?_
 refine AllV_nil ?_
 refine O_build (cs := [_, _, _]) B35 rfl rfl rfl (cells_cons rfl (cells_cons ((hq.ext ((e1.trans e2).trans hy9))).cells1 cells_nil)) rfl ?_
 refine O_storeA (cs' := [_, _, _]) S35 rfl rfl rfl (b2.ext hy9) rfl rfl (one_cons rfl (one_cons (h10_1.nl).one (one_cons ((hq.ext ((e1.trans e2).trans hy9))).one one_nil))) rfl (fun w11 b11 q11 => ?_)
 have z11 := Nat.le_of_eq q11.size.symm
 have e11 : Ext w w11 := q11.ext ((e1.trans e2).trans hy9) (by omega)
 refine WL_end [(2, _)] ⟨rfl, trivial⟩ ?_
 refine WP_ret ?_
 refine retL Tryz.results48 (.cell rfl S35 b11 rfl .nil) ?_
 exact ⟨_, rfl, e11, _, _, rfl, (h10_1.chgBk (b2.ext hy9) (by decide) q11).nl, (hq.ext e11)⟩

theorem rsub07_c {w : World} {vp vq : Value} {p : Int} {q : Nat} {bp : Bool} (hbp : bp = decide (p < 0)) (hp : Nl w vp (dig p.natAbs)) (hq : Nl w vq (dig q)) (hlp : (dig p.natAbs).length ≤ 20000) (hlq : (dig q).length ≤ 20000) {vs vt : Value} {s : Int} {t : Nat} {bs : Bool} (hbs : bs = decide (s < 0)) (hs : Nl w vs (dig s.natAbs)) (ht : Nl w vt (dig t)) (hls : (dig s.natAbs).length ≤ 20000) (hlt : (dig t).length ≤ 20000) {M : Int} {D : Nat} (hq0 : 0 < q) (ht0 : 0 < t) (hD : 0 < D) (hg : Nat.gcd M.natAbs D = 1) (he : (p * (t : Int) + (-s) * (q : Int)) * (D : Int) = M * ((q : Int) * (t : Int))) :
    Calls Tryz.prog 14 #[.agg #[.bool bp, vp, vq], .agg #[.bool bs, vs, vt]] w (Ret w fun r w' => ∃ q9 s9, r = .agg #[.bool (decide ((M) < 0)), q9, s9] ∧ No w.heap.size 83 w' q9 (dig (M).natAbs) ∧ No w.heap.size 83 w' s9 (dig (D))) := by
 subst hbp
 subst hbs
 have hln := neg_len hls
 refine enter (args := [_, _]) Tryz.func14 rfl Tryz.ntmps14 rfl ?_
 refine WP_seq ?_
 refine WP_region ?_
 refine O_box _ rfl rfl rfl rfl (fun g1 w1 b1 e1 gl1 gh1 => ?_)
 have z1 := e1.size
 refine O_box _ rfl rfl rfl rfl (fun g2 w2 b2 e2 gl2 gh2 => ?_)
 have z2 := e2.size
 refine O_alloc S35 rfl rfl (fun g3 w3 b3 e3 gl3 gh3 => ?_)
 have z3 := e3.size
 refine WL_end [(2, _), (3, _), (4, _)] ⟨rfl, rfl, rfl, trivial⟩ ?_
 refine WP_seq ?_
 refine WP_sub [(2, _), (3, _), (4, _)] ⟨rfl, rfl, rfl, trivial⟩ ?_
 refine WP_anyR 3 [2, 3, 4] mixed rfl (by kernel_rfl) ?_
 apply AnyR_val [2] rfl (by kernel_rfl)
 · --
  intro y4 hy4
  have zy4 := hy4.size
  refine AllV_nil ?_
  refine O_loadA (vs := [_, _, _]) S35 rfl rfl rfl (((b1.ext e2).ext e3).ext hy4) rfl rfl ?_
  exact WL_nil ⟨(Ext.refl _), rfl⟩
 apply AnyR_val [3] rfl (by kernel_rfl)
 · --
  intro y5 hy5
  have zy5 := hy5.size
  refine AllV_nil ?_
  refine O_loadA (vs := [_, _, _]) S35 rfl rfl rfl ((b2.ext e3).ext hy5) rfl rfl ?_
  exact WL_nil ⟨(Ext.refl _), rfl⟩
 apply AnyR_rel (RelP (pAgg [pEq _, pNl _, pNl _])) [6] rfl (RelP.mono (pAgg_mono (PsM.cons pEq_mono (PsM.cons pNl_mono (PsM.cons pNl_mono PsM.nil))))) (by kernel_rfl)
 · --
  intro y6 hy6
  have zy6 := hy6.size
  refine AllV_v ?_
  refine AllV_nil ?_
  refine O_call enters48 rfl rfl rfl (rneg07_c rfl (hs.ext (((e1.trans e2).trans e3).trans hy6)) (ht.ext (((e1.trans e2).trans e3).trans hy6)) (by (try simp only [lens]); omega) (by (try simp only [lens]); omega)) (fun v7 w7 e7 h7 => ?_)
  have z7 := e7.size
  try simp only [val_dig] at h7
  obtain ⟨rq7, rs7, rfl, hrq7, hrs7⟩ := h7
  exact WL_nil ⟨e7, _, rfl, ⟨_, rfl, (AllP.cons rfl (AllP.cons hrq7 (AllP.cons hrs7 AllP.nil)))⟩⟩
 refine AnyR_nil fun y8 hy8 => ?_
 have zy8 := hy8.size
 refine AllV_v ?_
 refine AllV_v ?_
 refine AllV_r fun a9 b9 v9 la9 lb9 lc9 h9 ap9 => ?_
 clear ap9
 obtain ⟨_, rfl, v9_0, _, rfl, rfl, v9_1, _, rfl, h9_1, v9_2, _, rfl, h9_2, rfl⟩ := h9
 refine AllV_nil ?_
 refine O_call enters13 rfl rfl rfl (radd07_c (M := M) (D := D) rfl (hp.ext (((e1.trans e2).trans e3).trans hy8)) (hq.ext (((e1.trans e2).trans e3).trans hy8)) (by (try simp only [lens]); omega) (by (try simp only [lens]); omega) rfl h9_1 h9_2 hln (by (try simp only [lens]); omega) hq0 ht0 hD hg he) (fun v10 w10 e10 h10 => ?_)
 have z10 := e10.size
 try simp only [val_dig] at h10
 obtain ⟨q10, s10, rfl, hq10, hs10⟩ := h10
 refine O_storeA (cs' := [_, _, _]) S35 rfl rfl rfl ((b3.ext hy8).ext e10) rfl rfl (one_cons rfl (one_cons (hq10.nl).one (one_cons (hs10.nl).one one_nil))) rfl (fun w11 b11 q11 => ?_)
 have z11 := Nat.le_of_eq q11.size.symm
 have e11 : Ext w w11 := q11.ext ((((e1.trans e2).trans e3).trans hy8).trans e10) (by omega)
 refine WL_end [(4, _)] ⟨rfl, trivial⟩ ?_
 refine WP_ret ?_
 refine retL Tryz.results14 (.cell rfl S35 b11 rfl .nil) ?_
 exact ⟨_, rfl, e11, _, _, rfl, (hq10.chgBk ((b3.ext hy8).ext e10) (by decide) q11).mono (by omega), (hs10.chgBk ((b3.ext hy8).ext e10) (by decide) q11).mono (by omega)⟩

theorem dsub_c {w : World} {vx vy : Value} {x y e f : Int} {bx by_ : Bool} (hbx : bx = decide (x < 0)) (hx : Nl w vx (dig x.natAbs)) (hby : by_ = decide (y < 0)) (hy : Nl w vy (dig y.natAbs)) (hvx : dval x e = true) (hvy : dval y f = true) (hT : Tab w) :
    Calls Tryz.prog 7 #[.agg #[.bool bx, vx, .int .i64 e], .agg #[.bool by_, vy, .int .i64 f]] w (Ret w fun r w' => ∃ q, r = .tuple #[.agg #[.bool (decide ((dman (dsum x e (-y) f) (min e f)) < 0)), q, .int .i64 (dexp (dsum x e (-y) f) (min e f))], .int .i64 (dcode3 (dsum x e (-y) f) (min e f))] ∧ No w.heap.size 83 w' q (dig (dman (dsum x e (-y) f) (min e f)).natAbs)) := by
 subst hbx
 subst hby
 have hr1 := dval_range hvx
 have hr2 := dval_range hvy
 have he1 : -200000 ≤ e := by omega
 have he2 : e ≤ 200000 := by omega
 have hf1 : -200000 ≤ f := by omega
 have hf2 : f ≤ 200000 := by omega
 have hlx : (dig x.natAbs).length ≤ 2049 := dval_len hvx
 have hly : (dig y.natAbs).length ≤ 2049 := dval_len hvy
 have hvn := (dval_neg y f).trans hvy
 have hln := neg_len hly
 refine enter (args := [_, _]) Tryz.func7 rfl Tryz.ntmps7 rfl ?_
 refine WP_seq ?_
 refine WP_region ?_
 refine O_box _ rfl rfl rfl rfl (fun g1 w1 b1 e1 gl1 gh1 => ?_)
 have z1 := e1.size
 refine O_box _ rfl rfl rfl rfl (fun g2 w2 b2 e2 gl2 gh2 => ?_)
 have z2 := e2.size
 refine O_alloc S26 rfl rfl (fun g3 w3 b3 e3 gl3 gh3 => ?_)
 have z3 := e3.size
 refine O_assign rfl rfl rfl ?_
 refine WL_end [(2, _), (3, _), (4, _)] ⟨rfl, rfl, rfl, trivial⟩ ?_
 refine WP_seq ?_
 refine WP_sub [(2, _), (3, _), (4, _)] ⟨rfl, rfl, rfl, trivial⟩ ?_
 refine WP_anyR 6 [2, 3, 4] mixed rfl (by kernel_rfl) ?_
 apply AnyR_val [2] rfl (by kernel_rfl)
 · --
  intro y4 hy4
  have zy4 := hy4.size
  refine AllV_nil ?_
  refine O_loadA (vs := [_, _, _]) S26 rfl rfl rfl (((b1.ext e2).ext e3).ext hy4) rfl rfl ?_
  exact WL_nil ⟨(Ext.refl _), rfl⟩
 apply AnyR_val [3] rfl (by kernel_rfl)
 · --
  intro y5 hy5
  have zy5 := hy5.size
  refine AllV_nil ?_
  refine O_loadA (vs := [_, _, _]) S26 rfl rfl rfl ((b2.ext e3).ext hy5) rfl rfl ?_
  exact WL_nil ⟨(Ext.refl _), rfl⟩
 apply AnyR_rel (RelP (pAgg [pEq _, pNo w3.heap.size 83 _, pEq _])) [7] rfl (RelP.mono (pAgg_mono (PsM.cons pEq_mono (PsM.cons pNo_mono (PsM.cons pEq_mono PsM.nil))))) (by kernel_rfl)
 · --
  intro y6 hy6
  have zy6 := hy6.size
  refine AllV_v ?_
  refine AllV_nil ?_
  refine O_call enters17 rfl rfl rfl (dneg_c rfl (hy.ext (((e1.trans e2).trans e3).trans hy6)) (by (try simp only [lens]); omega)) (fun v7 w7 e7 h7 => ?_)
  have z7 := e7.size
  try simp only [val_dig] at h7
  obtain ⟨q7, rfl, hq7⟩ := h7
  exact WL_nil ⟨e7, _, rfl, ⟨_, rfl, (AllP.cons rfl (AllP.cons (hq7.mono (by omega)) (AllP.cons rfl AllP.nil)))⟩⟩
 apply AnyR_rel (RelP (pTup [pAgg [pEq _, pNo w3.heap.size 83 _, pEq _], pEq _])) [6, 8] rfl (RelP.mono (pTup_mono (PsM.cons (pAgg_mono (PsM.cons pEq_mono (PsM.cons pNo_mono (PsM.cons pEq_mono PsM.nil)))) (PsM.cons pEq_mono PsM.nil)))) (by kernel_rfl)
 · --
  intro y8 hy8
  have zy8 := hy8.size
  refine AllV_v ?_
  refine AllV_r fun a9 b9 v9 la9 lb9 lc9 h9 ap9 => ?_
  clear ap9
  obtain ⟨_, rfl, v9_0, _, rfl, rfl, v9_1, _, rfl, h9_1, v9_2, _, rfl, rfl, rfl⟩ := h9
  refine AllV_nil ?_
  refine O_call enters6 rfl rfl rfl (dadd_c rfl (hx.ext (((e1.trans e2).trans e3).trans hy8)) rfl h9_1.nl (by with_reducible assumption) (by with_reducible assumption) (hT.ext (((e1.trans e2).trans e3).trans hy8))) (fun v10 w10 e10 h10 => ?_)
  have z10 := e10.size
  try simp only [val_dig] at h10
  obtain ⟨q10, rfl, hq10⟩ := h10
  exact WL_nil ⟨e10, _, rfl, ⟨_, rfl, (AllP.cons ⟨_, rfl, (AllP.cons rfl (AllP.cons (hq10.mono (by omega)) (AllP.cons rfl AllP.nil)))⟩ (AllP.cons rfl AllP.nil))⟩⟩
 apply AnyR_rel (RelP (pAgg [pEq _, pNo w3.heap.size 83 _, pEq _])) [9] rfl (RelP.mono (pAgg_mono (PsM.cons pEq_mono (PsM.cons pNo_mono (PsM.cons pEq_mono PsM.nil))))) (by kernel_rfl)
 · --
  intro y11 hy11
  have zy11 := hy11.size
  refine AllV_r fun a12 b12 v12 la12 lb12 lc12 h12 ap12 => ?_
  clear ap12
  obtain ⟨_, rfl, v12_0, _, rfl, ⟨_, rfl, v12_0_0, _, rfl, rfl, v12_0_1, _, rfl, h12_0_1, v12_0_2, _, rfl, rfl, rfl⟩, v12_1, _, rfl, rfl, rfl⟩ := h12
  refine AllV_nil ?_
  refine O_extract rfl rfl rfl rfl ?_
  exact WL_nil ⟨(Ext.refl _), _, rfl, ⟨_, rfl, (AllP.cons rfl (AllP.cons (h12_0_1.mono (by omega)) (AllP.cons rfl AllP.nil)))⟩⟩
 apply AnyR_val [9] rfl (by kernel_rfl)
 · --
  intro y13 hy13
  have zy13 := hy13.size
  refine AllV_r fun a14 b14 v14 la14 lb14 lc14 h14 ap14 => ?_
  clear ap14
  obtain ⟨_, rfl, v14_0, _, rfl, ⟨_, rfl, v14_0_0, _, rfl, rfl, v14_0_1, _, rfl, h14_0_1, v14_0_2, _, rfl, rfl, rfl⟩, v14_1, _, rfl, rfl, rfl⟩ := h14
  refine AllV_nil ?_
  refine O_extract rfl rfl rfl rfl ?_
  exact WL_nil ⟨(Ext.refl _), rfl⟩
 refine AnyR_nil fun y15 hy15 => ?_
 have zy15 := hy15.size
 refine AllV_v ?_
 refine AllV_v ?_
 refine AllV_r fun a16 b16 v16 la16 lb16 lc16 h16 ap16 => ?_
 clear ap16
 obtain ⟨_, rfl, v16_0, _, rfl, rfl, v16_1, _, rfl, h16_1, v16_2, _, rfl, rfl, rfl⟩ := h16
 refine AllV_r fun a17 b17 v17 la17 lb17 lc17 h17 ap17 => ?_
 clear ap17
 obtain ⟨_, rfl, v17_0, _, rfl, ⟨_, rfl, v17_0_0, _, rfl, rfl, v17_0_1, _, rfl, h17_0_1, v17_0_2, _, rfl, rfl, rfl⟩, v17_1, _, rfl, rfl, rfl⟩ := h17
 refine AllV_r fun a18 b18 v18 la18 lb18 lc18 h18 ap18 => ?_
 clear ap18
 obtain ⟨_, rfl, v18_0, _, rfl, rfl, v18_1, _, rfl, h18_1, v18_2, _, rfl, rfl, rfl⟩ := h18
 refine AllV_v ?_
 refine AllV_nil ?_
 refine O_storeA (cs' := [_, _, _]) S26 rfl rfl rfl (b3.ext hy15) rfl rfl (one_cons rfl (one_cons (h18_1.nl).one (one_cons rfl one_nil))) rfl (fun w19 b19 q19 => ?_)
 have z19 := Nat.le_of_eq q19.size.symm
 have e19 : Ext w w19 := q19.ext (((e1.trans e2).trans e3).trans hy15) (by omega)
 refine O_assign rfl rfl rfl ?_
 refine WL_end [(4, _), (5, _)] ⟨rfl, rfl, trivial⟩ ?_
 refine WP_ret ?_
 refine retL Tryz.results7 (.cell rfl S26 b19 rfl (.tmp rfl .nil)) ?_
 exact ⟨_, rfl, e19, _, rfl, (h18_1.chgBk (b3.ext hy15) (by decide) q19).mono (by omega)⟩

end Go.Proofs.YtnfnadhbjdcbnaaGreatDoor
