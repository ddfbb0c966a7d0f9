/-
  Walks.
-/
import Derived.Test.YthbfhljpfkicpaaDoorV4
import Derived.Test.YthbfhljpfkicpaaDoorGrid
import Derived.Test.YthbfhljpfkicpaaDoorG0
set_option linter.unusedVariables false
set_option linter.unusedSimpArgs false
set_option maxRecDepth 100000
namespace Go.Proofs.YthbfhljpfkicpaaDoor
open Go Go.RowKit
/-- A fraction in lowest terms. -/
def lown (x y : Int) : Int := mk (!(decide (x < 0) == decide (y < 0))) (x.natAbs / x.natAbs.gcd y.natAbs)
def lowd (x y : Int) : Nat := y.natAbs / x.natAbs.gcd y.natAbs
theorem low_spec {x y : Int} (hy : 0 < y) : lown x y * y = x * (lowd x y : Nat) ∧ 0 < lowd x y := by
  have hg := Nat.gcd_pos_of_pos_right x.natAbs (show 0 < y.natAbs by omega)
  have h1 := Nat.div_mul_cancel (Nat.gcd_dvd_left x.natAbs y.natAbs)
  have h2 := Nat.div_mul_cancel (Nat.gcd_dvd_right x.natAbs y.natAbs)
  refine ⟨?_, Nat.div_pos (Nat.gcd_le_right _ (by omega)) hg⟩
  unfold lown lowd
  rw [decide_eq_false (show ¬ y < 0 by omega)]
  generalize x.natAbs.gcd y.natAbs = g at *
  generalize ha : x.natAbs / g = a at *
  generalize hb : y.natAbs / g = b at *
  have hy2 : y = ((b * g : Nat) : Int) := by omega
  by_cases hx : x < 0
  · have hx2 : x = -((a * g : Nat) : Int) := by omega
    rw [decide_eq_true hx, show (!(true == false)) = true from rfl]
    unfold mk
    rw [if_pos rfl, hy2, hx2, Int.natCast_mul, Int.natCast_mul]
    grind
  · have hx2 : x = ((a * g : Nat) : Int) := by omega
    rw [decide_eq_false hx, show (!(false == false)) = false from rfl]
    unfold mk
    rw [if_neg (by decide), hy2, hx2, Int.natCast_mul, Int.natCast_mul]
    grind
theorem lown_len {x y : Int} {a : Nat} (h : (dig x.natAbs).length ≤ a) : (dig (lown x y).natAbs).length ≤ a := by
  unfold lown; rw [mk_abs]; exact Nat.le_trans (dig_len_mono (Nat.div_le_self _ _)) h
theorem lowd_len {x y : Int} {a : Nat} (h : (dig y.natAbs).length ≤ a) : (dig (lowd x y)).length ≤ a := Nat.le_trans (dig_len_mono (Nat.div_le_self _ _)) h
/-- The fraction a / b has this value, on the common scale. -/
def RatV (a : Int) (b : Nat) (v : Int) : Prop := 0 < b ∧ a * 2 ^ 70000 = v * (b : Nat)
theorem rv_low {x y v : Int} (hy : 0 < y) (h : x * 2 ^ 70000 = v * y) : RatV (lown x y) (lowd x y) v := by
  obtain ⟨h1, h2⟩ := low_spec (x := x) hy
  refine ⟨h2, ?_⟩
  generalize (2 : Int) ^ 70000 = P at *
  have h3 : lown x y * P * y = v * (lowd x y : Nat) * y := by
    rw [Int.mul_right_comm, h1, Int.mul_right_comm, h, Int.mul_right_comm]
  exact Int.eq_of_mul_eq_mul_right (by omega) h3
theorem rv_sum {p v s u : Int} {q t : Nat} (h1 : RatV p q v) (h2 : RatV s t u) : (p * (t : Int) + s * (q : Int)) * 2 ^ 70000 = (v + u) * ((q : Int) * (t : Int)) ∧ (0 : Int) < (q : Int) * (t : Int) := by
  obtain ⟨a1, a2⟩ := h1
  obtain ⟨b1, b2⟩ := h2
  refine ⟨?_, Int.mul_pos (by omega) (by omega)⟩
  generalize (2 : Int) ^ 70000 = P at *
  grind
theorem rv_add {p v s u : Int} {q t : Nat} (h1 : RatV p q v) (h2 : RatV s t u) : RatV (lown (p * (t : Int) + s * (q : Int)) ((q : Int) * (t : Int))) (lowd (p * (t : Int) + s * (q : Int)) ((q : Int) * (t : Int))) (v + u) := by
  obtain ⟨a, b⟩ := rv_sum h1 h2
  exact rv_low b a
theorem rv_neg {p v : Int} {q : Nat} (h : RatV p q v) : RatV (-p) q (-v) := ⟨h.1, by rw [Int.neg_mul, h.2, Int.neg_mul]⟩
theorem rv_rat {x e : Int} (h : dval x e = true) : RatV (rnum x e) (rden e) (sw x e) := ⟨rden_pos e, sv_rat (dval_K h)⟩
theorem rv_cmp {p v s u : Int} {q t : Nat} (h1 : RatV p q v) (h2 : RatV s t u) : icmp (p * (t : Int)) (s * (q : Int)) = icmp v u := by
  obtain ⟨a1, a2⟩ := h1
  obtain ⟨b1, b2⟩ := h2
  have hp := ipow_pos 70000
  rw [← icmp_scale (a := p * (t : Int)) hp]
  generalize (2 : Int) ^ 70000 = P at *
  rw [show p * (t : Int) * P = v * ((q : Int) * (t : Int)) from by grind, show s * (q : Int) * P = u * ((q : Int) * (t : Int)) from by grind]
  exact icmp_scale (Int.mul_pos (by omega) (by omega))
theorem rv_pos {p v : Int} {q : Nat} (h : RatV p q v) (hv : 0 ≤ v) : 0 ≤ p.sign := by
  obtain ⟨a1, a2⟩ := h
  have hp := ipow_pos 70000
  have h1 : 0 ≤ p := by
    rcases Int.lt_or_le p 0 with h | h
    · have h3 := Int.mul_neg_of_neg_of_pos h hp
      have h4 := Int.mul_nonneg hv (show (0 : Int) ≤ (q : Nat) by omega)
      omega
    · exact h
  rcases Int.lt_or_le 0 p with h | h
  · rw [Int.sign_eq_one_of_pos h]; decide
  · obtain rfl : p = 0 := by omega
    decide

theorem of07_c {w : World} {vx vy : Value} {x y : Int} {bx by_ : Bool} (hbx : bx = decide (x < 0)) (hx : Nl w vx (dig x.natAbs)) (hby : by_ = decide (y < 0)) (hy : Nl w vy (dig y.natAbs)) (hlx : (dig x.natAbs).length ≤ 90000) (hly : (dig y.natAbs).length ≤ 90000) (h0 : y ≠ 0) :
    Calls Tryd.prog 127 #[.agg #[.bool bx, vx], .agg #[.bool by_, vy]] w (Ret w fun r w' => ∃ q s, r = .agg #[.bool (decide (lown x y < 0)), q, s] ∧ No w.heap.size 111 w' q (dig (lown x y).natAbs) ∧ No w.heap.size 111 w' s (dig (lowd x y))) := by
 subst hbx
 subst hby
 refine enter (args := [_, _]) Tryd.func127 rfl Tryd.ntmps127 rfl ?_
 refine WP_seq ?_
 refine WP_region ?_
 refine O_box _ rfl rfl rfl rfl (fun g1 w1 b1 e1 gl1 gh1 => ?_)
 have z1 := e1.size
 refine O_box _ rfl rfl rfl rfl (fun g2 w2 b2 e2 gl2 gh2 => ?_)
 have z2 := e2.size
 refine O_alloc S40 rfl rfl (fun g3 w3 b3 e3 gl3 gh3 => ?_)
 have z3 := e3.size
 refine WL_end [(2, _), (3, _), (4, _)] ⟨rfl, rfl, rfl, trivial⟩ ?_
 refine WP_seq ?_
 refine WP_region ?_
 refine O_loadA (vs := [_, _]) S24 rfl rfl rfl ((b1.ext e2).ext e3) rfl rfl ?_
 refine O_loadA (vs := [_, _]) S24 rfl rfl rfl (b2.ext e3) rfl rfl ?_
 refine O_call enters84 rfl rfl rfl (rmake07_c rfl (hx.ext ((e1.trans e2).trans e3)) rfl (hy.ext ((e1.trans e2).trans e3)) (by (try simp only [lens]); omega) (by (try simp only [lens]); omega) (by (try simp only [lens]); omega)) (fun v4 w4 e4 h4 => ?_)
 have z4 := e4.size
 try simp only [val_dig] at h4
 obtain ⟨q4, s4, rfl, hq4, hs4⟩ := h4
 refine O_move rfl rfl rfl ?_
 refine O_extract rfl rfl rfl rfl ?_
 refine O_extract rfl rfl rfl rfl ?_
 refine O_alloc S40 rfl rfl (fun g5 w5 b5 e5 gl5 gh5 => ?_)
 have z5 := e5.size
 refine O_storeA (cs' := [_, _, _]) S40 rfl rfl rfl b5 rfl rfl (one_cons rfl (one_cons ((hq4.ext e5).nl).one (one_cons ((hs4.ext e5).nl).one one_nil))) rfl (fun w6 b6 q6 => ?_)
 have z6 := Nat.le_of_eq q6.size.symm
 have e6 : Ext w w6 := q6.ext ((((e1.trans e2).trans e3).trans e4).trans e5) (by omega)
 refine O_assign rfl rfl rfl ?_
 refine WL_end [(4, _), (5, _)] ⟨rfl, rfl, trivial⟩ ?_
 refine WP_seq ?_
 refine WP_region ?_
 refine O_loadA (vs := [_, _, _]) S40 rfl rfl rfl b6 rfl rfl ?_
 refine O_storeA (cs' := [_, _, _]) S40 rfl rfl rfl (((b3.ext e4).ext e5).chg q6 (by first | assumption | omega)) rfl rfl (one_cons rfl (one_cons (((hq4.ext e5).chgBk b5 (by decide) q6).nl).one (one_cons (((hs4.ext e5).chgBk b5 (by decide) q6).nl).one one_nil))) rfl (fun w7 b7 q7 => ?_)
 have z7 := Nat.le_of_eq q7.size.symm
 have e7 : Ext w w7 := q7.ext e6 (by omega)
 refine WL_end [(4, _)] ⟨rfl, trivial⟩ ?_
 refine WP_ret ?_
 refine retL Tryd.results127 (.cell rfl S40 b7 rfl .nil) ?_
 exact ⟨_, rfl, e7, _, _, rfl, (((hq4.ext e5).chgBk b5 (by decide) q6).chgBk (((b3.ext e4).ext e5).chg q6 (by first | assumption | omega)) (by decide) q7).mono (by omega), (((hs4.ext e5).chgBk b5 (by decide) q6).chgBk (((b3.ext e4).ext e5).chg q6 (by first | assumption | omega)) (by decide) q7).mono (by omega)⟩

set_option maxHeartbeats 1000000 in
theorem add07_c {w : World} {vp vq : Value} {p : Int} {q : Nat} {bp : Bool} (hbp : bp = decide (p < 0)) (hp : Nl w vp (dig p.natAbs)) (hq : Nl w vq (dig q)) (hlp : (dig p.natAbs).length ≤ 20000) (hlq : (dig q).length ≤ 20000) {vs vt : Value} {s : Int} {t : Nat} {bs : Bool} (hbs : bs = decide (s < 0)) (hs : Nl w vs (dig s.natAbs)) (ht : Nl w vt (dig t)) (hls : (dig s.natAbs).length ≤ 20000) (hlt : (dig t).length ≤ 20000) (h0 : (q : Int) * (t : Int) ≠ 0) :
    Calls Tryd.prog 77 #[.agg #[.bool bp, vp, vq], .agg #[.bool bs, vs, vt]] w (Ret w fun r w' => ∃ a b, r = .agg #[.bool (decide (lown (p * (t : Int) + s * (q : Int)) ((q : Int) * (t : Int)) < 0)), a, b] ∧ No w.heap.size 111 w' a (dig (lown (p * (t : Int) + s * (q : Int)) ((q : Int) * (t : Int))).natAbs) ∧ No w.heap.size 111 w' b (dig (lowd (p * (t : Int) + s * (q : Int)) ((q : Int) * (t : Int))))) := by
 subst hbp
 subst hbs
 have hq9 : (dig (q : Int).natAbs).length ≤ 20000 := by rw [Int.natAbs_natCast]; exact hlq
 have ht9 : (dig (t : Int).natAbs).length ≤ 20000 := by rw [Int.natAbs_natCast]; exact hlt
 have k1 := mul_len hlp ht9
 have k2 := mul_len hls hq9
 have k3 := add_len k1 k2
 have k4 := mul_len hq9 ht9
 refine enter (args := [_, _]) Tryd.func77 rfl Tryd.ntmps77 rfl ?_
 refine WP_seq ?_
 refine WP_region ?_
 refine O_box _ rfl rfl rfl rfl (fun g1 w1 b1 e1 gl1 gh1 => ?_)
 have z1 := e1.size
 refine O_box _ rfl rfl rfl rfl (fun g2 w2 b2 e2 gl2 gh2 => ?_)
 have z2 := e2.size
 refine O_alloc S40 rfl rfl (fun g3 w3 b3 e3 gl3 gh3 => ?_)
 have z3 := e3.size
 refine WL_end [(2, _), (3, _), (4, _)] ⟨rfl, rfl, rfl, trivial⟩ ?_
 refine WP_seq ?_
 refine WP_sub [(2, _), (3, _), (4, _)] ⟨rfl, rfl, rfl, trivial⟩ ?_
 refine WP_anyR 14 [2, 3, 4] mixed rfl (by kernel_rfl) ?_
 apply AnyR_val [2] rfl (by kernel_rfl)
 · --
  intro y4 hy4
  have zy4 := hy4.size
  refine AllV_nil ?_
  refine O_field F40_0 rfl rfl rfl ?_
  exact WL_nil ⟨(Ext.refl _), rfl⟩
 apply AnyR_val [5] rfl (by kernel_rfl)
 · --
  intro y5 hy5
  have zy5 := hy5.size
  refine AllV_v ?_
  refine AllV_nil ?_
  refine O_loadA (vs := [_, _]) S24 rfl rfl rfl (((b1.ext e2).ext e3).ext hy5) rfl rfl ?_
  exact WL_nil ⟨(Ext.refl _), rfl⟩
 apply AnyR_val [3] rfl (by kernel_rfl)
 · --
  intro y6 hy6
  have zy6 := hy6.size
  refine AllV_nil ?_
  refine O_loadA (vs := [_, _, _]) S40 rfl rfl rfl ((b2.ext e3).ext hy6) rfl rfl ?_
  exact WL_nil ⟨(Ext.refl _), rfl⟩
 apply AnyR_rel (RelP (pAgg [pEq _, pNo w3.heap.size 111 _])) [7] rfl (RelP.mono (pAgg_mono (PsM.cons pEq_mono (PsM.cons pNo_mono PsM.nil)))) (by kernel_rfl)
 · --
  intro y7 hy7
  have zy7 := hy7.size
  refine AllV_v ?_
  refine AllV_nil ?_
  refine O_call enters81 rfl rfl rfl (den07_c rfl (hs.ext (((e1.trans e2).trans e3).trans hy7)) (ht.ext (((e1.trans e2).trans e3).trans hy7)) (by first | with_reducible assumption | omega) (by first | with_reducible assumption | omega)) (fun v8 w8 e8 h8 => ?_)
  have z8 := e8.size
  try simp only [val_dig] at h8
  obtain ⟨q8, rfl, hq8⟩ := h8
  exact WL_nil ⟨e8, _, rfl, ⟨_, rfl, (AllP.cons rfl (AllP.cons (hq8.mono (by omega)) AllP.nil))⟩⟩
 apply AnyR_rel (RelP (pAgg [pEq _, pNo w3.heap.size 111 _])) [6, 8] rfl (RelP.mono (pAgg_mono (PsM.cons pEq_mono (PsM.cons pNo_mono PsM.nil)))) (by kernel_rfl)
 · --
  intro y9 hy9
  have zy9 := hy9.size
  refine AllV_v ?_
  refine AllV_r fun a10 b10 v10 la10 lb10 lc10 h10 ap10 => ?_
  clear ap10
  obtain ⟨_, rfl, v10_0, _, rfl, rfl, v10_1, _, rfl, h10_1, rfl⟩ := h10
  refine AllV_nil ?_
  refine O_call enters80 rfl rfl rfl (rimul_c rfl (hp.ext (((e1.trans e2).trans e3).trans hy9)) rfl h10_1.nl (by (try simp only [lens]); omega) (by (try simp only [lens]); omega)) (fun v11 w11 e11 h11 => ?_)
  have z11 := e11.size
  try simp only [val_dig] at h11
  obtain ⟨q11, rfl, hq11⟩ := h11
  exact WL_nil ⟨e11, _, rfl, ⟨_, rfl, (AllP.cons rfl (AllP.cons (hq11.mono (by omega)) AllP.nil))⟩⟩
 apply AnyR_val [3] rfl (by kernel_rfl)
 · --
  intro y12 hy12
  have zy12 := hy12.size
  refine AllV_nil ?_
  refine O_field F40_0 rfl rfl rfl ?_
  exact WL_nil ⟨(Ext.refl _), rfl⟩
 apply AnyR_val [10] rfl (by kernel_rfl)
 · --
  intro y13 hy13
  have zy13 := hy13.size
  refine AllV_v ?_
  refine AllV_nil ?_
  refine O_loadA (vs := [_, _]) S24 rfl rfl rfl ((b2.ext e3).ext hy13) rfl rfl ?_
  exact WL_nil ⟨(Ext.refl _), rfl⟩
 apply AnyR_val [2] rfl (by kernel_rfl)
 · --
  intro y14 hy14
  have zy14 := hy14.size
  refine AllV_nil ?_
  refine O_loadA (vs := [_, _, _]) S40 rfl rfl rfl (((b1.ext e2).ext e3).ext hy14) rfl rfl ?_
  exact WL_nil ⟨(Ext.refl _), rfl⟩
 apply AnyR_rel (RelP (pAgg [pEq _, pNo w3.heap.size 111 _])) [12] rfl (RelP.mono (pAgg_mono (PsM.cons pEq_mono (PsM.cons pNo_mono PsM.nil)))) (by kernel_rfl)
 · --
  intro y15 hy15
  have zy15 := hy15.size
  refine AllV_v ?_
  refine AllV_nil ?_
  refine O_call enters81 rfl rfl rfl (den07_c rfl (hp.ext (((e1.trans e2).trans e3).trans hy15)) (hq.ext (((e1.trans e2).trans e3).trans hy15)) (by first | with_reducible assumption | omega) (by first | with_reducible assumption | omega)) (fun v16 w16 e16 h16 => ?_)
  have z16 := e16.size
  try simp only [val_dig] at h16
  obtain ⟨q16, rfl, hq16⟩ := h16
  exact WL_nil ⟨e16, _, rfl, ⟨_, rfl, (AllP.cons rfl (AllP.cons (hq16.mono (by omega)) AllP.nil))⟩⟩
 apply AnyR_rel (RelP (pAgg [pEq _, pNo w3.heap.size 111 _])) [11, 13] rfl (RelP.mono (pAgg_mono (PsM.cons pEq_mono (PsM.cons pNo_mono PsM.nil)))) (by kernel_rfl)
 · --
  intro y17 hy17
  have zy17 := hy17.size
  refine AllV_v ?_
  refine AllV_r fun a18 b18 v18 la18 lb18 lc18 h18 ap18 => ?_
  clear ap18
  obtain ⟨_, rfl, v18_0, _, rfl, rfl, v18_1, _, rfl, h18_1, rfl⟩ := h18
  refine AllV_nil ?_
  refine O_call enters80 rfl rfl rfl (rimul_c rfl (hs.ext (((e1.trans e2).trans e3).trans hy17)) rfl h18_1.nl (by (try simp only [lens]); omega) (by (try simp only [lens]); omega)) (fun v19 w19 e19 h19 => ?_)
  have z19 := e19.size
  try simp only [val_dig] at h19
  obtain ⟨q19, rfl, hq19⟩ := h19
  exact WL_nil ⟨e19, _, rfl, ⟨_, rfl, (AllP.cons rfl (AllP.cons (hq19.mono (by omega)) AllP.nil))⟩⟩
 apply AnyR_rel (RelP (pAgg [pEq _, pNo w3.heap.size 111 _])) [9, 14] rfl (RelP.mono (pAgg_mono (PsM.cons pEq_mono (PsM.cons pNo_mono PsM.nil)))) (by kernel_rfl)
 · --
  intro y20 hy20
  have zy20 := hy20.size
  refine AllV_r fun a21 b21 v21 la21 lb21 lc21 h21 ap21 => ?_
  clear ap21
  obtain ⟨_, rfl, v21_0, _, rfl, rfl, v21_1, _, rfl, h21_1, rfl⟩ := h21
  refine AllV_r fun a22 b22 v22 la22 lb22 lc22 h22 ap22 => ?_
  clear ap22
  obtain ⟨_, rfl, v22_0, _, rfl, rfl, v22_1, _, rfl, h22_1, rfl⟩ := h22
  refine AllV_nil ?_
  refine O_call enters69 rfl rfl rfl (riadd_c rfl h21_1.nl rfl h22_1.nl (by (try simp only [lens]); omega) (by (try simp only [lens]); omega)) (fun v23 w23 e23 h23 => ?_)
  have z23 := e23.size
  try simp only [val_dig] at h23
  obtain ⟨q23, rfl, hq23⟩ := h23
  exact WL_nil ⟨e23, _, rfl, ⟨_, rfl, (AllP.cons rfl (AllP.cons (hq23.mono (by omega)) AllP.nil))⟩⟩
 apply AnyR_val [2] rfl (by kernel_rfl)
 · --
  intro y24 hy24
  have zy24 := hy24.size
  refine AllV_nil ?_
  refine O_loadA (vs := [_, _, _]) S40 rfl rfl rfl (((b1.ext e2).ext e3).ext hy24) rfl rfl ?_
  exact WL_nil ⟨(Ext.refl _), rfl⟩
 apply AnyR_rel (RelP (pAgg [pEq _, pNo w3.heap.size 111 _])) [16] rfl (RelP.mono (pAgg_mono (PsM.cons pEq_mono (PsM.cons pNo_mono PsM.nil)))) (by kernel_rfl)
 · --
  intro y25 hy25
  have zy25 := hy25.size
  refine AllV_v ?_
  refine AllV_nil ?_
  refine O_call enters81 rfl rfl rfl (den07_c rfl (hp.ext (((e1.trans e2).trans e3).trans hy25)) (hq.ext (((e1.trans e2).trans e3).trans hy25)) (by first | with_reducible assumption | omega) (by first | with_reducible assumption | omega)) (fun v26 w26 e26 h26 => ?_)
  have z26 := e26.size
  try simp only [val_dig] at h26
  obtain ⟨q26, rfl, hq26⟩ := h26
  exact WL_nil ⟨e26, _, rfl, ⟨_, rfl, (AllP.cons rfl (AllP.cons (hq26.mono (by omega)) AllP.nil))⟩⟩
 apply AnyR_val [3] rfl (by kernel_rfl)
 · --
  intro y27 hy27
  have zy27 := hy27.size
  refine AllV_nil ?_
  refine O_loadA (vs := [_, _, _]) S40 rfl rfl rfl ((b2.ext e3).ext hy27) rfl rfl ?_
  exact WL_nil ⟨(Ext.refl _), rfl⟩
 refine AnyR_nil fun y28 hy28 => ?_
 have zy28 := hy28.size
 refine AllV_v ?_
 refine AllV_v ?_
 refine AllV_v ?_
 refine AllV_r fun a29 b29 v29 la29 lb29 lc29 h29 ap29 => ?_
 clear ap29
 obtain ⟨_, rfl, v29_0, _, rfl, rfl, v29_1, _, rfl, h29_1, rfl⟩ := h29
 refine AllV_r fun a30 b30 v30 la30 lb30 lc30 h30 ap30 => ?_
 clear ap30
 obtain ⟨_, rfl, v30_0, _, rfl, rfl, v30_1, _, rfl, h30_1, rfl⟩ := h30
 refine AllV_v ?_
 refine AllV_v ?_
 refine AllV_v ?_
 refine AllV_r fun a31 b31 v31 la31 lb31 lc31 h31 ap31 => ?_
 clear ap31
 obtain ⟨_, rfl, v31_0, _, rfl, rfl, v31_1, _, rfl, h31_1, rfl⟩ := h31
 refine AllV_r fun a32 b32 v32 la32 lb32 lc32 h32 ap32 => ?_
 clear ap32
 obtain ⟨_, rfl, v32_0, _, rfl, rfl, v32_1, _, rfl, h32_1, rfl⟩ := h32
 refine AllV_r fun a33 b33 v33 la33 lb33 lc33 h33 ap33 => ?_
 clear ap33
 obtain ⟨_, rfl, v33_0, _, rfl, rfl, v33_1, _, rfl, h33_1, rfl⟩ := h33
 refine AllV_v ?_
 refine AllV_r fun a34 b34 v34 la34 lb34 lc34 h34 ap34 => ?_
 clear ap34
 obtain ⟨_, rfl, v34_0, _, rfl, rfl, v34_1, _, rfl, h34_1, rfl⟩ := h34
 refine AllV_v ?_
 refine AllV_nil ?_
 refine O_call enters81 rfl rfl rfl (den07_c rfl (hs.ext (((e1.trans e2).trans e3).trans hy28)) (ht.ext (((e1.trans e2).trans e3).trans hy28)) (by first | with_reducible assumption | omega) (by first | with_reducible assumption | omega)) (fun v35 w35 e35 h35 => ?_)
 have z35 := e35.size
 try simp only [val_dig] at h35
 obtain ⟨q35, rfl, hq35⟩ := h35
 refine O_call enters80 rfl rfl rfl (rimul_c rfl (h34_1.ext e35).nl rfl hq35.nl (by (try simp only [lens]); omega) (by (try simp only [lens]); omega)) (fun v36 w36 e36 h36 => ?_)
 have z36 := e36.size
 try simp only [val_dig] at h36
 obtain ⟨q36, rfl, hq36⟩ := h36
 refine O_call enters127 rfl rfl rfl (of07_c rfl ((h33_1.ext e35).ext e36).nl rfl hq36.nl (by (try simp only [lens]); omega) (by (try simp only [lens]); omega) (by first | assumption | omega)) (fun v37 w37 e37 h37 => ?_)
 have z37 := e37.size
 try simp only [val_dig] at h37
 obtain ⟨rq37, rs37, rfl, hrq37, hrs37⟩ := h37
 refine O_storeA (cs' := [_, _, _]) S40 rfl rfl rfl ((((b3.ext hy28).ext e35).ext e36).ext e37) rfl rfl (one_cons rfl (one_cons (hrq37.nl).one (one_cons (hrs37.nl).one one_nil))) rfl (fun w38 b38 q38 => ?_)
 have z38 := Nat.le_of_eq q38.size.symm
 have e38 : Ext w w38 := q38.ext ((((((e1.trans e2).trans e3).trans hy28).trans e35).trans e36).trans e37) (by omega)
 refine WL_end [(4, _)] ⟨rfl, trivial⟩ ?_
 refine WP_ret ?_
 refine retL Tryd.results77 (.cell rfl S40 b38 rfl .nil) ?_
 exact ⟨_, rfl, e38, _, _, rfl, (hrq37.chgBk ((((b3.ext hy28).ext e35).ext e36).ext e37) (by decide) q38).mono (by omega), (hrs37.chgBk ((((b3.ext hy28).ext e35).ext e36).ext e37) (by decide) q38).mono (by omega)⟩

set_option maxHeartbeats 1000000 in
theorem sub07_c {w : World} {vp vq : Value} {p : Int} {q : Nat} {bp : Bool} (hbp : bp = decide (p < 0)) (hp : Nl w vp (dig p.natAbs)) (hq : Nl w vq (dig q)) (hlp : (dig p.natAbs).length ≤ 20000) (hlq : (dig q).length ≤ 20000) {vs vt : Value} {s : Int} {t : Nat} {bs : Bool} (hbs : bs = decide (s < 0)) (hs : Nl w vs (dig s.natAbs)) (ht : Nl w vt (dig t)) (hls : (dig s.natAbs).length ≤ 20000) (hlt : (dig t).length ≤ 20000) (h0 : (q : Int) * (t : Int) ≠ 0) :
    Calls Tryd.prog 25 #[.agg #[.bool bp, vp, vq], .agg #[.bool bs, vs, vt]] w (Ret w fun r w' => ∃ a b, r = .agg #[.bool (decide (lown (p * (t : Int) + -s * (q : Int)) ((q : Int) * (t : Int)) < 0)), a, b] ∧ No w.heap.size 111 w' a (dig (lown (p * (t : Int) + -s * (q : Int)) ((q : Int) * (t : Int))).natAbs) ∧ No w.heap.size 111 w' b (dig (lowd (p * (t : Int) + -s * (q : Int)) ((q : Int) * (t : Int))))) := by
 subst hbp
 subst hbs
 have k1 := neg_len hls
 refine enter (args := [_, _]) Tryd.func25 rfl Tryd.ntmps25 rfl ?_
 refine WP_seq ?_
 refine WP_region ?_
 refine O_box _ rfl rfl rfl rfl (fun g1 w1 b1 e1 gl1 gh1 => ?_)
 have z1 := e1.size
 refine O_box _ rfl rfl rfl rfl (fun g2 w2 b2 e2 gl2 gh2 => ?_)
 have z2 := e2.size
 refine O_alloc S40 rfl rfl (fun g3 w3 b3 e3 gl3 gh3 => ?_)
 have z3 := e3.size
 refine WL_end [(2, _), (3, _), (4, _)] ⟨rfl, rfl, rfl, trivial⟩ ?_
 refine WP_seq ?_
 refine WP_sub [(2, _), (3, _), (4, _)] ⟨rfl, rfl, rfl, trivial⟩ ?_
 refine WP_anyR 3 [2, 3, 4] mixed rfl (by kernel_rfl) ?_
 apply AnyR_val [2] rfl (by kernel_rfl)
 · --
  intro y4 hy4
  have zy4 := hy4.size
  refine AllV_nil ?_
  refine O_loadA (vs := [_, _, _]) S40 rfl rfl rfl (((b1.ext e2).ext e3).ext hy4) rfl rfl ?_
  exact WL_nil ⟨(Ext.refl _), rfl⟩
 apply AnyR_val [3] rfl (by kernel_rfl)
 · --
  intro y5 hy5
  have zy5 := hy5.size
  refine AllV_nil ?_
  refine O_loadA (vs := [_, _, _]) S40 rfl rfl rfl ((b2.ext e3).ext hy5) rfl rfl ?_
  exact WL_nil ⟨(Ext.refl _), rfl⟩
 apply AnyR_rel (RelP (pAgg [pEq _, pNl _, pNl _])) [6] rfl (RelP.mono (pAgg_mono (PsM.cons pEq_mono (PsM.cons pNl_mono (PsM.cons pNl_mono PsM.nil))))) (by kernel_rfl)
 · --
  intro y6 hy6
  have zy6 := hy6.size
  refine AllV_v ?_
  refine AllV_nil ?_
  refine O_call enters28 rfl rfl rfl (rneg07_c rfl (hs.ext (((e1.trans e2).trans e3).trans hy6)) (ht.ext (((e1.trans e2).trans e3).trans hy6)) (by first | with_reducible assumption | omega) (by first | with_reducible assumption | omega)) (fun v7 w7 e7 h7 => ?_)
  have z7 := e7.size
  try simp only [val_dig] at h7
  obtain ⟨rq7, rs7, rfl, hrq7, hrs7⟩ := h7
  exact WL_nil ⟨e7, _, rfl, ⟨_, rfl, (AllP.cons rfl (AllP.cons hrq7 (AllP.cons hrs7 AllP.nil)))⟩⟩
 refine AnyR_nil fun y8 hy8 => ?_
 have zy8 := hy8.size
 refine AllV_v ?_
 refine AllV_v ?_
 refine AllV_r fun a9 b9 v9 la9 lb9 lc9 h9 ap9 => ?_
 clear ap9
 obtain ⟨_, rfl, v9_0, _, rfl, rfl, v9_1, _, rfl, h9_1, v9_2, _, rfl, h9_2, rfl⟩ := h9
 refine AllV_nil ?_
 refine O_call enters77 rfl rfl rfl (add07_c rfl (hp.ext (((e1.trans e2).trans e3).trans hy8)) (hq.ext (((e1.trans e2).trans e3).trans hy8)) (by first | with_reducible assumption | omega) (by first | with_reducible assumption | omega) rfl h9_1 h9_2 (by first | with_reducible assumption | omega) (by first | with_reducible assumption | omega) (by first | assumption | omega)) (fun v10 w10 e10 h10 => ?_)
 have z10 := e10.size
 try simp only [val_dig] at h10
 obtain ⟨rq10, rs10, rfl, hrq10, hrs10⟩ := h10
 refine O_storeA (cs' := [_, _, _]) S40 rfl rfl rfl ((b3.ext hy8).ext e10) rfl rfl (one_cons rfl (one_cons (hrq10.nl).one (one_cons (hrs10.nl).one one_nil))) rfl (fun w11 b11 q11 => ?_)
 have z11 := Nat.le_of_eq q11.size.symm
 have e11 : Ext w w11 := q11.ext ((((e1.trans e2).trans e3).trans hy8).trans e10) (by omega)
 refine WL_end [(4, _)] ⟨rfl, trivial⟩ ?_
 refine WP_ret ?_
 refine retL Tryd.results25 (.cell rfl S40 b11 rfl .nil) ?_
 exact ⟨_, rfl, e11, _, _, rfl, (hrq10.chgBk ((b3.ext hy8).ext e10) (by decide) q11).mono (by omega), (hrs10.chgBk ((b3.ext hy8).ext e10) (by decide) q11).mono (by omega)⟩

theorem sign07_c {w : World} {vp vq : Value} {p : Int} {q : Nat} {bp : Bool} (hbp : bp = decide (p < 0)) (hp : Nl w vp (dig p.natAbs)) (hq : Nl w vq (dig q)) (hlp : (dig p.natAbs).length ≤ 30000) (hlq : (dig q).length ≤ 30000) :
    Calls Tryd.prog 26 #[.agg #[.bool bp, vp, vq]] w (Ret w fun r _ => r = .int .i64 p.sign) := by
 subst hbp
 refine enter (args := [_]) Tryd.func26 rfl Tryd.ntmps26 rfl ?_
 refine WP_seq ?_
 refine WP_region ?_
 refine O_box _ rfl rfl rfl rfl (fun g1 w1 b1 e1 gl1 gh1 => ?_)
 have z1 := e1.size
 refine O_assign rfl rfl rfl ?_
 refine WL_end [(1, _)] ⟨rfl, trivial⟩ ?_
 refine WP_seq ?_
 refine WP_region ?_
 refine O_field F40_0 rfl rfl rfl ?_
 refine O_loadA (vs := [_, _]) S24 rfl rfl rfl b1 rfl rfl ?_
 refine O_call enters78 rfl rfl rfl (risign_c rfl (hp.ext e1) (by (try simp only [lens]); omega)) (fun v2 w2 e2 h2 => ?_)
 have z2 := e2.size
 obtain rfl := h2
 refine O_assign rfl rfl rfl ?_
 refine WL_end [(2, _)] ⟨rfl, trivial⟩ ?_
 refine WP_ret ?_
 refine ret1 Tryd.results26 rfl ?_
 exact ⟨_, rfl, (e1.trans e2), rfl⟩

theorem rdratO_p {w : World} {vx : Value} {x : Int} {bx : Bool} (hbx : bx = decide (x < 0)) (hx : No 0 111 w vx (dig x.natAbs)) (hlx : (dig x.natAbs).length ≤ 30000) {k : Nat} (hk : k ≤ 200000) :
    Calls Tryd.prog 24 #[.agg #[.bool bx, vx, .int .i64 (k : Nat)]] w (Ret w fun r w' => ∃ q s, r = .agg #[.bool (decide (rnum x (k : Int) < 0)), q, s] ∧ No 0 111 w' q (dig (rnum x (k : Int)).natAbs) ∧ No 0 111 w' s (dig (rden (k : Int)))) := by
 subst hbx
 refine enter (args := [_]) Tryd.func24 rfl Tryd.ntmps24 rfl ?_
 refine WP_seq ?_
 refine WP_region ?_
 refine O_box _ rfl rfl rfl rfl (fun g1 w1 b1 e1 gl1 gh1 => ?_)
 have z1 := e1.size
 refine O_alloc S40 rfl rfl (fun g2 w2 b2 e2 gl2 gh2 => ?_)
 have z2 := e2.size
 refine WL_end [(1, _), (2, _)] ⟨rfl, rfl, trivial⟩ ?_
 refine WP_seq ?_
 refine WP_seq ?_
 refine WP_region ?_
 refine O_field F26_1 rfl rfl rfl ?_
 refine O_loadC Tryd.underlying3 rfl rfl rfl rfl (b1.ext e2) rfl ?_
 refine O_geq (t := true) rfl rfl rfl rfl (decide_eq_true (Int.natCast_nonneg k)) ?_
 refine WL_end [(1, _), (2, _), (5, _)] ⟨rfl, rfl, rfl, trivial⟩ ?_
 refine WP_condT rfl ?_
 refine WP_seq ?_
 refine WP_region ?_
 refine O_field F26_0 rfl rfl rfl ?_
 refine O_loadA (vs := [_, _]) S24 rfl rfl rfl (b1.ext e2) rfl rfl ?_
 refine O_field F26_1 rfl rfl rfl ?_
 refine O_loadC Tryd.underlying3 rfl rfl rfl rfl (b1.ext e2) rfl ?_
 refine O_call enters74 rfl rfl rfl (rishl_c rfl (hx.ext (e1.trans e2)).nl (by (try simp only [lens]); omega) (by (try simp only [lens]); omega)) (fun v3 w3 e3 h3 => ?_)
 have z3 := e3.size
 try simp only [val_dig] at h3
 obtain ⟨q3, rfl, hq3⟩ := h3
 refine O_call enters75 rfl rfl rfl (rof_c 1 (by decide)) (fun v4 w4 e4 h4 => ?_)
 have z4 := e4.size
 try simp only [val_dig] at h4
 refine O_build (cs := [_, _, _]) B40 rfl rfl rfl (cells_cons rfl (cells_cons (h4.nl).cells1 cells_nil)) rfl ?_
 refine O_storeA (cs' := [_, _, _]) S40 rfl rfl rfl ((b2.ext e3).ext e4) rfl rfl (one_cons rfl (one_cons ((hq3.ext e4).nl).one (one_cons (h4.nl).one one_nil))) rfl (fun w5 b5 q5 => ?_)
 have z5 := Nat.le_of_eq q5.size.symm
 have e5 : Ext w w5 := q5.ext (((e1.trans e2).trans e3).trans e4) (by omega)
 refine WL_end [(2, _)] ⟨rfl, trivial⟩ ?_
 refine WP_ret ?_
 refine retL Tryd.results24 (.cell rfl S40 b5 rfl .nil) ?_
 have h1 : rnum x (k : Int) = x * 2 ^ k := by unfold rnum; rw [if_pos (Int.natCast_nonneg k), Int.toNat_natCast]
 have h2 : rden (k : Int) = 1 := if_pos (Int.natCast_nonneg k)
 rw [h1, h2]
 exact ⟨_, rfl, e5, _, _, rfl, ((hq3.ext e4).chgBk ((b2.ext e3).ext e4) (by decide) q5).mono (Nat.zero_le _), (h4.chgBk ((b2.ext e3).ext e4) (by decide) q5).mono (Nat.zero_le _)⟩

theorem rdratO_n {w : World} {vx : Value} {x : Int} {bx : Bool} (hbx : bx = decide (x < 0)) (hx : No 0 111 w vx (dig x.natAbs)) (hlx : (dig x.natAbs).length ≤ 30000) {k : Nat} (hk : k ≤ 200000) (hk0 : 0 < k) :
    Calls Tryd.prog 24 #[.agg #[.bool bx, vx, .int .i64 (-((k : Nat) : Int))]] w (Ret w fun r w' => ∃ q s, r = .agg #[.bool (decide (rnum x (-((k : Nat) : Int)) < 0)), q, s] ∧ No 0 111 w' q (dig (rnum x (-((k : Nat) : Int))).natAbs) ∧ No 0 111 w' s (dig (rden (-((k : Nat) : Int))))) := by
 subst hbx
 have hd1 : (dig 1).length ≤ 1 := dig_len_of_lt (by decide)
 have hd2 := dig_len_two k
 refine enter (args := [_]) Tryd.func24 rfl Tryd.ntmps24 rfl ?_
 refine WP_seq ?_
 refine WP_region ?_
 refine O_box _ rfl rfl rfl rfl (fun g1 w1 b1 e1 gl1 gh1 => ?_)
 have z1 := e1.size
 refine O_alloc S40 rfl rfl (fun g2 w2 b2 e2 gl2 gh2 => ?_)
 have z2 := e2.size
 refine WL_end [(1, _), (2, _)] ⟨rfl, rfl, trivial⟩ ?_
 refine WP_seq ?_
 refine WP_seq ?_
 refine WP_region ?_
 refine O_field F26_1 rfl rfl rfl ?_
 refine O_loadC Tryd.underlying3 rfl rfl rfl rfl (b1.ext e2) rfl ?_
 refine O_geq (t := false) rfl rfl rfl rfl (decide_eq_false (by omega)) ?_
 refine WL_end [(1, _), (2, _), (5, _)] ⟨rfl, rfl, rfl, trivial⟩ ?_
 refine WP_condF rfl ?_
 refine WP_skip ?_
 refine WP_seq ?_
 refine WP_sub [(1, _), (2, _)] ⟨rfl, rfl, trivial⟩ ?_
 refine WP_anyR 6 [1, 2] mixed rfl (by kernel_rfl) ?_
 apply AnyR_val [1] rfl (by kernel_rfl)
 · --
  intro y3 hy3
  have zy3 := hy3.size
  refine AllV_nil ?_
  refine O_field F26_0 rfl rfl rfl ?_
  exact WL_nil ⟨(Ext.refl _), rfl⟩
 apply AnyR_val [13] rfl (by kernel_rfl)
 · --
  intro y4 hy4
  have zy4 := hy4.size
  refine AllV_v ?_
  refine AllV_nil ?_
  refine O_loadA (vs := [_, _]) S24 rfl rfl rfl ((b1.ext e2).ext hy4) rfl rfl ?_
  exact WL_nil ⟨(Ext.refl _), rfl⟩
 apply AnyR_val [1] rfl (by kernel_rfl)
 · --
  intro y5 hy5
  have zy5 := hy5.size
  refine AllV_nil ?_
  refine O_field F26_1 rfl rfl rfl ?_
  exact WL_nil ⟨(Ext.refl _), rfl⟩
 apply AnyR_val [15] rfl (by kernel_rfl)
 · --
  intro y6 hy6
  have zy6 := hy6.size
  refine AllV_v ?_
  refine AllV_nil ?_
  refine O_loadC Tryd.underlying3 rfl rfl rfl rfl ((b1.ext e2).ext hy6) rfl ?_
  exact WL_nil ⟨(Ext.refl _), rfl⟩
 apply AnyR_val [16] rfl (by kernel_rfl)
 · --
  intro y7 hy7
  have zy7 := hy7.size
  refine AllV_v ?_
  refine AllV_nil ?_
  refine O_neg (r := ((k : Nat) : Int)) rfl rfl rfl (by rw [IntKind.wrap_i64]; omega) ?_
  exact WL_nil ⟨(Ext.refl _), rfl⟩
 apply AnyR_no [17] rfl (by kernel_rfl)
 · --
  intro y8 hy8
  have zy8 := hy8.size
  refine AllV_v ?_
  refine AllV_nil ?_
  refine O_call enters76 rfl rfl rfl (one08_c (by (try simp only [lens]); omega)) (fun v9 w9 e9 h9 => ?_)
  have z9 := e9.size
  try simp only [val_dig] at h9
  exact WL_nil ⟨e9, _, rfl, NoR.mk' h9⟩
 refine AnyR_nil fun y10 hy10 => ?_
 have zy10 := hy10.size
 refine AllV_v ?_
 refine AllV_v ?_
 refine AllV_v ?_
 refine AllV_v ?_
 refine AllV_v ?_
 refine AllV_r fun a11 b11 v11 la11 lb11 lc11 h11 ap11 => ?_
 clear ap11
 refine AllV_nil ?_
 refine O_build (cs := [_, _, _]) B40 rfl rfl rfl (cells_cons rfl (cells_cons (h11.1.nl).cells1 cells_nil)) rfl ?_
 refine O_storeA (cs' := [_, _, _]) S40 rfl rfl rfl (b2.ext hy10) rfl rfl (one_cons rfl (one_cons ((hx.ext ((e1.trans e2).trans hy10)).nl).one (one_cons (h11.1.nl).one one_nil))) rfl (fun w12 b12 q12 => ?_)
 have z12 := Nat.le_of_eq q12.size.symm
 have e12 : Ext w w12 := q12.ext ((e1.trans e2).trans hy10) (by omega)
 refine WL_end [(2, _)] ⟨rfl, trivial⟩ ?_
 refine WP_ret ?_
 refine retL Tryd.results24 (.cell rfl S40 b12 rfl .nil) ?_
 have h1 : rnum x (-((k : Nat) : Int)) = x := if_neg (by omega)
 have h2 : rden (-((k : Nat) : Int)) = 2 ^ k := by unfold rden; rw [if_neg (by omega), Int.neg_neg, Int.toNat_natCast]
 rw [h1, h2]
 exact ⟨_, rfl, e12, _, _, rfl, (hx.ext e12).mono (Nat.zero_le _), (h11.1.chgBk (b2.ext hy10) (by decide) q12).mono (Nat.zero_le _)⟩

theorem rdratO_c {w : World} {vx : Value} {x e : Int} {bx : Bool} (hbx : bx = decide (x < 0)) (hx : No 0 111 w vx (dig x.natAbs)) (hlx : (dig x.natAbs).length ≤ 30000) (he1 : -200000 ≤ e) (he2 : e ≤ 200000) : Calls Tryd.prog 24 #[.agg #[.bool bx, vx, .int .i64 e]] w (Ret w fun r w' => ∃ q s, r = .agg #[.bool (decide (rnum x e < 0)), q, s] ∧ No 0 111 w' q (dig (rnum x e).natAbs) ∧ No 0 111 w' s (dig (rden e))) := by
  by_cases h0 : 0 ≤ e
  · obtain ⟨k, rfl⟩ : ∃ k : Nat, e = (k : Int) := ⟨e.toNat, by omega⟩
    exact rdratO_p hbx hx hlx (by omega)
  · obtain ⟨k, rfl⟩ : ∃ k : Nat, e = -(k : Int) := ⟨(-e).toNat, by omega⟩
    exact rdratO_n hbx hx hlx (by omega) (by omega)

end Go.Proofs.YthbfhljpfkicpaaDoor
