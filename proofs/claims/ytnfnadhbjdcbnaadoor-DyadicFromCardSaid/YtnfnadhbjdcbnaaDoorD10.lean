/-
  Walks.
-/
import Derived.Test.YtnfnadhbjdcbnaaDoorD8
set_option linter.unusedVariables false
set_option linter.unusedSimpArgs false
set_option maxRecDepth 100000
namespace Go.Proofs.YtnfnadhbjdcbnaaDoor
open Go Go.RowKit
/-- The order of intervals. -/
def ivcmp (x e y f z g u h : Int) : Int := if dcmp y f z g < 0 then -1 else if 0 < dcmp x e u h then 1 else 0
theorem dcmp_bd (x e y f : Int) : -1 ≤ dcmp x e y f ∧ dcmp x e y f ≤ 1 := icmp_bd _ _
theorem ivcmp_bd (x e y f z g u h : Int) : -1 ≤ ivcmp x e y f z g u h ∧ ivcmp x e y f z g u h ≤ 1 := by unfold ivcmp; split <;> (try split) <;> omega
theorem dval_K {x e : Int} (h : dval x e = true) : -((70000 : Nat) : Int) ≤ e := by have := dval_range h; omega
/-- A value on the scale that serves all dyadics. -/
def sw (x e : Int) : Int := sv 70000 x e
theorem sw_dcmp {x e y f : Int} (hx : dval x e = true) (hy : dval y f = true) : dcmp x e y f = icmp (sw x e) (sw y f) := sv_dcmp (dval_K hx) (dval_K hy)
theorem sw_zero : sw 0 0 = 0 := sv_zero _ _
theorem sw_sign (x e : Int) : x.sign = icmp (sw x e) 0 := by
  unfold sw sv
  have hp := ipow_pos (e + ((70000 : Nat) : Int)).toNat
  generalize (2 : Int) ^ (e + ((70000 : Nat) : Int)).toNat = P at *
  rw [← icmp_sign, Int.sub_zero, Int.sign_mul, Int.sign_eq_one_of_pos hp, Int.mul_one]
theorem ivcmp_swap {x e y f z g u h : Int} (hx : dval x e = true) (hy : dval y f = true) (hz : dval z g = true) (hu : dval u h = true) (h1 : dcmp x e y f ≤ 0) (h2 : dcmp z g u h ≤ 0) : ivcmp z g u h x e y f = -ivcmp x e y f z g u h := by
  unfold ivcmp
  rw [sw_dcmp hx hy] at h1
  rw [sw_dcmp hz hu] at h2
  rw [sw_dcmp hu hx, sw_dcmp hz hy, sw_dcmp hy hz, sw_dcmp hx hu]
  rw [icmp_pos] at h1 h2
  simp only [icmp_lt, icmp_gt]
  split <;> split <;> (try split) <;> (try split) <;> omega
theorem sign_ivcmp {x e y f : Int} (hx : dval x e = true) (hy : dval y f = true) (h1 : dcmp x e y f ≤ 0) : decide (ivcmp x e y f 0 0 0 0 = 0) = (if x.sign = y.sign then decide (x.sign = 0) else true) := by
  unfold ivcmp
  rw [sw_dcmp hx hy, icmp_pos] at h1
  rw [sw_dcmp hy dval_zero, sw_dcmp hx dval_zero, sw_zero]
  rw [sw_sign x e, sw_sign y f]
  simp only [icmp_lt, icmp_gt]
  generalize sw x e = A at *
  generalize sw y f = B at *
  have k : ∀ a b : Int, icmp a b = if a < b then -1 else if b < a then 1 else 0 := fun _ _ => rfl
  simp only [k]
  by_cases a1 : A < 0 <;> by_cases a2 : 0 < A <;> by_cases b1 : B < 0 <;> by_cases b2 : 0 < B <;> simp [a1, a2, b1, b2] <;> omega
theorem made0 : dman 0 0 = 0 ∧ dexp 0 0 = 0 := (dval_made dval_zero).2
theorem made1 : dman 1 0 = 1 ∧ dexp 1 0 = 0 := (dval_made (show dval 1 0 = true by decide)).2
theorem made3 : dman 3 0 = 3 ∧ dexp 3 0 = 0 := (dval_made (show dval 3 0 = true by decide)).2
theorem made2 : dman 2 0 = 1 ∧ dexp 2 0 = 1 := by
  have h1 := dcode_shl (x := 1) (e := 1) (k := 1) (by decide) (by decide) (by decide)
  have h2 := dval_made (show dval 1 1 = true by decide)
  exact ⟨h1.2.1.trans h2.2.1, h1.2.2.trans h2.2.2⟩

theorem rnum_sign (x e : Int) : decide (rnum x e < 0) = decide (x < 0) := by unfold rnum; split; exact mul_two_neg _ _; rfl
theorem mkf (n : Nat) : mk false n = (n : Int) := rfl
theorem rnum_len {x e : Int} {a : Nat} (h : (dig x.natAbs).length ≤ a) (he : e ≤ 200000) : (dig (rnum x e).natAbs).length ≤ a + 6251 := by
  unfold rnum; split
  · have := shl_len' (k := e.toNat) h; omega
  · omega
theorem rden_len {e : Int} (he : -200000 ≤ e) : (dig (rden e)).length ≤ 6252 := by
  unfold rden; split
  · exact Nat.le_trans (dig_len_of_lt (show 1 < 4294967296 ^ 1 by decide)) (by decide)
  · have := dig_len_two (-e).toNat; omega
theorem cross_len {p : Int} {q a b : Nat} (hp : (dig p.natAbs).length ≤ a) (hq : (dig q).length ≤ b) : (dig (p * (q : Int)).natAbs).length ≤ a + b := by
  have := dig_len_mul p.natAbs q
  rw [Int.natAbs_mul, Int.natAbs_natCast]; omega
/-- Whether an interval holds a fraction. -/
def hasv (x e y f p : Int) (q : Nat) : Bool := decide (icmp (rnum x e * (q : Int)) (p * (rden e : Nat)) ≤ 0) && decide (icmp (p * (rden f : Nat)) (rnum y f * (q : Int)) ≤ 0)
def withinv (x e y f z g u h : Int) : Bool := decide (dcmp z g x e ≤ 0) && decide (dcmp y f u h ≤ 0)
def samev (x e y f z g u h : Int) : Bool := decide (x = z ∧ e = g) && decide (y = u ∧ f = h)
theorem dcmp_same {x e z g : Int} (hx : dval x e = true) (hz : dval z g = true) : dcmp x e z g = 0 ↔ (x = z ∧ e = g) := by
  rw [sw_dcmp hx hz, icmp_zero]
  exact ⟨fun h => dval_same hx hz (dval_K hx) (dval_K hz) h, fun ⟨a, b⟩ => by rw [a, b]⟩
theorem abs_sign_inj {x z : Int} (h : decide (x < 0) = decide (z < 0)) (h2 : x.natAbs = z.natAbs) : x = z := by
  have := mk_self x; rw [h, h2, mk_self] at this; exact this.symm
theorem hasv_eq {x e y f p : Int} {q : Nat} (hx : dval x e = true) (hy : dval y f = true) : hasv x e y f p q = (decide (sw x e * q ≤ p * 2 ^ 70000) && decide (p * 2 ^ 70000 ≤ sw y f * q)) := by
  unfold hasv
  have h1 : icmp (rnum x e * (q : Int)) (p * (rden e : Nat)) ≤ 0 ↔ sw x e * q ≤ p * 2 ^ 70000 := by rw [rat_le (dval_K hx), icmp_pos]; rfl
  have h2 : icmp (p * (rden f : Nat)) (rnum y f * (q : Int)) ≤ 0 ↔ p * 2 ^ 70000 ≤ sw y f * q := by
    have h3 := rat_le (x := y) (p := p) (q := q) (dval_K hy)
    rw [icmp_neg, h3]
    have h4 := icmp_ge (a := sv 70000 y f * q) (b := p * 2 ^ 70000)
    exact ⟨fun h => h4.1 (by omega), fun h => by have := h4.2 h; omega⟩
  rw [decide_eq_decide.2 h1, decide_eq_decide.2 h2]

theorem one08_c {w : World} {k : Nat} (hk : k ≤ 200000) :
    Calls Tryd.prog 82 #[.int .i64 (k : Nat)] w (Ret w fun r w' => No w.heap.size 89 w' r (dig (2 ^ k))) := by
 have hd1 : (dig 1).length ≤ 1 := dig_len_of_lt (by decide)
 have hd2 := dig_len_two k
 refine enter (args := [_]) Tryd.func82 rfl Tryd.ntmps82 rfl ?_
 refine WP_seq ?_
 refine WP_region ?_
 refine O_assign rfl rfl rfl ?_
 refine WL_end [(0, _)] ⟨rfl, trivial⟩ ?_
 refine WP_seq ?_
 refine WP_region ?_
 refine O_call enters76 rfl rfl rfl (rof_c 1 (by decide)) (fun v1 w1 e1 h1 => ?_)
 have z1 := e1.size
 try simp only [val_dig] at h1
 refine O_move rfl rfl rfl ?_
 refine O_call enters57 rfl rfl rfl (rshl_c h1.nl (by (try simp only [lens]); omega) (by (try simp only [lens]); omega)) (fun v2 w2 e2 h2 => ?_)
 have z2 := e2.size
 try simp only [val_dig] at h2
 rw [Nat.one_mul] at h2
 refine O_assign rfl rfl rfl ?_
 refine WL_end [(2, _)] ⟨rfl, trivial⟩ ?_
 refine WP_ret ?_
 refine ret1 Tryd.results82 rfl ?_
 exact ⟨_, rfl, (e1.trans e2), h2.mono (by omega)⟩

theorem drat_p {w : World} {vx : Value} {x : Int} {bx : Bool} (hbx : bx = decide (x < 0)) (hx : Nl w vx (dig x.natAbs)) (hlx : (dig x.natAbs).length ≤ 30000) {k : Nat} (hk : k ≤ 200000) :
    Calls Tryd.prog 34 #[.agg #[.bool bx, vx, .int .i64 (k : Nat)]] w (Ret w fun r w' => ∃ q s, r = .agg #[.bool (decide (rnum x (k : Int) < 0)), q, s] ∧ Nl w' q (dig (rnum x (k : Int)).natAbs) ∧ Nl w' s (dig (rden (k : Int)))) := by
 subst hbx
 refine enter (args := [_]) Tryd.func34 rfl Tryd.ntmps34 rfl ?_
 refine WP_seq ?_
 refine WP_region ?_
 refine O_box _ rfl rfl rfl rfl (fun g1 w1 b1 e1 gl1 gh1 => ?_)
 have z1 := e1.size
 refine O_alloc S51 rfl rfl (fun g2 w2 b2 e2 gl2 gh2 => ?_)
 have z2 := e2.size
 refine WL_end [(1, _), (2, _)] ⟨rfl, rfl, trivial⟩ ?_
 refine WP_seq ?_
 refine WP_seq ?_
 refine WP_region ?_
 refine O_field F26_1 rfl rfl rfl ?_
 refine O_loadC Tryd.underlying3 rfl rfl rfl rfl (b1.ext e2) rfl ?_
 refine O_geq (t := true) rfl rfl rfl rfl (decide_eq_true (Int.natCast_nonneg k)) ?_
 refine WL_end [(1, _), (2, _), (5, _)] ⟨rfl, rfl, rfl, trivial⟩ ?_
 refine WP_condT rfl ?_
 refine WP_seq ?_
 refine WP_region ?_
 refine O_field F26_0 rfl rfl rfl ?_
 refine O_loadA (vs := [_, _]) S24 rfl rfl rfl (b1.ext e2) rfl rfl ?_
 refine O_field F26_1 rfl rfl rfl ?_
 refine O_loadC Tryd.underlying3 rfl rfl rfl rfl (b1.ext e2) rfl ?_
 refine O_call enters78 rfl rfl rfl (ishl_c rfl (hx.ext (e1.trans e2)) (by (try simp only [lens]); omega) (by (try simp only [lens]); omega)) (fun v3 w3 e3 h3 => ?_)
 have z3 := e3.size
 try simp only [val_dig] at h3
 obtain ⟨q3, rfl, hq3⟩ := h3
 refine O_call enters79 rfl rfl rfl (of_c 1 (by decide)) (fun v4 w4 e4 h4 => ?_)
 have z4 := e4.size
 try simp only [val_dig] at h4
 refine O_build (cs := [_, _, _]) B51 rfl rfl rfl (cells_cons rfl (cells_cons (h4.nl).cells1 cells_nil)) rfl ?_
 refine O_storeA (cs' := [_, _, _]) S51 rfl rfl rfl ((b2.ext e3).ext e4) rfl rfl (one_cons rfl (one_cons ((hq3.ext e4).nl).one (one_cons (h4.nl).one one_nil))) rfl (fun w5 b5 q5 => ?_)
 have z5 := Nat.le_of_eq q5.size.symm
 have e5 : Ext w w5 := q5.ext (((e1.trans e2).trans e3).trans e4) (by omega)
 refine WL_end [(2, _)] ⟨rfl, trivial⟩ ?_
 refine WP_ret ?_
 refine retL Tryd.results34 (.cell rfl S51 b5 rfl .nil) ?_
 have h1 : rnum x (k : Int) = x * 2 ^ k := by unfold rnum; rw [if_pos (Int.natCast_nonneg k), Int.toNat_natCast]
 have h2 : rden (k : Int) = 1 := if_pos (Int.natCast_nonneg k)
 rw [h1, h2]
 exact ⟨_, rfl, e5, _, _, rfl, ((hq3.ext e4).chgBk ((b2.ext e3).ext e4) (by decide) q5).nl, (h4.chgBk ((b2.ext e3).ext e4) (by decide) q5).nl⟩

theorem drat_n {w : World} {vx : Value} {x : Int} {bx : Bool} (hbx : bx = decide (x < 0)) (hx : Nl w vx (dig x.natAbs)) (hlx : (dig x.natAbs).length ≤ 30000) {k : Nat} (hk : k ≤ 200000) (hk0 : 0 < k) :
    Calls Tryd.prog 34 #[.agg #[.bool bx, vx, .int .i64 (-((k : Nat) : Int))]] w (Ret w fun r w' => ∃ q s, r = .agg #[.bool (decide (rnum x (-((k : Nat) : Int)) < 0)), q, s] ∧ Nl w' q (dig (rnum x (-((k : Nat) : Int))).natAbs) ∧ Nl w' s (dig (rden (-((k : Nat) : Int))))) := by
 subst hbx
 have hd1 : (dig 1).length ≤ 1 := dig_len_of_lt (by decide)
 have hd2 := dig_len_two k
 refine enter (args := [_]) Tryd.func34 rfl Tryd.ntmps34 rfl ?_
 refine WP_seq ?_
 refine WP_region ?_
 refine O_box _ rfl rfl rfl rfl (fun g1 w1 b1 e1 gl1 gh1 => ?_)
 have z1 := e1.size
 refine O_alloc S51 rfl rfl (fun g2 w2 b2 e2 gl2 gh2 => ?_)
 have z2 := e2.size
 refine WL_end [(1, _), (2, _)] ⟨rfl, rfl, trivial⟩ ?_
 refine WP_seq ?_
 refine WP_seq ?_
 refine WP_region ?_
 refine O_field F26_1 rfl rfl rfl ?_
 refine O_loadC Tryd.underlying3 rfl rfl rfl rfl (b1.ext e2) rfl ?_
 refine O_geq (t := false) rfl rfl rfl rfl (decide_eq_false (by omega)) ?_
 refine WL_end [(1, _), (2, _), (5, _)] ⟨rfl, rfl, rfl, trivial⟩ ?_
 refine WP_condF rfl ?_
 refine WP_skip ?_
 refine WP_seq ?_
 refine WP_sub [(1, _), (2, _)] ⟨rfl, rfl, trivial⟩ ?_
 refine WP_anyR 11 [1, 2] mixed rfl (by kernel_rfl) ?_
 apply AnyR_val [1] rfl (by kernel_rfl)
 · --
  intro y3 hy3
  have zy3 := hy3.size
  refine AllV_nil ?_
  refine O_field F26_0 rfl rfl rfl ?_
  exact WL_nil ⟨(Ext.refl _), rfl⟩
 apply AnyR_val [13] rfl (by kernel_rfl)
 · --
  intro y4 hy4
  have zy4 := hy4.size
  refine AllV_v ?_
  refine AllV_nil ?_
  refine O_field F24_0 rfl rfl rfl ?_
  exact WL_nil ⟨(Ext.refl _), rfl⟩
 apply AnyR_val [14] rfl (by kernel_rfl)
 · --
  intro y5 hy5
  have zy5 := hy5.size
  refine AllV_v ?_
  refine AllV_nil ?_
  refine O_loadC Tryd.underlying4 rfl rfl rfl rfl ((b1.ext e2).ext hy5) rfl ?_
  exact WL_nil ⟨(Ext.refl _), rfl⟩
 apply AnyR_val [1] rfl (by kernel_rfl)
 · --
  intro y6 hy6
  have zy6 := hy6.size
  refine AllV_nil ?_
  refine O_field F26_0 rfl rfl rfl ?_
  exact WL_nil ⟨(Ext.refl _), rfl⟩
 apply AnyR_val [16] rfl (by kernel_rfl)
 · --
  intro y7 hy7
  have zy7 := hy7.size
  refine AllV_v ?_
  refine AllV_nil ?_
  refine O_field F24_1 rfl rfl rfl ?_
  exact WL_nil ⟨(Ext.refl _), rfl⟩
 apply AnyR_val [17] rfl (by kernel_rfl)
 · --
  intro y8 hy8
  have zy8 := hy8.size
  refine AllV_v ?_
  refine AllV_nil ?_
  refine O_loadC Tryd.underlying22 rfl rfl rfl rfl ((b1.ext e2).ext hy8) rfl ?_
  exact WL_nil ⟨(Ext.refl _), rfl⟩
 apply AnyR_rel (RelP (pAgg [pEq _, pNo w2.heap.size 89 _])) [15, 18] rfl (RelP.mono (pAgg_mono (PsM.cons pEq_mono (PsM.cons pNo_mono PsM.nil)))) (by kernel_rfl)
 · --
  intro y9 hy9
  have zy9 := hy9.size
  refine AllV_v ?_
  refine AllV_v ?_
  refine AllV_nil ?_
  refine O_call enters60 rfl rfl rfl (inat_c (hx.ext ((e1.trans e2).trans hy9)) (by (try simp only [lens]); omega)) (fun v10 w10 e10 h10 => ?_)
  have z10 := e10.size
  try simp only [val_dig] at h10
  obtain ⟨q10, rfl, hq10⟩ := h10
  simp only [mk_self] at hq10 ⊢
  exact WL_nil ⟨e10, _, rfl, ⟨_, rfl, (AllP.cons rfl (AllP.cons (hq10.mono (by omega)) AllP.nil))⟩⟩
 apply AnyR_no [] rfl (by kernel_rfl)
 · --
  intro y11 hy11
  have zy11 := hy11.size
  refine AllV_nil ?_
  refine O_call enters79 rfl rfl rfl (of_c 1 (by decide)) (fun v12 w12 e12 h12 => ?_)
  have z12 := e12.size
  try simp only [val_dig] at h12
  exact WL_nil ⟨e12, _, rfl, NoR.mk' h12⟩
 apply AnyR_val [1] rfl (by kernel_rfl)
 · --
  intro y13 hy13
  have zy13 := hy13.size
  refine AllV_nil ?_
  refine O_field F26_1 rfl rfl rfl ?_
  exact WL_nil ⟨(Ext.refl _), rfl⟩
 apply AnyR_val [21] rfl (by kernel_rfl)
 · --
  intro y14 hy14
  have zy14 := hy14.size
  refine AllV_v ?_
  refine AllV_nil ?_
  refine O_loadC Tryd.underlying3 rfl rfl rfl rfl ((b1.ext e2).ext hy14) rfl ?_
  exact WL_nil ⟨(Ext.refl _), rfl⟩
 apply AnyR_val [22] rfl (by kernel_rfl)
 · --
  intro y15 hy15
  have zy15 := hy15.size
  refine AllV_v ?_
  refine AllV_nil ?_
  refine O_neg (r := ((k : Nat) : Int)) rfl rfl rfl (by rw [IntKind.wrap_i64]; omega) ?_
  exact WL_nil ⟨(Ext.refl _), rfl⟩
 refine AnyR_nil fun y16 hy16 => ?_
 have zy16 := hy16.size
 refine AllV_v ?_
 refine AllV_v ?_
 refine AllV_v ?_
 refine AllV_v ?_
 refine AllV_v ?_
 refine AllV_v ?_
 refine AllV_r fun a17 b17 v17 la17 lb17 lc17 h17 ap17 => ?_
 clear ap17
 obtain ⟨_, rfl, v17_0, _, rfl, rfl, v17_1, _, rfl, h17_1, rfl⟩ := h17
 refine AllV_r fun a18 b18 v18 la18 lb18 lc18 h18 ap18 => ?_
 clear ap18
 refine AllV_v ?_
 refine AllV_v ?_
 refine AllV_v ?_
 refine AllV_nil ?_
 refine O_call enters80 rfl rfl rfl (shl_c h18.1.nl (by (try simp only [lens]); omega) (by (try simp only [lens]); omega)) (fun v19 w19 e19 h19 => ?_)
 have z19 := e19.size
 try simp only [val_dig] at h19
 rw [Nat.one_mul] at h19
 refine O_build (cs := [_, _, _]) B51 rfl rfl rfl (cells_cons rfl (cells_cons (h19.nl).cells1 cells_nil)) rfl ?_
 refine O_storeA (cs' := [_, _, _]) S51 rfl rfl rfl ((b2.ext hy16).ext e19) rfl rfl (one_cons rfl (one_cons ((h17_1.ext e19).nl).one (one_cons (h19.nl).one one_nil))) rfl (fun w20 b20 q20 => ?_)
 have z20 := Nat.le_of_eq q20.size.symm
 have e20 : Ext w w20 := q20.ext (((e1.trans e2).trans hy16).trans e19) (by omega)
 refine WL_end [(2, _)] ⟨rfl, trivial⟩ ?_
 refine WP_ret ?_
 refine retL Tryd.results34 (.cell rfl S51 b20 rfl .nil) ?_
 have h1 : rnum x (-((k : Nat) : Int)) = x := if_neg (by omega)
 have h2 : rden (-((k : Nat) : Int)) = 2 ^ k := by unfold rden; rw [if_neg (by omega), Int.neg_neg, Int.toNat_natCast]
 rw [h1, h2]
 exact ⟨_, rfl, e20, _, _, rfl, ((h17_1.ext e19).chgBk ((b2.ext hy16).ext e19) (by decide) q20).nl, (h19.chgBk ((b2.ext hy16).ext e19) (by decide) q20).nl⟩

theorem drat_c {w : World} {vx : Value} {x e : Int} {bx : Bool} (hbx : bx = decide (x < 0)) (hx : Nl w vx (dig x.natAbs)) (hlx : (dig x.natAbs).length ≤ 30000) (he1 : -200000 ≤ e) (he2 : e ≤ 200000) : Calls Tryd.prog 34 #[.agg #[.bool bx, vx, .int .i64 e]] w (Ret w fun r w' => ∃ q s, r = .agg #[.bool (decide (rnum x e < 0)), q, s] ∧ Nl w' q (dig (rnum x e).natAbs) ∧ Nl w' s (dig (rden e))) := by
  by_cases h0 : 0 ≤ e
  · obtain ⟨k, rfl⟩ : ∃ k : Nat, e = (k : Int) := ⟨e.toNat, by omega⟩
    exact drat_p hbx hx hlx (by omega)
  · obtain ⟨k, rfl⟩ : ∃ k : Nat, e = -(k : Int) := ⟨(-e).toNat, by omega⟩
    exact drat_n hbx hx hlx (by omega) (by omega)

theorem rdrat_p {w : World} {vx : Value} {x : Int} {bx : Bool} (hbx : bx = decide (x < 0)) (hx : Nl w vx (dig x.natAbs)) (hlx : (dig x.natAbs).length ≤ 30000) {k : Nat} (hk : k ≤ 200000) :
    Calls Tryd.prog 37 #[.agg #[.bool bx, vx, .int .i64 (k : Nat)]] w (Ret w fun r w' => ∃ q s, r = .agg #[.bool (decide (rnum x (k : Int) < 0)), q, s] ∧ Nl w' q (dig (rnum x (k : Int)).natAbs) ∧ Nl w' s (dig (rden (k : Int)))) := by
 subst hbx
 refine enter (args := [_]) Tryd.func37 rfl Tryd.ntmps37 rfl ?_
 refine WP_seq ?_
 refine WP_region ?_
 refine O_box _ rfl rfl rfl rfl (fun g1 w1 b1 e1 gl1 gh1 => ?_)
 have z1 := e1.size
 refine O_alloc S51 rfl rfl (fun g2 w2 b2 e2 gl2 gh2 => ?_)
 have z2 := e2.size
 refine WL_end [(1, _), (2, _)] ⟨rfl, rfl, trivial⟩ ?_
 refine WP_seq ?_
 refine WP_seq ?_
 refine WP_region ?_
 refine O_field F26_1 rfl rfl rfl ?_
 refine O_loadC Tryd.underlying3 rfl rfl rfl rfl (b1.ext e2) rfl ?_
 refine O_geq (t := true) rfl rfl rfl rfl (decide_eq_true (Int.natCast_nonneg k)) ?_
 refine WL_end [(1, _), (2, _), (5, _)] ⟨rfl, rfl, rfl, trivial⟩ ?_
 refine WP_condT rfl ?_
 refine WP_seq ?_
 refine WP_region ?_
 refine O_field F26_0 rfl rfl rfl ?_
 refine O_loadA (vs := [_, _]) S24 rfl rfl rfl (b1.ext e2) rfl rfl ?_
 refine O_field F26_1 rfl rfl rfl ?_
 refine O_loadC Tryd.underlying3 rfl rfl rfl rfl (b1.ext e2) rfl ?_
 refine O_call enters21 rfl rfl rfl (rishl_c rfl (hx.ext (e1.trans e2)) (by (try simp only [lens]); omega) (by (try simp only [lens]); omega)) (fun v3 w3 e3 h3 => ?_)
 have z3 := e3.size
 try simp only [val_dig] at h3
 obtain ⟨q3, rfl, hq3⟩ := h3
 refine O_call enters76 rfl rfl rfl (rof_c 1 (by decide)) (fun v4 w4 e4 h4 => ?_)
 have z4 := e4.size
 try simp only [val_dig] at h4
 refine O_build (cs := [_, _, _]) B51 rfl rfl rfl (cells_cons rfl (cells_cons (h4.nl).cells1 cells_nil)) rfl ?_
 refine O_storeA (cs' := [_, _, _]) S51 rfl rfl rfl ((b2.ext e3).ext e4) rfl rfl (one_cons rfl (one_cons ((hq3.ext e4).nl).one (one_cons (h4.nl).one one_nil))) rfl (fun w5 b5 q5 => ?_)
 have z5 := Nat.le_of_eq q5.size.symm
 have e5 : Ext w w5 := q5.ext (((e1.trans e2).trans e3).trans e4) (by omega)
 refine WL_end [(2, _)] ⟨rfl, trivial⟩ ?_
 refine WP_ret ?_
 refine retL Tryd.results37 (.cell rfl S51 b5 rfl .nil) ?_
 have h1 : rnum x (k : Int) = x * 2 ^ k := by unfold rnum; rw [if_pos (Int.natCast_nonneg k), Int.toNat_natCast]
 have h2 : rden (k : Int) = 1 := if_pos (Int.natCast_nonneg k)
 rw [h1, h2]
 exact ⟨_, rfl, e5, _, _, rfl, ((hq3.ext e4).chgBk ((b2.ext e3).ext e4) (by decide) q5).nl, (h4.chgBk ((b2.ext e3).ext e4) (by decide) q5).nl⟩

theorem rdrat_n {w : World} {vx : Value} {x : Int} {bx : Bool} (hbx : bx = decide (x < 0)) (hx : Nl w vx (dig x.natAbs)) (hlx : (dig x.natAbs).length ≤ 30000) {k : Nat} (hk : k ≤ 200000) (hk0 : 0 < k) :
    Calls Tryd.prog 37 #[.agg #[.bool bx, vx, .int .i64 (-((k : Nat) : Int))]] w (Ret w fun r w' => ∃ q s, r = .agg #[.bool (decide (rnum x (-((k : Nat) : Int)) < 0)), q, s] ∧ Nl w' q (dig (rnum x (-((k : Nat) : Int))).natAbs) ∧ Nl w' s (dig (rden (-((k : Nat) : Int))))) := by
 subst hbx
 have hd1 : (dig 1).length ≤ 1 := dig_len_of_lt (by decide)
 have hd2 := dig_len_two k
 refine enter (args := [_]) Tryd.func37 rfl Tryd.ntmps37 rfl ?_
 refine WP_seq ?_
 refine WP_region ?_
 refine O_box _ rfl rfl rfl rfl (fun g1 w1 b1 e1 gl1 gh1 => ?_)
 have z1 := e1.size
 refine O_alloc S51 rfl rfl (fun g2 w2 b2 e2 gl2 gh2 => ?_)
 have z2 := e2.size
 refine WL_end [(1, _), (2, _)] ⟨rfl, rfl, trivial⟩ ?_
 refine WP_seq ?_
 refine WP_seq ?_
 refine WP_region ?_
 refine O_field F26_1 rfl rfl rfl ?_
 refine O_loadC Tryd.underlying3 rfl rfl rfl rfl (b1.ext e2) rfl ?_
 refine O_geq (t := false) rfl rfl rfl rfl (decide_eq_false (by omega)) ?_
 refine WL_end [(1, _), (2, _), (5, _)] ⟨rfl, rfl, rfl, trivial⟩ ?_
 refine WP_condF rfl ?_
 refine WP_skip ?_
 refine WP_seq ?_
 refine WP_sub [(1, _), (2, _)] ⟨rfl, rfl, trivial⟩ ?_
 refine WP_anyR 6 [1, 2] mixed rfl (by kernel_rfl) ?_
 apply AnyR_val [1] rfl (by kernel_rfl)
 · --
  intro y3 hy3
  have zy3 := hy3.size
  refine AllV_nil ?_
  refine O_field F26_0 rfl rfl rfl ?_
  exact WL_nil ⟨(Ext.refl _), rfl⟩
 apply AnyR_val [13] rfl (by kernel_rfl)
 · --
  intro y4 hy4
  have zy4 := hy4.size
  refine AllV_v ?_
  refine AllV_nil ?_
  refine O_loadA (vs := [_, _]) S24 rfl rfl rfl ((b1.ext e2).ext hy4) rfl rfl ?_
  exact WL_nil ⟨(Ext.refl _), rfl⟩
 apply AnyR_val [1] rfl (by kernel_rfl)
 · --
  intro y5 hy5
  have zy5 := hy5.size
  refine AllV_nil ?_
  refine O_field F26_1 rfl rfl rfl ?_
  exact WL_nil ⟨(Ext.refl _), rfl⟩
 apply AnyR_val [15] rfl (by kernel_rfl)
 · --
  intro y6 hy6
  have zy6 := hy6.size
  refine AllV_v ?_
  refine AllV_nil ?_
  refine O_loadC Tryd.underlying3 rfl rfl rfl rfl ((b1.ext e2).ext hy6) rfl ?_
  exact WL_nil ⟨(Ext.refl _), rfl⟩
 apply AnyR_val [16] rfl (by kernel_rfl)
 · --
  intro y7 hy7
  have zy7 := hy7.size
  refine AllV_v ?_
  refine AllV_nil ?_
  refine O_neg (r := ((k : Nat) : Int)) rfl rfl rfl (by rw [IntKind.wrap_i64]; omega) ?_
  exact WL_nil ⟨(Ext.refl _), rfl⟩
 apply AnyR_no [17] rfl (by kernel_rfl)
 · --
  intro y8 hy8
  have zy8 := hy8.size
  refine AllV_v ?_
  refine AllV_nil ?_
  refine O_call enters82 rfl rfl rfl (one08_c (by (try simp only [lens]); omega)) (fun v9 w9 e9 h9 => ?_)
  have z9 := e9.size
  try simp only [val_dig] at h9
  exact WL_nil ⟨e9, _, rfl, NoR.mk' h9⟩
 refine AnyR_nil fun y10 hy10 => ?_
 have zy10 := hy10.size
 refine AllV_v ?_
 refine AllV_v ?_
 refine AllV_v ?_
 refine AllV_v ?_
 refine AllV_v ?_
 refine AllV_r fun a11 b11 v11 la11 lb11 lc11 h11 ap11 => ?_
 clear ap11
 refine AllV_nil ?_
 refine O_build (cs := [_, _, _]) B51 rfl rfl rfl (cells_cons rfl (cells_cons (h11.1.nl).cells1 cells_nil)) rfl ?_
 refine O_storeA (cs' := [_, _, _]) S51 rfl rfl rfl (b2.ext hy10) rfl rfl (one_cons rfl (one_cons ((hx.ext ((e1.trans e2).trans hy10))).one (one_cons (h11.1.nl).one one_nil))) rfl (fun w12 b12 q12 => ?_)
 have z12 := Nat.le_of_eq q12.size.symm
 have e12 : Ext w w12 := q12.ext ((e1.trans e2).trans hy10) (by omega)
 refine WL_end [(2, _)] ⟨rfl, trivial⟩ ?_
 refine WP_ret ?_
 refine retL Tryd.results37 (.cell rfl S51 b12 rfl .nil) ?_
 have h1 : rnum x (-((k : Nat) : Int)) = x := if_neg (by omega)
 have h2 : rden (-((k : Nat) : Int)) = 2 ^ k := by unfold rden; rw [if_neg (by omega), Int.neg_neg, Int.toNat_natCast]
 rw [h1, h2]
 exact ⟨_, rfl, e12, _, _, rfl, (hx.ext e12), (h11.1.chgBk (b2.ext hy10) (by decide) q12).nl⟩

theorem rdrat_c {w : World} {vx : Value} {x e : Int} {bx : Bool} (hbx : bx = decide (x < 0)) (hx : Nl w vx (dig x.natAbs)) (hlx : (dig x.natAbs).length ≤ 30000) (he1 : -200000 ≤ e) (he2 : e ≤ 200000) : Calls Tryd.prog 37 #[.agg #[.bool bx, vx, .int .i64 e]] w (Ret w fun r w' => ∃ q s, r = .agg #[.bool (decide (rnum x e < 0)), q, s] ∧ Nl w' q (dig (rnum x e).natAbs) ∧ Nl w' s (dig (rden e))) := by
  by_cases h0 : 0 ≤ e
  · obtain ⟨k, rfl⟩ : ∃ k : Nat, e = (k : Int) := ⟨e.toNat, by omega⟩
    exact rdrat_p hbx hx hlx (by omega)
  · obtain ⟨k, rfl⟩ : ∃ k : Nat, e = -(k : Int) := ⟨(-e).toNat, by omega⟩
    exact rdrat_n hbx hx hlx (by omega) (by omega)

theorem den07_c {w : World} {vp vq : Value} {p : Int} {q : Nat} {bp : Bool} (hbp : bp = decide (p < 0)) (hp : Nl w vp (dig p.natAbs)) (hq : Nl w vq (dig q)) (hlp : (dig p.natAbs).length ≤ 30000) (hlq : (dig q).length ≤ 30000) :
    Calls Tryd.prog 83 #[.agg #[.bool bp, vp, vq]] w (Ret w fun r w' => ∃ a, r = .agg #[.bool (decide ((q : Int) < 0)), a] ∧ No w.heap.size 89 w' a (dig (q : Int).natAbs)) := by
 subst hbp
 refine enter (args := [_]) Tryd.func83 rfl Tryd.ntmps83 rfl ?_
 refine WP_seq ?_
 refine WP_region ?_
 refine O_box _ rfl rfl rfl rfl (fun g1 w1 b1 e1 gl1 gh1 => ?_)
 have z1 := e1.size
 refine O_alloc S24 rfl rfl (fun g2 w2 b2 e2 gl2 gh2 => ?_)
 have z2 := e2.size
 refine WL_end [(1, _), (2, _)] ⟨rfl, rfl, trivial⟩ ?_
 refine WP_seq ?_
 refine WP_region ?_
 refine O_field F51_1 rfl rfl rfl ?_
 refine O_loadC Tryd.underlying22 rfl rfl rfl rfl (b1.ext e2) rfl ?_
 refine O_call enters47 rfl rfl rfl (rinat_c (hq.ext (e1.trans e2)) (by (try simp only [lens]); omega)) (fun v3 w3 e3 h3 => ?_)
 have z3 := e3.size
 try simp only [val_dig] at h3
 obtain ⟨q3, rfl, hq3⟩ := h3
 simp only [mkf] at hq3 ⊢
 refine O_storeA (cs' := [_, _]) S24 rfl rfl rfl (b2.ext e3) rfl rfl (one_cons rfl (one_cons (hq3.nl).one one_nil)) rfl (fun w4 b4 q4 => ?_)
 have z4 := Nat.le_of_eq q4.size.symm
 have e4 : Ext w w4 := q4.ext ((e1.trans e2).trans e3) (by omega)
 refine WL_end [(2, _)] ⟨rfl, trivial⟩ ?_
 refine WP_ret ?_
 refine retL Tryd.results83 (.cell rfl S24 b4 rfl .nil) ?_
 exact ⟨_, rfl, e4, _, rfl, (hq3.chgBk (b2.ext e3) (by decide) q4).mono (by omega)⟩

theorem rratcmp_c {w : World} {vp vq : Value} {p : Int} {q : Nat} {bp : Bool} (hbp : bp = decide (p < 0)) (hp : Nl w vp (dig p.natAbs)) (hq : Nl w vq (dig q)) (hlp : (dig p.natAbs).length ≤ 30000) (hlq : (dig q).length ≤ 30000) {vs vt : Value} {s : Int} {t : Nat} {bs : Bool} (hbs : bs = decide (s < 0)) (hs : Nl w vs (dig s.natAbs)) (ht : Nl w vt (dig t)) (hls : (dig s.natAbs).length ≤ 30000) (hlt : (dig t).length ≤ 30000) :
    Calls Tryd.prog 38 #[.agg #[.bool bp, vp, vq], .agg #[.bool bs, vs, vt]] w (Ret w fun r _ => r = .int .i64 (icmp (p * (t : Int)) (s * (q : Int)))) := by
 subst hbp
 subst hbs
 have hc1 := cross_len hlp hlt
 have hc2 := cross_len hls hlq
 have hq9 : (dig (q : Int).natAbs).length ≤ 30000 := by rw [Int.natAbs_natCast]; exact hlq
 have ht9 : (dig (t : Int).natAbs).length ≤ 30000 := by rw [Int.natAbs_natCast]; exact hlt
 refine enter (args := [_, _]) Tryd.func38 rfl Tryd.ntmps38 rfl ?_
 refine WP_seq ?_
 refine WP_region ?_
 refine O_box _ rfl rfl rfl rfl (fun g1 w1 b1 e1 gl1 gh1 => ?_)
 have z1 := e1.size
 refine O_box _ rfl rfl rfl rfl (fun g2 w2 b2 e2 gl2 gh2 => ?_)
 have z2 := e2.size
 refine O_assign rfl rfl rfl ?_
 refine WL_end [(2, _), (3, _)] ⟨rfl, rfl, trivial⟩ ?_
 refine WP_seq ?_
 refine WP_sub [(2, _), (3, _)] ⟨rfl, rfl, trivial⟩ ?_
 refine WP_anyR 9 [2, 3] mixed rfl (by kernel_rfl) ?_
 apply AnyR_val [2] rfl (by kernel_rfl)
 · --
  intro y3 hy3
  have zy3 := hy3.size
  refine AllV_nil ?_
  refine O_field F51_0 rfl rfl rfl ?_
  exact WL_nil ⟨(Ext.refl _), rfl⟩
 apply AnyR_val [5] rfl (by kernel_rfl)
 · --
  intro y4 hy4
  have zy4 := hy4.size
  refine AllV_v ?_
  refine AllV_nil ?_
  refine O_loadA (vs := [_, _]) S24 rfl rfl rfl ((b1.ext e2).ext hy4) rfl rfl ?_
  exact WL_nil ⟨(Ext.refl _), rfl⟩
 apply AnyR_val [3] rfl (by kernel_rfl)
 · --
  intro y5 hy5
  have zy5 := hy5.size
  refine AllV_nil ?_
  refine O_loadA (vs := [_, _, _]) S51 rfl rfl rfl (b2.ext hy5) rfl rfl ?_
  exact WL_nil ⟨(Ext.refl _), rfl⟩
 apply AnyR_rel (RelP (pAgg [pEq _, pNo w2.heap.size 89 _])) [7] rfl (RelP.mono (pAgg_mono (PsM.cons pEq_mono (PsM.cons pNo_mono PsM.nil)))) (by kernel_rfl)
 · --
  intro y6 hy6
  have zy6 := hy6.size
  refine AllV_v ?_
  refine AllV_nil ?_
  refine O_call enters83 rfl rfl rfl (den07_c rfl (hs.ext ((e1.trans e2).trans hy6)) (ht.ext ((e1.trans e2).trans hy6)) (by first | with_reducible assumption | omega) (by first | with_reducible assumption | omega)) (fun v7 w7 e7 h7 => ?_)
  have z7 := e7.size
  try simp only [val_dig] at h7
  obtain ⟨q7, rfl, hq7⟩ := h7
  exact WL_nil ⟨e7, _, rfl, ⟨_, rfl, (AllP.cons rfl (AllP.cons (hq7.mono (by omega)) AllP.nil))⟩⟩
 apply AnyR_rel (RelP (pAgg [pEq _, pNo w2.heap.size 89 _])) [6, 8] rfl (RelP.mono (pAgg_mono (PsM.cons pEq_mono (PsM.cons pNo_mono PsM.nil)))) (by kernel_rfl)
 · --
  intro y8 hy8
  have zy8 := hy8.size
  refine AllV_v ?_
  refine AllV_r fun a9 b9 v9 la9 lb9 lc9 h9 ap9 => ?_
  clear ap9
  obtain ⟨_, rfl, v9_0, _, rfl, rfl, v9_1, _, rfl, h9_1, rfl⟩ := h9
  refine AllV_nil ?_
  refine O_call enters54 rfl rfl rfl (rimul_c rfl (hp.ext ((e1.trans e2).trans hy8)) rfl h9_1.nl (by (try simp only [lens]); omega) (by (try simp only [lens]); omega)) (fun v10 w10 e10 h10 => ?_)
  have z10 := e10.size
  try simp only [val_dig] at h10
  obtain ⟨q10, rfl, hq10⟩ := h10
  exact WL_nil ⟨e10, _, rfl, ⟨_, rfl, (AllP.cons rfl (AllP.cons (hq10.mono (by omega)) AllP.nil))⟩⟩
 apply AnyR_val [3] rfl (by kernel_rfl)
 · --
  intro y11 hy11
  have zy11 := hy11.size
  refine AllV_nil ?_
  refine O_field F51_0 rfl rfl rfl ?_
  exact WL_nil ⟨(Ext.refl _), rfl⟩
 apply AnyR_val [10] rfl (by kernel_rfl)
 · --
  intro y12 hy12
  have zy12 := hy12.size
  refine AllV_v ?_
  refine AllV_nil ?_
  refine O_loadA (vs := [_, _]) S24 rfl rfl rfl (b2.ext hy12) rfl rfl ?_
  exact WL_nil ⟨(Ext.refl _), rfl⟩
 apply AnyR_val [2] rfl (by kernel_rfl)
 · --
  intro y13 hy13
  have zy13 := hy13.size
  refine AllV_nil ?_
  refine O_loadA (vs := [_, _, _]) S51 rfl rfl rfl ((b1.ext e2).ext hy13) rfl rfl ?_
  exact WL_nil ⟨(Ext.refl _), rfl⟩
 apply AnyR_rel (RelP (pAgg [pEq _, pNo w2.heap.size 89 _])) [12] rfl (RelP.mono (pAgg_mono (PsM.cons pEq_mono (PsM.cons pNo_mono PsM.nil)))) (by kernel_rfl)
 · --
  intro y14 hy14
  have zy14 := hy14.size
  refine AllV_v ?_
  refine AllV_nil ?_
  refine O_call enters83 rfl rfl rfl (den07_c rfl (hp.ext ((e1.trans e2).trans hy14)) (hq.ext ((e1.trans e2).trans hy14)) (by first | with_reducible assumption | omega) (by first | with_reducible assumption | omega)) (fun v15 w15 e15 h15 => ?_)
  have z15 := e15.size
  try simp only [val_dig] at h15
  obtain ⟨q15, rfl, hq15⟩ := h15
  exact WL_nil ⟨e15, _, rfl, ⟨_, rfl, (AllP.cons rfl (AllP.cons (hq15.mono (by omega)) AllP.nil))⟩⟩
 refine AnyR_nil fun y16 hy16 => ?_
 have zy16 := hy16.size
 refine AllV_v ?_
 refine AllV_v ?_
 refine AllV_v ?_
 refine AllV_r fun a17 b17 v17 la17 lb17 lc17 h17 ap17 => ?_
 clear ap17
 obtain ⟨_, rfl, v17_0, _, rfl, rfl, v17_1, _, rfl, h17_1, rfl⟩ := h17
 refine AllV_r fun a18 b18 v18 la18 lb18 lc18 h18 ap18 => ?_
 clear ap18
 obtain ⟨_, rfl, v18_0, _, rfl, rfl, v18_1, _, rfl, h18_1, rfl⟩ := h18
 refine AllV_v ?_
 refine AllV_v ?_
 refine AllV_v ?_
 refine AllV_r fun a19 b19 v19 la19 lb19 lc19 h19 ap19 => ?_
 clear ap19
 obtain ⟨_, rfl, v19_0, _, rfl, rfl, v19_1, _, rfl, h19_1, rfl⟩ := h19
 refine AllV_nil ?_
 refine O_call enters54 rfl rfl rfl (rimul_c rfl (hs.ext ((e1.trans e2).trans hy16)) rfl h19_1.nl (by (try simp only [lens]); omega) (by (try simp only [lens]); omega)) (fun v20 w20 e20 h20 => ?_)
 have z20 := e20.size
 try simp only [val_dig] at h20
 obtain ⟨q20, rfl, hq20⟩ := h20
 refine O_call enters56 rfl rfl rfl (ricmp_c rfl (h18_1.ext e20).nl rfl hq20.nl (by (try simp only [lens]); omega) (by (try simp only [lens]); omega)) (fun v21 w21 e21 h21 => ?_)
 have z21 := e21.size
 obtain rfl := h21
 refine O_assign rfl rfl rfl ?_
 refine WL_end [(4, _)] ⟨rfl, trivial⟩ ?_
 refine WP_ret ?_
 refine ret1 Tryd.results38 rfl ?_
 exact ⟨_, rfl, ((((e1.trans e2).trans hy16).trans e20).trans e21), rfl⟩

theorem rnum_pow (x e : Int) : rnum x e = x * 2 ^ e.toNat := by
  unfold rnum; split
  · rfl
  · rw [show e.toNat = 0 from by omega, Int.pow_zero, Int.mul_one]
theorem rden_pow (e : Int) : ((rden e : Nat) : Int) = 2 ^ (-e).toNat := by
  unfold rden; split
  · rw [show (-e).toNat = 0 from by omega]; rfl
  · rw [Int.natCast_pow]; rfl
theorem dcmp_rat (x e y f : Int) : dcmp x e y f = icmp (rnum x e * (rden f : Nat)) (rnum y f * (rden e : Nat)) := by
  rw [rnum_pow, rnum_pow, rden_pow, rden_pow, Int.mul_assoc, Int.mul_assoc, ← Int.pow_add, ← Int.pow_add]
  have h1 : e.toNat + (-f).toNat = (e - min e f).toNat + (e.toNat + (-f).toNat - (e - min e f).toNat) := by omega
  have h2 : f.toNat + (-e).toNat = (f - min e f).toNat + (e.toNat + (-f).toNat - (e - min e f).toNat) := by omega
  rw [h2]
  conv => rhs; arg 1; rw [h1]
  rw [Int.pow_add, Int.pow_add, ← Int.mul_assoc, ← Int.mul_assoc, icmp_scale (ipow_pos _)]
  rfl
theorem dcmp_swap (x e y f : Int) : dcmp y f x e = -dcmp x e y f := by
  unfold dcmp; rw [Int.min_comm f e]; exact icmp_neg _ _

theorem rsameB_c {w : World} {va vb : Value} {m n : Nat} (ha : Nl w va (dig m)) (hb : Nl w vb (dig n)) (hla : (dig m).length ≤ 100000000) (hlb : (dig n).length ≤ 100000000) :
    Calls Tryd.prog 81 #[va, vb] w (Ret w fun r _ => r = .bool (decide (m = n))) := by
 refine enter (args := [va, vb]) Tryd.func81 rfl Tryd.ntmps81 rfl ?_
 refine WP_seq ?_
 refine WP_region ?_
 refine O_assign rfl rfl rfl ?_
 refine WL_end [(0, _), (1, _)] ⟨rfl, rfl, trivial⟩ ?_
 refine WP_seq ?_
 refine WP_region ?_
 refine O_move rfl rfl rfl ?_
 refine N_len T22 rfl rfl rfl ha ?_
 refine O_move rfl rfl rfl ?_
 refine N_len T22 rfl rfl rfl hb ?_
 refine O_eql rfl rfl rfl rfl rfl ?_
 refine O_move rfl rfl rfl ?_
 refine WL_dec 10 rfl (fun g10 => ?_) (fun g10 => ?_)
 · --
  refine O_move rfl rfl rfl ?_
  refine O_move rfl rfl rfl ?_
  refine O_call enters90 rfl rfl rfl (rcmp_c ha hb (by (try simp only [lens]); omega) (by (try simp only [lens]); omega)) (fun v1 w1 e1 h1 => ?_)
  have z1 := e1.size
  obtain rfl := h1
  simp only [val_dig]
  refine O_eql rfl rfl rfl rfl rfl ?_
  refine O_pickT rfl rfl rfl rfl ?_
  refine O_assign rfl rfl rfl ?_
  refine WL_end [(4, _)] ⟨rfl, trivial⟩ ?_
  refine WP_ret ?_
  refine ret1 Tryd.results81 rfl ?_
  exact ⟨_, rfl, e1, congrArg Value.bool (decide_eq_decide.2 cmpv_zero)⟩
 · --
  refine O_skip rfl rfl ?_
  refine O_skip rfl rfl ?_
  refine O_skip rfl rfl ?_
  refine O_skip rfl rfl ?_
  refine O_pickF rfl rfl rfl rfl ?_
  refine O_assign rfl rfl rfl ?_
  refine WL_end [(4, _)] ⟨rfl, trivial⟩ ?_
  refine WP_ret ?_
  refine ret1 Tryd.results81 rfl ?_
  exact ⟨_, rfl, (Ext.refl _), by rw [decide_eq_false (fun h => g10 (by rw [h]))]⟩

theorem isameB_c {w : World} {vx vy : Value} {x y : Int} {bx by_ : Bool} (hbx : bx = decide (x < 0)) (hx : Nl w vx (dig x.natAbs)) (hby : by_ = decide (y < 0)) (hy : Nl w vy (dig y.natAbs)) (hlx : (dig x.natAbs).length ≤ 1000000) (hly : (dig y.natAbs).length ≤ 1000000) :
    Calls Tryd.prog 44 #[.agg #[.bool bx, vx], .agg #[.bool by_, vy]] w (Ret w fun r _ => r = .bool (decide (x = y))) := by
 subst hbx
 subst hby
 refine enter (args := [_, _]) Tryd.func44 rfl Tryd.ntmps44 rfl ?_
 refine WP_seq ?_
 refine WP_region ?_
 refine O_box _ rfl rfl rfl rfl (fun g1 w1 b1 e1 gl1 gh1 => ?_)
 have z1 := e1.size
 refine O_box _ rfl rfl rfl rfl (fun g2 w2 b2 e2 gl2 gh2 => ?_)
 have z2 := e2.size
 refine O_assign rfl rfl rfl ?_
 refine WL_end [(2, _), (3, _)] ⟨rfl, rfl, trivial⟩ ?_
 refine WP_seq ?_
 refine WP_region ?_
 refine O_field F24_0 rfl rfl rfl ?_
 refine O_loadC Tryd.underlying4 rfl rfl rfl rfl (b1.ext e2) rfl ?_
 refine O_field F24_0 rfl rfl rfl ?_
 refine O_loadC Tryd.underlying4 rfl rfl rfl rfl b2 rfl ?_
 refine O_beql Tryd.underlying4 rfl rfl rfl rfl rfl ?_
 refine O_move rfl rfl rfl ?_
 refine WL_bool 10 rfl (fun g10 => ?_) (fun g10 => ?_)
 · --
  refine O_field F24_1 rfl rfl rfl ?_
  refine O_loadC Tryd.underlying22 rfl rfl rfl rfl (b1.ext e2) rfl ?_
  refine O_field F24_1 rfl rfl rfl ?_
  refine O_loadC Tryd.underlying22 rfl rfl rfl rfl b2 rfl ?_
  refine O_call enters81 rfl rfl rfl (rsameB_c (hx.ext (e1.trans e2)) (hy.ext (e1.trans e2)) (by (try simp only [lens]); omega) (by (try simp only [lens]); omega)) (fun v3 w3 e3 h3 => ?_)
  have z3 := e3.size
  obtain rfl := h3
  refine O_pickT rfl rfl rfl rfl ?_
  refine O_assign rfl rfl rfl ?_
  refine WL_end [(4, _)] ⟨rfl, trivial⟩ ?_
  refine WP_ret ?_
  refine ret1 Tryd.results44 rfl ?_
  exact ⟨_, rfl, ((e1.trans e2).trans e3), congrArg Value.bool (decide_eq_decide.2 ⟨fun h => abs_sign_inj (by simpa using g10) h, fun h => by rw [h]⟩)⟩
 · --
  refine O_skip rfl rfl ?_
  refine O_skip rfl rfl ?_
  refine O_skip rfl rfl ?_
  refine O_skip rfl rfl ?_
  refine O_skip rfl rfl ?_
  refine O_pickF rfl rfl rfl rfl ?_
  refine O_assign rfl rfl rfl ?_
  refine WL_end [(4, _)] ⟨rfl, trivial⟩ ?_
  refine WP_ret ?_
  refine ret1 Tryd.results44 rfl ?_
  exact ⟨_, rfl, (e1.trans e2), by rw [decide_eq_false (fun h => by rw [h] at g10; simp at g10)]⟩

theorem dsameB_c {w : World} {vx vy : Value} {x y e f : Int} {bx by_ : Bool} (hbx : bx = decide (x < 0)) (hx : Nl w vx (dig x.natAbs)) (hby : by_ = decide (y < 0)) (hy : Nl w vy (dig y.natAbs)) (hlx : (dig x.natAbs).length ≤ 30000) (hly : (dig y.natAbs).length ≤ 30000) :
    Calls Tryd.prog 17 #[.agg #[.bool bx, vx, .int .i64 e], .agg #[.bool by_, vy, .int .i64 f]] w (Ret w fun r _ => r = .bool (decide (x = y ∧ e = f))) := by
 subst hbx
 subst hby
 refine enter (args := [_, _]) Tryd.func17 rfl Tryd.ntmps17 rfl ?_
 refine WP_seq ?_
 refine WP_region ?_
 refine O_box _ rfl rfl rfl rfl (fun g1 w1 b1 e1 gl1 gh1 => ?_)
 have z1 := e1.size
 refine O_box _ rfl rfl rfl rfl (fun g2 w2 b2 e2 gl2 gh2 => ?_)
 have z2 := e2.size
 refine O_assign rfl rfl rfl ?_
 refine WL_end [(2, _), (3, _)] ⟨rfl, rfl, trivial⟩ ?_
 refine WP_seq ?_
 refine WP_region ?_
 refine O_field F26_1 rfl rfl rfl ?_
 refine O_loadC Tryd.underlying3 rfl rfl rfl rfl (b1.ext e2) rfl ?_
 refine O_field F26_1 rfl rfl rfl ?_
 refine O_loadC Tryd.underlying3 rfl rfl rfl rfl b2 rfl ?_
 refine O_eql rfl rfl rfl rfl rfl ?_
 refine O_move rfl rfl rfl ?_
 refine WL_dec 10 rfl (fun g10 => ?_) (fun g10 => ?_)
 · --
  refine O_field F26_0 rfl rfl rfl ?_
  refine O_loadA (vs := [_, _]) S24 rfl rfl rfl (b1.ext e2) rfl rfl ?_
  refine O_field F26_0 rfl rfl rfl ?_
  refine O_loadA (vs := [_, _]) S24 rfl rfl rfl b2 rfl rfl ?_
  refine O_call enters44 rfl rfl rfl (isameB_c rfl (hx.ext (e1.trans e2)) rfl (hy.ext (e1.trans e2)) (by (try simp only [lens]); omega) (by (try simp only [lens]); omega)) (fun v3 w3 e3 h3 => ?_)
  have z3 := e3.size
  obtain rfl := h3
  refine O_pickT rfl rfl rfl rfl ?_
  refine O_assign rfl rfl rfl ?_
  refine WL_end [(4, _)] ⟨rfl, trivial⟩ ?_
  refine WP_ret ?_
  refine ret1 Tryd.results17 rfl ?_
  exact ⟨_, rfl, ((e1.trans e2).trans e3), congrArg Value.bool (decide_eq_decide.2 ⟨fun h => ⟨h, g10⟩, fun h => h.1⟩)⟩
 · --
  refine O_skip rfl rfl ?_
  refine O_skip rfl rfl ?_
  refine O_skip rfl rfl ?_
  refine O_skip rfl rfl ?_
  refine O_skip rfl rfl ?_
  refine O_pickF rfl rfl rfl rfl ?_
  refine O_assign rfl rfl rfl ?_
  refine WL_end [(4, _)] ⟨rfl, trivial⟩ ?_
  refine WP_ret ?_
  refine ret1 Tryd.results17 rfl ?_
  exact ⟨_, rfl, (e1.trans e2), by rw [decide_eq_false (fun h => g10 h.2)]⟩

end Go.Proofs.YtnfnadhbjdcbnaaDoor
