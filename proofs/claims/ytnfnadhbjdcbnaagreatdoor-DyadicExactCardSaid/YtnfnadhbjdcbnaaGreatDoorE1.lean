/-
  Walks.
-/
import Derived.Test.YtnfnadhbjdcbnaaGreatDoorD8
import Derived.Test.YtnfnadhbjdcbnaaGreatDoorRoot
set_option linter.unusedVariables false
set_option linter.unusedSimpArgs false
set_option maxRecDepth 100000
namespace Go.Proofs.YtnfnadhbjdcbnaaGreatDoor
open Go Go.RowKit
/-- The order of intervals. -/
def ivcmp (x e y f z g u h : Int) : Int := if dcmp y f z g < 0 then -1 else if 0 < dcmp x e u h then 1 else 0
theorem dcmp_bd (x e y f : Int) : -1 ≤ dcmp x e y f ∧ dcmp x e y f ≤ 1 := icmp_bd _ _
theorem ivcmp_bd (x e y f z g u h : Int) : -1 ≤ ivcmp x e y f z g u h ∧ ivcmp x e y f z g u h ≤ 1 := by unfold ivcmp; split <;> (try split) <;> omega
theorem dval_K {x e : Int} (h : dval x e = true) : -((70000 : Nat) : Int) ≤ e := by have := dval_range h; omega
/-- A value on the scale that serves all dyadics. -/
def sw (x e : Int) : Int := sv 70000 x e
theorem sw_dcmp {x e y f : Int} (hx : dval x e = true) (hy : dval y f = true) : dcmp x e y f = icmp (sw x e) (sw y f) := sv_dcmp (dval_K hx) (dval_K hy)
theorem sw_zero : sw 0 0 = 0 := sv_zero _ _
theorem sw_sign (x e : Int) : x.sign = icmp (sw x e) 0 := by
  unfold sw sv
  have hp := ipow_pos (e + ((70000 : Nat) : Int)).toNat
  generalize (2 : Int) ^ (e + ((70000 : Nat) : Int)).toNat = P at *
  rw [← icmp_sign, Int.sub_zero, Int.sign_mul, Int.sign_eq_one_of_pos hp, Int.mul_one]
theorem ivcmp_swap {x e y f z g u h : Int} (hx : dval x e = true) (hy : dval y f = true) (hz : dval z g = true) (hu : dval u h = true) (h1 : dcmp x e y f ≤ 0) (h2 : dcmp z g u h ≤ 0) : ivcmp z g u h x e y f = -ivcmp x e y f z g u h := by
  unfold ivcmp
  rw [sw_dcmp hx hy] at h1
  rw [sw_dcmp hz hu] at h2
  rw [sw_dcmp hu hx, sw_dcmp hz hy, sw_dcmp hy hz, sw_dcmp hx hu]
  rw [icmp_pos] at h1 h2
  simp only [icmp_lt, icmp_gt]
  split <;> split <;> (try split) <;> (try split) <;> omega
theorem sign_ivcmp {x e y f : Int} (hx : dval x e = true) (hy : dval y f = true) (h1 : dcmp x e y f ≤ 0) : decide (ivcmp x e y f 0 0 0 0 = 0) = (if x.sign = y.sign then decide (x.sign = 0) else true) := by
  unfold ivcmp
  rw [sw_dcmp hx hy, icmp_pos] at h1
  rw [sw_dcmp hy dval_zero, sw_dcmp hx dval_zero, sw_zero]
  rw [sw_sign x e, sw_sign y f]
  simp only [icmp_lt, icmp_gt]
  generalize sw x e = A at *
  generalize sw y f = B at *
  have k : ∀ a b : Int, icmp a b = if a < b then -1 else if b < a then 1 else 0 := fun _ _ => rfl
  simp only [k]
  by_cases a1 : A < 0 <;> by_cases a2 : 0 < A <;> by_cases b1 : B < 0 <;> by_cases b2 : 0 < B <;> simp [a1, a2, b1, b2] <;> omega
theorem made0 : dman 0 0 = 0 ∧ dexp 0 0 = 0 := (dval_made dval_zero).2
theorem made1 : dman 1 0 = 1 ∧ dexp 1 0 = 0 := (dval_made (show dval 1 0 = true by decide)).2
theorem made3 : dman 3 0 = 3 ∧ dexp 3 0 = 0 := (dval_made (show dval 3 0 = true by decide)).2
theorem made2 : dman 2 0 = 1 ∧ dexp 2 0 = 1 := by
  have h1 := dcode_shl (x := 1) (e := 1) (k := 1) (by decide) (by decide) (by decide)
  have h2 := dval_made (show dval 1 1 = true by decide)
  exact ⟨h1.2.1.trans h2.2.1, h1.2.2.trans h2.2.2⟩

theorem rnum_sign (x e : Int) : decide (rnum x e < 0) = decide (x < 0) := by unfold rnum; split; exact mul_two_neg _ _; rfl
theorem mkf (n : Nat) : mk false n = (n : Int) := rfl
theorem rnum_len {x e : Int} {a : Nat} (h : (dig x.natAbs).length ≤ a) (he : e ≤ 200000) : (dig (rnum x e).natAbs).length ≤ a + 6251 := by
  unfold rnum; split
  · have := shl_len' (k := e.toNat) h; omega
  · omega
theorem rden_len {e : Int} (he : -200000 ≤ e) : (dig (rden e)).length ≤ 6252 := by
  unfold rden; split
  · exact Nat.le_trans (dig_len_of_lt (show 1 < 4294967296 ^ 1 by decide)) (by decide)
  · have := dig_len_two (-e).toNat; omega
theorem cross_len {p : Int} {q a b : Nat} (hp : (dig p.natAbs).length ≤ a) (hq : (dig q).length ≤ b) : (dig (p * (q : Int)).natAbs).length ≤ a + b := by
  have := dig_len_mul p.natAbs q
  rw [Int.natAbs_mul, Int.natAbs_natCast]; omega
/-- Whether an interval holds a fraction. -/
def hasv (x e y f p : Int) (q : Nat) : Bool := decide (icmp (rnum x e * (q : Int)) (p * (rden e : Nat)) ≤ 0) && decide (icmp (p * (rden f : Nat)) (rnum y f * (q : Int)) ≤ 0)
def withinv (x e y f z g u h : Int) : Bool := decide (dcmp z g x e ≤ 0) && decide (dcmp y f u h ≤ 0)
def samev (x e y f z g u h : Int) : Bool := decide (x = z ∧ e = g) && decide (y = u ∧ f = h)
theorem dcmp_same {x e z g : Int} (hx : dval x e = true) (hz : dval z g = true) : dcmp x e z g = 0 ↔ (x = z ∧ e = g) := by
  rw [sw_dcmp hx hz, icmp_zero]
  exact ⟨fun h => dval_same hx hz (dval_K hx) (dval_K hz) h, fun ⟨a, b⟩ => by rw [a, b]⟩
theorem abs_sign_inj {x z : Int} (h : decide (x < 0) = decide (z < 0)) (h2 : x.natAbs = z.natAbs) : x = z := by
  have := mk_self x; rw [h, h2, mk_self] at this; exact this.symm
theorem hasv_eq {x e y f p : Int} {q : Nat} (hx : dval x e = true) (hy : dval y f = true) : hasv x e y f p q = (decide (sw x e * q ≤ p * 2 ^ 70000) && decide (p * 2 ^ 70000 ≤ sw y f * q)) := by
  unfold hasv
  have h1 : icmp (rnum x e * (q : Int)) (p * (rden e : Nat)) ≤ 0 ↔ sw x e * q ≤ p * 2 ^ 70000 := by rw [rat_le (dval_K hx), icmp_pos]; rfl
  have h2 : icmp (p * (rden f : Nat)) (rnum y f * (q : Int)) ≤ 0 ↔ p * 2 ^ 70000 ≤ sw y f * q := by
    have h3 := rat_le (x := y) (p := p) (q := q) (dval_K hy)
    rw [icmp_neg, h3]
    have h4 := icmp_ge (a := sv 70000 y f * q) (b := p * 2 ^ 70000)
    exact ⟨fun h => h4.1 (by omega), fun h => by have := h4.2 h; omega⟩
  rw [decide_eq_decide.2 h1, decide_eq_decide.2 h2]

theorem one08_c {w : World} {k : Nat} (hk : k ≤ 200000) :
    Calls Tryz.prog 38 #[.int .i64 (k : Nat)] w (Ret w fun r w' => No w.heap.size 83 w' r (dig (2 ^ k))) := by
 have hd1 : (dig 1).length ≤ 1 := dig_len_of_lt (by decide)
 have hd2 := dig_len_two k
 refine enter (args := [_]) Tryz.func38 rfl Tryz.ntmps38 rfl ?_
 refine WP_seq ?_
 refine WP_region ?_
 refine O_assign rfl rfl rfl ?_
 refine WL_end [(0, _)] ⟨rfl, trivial⟩ ?_
 refine WP_seq ?_
 refine WP_region ?_
 refine O_call enters37 rfl rfl rfl (rof_c 1 (by decide)) (fun v1 w1 e1 h1 => ?_)
 have z1 := e1.size
 try simp only [val_dig] at h1
 refine O_move rfl rfl rfl ?_
 refine O_call enters68 rfl rfl rfl (rshl_c h1.nl (by (try simp only [lens]); omega) (by (try simp only [lens]); omega)) (fun v2 w2 e2 h2 => ?_)
 have z2 := e2.size
 try simp only [val_dig] at h2
 rw [Nat.one_mul] at h2
 refine O_assign rfl rfl rfl ?_
 refine WL_end [(2, _)] ⟨rfl, trivial⟩ ?_
 refine WP_ret ?_
 refine ret1 Tryz.results38 rfl ?_
 exact ⟨_, rfl, (e1.trans e2), h2.mono (by omega)⟩

theorem drat_p {w : World} {vx : Value} {x : Int} {bx : Bool} (hbx : bx = decide (x < 0)) (hx : Nl w vx (dig x.natAbs)) (hlx : (dig x.natAbs).length ≤ 30000) {k : Nat} (hk : k ≤ 200000) :
    Calls Tryz.prog 12 #[.agg #[.bool bx, vx, .int .i64 (k : Nat)]] w (Ret w fun r w' => ∃ q s, r = .agg #[.bool (decide (rnum x (k : Int) < 0)), q, s] ∧ Nl w' q (dig (rnum x (k : Int)).natAbs) ∧ Nl w' s (dig (rden (k : Int)))) := by
 subst hbx
 refine enter (args := [_]) Tryz.func12 rfl Tryz.ntmps12 rfl ?_
 refine WP_seq ?_
 refine WP_region ?_
 refine O_box _ rfl rfl rfl rfl (fun g1 w1 b1 e1 gl1 gh1 => ?_)
 have z1 := e1.size
 refine O_alloc S35 rfl rfl (fun g2 w2 b2 e2 gl2 gh2 => ?_)
 have z2 := e2.size
 refine WL_end [(1, _), (2, _)] ⟨rfl, rfl, trivial⟩ ?_
 refine WP_seq ?_
 refine WP_seq ?_
 refine WP_region ?_
 refine O_field F26_1 rfl rfl rfl ?_
 refine O_loadC Tryz.underlying3 rfl rfl rfl rfl (b1.ext e2) rfl ?_
 refine O_geq (t := true) rfl rfl rfl rfl (decide_eq_true (Int.natCast_nonneg k)) ?_
 refine WL_end [(1, _), (2, _), (5, _)] ⟨rfl, rfl, rfl, trivial⟩ ?_
 refine WP_condT rfl ?_
 refine WP_seq ?_
 refine WP_region ?_
 refine O_field F26_0 rfl rfl rfl ?_
 refine O_loadA (vs := [_, _]) S24 rfl rfl rfl (b1.ext e2) rfl rfl ?_
 refine O_field F26_1 rfl rfl rfl ?_
 refine O_loadC Tryz.underlying3 rfl rfl rfl rfl (b1.ext e2) rfl ?_
 refine O_call enters40 rfl rfl rfl (ishl_c rfl (hx.ext (e1.trans e2)) (by (try simp only [lens]); omega) (by (try simp only [lens]); omega)) (fun v3 w3 e3 h3 => ?_)
 have z3 := e3.size
 try simp only [val_dig] at h3
 obtain ⟨q3, rfl, hq3⟩ := h3
 refine O_call enters41 rfl rfl rfl (of_c 1 (by decide)) (fun v4 w4 e4 h4 => ?_)
 have z4 := e4.size
 try simp only [val_dig] at h4
 refine O_build (cs := [_, _, _]) B35 rfl rfl rfl (cells_cons rfl (cells_cons (h4.nl).cells1 cells_nil)) rfl ?_
 refine O_storeA (cs' := [_, _, _]) S35 rfl rfl rfl ((b2.ext e3).ext e4) rfl rfl (one_cons rfl (one_cons ((hq3.ext e4).nl).one (one_cons (h4.nl).one one_nil))) rfl (fun w5 b5 q5 => ?_)
 have z5 := Nat.le_of_eq q5.size.symm
 have e5 : Ext w w5 := q5.ext (((e1.trans e2).trans e3).trans e4) (by omega)
 refine WL_end [(2, _)] ⟨rfl, trivial⟩ ?_
 refine WP_ret ?_
 refine retL Tryz.results12 (.cell rfl S35 b5 rfl .nil) ?_
 have h1 : rnum x (k : Int) = x * 2 ^ k := by unfold rnum; rw [if_pos (Int.natCast_nonneg k), Int.toNat_natCast]
 have h2 : rden (k : Int) = 1 := if_pos (Int.natCast_nonneg k)
 rw [h1, h2]
 exact ⟨_, rfl, e5, _, _, rfl, ((hq3.ext e4).chgBk ((b2.ext e3).ext e4) (by decide) q5).nl, (h4.chgBk ((b2.ext e3).ext e4) (by decide) q5).nl⟩

theorem drat_n {w : World} {vx : Value} {x : Int} {bx : Bool} (hbx : bx = decide (x < 0)) (hx : Nl w vx (dig x.natAbs)) (hlx : (dig x.natAbs).length ≤ 30000) {k : Nat} (hk : k ≤ 200000) (hk0 : 0 < k) :
    Calls Tryz.prog 12 #[.agg #[.bool bx, vx, .int .i64 (-((k : Nat) : Int))]] w (Ret w fun r w' => ∃ q s, r = .agg #[.bool (decide (rnum x (-((k : Nat) : Int)) < 0)), q, s] ∧ Nl w' q (dig (rnum x (-((k : Nat) : Int))).natAbs) ∧ Nl w' s (dig (rden (-((k : Nat) : Int))))) := by
 subst hbx
 have hd1 : (dig 1).length ≤ 1 := dig_len_of_lt (by decide)
 have hd2 := dig_len_two k
 refine enter (args := [_]) Tryz.func12 rfl Tryz.ntmps12 rfl ?_
 refine WP_seq ?_
 refine WP_region ?_
 refine O_box _ rfl rfl rfl rfl (fun g1 w1 b1 e1 gl1 gh1 => ?_)
 have z1 := e1.size
 refine O_alloc S35 rfl rfl (fun g2 w2 b2 e2 gl2 gh2 => ?_)
 have z2 := e2.size
 refine WL_end [(1, _), (2, _)] ⟨rfl, rfl, trivial⟩ ?_
 refine WP_seq ?_
 refine WP_seq ?_
 refine WP_region ?_
 refine O_field F26_1 rfl rfl rfl ?_
 refine O_loadC Tryz.underlying3 rfl rfl rfl rfl (b1.ext e2) rfl ?_
 refine O_geq (t := false) rfl rfl rfl rfl (decide_eq_false (by omega)) ?_
 refine WL_end [(1, _), (2, _), (5, _)] ⟨rfl, rfl, rfl, trivial⟩ ?_
 refine WP_condF rfl ?_
 refine WP_skip ?_
 refine WP_seq ?_
 refine WP_sub [(1, _), (2, _)] ⟨rfl, rfl, trivial⟩ ?_
 refine WP_anyR 11 [1, 2] mixed rfl (by kernel_rfl) ?_
 apply AnyR_val [1] rfl (by kernel_rfl)
 · --
  intro y3 hy3
  have zy3 := hy3.size
  refine AllV_nil ?_
  refine O_field F26_0 rfl rfl rfl ?_
  exact WL_nil ⟨(Ext.refl _), rfl⟩
 apply AnyR_val [13] rfl (by kernel_rfl)
 · --
  intro y4 hy4
  have zy4 := hy4.size
  refine AllV_v ?_
  refine AllV_nil ?_
  refine O_field F24_0 rfl rfl rfl ?_
  exact WL_nil ⟨(Ext.refl _), rfl⟩
 apply AnyR_val [14] rfl (by kernel_rfl)
 · --
  intro y5 hy5
  have zy5 := hy5.size
  refine AllV_v ?_
  refine AllV_nil ?_
  refine O_loadC Tryz.underlying4 rfl rfl rfl rfl ((b1.ext e2).ext hy5) rfl ?_
  exact WL_nil ⟨(Ext.refl _), rfl⟩
 apply AnyR_val [1] rfl (by kernel_rfl)
 · --
  intro y6 hy6
  have zy6 := hy6.size
  refine AllV_nil ?_
  refine O_field F26_0 rfl rfl rfl ?_
  exact WL_nil ⟨(Ext.refl _), rfl⟩
 apply AnyR_val [16] rfl (by kernel_rfl)
 · --
  intro y7 hy7
  have zy7 := hy7.size
  refine AllV_v ?_
  refine AllV_nil ?_
  refine O_field F24_1 rfl rfl rfl ?_
  exact WL_nil ⟨(Ext.refl _), rfl⟩
 apply AnyR_val [17] rfl (by kernel_rfl)
 · --
  intro y8 hy8
  have zy8 := hy8.size
  refine AllV_v ?_
  refine AllV_nil ?_
  refine O_loadC Tryz.underlying22 rfl rfl rfl rfl ((b1.ext e2).ext hy8) rfl ?_
  exact WL_nil ⟨(Ext.refl _), rfl⟩
 apply AnyR_rel (RelP (pAgg [pEq _, pNo w2.heap.size 83 _])) [15, 18] rfl (RelP.mono (pAgg_mono (PsM.cons pEq_mono (PsM.cons pNo_mono PsM.nil)))) (by kernel_rfl)
 · --
  intro y9 hy9
  have zy9 := hy9.size
  refine AllV_v ?_
  refine AllV_v ?_
  refine AllV_nil ?_
  refine O_call enters42 rfl rfl rfl (inat_c (hx.ext ((e1.trans e2).trans hy9)) (by (try simp only [lens]); omega)) (fun v10 w10 e10 h10 => ?_)
  have z10 := e10.size
  try simp only [val_dig] at h10
  obtain ⟨q10, rfl, hq10⟩ := h10
  simp only [mk_self] at hq10 ⊢
  exact WL_nil ⟨e10, _, rfl, ⟨_, rfl, (AllP.cons rfl (AllP.cons (hq10.mono (by omega)) AllP.nil))⟩⟩
 apply AnyR_no [] rfl (by kernel_rfl)
 · --
  intro y11 hy11
  have zy11 := hy11.size
  refine AllV_nil ?_
  refine O_call enters41 rfl rfl rfl (of_c 1 (by decide)) (fun v12 w12 e12 h12 => ?_)
  have z12 := e12.size
  try simp only [val_dig] at h12
  exact WL_nil ⟨e12, _, rfl, NoR.mk' h12⟩
 apply AnyR_val [1] rfl (by kernel_rfl)
 · --
  intro y13 hy13
  have zy13 := hy13.size
  refine AllV_nil ?_
  refine O_field F26_1 rfl rfl rfl ?_
  exact WL_nil ⟨(Ext.refl _), rfl⟩
 apply AnyR_val [21] rfl (by kernel_rfl)
 · --
  intro y14 hy14
  have zy14 := hy14.size
  refine AllV_v ?_
  refine AllV_nil ?_
  refine O_loadC Tryz.underlying3 rfl rfl rfl rfl ((b1.ext e2).ext hy14) rfl ?_
  exact WL_nil ⟨(Ext.refl _), rfl⟩
 apply AnyR_val [22] rfl (by kernel_rfl)
 · --
  intro y15 hy15
  have zy15 := hy15.size
  refine AllV_v ?_
  refine AllV_nil ?_
  refine O_neg (r := ((k : Nat) : Int)) rfl rfl rfl (by rw [IntKind.wrap_i64]; omega) ?_
  exact WL_nil ⟨(Ext.refl _), rfl⟩
 refine AnyR_nil fun y16 hy16 => ?_
 have zy16 := hy16.size
 refine AllV_v ?_
 refine AllV_v ?_
 refine AllV_v ?_
 refine AllV_v ?_
 refine AllV_v ?_
 refine AllV_v ?_
 refine AllV_r fun a17 b17 v17 la17 lb17 lc17 h17 ap17 => ?_
 clear ap17
 obtain ⟨_, rfl, v17_0, _, rfl, rfl, v17_1, _, rfl, h17_1, rfl⟩ := h17
 refine AllV_r fun a18 b18 v18 la18 lb18 lc18 h18 ap18 => ?_
 clear ap18
 refine AllV_v ?_
 refine AllV_v ?_
 refine AllV_v ?_
 refine AllV_nil ?_
 refine O_call enters43 rfl rfl rfl (shl_c h18.1.nl (by (try simp only [lens]); omega) (by (try simp only [lens]); omega)) (fun v19 w19 e19 h19 => ?_)
 have z19 := e19.size
 try simp only [val_dig] at h19
 rw [Nat.one_mul] at h19
 refine O_build (cs := [_, _, _]) B35 rfl rfl rfl (cells_cons rfl (cells_cons (h19.nl).cells1 cells_nil)) rfl ?_
 refine O_storeA (cs' := [_, _, _]) S35 rfl rfl rfl ((b2.ext hy16).ext e19) rfl rfl (one_cons rfl (one_cons ((h17_1.ext e19).nl).one (one_cons (h19.nl).one one_nil))) rfl (fun w20 b20 q20 => ?_)
 have z20 := Nat.le_of_eq q20.size.symm
 have e20 : Ext w w20 := q20.ext (((e1.trans e2).trans hy16).trans e19) (by omega)
 refine WL_end [(2, _)] ⟨rfl, trivial⟩ ?_
 refine WP_ret ?_
 refine retL Tryz.results12 (.cell rfl S35 b20 rfl .nil) ?_
 have h1 : rnum x (-((k : Nat) : Int)) = x := if_neg (by omega)
 have h2 : rden (-((k : Nat) : Int)) = 2 ^ k := by unfold rden; rw [if_neg (by omega), Int.neg_neg, Int.toNat_natCast]
 rw [h1, h2]
 exact ⟨_, rfl, e20, _, _, rfl, ((h17_1.ext e19).chgBk ((b2.ext hy16).ext e19) (by decide) q20).nl, (h19.chgBk ((b2.ext hy16).ext e19) (by decide) q20).nl⟩

theorem drat_c {w : World} {vx : Value} {x e : Int} {bx : Bool} (hbx : bx = decide (x < 0)) (hx : Nl w vx (dig x.natAbs)) (hlx : (dig x.natAbs).length ≤ 30000) (he1 : -200000 ≤ e) (he2 : e ≤ 200000) : Calls Tryz.prog 12 #[.agg #[.bool bx, vx, .int .i64 e]] w (Ret w fun r w' => ∃ q s, r = .agg #[.bool (decide (rnum x e < 0)), q, s] ∧ Nl w' q (dig (rnum x e).natAbs) ∧ Nl w' s (dig (rden e))) := by
  by_cases h0 : 0 ≤ e
  · obtain ⟨k, rfl⟩ : ∃ k : Nat, e = (k : Int) := ⟨e.toNat, by omega⟩
    exact drat_p hbx hx hlx (by omega)
  · obtain ⟨k, rfl⟩ : ∃ k : Nat, e = -(k : Int) := ⟨(-e).toNat, by omega⟩
    exact drat_n hbx hx hlx (by omega) (by omega)

theorem rdrat_p {w : World} {vx : Value} {x : Int} {bx : Bool} (hbx : bx = decide (x < 0)) (hx : Nl w vx (dig x.natAbs)) (hlx : (dig x.natAbs).length ≤ 30000) {k : Nat} (hk : k ≤ 200000) :
    Calls Tryz.prog 10 #[.agg #[.bool bx, vx, .int .i64 (k : Nat)]] w (Ret w fun r w' => ∃ q s, r = .agg #[.bool (decide (rnum x (k : Int) < 0)), q, s] ∧ Nl w' q (dig (rnum x (k : Int)).natAbs) ∧ Nl w' s (dig (rden (k : Int)))) := by
 subst hbx
 refine enter (args := [_]) Tryz.func10 rfl Tryz.ntmps10 rfl ?_
 refine WP_seq ?_
 refine WP_region ?_
 refine O_box _ rfl rfl rfl rfl (fun g1 w1 b1 e1 gl1 gh1 => ?_)
 have z1 := e1.size
 refine O_alloc S35 rfl rfl (fun g2 w2 b2 e2 gl2 gh2 => ?_)
 have z2 := e2.size
 refine WL_end [(1, _), (2, _)] ⟨rfl, rfl, trivial⟩ ?_
 refine WP_seq ?_
 refine WP_seq ?_
 refine WP_region ?_
 refine O_field F26_1 rfl rfl rfl ?_
 refine O_loadC Tryz.underlying3 rfl rfl rfl rfl (b1.ext e2) rfl ?_
 refine O_geq (t := true) rfl rfl rfl rfl (decide_eq_true (Int.natCast_nonneg k)) ?_
 refine WL_end [(1, _), (2, _), (5, _)] ⟨rfl, rfl, rfl, trivial⟩ ?_
 refine WP_condT rfl ?_
 refine WP_seq ?_
 refine WP_region ?_
 refine O_field F26_0 rfl rfl rfl ?_
 refine O_loadA (vs := [_, _]) S24 rfl rfl rfl (b1.ext e2) rfl rfl ?_
 refine O_field F26_1 rfl rfl rfl ?_
 refine O_loadC Tryz.underlying3 rfl rfl rfl rfl (b1.ext e2) rfl ?_
 refine O_call enters36 rfl rfl rfl (rishl_c rfl (hx.ext (e1.trans e2)) (by (try simp only [lens]); omega) (by (try simp only [lens]); omega)) (fun v3 w3 e3 h3 => ?_)
 have z3 := e3.size
 try simp only [val_dig] at h3
 obtain ⟨q3, rfl, hq3⟩ := h3
 refine O_call enters37 rfl rfl rfl (rof_c 1 (by decide)) (fun v4 w4 e4 h4 => ?_)
 have z4 := e4.size
 try simp only [val_dig] at h4
 refine O_build (cs := [_, _, _]) B35 rfl rfl rfl (cells_cons rfl (cells_cons (h4.nl).cells1 cells_nil)) rfl ?_
 refine O_storeA (cs' := [_, _, _]) S35 rfl rfl rfl ((b2.ext e3).ext e4) rfl rfl (one_cons rfl (one_cons ((hq3.ext e4).nl).one (one_cons (h4.nl).one one_nil))) rfl (fun w5 b5 q5 => ?_)
 have z5 := Nat.le_of_eq q5.size.symm
 have e5 : Ext w w5 := q5.ext (((e1.trans e2).trans e3).trans e4) (by omega)
 refine WL_end [(2, _)] ⟨rfl, trivial⟩ ?_
 refine WP_ret ?_
 refine retL Tryz.results10 (.cell rfl S35 b5 rfl .nil) ?_
 have h1 : rnum x (k : Int) = x * 2 ^ k := by unfold rnum; rw [if_pos (Int.natCast_nonneg k), Int.toNat_natCast]
 have h2 : rden (k : Int) = 1 := if_pos (Int.natCast_nonneg k)
 rw [h1, h2]
 exact ⟨_, rfl, e5, _, _, rfl, ((hq3.ext e4).chgBk ((b2.ext e3).ext e4) (by decide) q5).nl, (h4.chgBk ((b2.ext e3).ext e4) (by decide) q5).nl⟩

theorem rdrat_n {w : World} {vx : Value} {x : Int} {bx : Bool} (hbx : bx = decide (x < 0)) (hx : Nl w vx (dig x.natAbs)) (hlx : (dig x.natAbs).length ≤ 30000) {k : Nat} (hk : k ≤ 200000) (hk0 : 0 < k) :
    Calls Tryz.prog 10 #[.agg #[.bool bx, vx, .int .i64 (-((k : Nat) : Int))]] w (Ret w fun r w' => ∃ q s, r = .agg #[.bool (decide (rnum x (-((k : Nat) : Int)) < 0)), q, s] ∧ Nl w' q (dig (rnum x (-((k : Nat) : Int))).natAbs) ∧ Nl w' s (dig (rden (-((k : Nat) : Int))))) := by
 subst hbx
 have hd1 : (dig 1).length ≤ 1 := dig_len_of_lt (by decide)
 have hd2 := dig_len_two k
 refine enter (args := [_]) Tryz.func10 rfl Tryz.ntmps10 rfl ?_
 refine WP_seq ?_
 refine WP_region ?_
 refine O_box _ rfl rfl rfl rfl (fun g1 w1 b1 e1 gl1 gh1 => ?_)
 have z1 := e1.size
 refine O_alloc S35 rfl rfl (fun g2 w2 b2 e2 gl2 gh2 => ?_)
 have z2 := e2.size
 refine WL_end [(1, _), (2, _)] ⟨rfl, rfl, trivial⟩ ?_
 refine WP_seq ?_
 refine WP_seq ?_
 refine WP_region ?_
 refine O_field F26_1 rfl rfl rfl ?_
 refine O_loadC Tryz.underlying3 rfl rfl rfl rfl (b1.ext e2) rfl ?_
 refine O_geq (t := false) rfl rfl rfl rfl (decide_eq_false (by omega)) ?_
 refine WL_end [(1, _), (2, _), (5, _)] ⟨rfl, rfl, rfl, trivial⟩ ?_
 refine WP_condF rfl ?_
 refine WP_skip ?_
 refine WP_seq ?_
 refine WP_sub [(1, _), (2, _)] ⟨rfl, rfl, trivial⟩ ?_
 refine WP_anyR 6 [1, 2] mixed rfl (by kernel_rfl) ?_
 apply AnyR_val [1] rfl (by kernel_rfl)
 · --
  intro y3 hy3
  have zy3 := hy3.size
  refine AllV_nil ?_
  refine O_field F26_0 rfl rfl rfl ?_
  exact WL_nil ⟨(Ext.refl _), rfl⟩
 apply AnyR_val [13] rfl (by kernel_rfl)
 · --
  intro y4 hy4
  have zy4 := hy4.size
  refine AllV_v ?_
  refine AllV_nil ?_
  refine O_loadA (vs := [_, _]) S24 rfl rfl rfl ((b1.ext e2).ext hy4) rfl rfl ?_
  exact WL_nil ⟨(Ext.refl _), rfl⟩
 apply AnyR_val [1] rfl (by kernel_rfl)
 · --
  intro y5 hy5
  have zy5 := hy5.size
  refine AllV_nil ?_
  refine O_field F26_1 rfl rfl rfl ?_
  exact WL_nil ⟨(Ext.refl _), rfl⟩
 apply AnyR_val [15] rfl (by kernel_rfl)
 · --
  intro y6 hy6
  have zy6 := hy6.size
  refine AllV_v ?_
  refine AllV_nil ?_
  refine O_loadC Tryz.underlying3 rfl rfl rfl rfl ((b1.ext e2).ext hy6) rfl ?_
  exact WL_nil ⟨(Ext.refl _), rfl⟩
 apply AnyR_val [16] rfl (by kernel_rfl)
 · --
  intro y7 hy7
  have zy7 := hy7.size
  refine AllV_v ?_
  refine AllV_nil ?_
  refine O_neg (r := ((k : Nat) : Int)) rfl rfl rfl (by rw [IntKind.wrap_i64]; omega) ?_
  exact WL_nil ⟨(Ext.refl _), rfl⟩
 apply AnyR_no [17] rfl (by kernel_rfl)
 · --
  intro y8 hy8
  have zy8 := hy8.size
  refine AllV_v ?_
  refine AllV_nil ?_
  refine O_call enters38 rfl rfl rfl (one08_c (by (try simp only [lens]); omega)) (fun v9 w9 e9 h9 => ?_)
  have z9 := e9.size
  try simp only [val_dig] at h9
  exact WL_nil ⟨e9, _, rfl, NoR.mk' h9⟩
 refine AnyR_nil fun y10 hy10 => ?_
 have zy10 := hy10.size
 refine AllV_v ?_
 refine AllV_v ?_
 refine AllV_v ?_
 refine AllV_v ?_
 refine AllV_v ?_
 refine AllV_r fun a11 b11 v11 la11 lb11 lc11 h11 ap11 => ?_
 clear ap11
 refine AllV_nil ?_
 refine O_build (cs := [_, _, _]) B35 rfl rfl rfl (cells_cons rfl (cells_cons (h11.1.nl).cells1 cells_nil)) rfl ?_
 refine O_storeA (cs' := [_, _, _]) S35 rfl rfl rfl (b2.ext hy10) rfl rfl (one_cons rfl (one_cons ((hx.ext ((e1.trans e2).trans hy10))).one (one_cons (h11.1.nl).one one_nil))) rfl (fun w12 b12 q12 => ?_)
 have z12 := Nat.le_of_eq q12.size.symm
 have e12 : Ext w w12 := q12.ext ((e1.trans e2).trans hy10) (by omega)
 refine WL_end [(2, _)] ⟨rfl, trivial⟩ ?_
 refine WP_ret ?_
 refine retL Tryz.results10 (.cell rfl S35 b12 rfl .nil) ?_
 have h1 : rnum x (-((k : Nat) : Int)) = x := if_neg (by omega)
 have h2 : rden (-((k : Nat) : Int)) = 2 ^ k := by unfold rden; rw [if_neg (by omega), Int.neg_neg, Int.toNat_natCast]
 rw [h1, h2]
 exact ⟨_, rfl, e12, _, _, rfl, (hx.ext e12), (h11.1.chgBk (b2.ext hy10) (by decide) q12).nl⟩

theorem rdrat_c {w : World} {vx : Value} {x e : Int} {bx : Bool} (hbx : bx = decide (x < 0)) (hx : Nl w vx (dig x.natAbs)) (hlx : (dig x.natAbs).length ≤ 30000) (he1 : -200000 ≤ e) (he2 : e ≤ 200000) : Calls Tryz.prog 10 #[.agg #[.bool bx, vx, .int .i64 e]] w (Ret w fun r w' => ∃ q s, r = .agg #[.bool (decide (rnum x e < 0)), q, s] ∧ Nl w' q (dig (rnum x e).natAbs) ∧ Nl w' s (dig (rden e))) := by
  by_cases h0 : 0 ≤ e
  · obtain ⟨k, rfl⟩ : ∃ k : Nat, e = (k : Int) := ⟨e.toNat, by omega⟩
    exact rdrat_p hbx hx hlx (by omega)
  · obtain ⟨k, rfl⟩ : ∃ k : Nat, e = -(k : Int) := ⟨(-e).toNat, by omega⟩
    exact rdrat_n hbx hx hlx (by omega) (by omega)

theorem den07_c {w : World} {vp vq : Value} {p : Int} {q : Nat} {bp : Bool} (hbp : bp = decide (p < 0)) (hp : Nl w vp (dig p.natAbs)) (hq : Nl w vq (dig q)) (hlp : (dig p.natAbs).length ≤ 30000) (hlq : (dig q).length ≤ 30000) :
    Calls Tryz.prog 47 #[.agg #[.bool bp, vp, vq]] w (Ret w fun r w' => ∃ a, r = .agg #[.bool (decide ((q : Int) < 0)), a] ∧ No w.heap.size 83 w' a (dig (q : Int).natAbs)) := by
 subst hbp
 refine enter (args := [_]) Tryz.func47 rfl Tryz.ntmps47 rfl ?_
 refine WP_seq ?_
 refine WP_region ?_
 refine O_box _ rfl rfl rfl rfl (fun g1 w1 b1 e1 gl1 gh1 => ?_)
 have z1 := e1.size
 refine O_alloc S24 rfl rfl (fun g2 w2 b2 e2 gl2 gh2 => ?_)
 have z2 := e2.size
 refine WL_end [(1, _), (2, _)] ⟨rfl, rfl, trivial⟩ ?_
 refine WP_seq ?_
 refine WP_region ?_
 refine O_field F35_1 rfl rfl rfl ?_
 refine O_loadC Tryz.underlying22 rfl rfl rfl rfl (b1.ext e2) rfl ?_
 refine O_call enters57 rfl rfl rfl (rinat_c (hq.ext (e1.trans e2)) (by (try simp only [lens]); omega)) (fun v3 w3 e3 h3 => ?_)
 have z3 := e3.size
 try simp only [val_dig] at h3
 obtain ⟨q3, rfl, hq3⟩ := h3
 simp only [mkf] at hq3 ⊢
 refine O_storeA (cs' := [_, _]) S24 rfl rfl rfl (b2.ext e3) rfl rfl (one_cons rfl (one_cons (hq3.nl).one one_nil)) rfl (fun w4 b4 q4 => ?_)
 have z4 := Nat.le_of_eq q4.size.symm
 have e4 : Ext w w4 := q4.ext ((e1.trans e2).trans e3) (by omega)
 refine WL_end [(2, _)] ⟨rfl, trivial⟩ ?_
 refine WP_ret ?_
 refine retL Tryz.results47 (.cell rfl S24 b4 rfl .nil) ?_
 exact ⟨_, rfl, e4, _, rfl, (hq3.chgBk (b2.ext e3) (by decide) q4).mono (by omega)⟩

theorem rgcd_c {w : World} {va vb : Value} {a b : Nat} (ha : Nl w va (dig a)) (hb : Nl w vb (dig b)) (hla : (dig a).length ≤ 1000000) (hlb : (dig b).length ≤ 1000000) :
    Calls Tryz.prog 98 #[va, vb] w (Ret w fun r w' => Nl w' r (dig (Nat.gcd a b))) := by
 refine enter (args := [va, vb]) Tryz.func98 rfl Tryz.ntmps98 rfl ?_
 refine WP_seq ?_
 refine WP_region ?_
 refine O_assign rfl rfl rfl ?_
 refine WL_end [(0, _), (1, _)] ⟨rfl, rfl, trivial⟩ ?_
 refine WP_seq ?_
 refine WP_block ?_
 refine WP_loop (S := Nat × Nat × Value × Value) (fun (x, y, vx, vy) => [(0, vx), (1, vy)]) (fun (x, y, vx, vy) w' => Ext w w' ∧ Nl w' vx (dig x) ∧ Nl w' vy (dig y) ∧ Nat.gcd x y = Nat.gcd a b ∧ (dig x).length ≤ 1000000 ∧ (dig y).length ≤ 1000000) (fun (x, y, vx, vy) => y) (a, b, va, vb) ⟨rfl, rfl, trivial⟩ ⟨(Ext.refl _), ha, hb, rfl, hla, hlb⟩ ?_
 rintro ⟨x, y, vx, vy⟩ wL ⟨hE, hvx, hvy, hg, hlx, hly⟩
 show WP _ _ _ _ _ [(0, vx), (1, vy)] _
 have hz := hE.size
 refine WP_seq ?_
 refine WP_seq ?_
 refine WP_region ?_
 refine O_move rfl rfl rfl ?_
 refine N_len T22 rfl rfl rfl hvy ?_
 refine O_gtr rfl rfl rfl rfl rfl ?_
 refine WL_end [(0, _), (1, _), (10, _)] ⟨rfl, rfl, rfl, trivial⟩ ?_
 refine WP_condD rfl (fun c10 => ?_) (fun c10 => ?_)
 · --
  refine WP_skip ?_
  refine WP_block ?_
  refine WP_seq ?_
  refine WP_region ?_
  refine O_move rfl rfl rfl ?_
  refine O_move rfl rfl rfl ?_
  have hy0 : y ≠ 0 := fun e => by rw [e, dig_zero] at c10; simp at c10
  refine O_call enters105 rfl rfl rfl (rdivmod_t hvx hvy (by (try simp only [lens]); omega) (by (try simp only [lens]); omega) (by first | assumption | rfl | omega | (simp only [val_dig]; first | assumption | omega) | (simp only [val_dig, val]; decide) | (rw [val_dig]; decide))) (fun v1 w1 e1 h1 => ?_)
  have z1 := e1.size
  try simp only [val_dig] at h1
  obtain ⟨q1, r1, rfl, hq1, hr1⟩ := h1
  refine O_move rfl rfl rfl ?_
  refine O_extract rfl rfl rfl rfl ?_
  refine O_extract rfl rfl rfl rfl ?_
  refine O_extract rfl rfl rfl rfl ?_
  refine O_assign rfl rfl rfl ?_
  refine O_assign rfl rfl rfl ?_
  refine O_assign rfl rfl rfl ?_
  refine WL_end [(1, _), (6, _)] ⟨rfl, rfl, trivial⟩ ?_
  refine WP_region ?_
  refine O_move rfl rfl rfl ?_
  refine O_move rfl rfl rfl ?_
  refine O_assign rfl rfl rfl ?_
  refine O_assign rfl rfl rfl ?_
  refine WL_end [(0, _), (1, _)] ⟨rfl, rfl, trivial⟩ ?_
  have hm := Nat.mod_lt x (Nat.pos_of_ne_zero hy0)
  exact ⟨(y, x % y, _, _), ⟨rfl, rfl, trivial⟩, ⟨(hE.trans e1), (hvy.ext e1), hr1.nl, by rw [gcd_step]; exact hg, hly, Nat.le_trans (dig_len_mono (Nat.le_of_lt hm)) hly⟩, hm⟩
 · --
  refine WP_exit ?_
  refine inBlk_hit ?_
  refine WP_seq ?_
  refine WP_region ?_
  refine O_move rfl rfl rfl ?_
  refine O_assign rfl rfl rfl ?_
  refine WL_end [(4, _)] ⟨rfl, trivial⟩ ?_
  refine WP_ret ?_
  refine ret1 Tryz.results98 rfl ?_
  obtain rfl : y = 0 := dig_len_zero.1 (by omega)
  rw [Nat.gcd_zero_right] at hg
  exact ⟨_, rfl, hE, by rw [← hg]; exact hvx⟩

theorem rlowest_c {w : World} {va vb : Value} {a b : Nat} (ha : Nl w va (dig a)) (hb : Nl w vb (dig b)) (hla : (dig a).length ≤ 100000) (hlb : (dig b).length ≤ 100000) (h0 : b ≠ 0) :
    Calls Tryz.prog 89 #[va, vb] w (Ret w fun r w' => ∃ p q, r = .tuple #[p, q, .bool true] ∧ No w.heap.size 83 w' p (dig (a / Nat.gcd a b)) ∧ No w.heap.size 83 w' q (dig (b / Nat.gcd a b))) := by
 have hLg := dig_len_gcd a b
 refine enter (args := [va, vb]) Tryz.func89 rfl Tryz.ntmps89 rfl ?_
 refine WP_seq ?_
 refine WP_region ?_
 refine O_assign rfl rfl rfl ?_
 refine O_assign rfl rfl rfl ?_
 refine O_assign rfl rfl rfl ?_
 refine WL_end [(0, _), (1, _)] ⟨rfl, rfl, trivial⟩ ?_
 refine WP_seq ?_
 refine WP_seq ?_
 refine WP_region ?_
 refine O_move rfl rfl rfl ?_
 refine N_len T22 rfl rfl rfl hb ?_
 refine O_eql (t := false) rfl rfl rfl rfl (decide_eq_false (fun h => h0 (dig_len_zero.1 (by omega)))) ?_
 refine WL_end [(0, _), (1, _), (10, _)] ⟨rfl, rfl, rfl, trivial⟩ ?_
 refine WP_condF rfl ?_
 refine WP_skip ?_
 refine WP_seq ?_
 refine WP_region ?_
 refine O_move rfl rfl rfl ?_
 refine O_move rfl rfl rfl ?_
 refine O_call enters98 rfl rfl rfl (rgcd_c ha hb (by (try simp only [lens]); omega) (by (try simp only [lens]); omega)) (fun v1 w1 e1 h1 => ?_)
 have z1 := e1.size
 refine O_assign rfl rfl rfl ?_
 refine WL_end [(0, _), (1, _), (7, _)] ⟨rfl, rfl, rfl, trivial⟩ ?_
 refine WP_seq ?_
 refine WP_region ?_
 refine O_move rfl rfl rfl ?_
 refine O_move rfl rfl rfl ?_
 refine O_call enters99 rfl rfl rfl (rdiv_c (ha.ext e1) h1 (by (try simp only [lens]); omega) (by (try simp only [lens]); omega)) (fun v2 w2 e2 h2 => ?_)
 have z2 := e2.size
 try simp only [val_dig] at h2
 refine O_move rfl rfl rfl ?_
 refine O_move rfl rfl rfl ?_
 refine O_call enters99 rfl rfl rfl (rdiv_c (hb.ext (e1.trans e2)) (h1.ext e2) (by (try simp only [lens]); omega) (by (try simp only [lens]); omega)) (fun v3 w3 e3 h3 => ?_)
 have z3 := e3.size
 try simp only [val_dig] at h3
 refine O_assign rfl rfl rfl ?_
 refine O_assign rfl rfl rfl ?_
 refine O_assign rfl rfl rfl ?_
 refine WL_end [(4, _), (5, _), (6, _)] ⟨rfl, rfl, rfl, trivial⟩ ?_
 refine WP_ret ?_
 refine ret3 Tryz.results89 rfl rfl rfl ?_
 exact ⟨_, rfl, ((e1.trans e2).trans e3), _, _, rfl, (h2.ext e3).mono (by omega), h3.mono (by omega)⟩

theorem rmake07_c {w : World} {vx vy : Value} {x y : Int} {bx by_ : Bool} (hbx : bx = decide (x < 0)) (hx : Nl w vx (dig x.natAbs)) (hby : by_ = decide (y < 0)) (hy : Nl w vy (dig y.natAbs)) (hlx : (dig x.natAbs).length ≤ 90000) (hly : (dig y.natAbs).length ≤ 90000) (h0 : y ≠ 0) :
    Calls Tryz.prog 73 #[.agg #[.bool bx, vx], .agg #[.bool by_, vy]] w (Ret w fun r w' => ∃ q s, r = .tuple #[.agg #[.bool (decide (mk (!(decide (x < 0) == decide (y < 0))) (x.natAbs / x.natAbs.gcd y.natAbs) < 0)), q, s], .int .i64 0] ∧ No w.heap.size 83 w' q (dig (mk (!(decide (x < 0) == decide (y < 0))) (x.natAbs / x.natAbs.gcd y.natAbs)).natAbs) ∧ No w.heap.size 83 w' s (dig (y.natAbs / x.natAbs.gcd y.natAbs))) := by
 subst hbx
 subst hby
 have hLa := dig_len_mono (Nat.div_le_self x.natAbs (x.natAbs.gcd y.natAbs))
 refine enter (args := [_, _]) Tryz.func73 rfl Tryz.ntmps73 rfl ?_
 refine WP_seq ?_
 refine WP_region ?_
 refine O_box _ rfl rfl rfl rfl (fun g1 w1 b1 e1 gl1 gh1 => ?_)
 have z1 := e1.size
 refine O_box _ rfl rfl rfl rfl (fun g2 w2 b2 e2 gl2 gh2 => ?_)
 have z2 := e2.size
 refine O_alloc S35 rfl rfl (fun g3 w3 b3 e3 gl3 gh3 => ?_)
 have z3 := e3.size
 refine O_assign rfl rfl rfl ?_
 refine WL_end [(2, _), (3, _), (4, _)] ⟨rfl, rfl, rfl, trivial⟩ ?_
 refine WP_seq ?_
 refine WP_region ?_
 refine O_field F24_1 rfl rfl rfl ?_
 refine O_loadC Tryz.underlying22 rfl rfl rfl rfl ((b1.ext e2).ext e3) rfl ?_
 refine O_field F24_1 rfl rfl rfl ?_
 refine O_loadC Tryz.underlying22 rfl rfl rfl rfl (b2.ext e3) rfl ?_
 refine O_call enters89 rfl rfl rfl (rlowest_c (hx.ext ((e1.trans e2).trans e3)) (hy.ext ((e1.trans e2).trans e3)) (by (try simp only [lens]); omega) (by (try simp only [lens]); omega) (by (try simp only [lens]); omega)) (fun v4 w4 e4 h4 => ?_)
 have z4 := e4.size
 try simp only [val_dig] at h4
 obtain ⟨q4, r4, rfl, hq4, hr4⟩ := h4
 refine O_move rfl rfl rfl ?_
 refine O_extract rfl rfl rfl rfl ?_
 refine O_extract rfl rfl rfl rfl ?_
 refine O_extract rfl rfl rfl rfl ?_
 refine O_assign rfl rfl rfl ?_
 refine O_assign rfl rfl rfl ?_
 refine O_assign rfl rfl rfl ?_
 refine WL_end [(2, _), (3, _), (4, _), (6, _), (7, _), (8, _)] ⟨rfl, rfl, rfl, rfl, rfl, rfl, trivial⟩ ?_
 refine WP_seq ?_
 refine WP_seq ?_
 refine WP_region ?_
 refine O_move rfl rfl rfl ?_
 refine O_not rfl rfl rfl rfl ?_
 refine WL_end [(2, _), (3, _), (4, _), (6, _), (7, _), (19, _)] ⟨rfl, rfl, rfl, rfl, rfl, rfl, trivial⟩ ?_
 refine WP_condF rfl ?_
 refine WP_skip ?_
 refine WP_seq ?_
 refine WP_region ?_
 refine O_field F24_0 rfl rfl rfl ?_
 refine O_loadC Tryz.underlying4 rfl rfl rfl rfl (((b1.ext e2).ext e3).ext e4) rfl ?_
 refine O_field F24_0 rfl rfl rfl ?_
 refine O_loadC Tryz.underlying4 rfl rfl rfl rfl ((b2.ext e3).ext e4) rfl ?_
 refine O_bneq Tryz.underlying4 rfl rfl rfl rfl rfl ?_
 refine O_move rfl rfl rfl ?_
 refine O_call enters57 rfl rfl rfl (rinat_c hq4.nl (by (try simp only [lens]); omega)) (fun v5 w5 e5 h5 => ?_)
 have z5 := e5.size
 try simp only [val_dig] at h5
 obtain ⟨q5, rfl, hq5⟩ := h5
 refine O_move rfl rfl rfl ?_
 refine O_build (cs := [_, _, _]) B35 rfl rfl rfl (cells_cons rfl (cells_cons ((hr4.ext e5).nl).cells1 cells_nil)) rfl ?_
 refine O_storeA (cs' := [_, _, _]) S35 rfl rfl rfl ((b3.ext e4).ext e5) rfl rfl (one_cons rfl (one_cons (hq5.nl).one (one_cons ((hr4.ext e5).nl).one one_nil))) rfl (fun w6 b6 q6 => ?_)
 have z6 := Nat.le_of_eq q6.size.symm
 have e6 : Ext w w6 := q6.ext ((((e1.trans e2).trans e3).trans e4).trans e5) (by omega)
 refine O_assign rfl rfl rfl ?_
 refine WL_end [(4, _), (5, _)] ⟨rfl, rfl, trivial⟩ ?_
 refine WP_ret ?_
 refine retL Tryz.results73 (.cell rfl S35 b6 rfl (.tmp rfl .nil)) ?_
 exact ⟨_, rfl, e6, _, _, rfl, (hq5.chgBk ((b3.ext e4).ext e5) (by decide) q6).mono (by omega), ((hr4.ext e5).chgBk ((b3.ext e4).ext e5) (by decide) q6).mono (by omega)⟩


theorem dvalT_c {w : World} {vx : Value} {x e : Int} {bx : Bool} (hbx : bx = decide (x < 0)) (hx : Nl w vx (dig x.natAbs)) (hlx : (dig x.natAbs).length ≤ 30000) (hv : dval x e = true) : Calls Tryz.prog 9 #[.agg #[.bool bx, vx, .int .i64 e]] w (Ret w fun r _ => r = .bool true) :=
  (dval_c hbx hx hlx).mono fun _ w' ⟨r, he, hx', hr⟩ => ⟨r, he, hx', by rw [hr, hv]⟩

theorem rsameR_c {w : World} {vp vq : Value} {p : Int} {q : Nat} {bp : Bool} (hbp : bp = decide (p < 0)) (hp : Nl w vp (dig p.natAbs)) (hq : Nl w vq (dig q))  {vs vt : Value} (hs : Nl w vs (dig p.natAbs)) (ht : Nl w vt (dig q)) (hlp : (dig p.natAbs).length ≤ 30000) (hlq : (dig q).length ≤ 30000) :
    Calls Tryz.prog 11 #[.agg #[.bool bp, vp, vq], .agg #[.bool bp, vs, vt]] w (Ret w fun r _ => r = .bool true) := by
 subst hbp
 refine enter (args := [_, _]) Tryz.func11 rfl Tryz.ntmps11 rfl ?_
 refine WP_seq ?_
 refine WP_region ?_
 refine O_box _ rfl rfl rfl rfl (fun g1 w1 b1 e1 gl1 gh1 => ?_)
 have z1 := e1.size
 refine O_box _ rfl rfl rfl rfl (fun g2 w2 b2 e2 gl2 gh2 => ?_)
 have z2 := e2.size
 refine O_assign rfl rfl rfl ?_
 refine WL_end [(2, _), (3, _)] ⟨rfl, rfl, trivial⟩ ?_
 refine WP_seq ?_
 refine WP_region ?_
 refine O_field F35_0 rfl rfl rfl ?_
 refine O_loadA (vs := [_, _]) S24 rfl rfl rfl (b1.ext e2) rfl rfl ?_
 refine O_field F35_0 rfl rfl rfl ?_
 refine O_loadA (vs := [_, _]) S24 rfl rfl rfl b2 rfl rfl ?_
 refine O_call enters22 rfl rfl rfl (isame_c rfl (hp.ext (e1.trans e2)) (hs.ext (e1.trans e2)) (by (try simp only [lens]); omega) (by (try simp only [lens]); omega) rfl) (fun v3 w3 e3 h3 => ?_)
 have z3 := e3.size
 obtain rfl := h3
 refine O_move rfl rfl rfl ?_
 refine O_field F35_1 rfl rfl rfl ?_
 refine O_loadC Tryz.underlying22 rfl rfl rfl rfl ((b1.ext e2).ext e3) rfl ?_
 refine O_field F35_1 rfl rfl rfl ?_
 refine O_loadC Tryz.underlying22 rfl rfl rfl rfl (b2.ext e3) rfl ?_
 refine O_call enters39 rfl rfl rfl (rsame_c (hq.ext ((e1.trans e2).trans e3)) (ht.ext ((e1.trans e2).trans e3)) (by (try simp only [lens]); omega) (by (try simp only [lens]); omega) rfl) (fun v4 w4 e4 h4 => ?_)
 have z4 := e4.size
 obtain rfl := h4
 refine O_pickT rfl rfl rfl rfl ?_
 refine O_assign rfl rfl rfl ?_
 refine WL_end [(4, _)] ⟨rfl, trivial⟩ ?_
 refine WP_ret ?_
 refine ret1 Tryz.results11 rfl ?_
 exact ⟨_, rfl, (((e1.trans e2).trans e3).trans e4), rfl⟩

end Go.Proofs.YtnfnadhbjdcbnaaGreatDoor
