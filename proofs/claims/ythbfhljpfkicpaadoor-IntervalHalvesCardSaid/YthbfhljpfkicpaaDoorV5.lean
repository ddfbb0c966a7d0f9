/-
  Walks.
-/
import Derived.Test.YthbfhljpfkicpaaDoorV7
set_option linter.unusedVariables false
set_option linter.unusedSimpArgs false
set_option maxRecDepth 100000
namespace Go.Proofs.YthbfhljpfkicpaaDoor
open Go Go.RowKit
/-- The greater and the lesser of two dyadics. -/
def dgx (x e y f : Int) : Int := if dcmp x e y f < 0 then y else x
def dge (x e y f : Int) : Int := if dcmp x e y f < 0 then f else e
def dlx (x e y f : Int) : Int := if 0 < dcmp x e y f then y else x
def dle (x e y f : Int) : Int := if 0 < dcmp x e y f then f else e
theorem dval_dg {x e y f : Int} (hx : dval x e = true) (hy : dval y f = true) : dval (dgx x e y f) (dge x e y f) = true := by unfold dgx dge; split <;> assumption
theorem dval_dl {x e y f : Int} (hx : dval x e = true) (hy : dval y f = true) : dval (dlx x e y f) (dle x e y f) = true := by unfold dlx dle; split <;> assumption
theorem sw_dg {x e y f : Int} (hx : dval x e = true) (hy : dval y f = true) : sw (dgx x e y f) (dge x e y f) = max (sw x e) (sw y f) := by
  unfold dgx dge
  have h := icmp_lt (a := sw x e) (b := sw y f)
  rw [← sw_dcmp hx hy] at h
  split <;> omega
theorem sw_dl {x e y f : Int} (hx : dval x e = true) (hy : dval y f = true) : sw (dlx x e y f) (dle x e y f) = min (sw x e) (sw y f) := by
  unfold dlx dle
  have h := icmp_gt (a := sw x e) (b := sw y f)
  rw [← sw_dcmp hx hy] at h
  split <;> omega
theorem mul_le_max {A C p : Int} {q : Nat} : max A C * (q : Int) ≤ p ↔ A * q ≤ p ∧ C * q ≤ p := by
  have hq : (0 : Int) ≤ (q : Nat) := by omega
  rcases Int.le_total A C with h | h
  · have h1 := Int.mul_le_mul_of_nonneg_right h hq
    rw [Int.max_eq_right h]; exact ⟨fun k => ⟨by omega, k⟩, fun k => k.2⟩
  · have h1 := Int.mul_le_mul_of_nonneg_right h hq
    rw [Int.max_eq_left h]; exact ⟨fun k => ⟨k, by omega⟩, fun k => k.1⟩
theorem le_mul_min {B D p : Int} {q : Nat} : p ≤ min B D * (q : Int) ↔ p ≤ B * q ∧ p ≤ D * q := by
  have hq : (0 : Int) ≤ (q : Nat) := by omega
  rcases Int.le_total B D with h | h
  · have h1 := Int.mul_le_mul_of_nonneg_right h hq
    rw [Int.min_eq_left h]; exact ⟨fun k => ⟨k, by omega⟩, fun k => k.1⟩
  · have h1 := Int.mul_le_mul_of_nonneg_right h hq
    rw [Int.min_eq_right h]; exact ⟨fun k => ⟨by omega, k⟩, fun k => k.2⟩
section
variable {x e y f z g u h p : Int} {q : Nat} (hx : dval x e = true) (hy : dval y f = true) (hz : dval z g = true) (hu : dval u h = true)
include hx hy hz hu
theorem meet_iff : dcmp (dgx x e z g) (dge x e z g) (dlx y f u h) (dle y f u h) ≤ 0 ↔ max (sw x e) (sw z g) ≤ min (sw y f) (sw u h) := by
  rw [sw_dcmp (dval_dg hx hz) (dval_dl hy hu), sw_dg hx hz, sw_dl hy hu, icmp_pos]
theorem meet_has : hasv (dgx x e z g) (dge x e z g) (dlx y f u h) (dle y f u h) p q = (hasv x e y f p q && hasv z g u h p q) := by
  rw [hasv_eq (dval_dg hx hz) (dval_dl hy hu), hasv_eq hx hy, hasv_eq hz hu, sw_dg hx hz, sw_dl hy hu]
  rw [decide_eq_decide.2 (mul_le_max (A := sw x e) (C := sw z g)), decide_eq_decide.2 (le_mul_min (B := sw y f) (D := sw u h))]
  rw [Bool.decide_and, Bool.decide_and]
  generalize decide (sw x e * (q : Int) ≤ p * 2 ^ 70000) = a
  generalize decide (sw z g * (q : Int) ≤ p * 2 ^ 70000) = b
  generalize decide (p * 2 ^ 70000 ≤ sw y f * (q : Int)) = c
  generalize decide (p * 2 ^ 70000 ≤ sw u h * (q : Int)) = d
  cases a <;> cases b <;> cases c <;> cases d <;> rfl
theorem meet_not (h1 : dcmp x e y f ≤ 0) (h2 : dcmp z g u h ≤ 0) (hm : ¬ dcmp (dgx x e z g) (dge x e z g) (dlx y f u h) (dle y f u h) ≤ 0) (hq : 0 < q) : (hasv x e y f p q && hasv z g u h p q) = false := by
  rw [← meet_has hx hy hz hu, hasv_eq (dval_dg hx hz) (dval_dl hy hu), sw_dg hx hz, sw_dl hy hu]
  rw [meet_iff hx hy hz hu] at hm
  rw [Bool.and_eq_false_iff]
  have h3 := Int.mul_lt_mul_of_pos_right (show min (sw y f) (sw u h) < max (sw x e) (sw z g) by omega) (show (0 : Int) < (q : Nat) by omega)
  by_cases h4 : max (sw x e) (sw z g) * (q : Int) ≤ p * 2 ^ 70000
  · exact .inr (decide_eq_false (by omega))
  · exact .inl (decide_eq_false h4)
theorem meet_cmp (h1 : dcmp x e y f ≤ 0) (h2 : dcmp z g u h ≤ 0) : ivcmp x e y f z g u h = 0 ↔ dcmp (dgx x e z g) (dge x e z g) (dlx y f u h) (dle y f u h) ≤ 0 := by
  rw [meet_iff hx hy hz hu]
  rw [sw_dcmp hx hy, icmp_pos] at h1
  rw [sw_dcmp hz hu, icmp_pos] at h2
  unfold ivcmp
  rw [sw_dcmp hy hz, sw_dcmp hx hu]
  simp only [icmp_lt, icmp_gt]
  split
  · omega
  · split <;> omega
theorem hull_left : withinv x e y f (dlx x e z g) (dle x e z g) (dgx y f u h) (dge y f u h) = true := by
  unfold withinv
  simp only [Bool.and_eq_true, decide_eq_true_eq]
  rw [sw_dcmp (dval_dl hx hz) hx, sw_dcmp hy (dval_dg hy hu), sw_dl hx hz, sw_dg hy hu, icmp_pos, icmp_pos]
  omega
theorem hull_right : withinv z g u h (dlx x e z g) (dle x e z g) (dgx y f u h) (dge y f u h) = true := by
  unfold withinv
  simp only [Bool.and_eq_true, decide_eq_true_eq]
  rw [sw_dcmp (dval_dl hx hz) hz, sw_dcmp hu (dval_dg hy hu), sw_dl hx hz, sw_dg hy hu, icmp_pos, icmp_pos]
  omega
theorem hull_order (h1 : dcmp x e y f ≤ 0) : dcmp (dlx x e z g) (dle x e z g) (dgx y f u h) (dge y f u h) ≤ 0 := by
  rw [sw_dcmp (dval_dl hx hz) (dval_dg hy hu), sw_dl hx hz, sw_dg hy hu, icmp_pos]
  rw [sw_dcmp hx hy, icmp_pos] at h1
  omega
end

theorem copied_c {w : World} {vx : Value} {x e : Int} {bx : Bool} (hbx : bx = decide (x < 0)) (hx : Nl w vx (dig x.natAbs)) (hlx : (dig x.natAbs).length ≤ 30000) :
    Calls Tryd.prog 142 #[.agg #[.bool bx, vx, .int .i64 e]] w (Ret w fun r w' => ∃ q, r = .agg #[.bool (decide ((x) < 0)), q, .int .i64 (e)] ∧ No w.heap.size 111 w' q (dig x.natAbs)) := by
 subst hbx
 refine enter (args := [_]) Tryd.func142 rfl Tryd.ntmps142 rfl ?_
 refine WP_seq ?_
 refine WP_region ?_
 refine O_box _ rfl rfl rfl rfl (fun g1 w1 b1 e1 gl1 gh1 => ?_)
 have z1 := e1.size
 refine O_alloc S26 rfl rfl (fun g2 w2 b2 e2 gl2 gh2 => ?_)
 have z2 := e2.size
 refine WL_end [(1, _), (2, _)] ⟨rfl, rfl, trivial⟩ ?_
 refine WP_seq ?_
 refine WP_sub [(1, _), (2, _)] ⟨rfl, rfl, trivial⟩ ?_
 refine WP_anyR 9 [1, 2] mixed rfl (by kernel_rfl) ?_
 apply AnyR_val [1] rfl (by kernel_rfl)
 · --
  intro y3 hy3
  have zy3 := hy3.size
  refine AllV_nil ?_
  refine O_field F26_0 rfl rfl rfl ?_
  exact WL_nil ⟨(Ext.refl _), rfl⟩
 apply AnyR_val [3] rfl (by kernel_rfl)
 · --
  intro y4 hy4
  have zy4 := hy4.size
  refine AllV_v ?_
  refine AllV_nil ?_
  refine O_field F24_0 rfl rfl rfl ?_
  exact WL_nil ⟨(Ext.refl _), rfl⟩
 apply AnyR_val [4] rfl (by kernel_rfl)
 · --
  intro y5 hy5
  have zy5 := hy5.size
  refine AllV_v ?_
  refine AllV_nil ?_
  refine O_loadC Tryd.underlying4 rfl rfl rfl rfl ((b1.ext e2).ext hy5) rfl ?_
  exact WL_nil ⟨(Ext.refl _), rfl⟩
 apply AnyR_val [1] rfl (by kernel_rfl)
 · --
  intro y6 hy6
  have zy6 := hy6.size
  refine AllV_nil ?_
  refine O_field F26_0 rfl rfl rfl ?_
  exact WL_nil ⟨(Ext.refl _), rfl⟩
 apply AnyR_val [6] rfl (by kernel_rfl)
 · --
  intro y7 hy7
  have zy7 := hy7.size
  refine AllV_v ?_
  refine AllV_nil ?_
  refine O_field F24_1 rfl rfl rfl ?_
  exact WL_nil ⟨(Ext.refl _), rfl⟩
 apply AnyR_val [7] rfl (by kernel_rfl)
 · --
  intro y8 hy8
  have zy8 := hy8.size
  refine AllV_v ?_
  refine AllV_nil ?_
  refine O_loadC Tryd.underlying22 rfl rfl rfl rfl ((b1.ext e2).ext hy8) rfl ?_
  exact WL_nil ⟨(Ext.refl _), rfl⟩
 apply AnyR_rel (RelP (pAgg [pEq _, pNo w2.heap.size 111 _])) [5, 8] rfl (RelP.mono (pAgg_mono (PsM.cons pEq_mono (PsM.cons pNo_mono PsM.nil)))) (by kernel_rfl)
 · --
  intro y9 hy9
  have zy9 := hy9.size
  refine AllV_v ?_
  refine AllV_v ?_
  refine AllV_nil ?_
  refine O_call enters87 rfl rfl rfl (inat_c (hx.ext ((e1.trans e2).trans hy9)) (by (try simp only [lens]); omega)) (fun v10 w10 e10 h10 => ?_)
  have z10 := e10.size
  try simp only [val_dig] at h10
  obtain ⟨q10, rfl, hq10⟩ := h10
  simp only [mk_self] at hq10 ⊢
  exact WL_nil ⟨e10, _, rfl, ⟨_, rfl, (AllP.cons rfl (AllP.cons (hq10.mono (by omega)) AllP.nil))⟩⟩
 apply AnyR_val [1] rfl (by kernel_rfl)
 · --
  intro y11 hy11
  have zy11 := hy11.size
  refine AllV_nil ?_
  refine O_field F26_1 rfl rfl rfl ?_
  exact WL_nil ⟨(Ext.refl _), rfl⟩
 apply AnyR_val [10] rfl (by kernel_rfl)
 · --
  intro y12 hy12
  have zy12 := hy12.size
  refine AllV_v ?_
  refine AllV_nil ?_
  refine O_loadC Tryd.underlying3 rfl rfl rfl rfl ((b1.ext e2).ext hy12) rfl ?_
  exact WL_nil ⟨(Ext.refl _), rfl⟩
 refine AnyR_nil fun y13 hy13 => ?_
 have zy13 := hy13.size
 refine AllV_v ?_
 refine AllV_v ?_
 refine AllV_v ?_
 refine AllV_v ?_
 refine AllV_v ?_
 refine AllV_v ?_
 refine AllV_r fun a14 b14 v14 la14 lb14 lc14 h14 ap14 => ?_
 clear ap14
 obtain ⟨_, rfl, v14_0, _, rfl, rfl, v14_1, _, rfl, h14_1, rfl⟩ := h14
 refine AllV_v ?_
 refine AllV_v ?_
 refine AllV_nil ?_
 refine O_build (cs := [_, _, _]) B26 rfl rfl rfl (cells_cons rfl (cells_cons rfl cells_nil)) rfl ?_
 refine O_storeA (cs' := [_, _, _]) S26 rfl rfl rfl (b2.ext hy13) rfl rfl (one_cons rfl (one_cons (h14_1.nl).one (one_cons rfl one_nil))) rfl (fun w15 b15 q15 => ?_)
 have z15 := Nat.le_of_eq q15.size.symm
 have e15 : Ext w w15 := q15.ext ((e1.trans e2).trans hy13) (by omega)
 refine WL_end [(2, _)] ⟨rfl, trivial⟩ ?_
 refine WP_ret ?_
 refine retL Tryd.results142 (.cell rfl S26 b15 rfl .nil) ?_
 exact ⟨_, rfl, e15, _, rfl, (h14_1.chgBk (b2.ext hy13) (by decide) q15).mono (by omega)⟩

theorem between_c {w : World} {vx vy : Value} {x y e f : Int} {bx by_ : Bool} (hbx : bx = decide (x < 0)) (hx : Nl w vx (dig x.natAbs)) (hby : by_ = decide (y < 0)) (hy : Nl w vy (dig y.natAbs)) (hvx : dval x e = true) (hvy : dval y f = true) :
    Calls Tryd.prog 105 #[.agg #[.bool bx, vx, .int .i64 e], .agg #[.bool by_, vy, .int .i64 f]] w (Ret w fun r w' => ∃ q s, r = .agg #[.bool (decide ((x) < 0)), q, .int .i64 (e), .bool (decide ((y) < 0)), s, .int .i64 (f)] ∧ No w.heap.size 111 w' q (dig x.natAbs) ∧ No w.heap.size 111 w' s (dig y.natAbs)) := by
 subst hbx
 subst hby
 have hRx := dval_range hvx
 have hlx : (dig x.natAbs).length ≤ 2049 := dval_len hvx
 have hRy := dval_range hvy
 have hly : (dig y.natAbs).length ≤ 2049 := dval_len hvy
 refine enter (args := [_, _]) Tryd.func105 rfl Tryd.ntmps105 rfl ?_
 refine WP_seq ?_
 refine WP_region ?_
 refine O_box _ rfl rfl rfl rfl (fun g1 w1 b1 e1 gl1 gh1 => ?_)
 have z1 := e1.size
 refine O_box _ rfl rfl rfl rfl (fun g2 w2 b2 e2 gl2 gh2 => ?_)
 have z2 := e2.size
 refine O_alloc S53 rfl rfl (fun g3 w3 b3 e3 gl3 gh3 => ?_)
 have z3 := e3.size
 refine WL_end [(2, _), (3, _), (4, _)] ⟨rfl, rfl, rfl, trivial⟩ ?_
 refine WP_seq ?_
 refine WP_sub [(2, _), (3, _), (4, _)] ⟨rfl, rfl, rfl, trivial⟩ ?_
 refine WP_anyR 3 [2, 3, 4] mixed rfl (by kernel_rfl) ?_
 apply AnyR_val [2] rfl (by kernel_rfl)
 · --
  intro y4 hy4
  have zy4 := hy4.size
  refine AllV_nil ?_
  refine O_loadA (vs := [_, _, _]) S26 rfl rfl rfl (((b1.ext e2).ext e3).ext hy4) rfl rfl ?_
  exact WL_nil ⟨(Ext.refl _), rfl⟩
 apply AnyR_rel (RelP (pAgg [pEq _, pNo w3.heap.size 111 _, pEq _])) [5] rfl (RelP.mono (pAgg_mono (PsM.cons pEq_mono (PsM.cons pNo_mono (PsM.cons pEq_mono PsM.nil))))) (by kernel_rfl)
 · --
  intro y5 hy5
  have zy5 := hy5.size
  refine AllV_v ?_
  refine AllV_nil ?_
  refine O_call enters142 rfl rfl rfl (copied_c rfl (hx.ext (((e1.trans e2).trans e3).trans hy5)) (by (try simp only [lens]); omega)) (fun v6 w6 e6 h6 => ?_)
  have z6 := e6.size
  try simp only [val_dig] at h6
  obtain ⟨q6, rfl, hq6⟩ := h6
  exact WL_nil ⟨e6, _, rfl, ⟨_, rfl, (AllP.cons rfl (AllP.cons (hq6.mono (by omega)) (AllP.cons rfl AllP.nil)))⟩⟩
 apply AnyR_val [3] rfl (by kernel_rfl)
 · --
  intro y7 hy7
  have zy7 := hy7.size
  refine AllV_nil ?_
  refine O_loadA (vs := [_, _, _]) S26 rfl rfl rfl ((b2.ext e3).ext hy7) rfl rfl ?_
  exact WL_nil ⟨(Ext.refl _), rfl⟩
 refine AnyR_nil fun y8 hy8 => ?_
 have zy8 := hy8.size
 refine AllV_v ?_
 refine AllV_r fun a9 b9 v9 la9 lb9 lc9 h9 ap9 => ?_
 clear ap9
 obtain ⟨_, rfl, v9_0, _, rfl, rfl, v9_1, _, rfl, h9_1, v9_2, _, rfl, rfl, rfl⟩ := h9
 refine AllV_v ?_
 refine AllV_nil ?_
 refine O_call enters142 rfl rfl rfl (copied_c rfl (hy.ext (((e1.trans e2).trans e3).trans hy8)) (by (try simp only [lens]); omega)) (fun v10 w10 e10 h10 => ?_)
 have z10 := e10.size
 try simp only [val_dig] at h10
 obtain ⟨q10, rfl, hq10⟩ := h10
 refine O_build (cs := [_, _, _, _, _, _]) B53 rfl rfl rfl (cells_cons rfl (cells_cons rfl cells_nil)) rfl ?_
 refine O_storeA (cs' := [_, _, _, _, _, _]) S53 rfl rfl rfl ((b3.ext hy8).ext e10) rfl rfl (one_cons rfl (one_cons ((h9_1.ext e10).nl).one (one_cons rfl (one_cons rfl (one_cons (hq10.nl).one (one_cons rfl one_nil)))))) rfl (fun w11 b11 q11 => ?_)
 have z11 := Nat.le_of_eq q11.size.symm
 have e11 : Ext w w11 := q11.ext ((((e1.trans e2).trans e3).trans hy8).trans e10) (by omega)
 refine WL_end [(4, _)] ⟨rfl, trivial⟩ ?_
 refine WP_ret ?_
 refine retL Tryd.results105 (.cell rfl S53 b11 rfl .nil) ?_
 exact ⟨_, rfl, e11, _, _, rfl, ((h9_1.ext e10).chgBk ((b3.ext hy8).ext e10) (by decide) q11).mono (by omega), (hq10.chgBk ((b3.ext hy8).ext e10) (by decide) q11).mono (by omega)⟩

theorem point_c {w : World} {vx : Value} {x e : Int} {bx : Bool} (hbx : bx = decide (x < 0)) (hx : Nl w vx (dig x.natAbs)) (hvx : dval x e = true) :
    Calls Tryd.prog 51 #[.agg #[.bool bx, vx, .int .i64 e]] w (Ret w fun r w' => ∃ q s, r = .agg #[.bool (decide ((x) < 0)), q, .int .i64 (e), .bool (decide ((x) < 0)), s, .int .i64 (e)] ∧ No w.heap.size 111 w' q (dig x.natAbs) ∧ No w.heap.size 111 w' s (dig x.natAbs)) := by
 subst hbx
 refine enter (args := [_]) Tryd.func51 rfl Tryd.ntmps51 rfl ?_
 refine WP_seq ?_
 refine WP_region ?_
 refine O_box _ rfl rfl rfl rfl (fun g1 w1 b1 e1 gl1 gh1 => ?_)
 have z1 := e1.size
 refine O_alloc S53 rfl rfl (fun g2 w2 b2 e2 gl2 gh2 => ?_)
 have z2 := e2.size
 refine WL_end [(1, _), (2, _)] ⟨rfl, rfl, trivial⟩ ?_
 refine WP_seq ?_
 refine WP_region ?_
 refine O_loadA (vs := [_, _, _]) S26 rfl rfl rfl (b1.ext e2) rfl rfl ?_
 refine O_loadA (vs := [_, _, _]) S26 rfl rfl rfl (b1.ext e2) rfl rfl ?_
 refine O_call enters105 rfl rfl rfl (between_c rfl (hx.ext (e1.trans e2)) rfl (hx.ext (e1.trans e2)) (by first | with_reducible assumption | exact dval_dman _ _ | exact dval_zero | exact dval_dg (by assumption) (by assumption) | exact dval_dl (by assumption) (by assumption)) (by first | with_reducible assumption | exact dval_dman _ _ | exact dval_zero | exact dval_dg (by assumption) (by assumption) | exact dval_dl (by assumption) (by assumption))) (fun v3 w3 e3 h3 => ?_)
 have z3 := e3.size
 try simp only [val_dig] at h3
 obtain ⟨mq3, ms3, rfl, hmq3, hms3⟩ := h3
 refine O_storeA (cs' := [_, _, _, _, _, _]) S53 rfl rfl rfl (b2.ext e3) rfl rfl (one_cons rfl (one_cons (hmq3.nl).one (one_cons rfl (one_cons rfl (one_cons (hms3.nl).one (one_cons rfl one_nil)))))) rfl (fun w4 b4 q4 => ?_)
 have z4 := Nat.le_of_eq q4.size.symm
 have e4 : Ext w w4 := q4.ext ((e1.trans e2).trans e3) (by omega)
 refine WL_end [(2, _)] ⟨rfl, trivial⟩ ?_
 refine WP_ret ?_
 refine retL Tryd.results51 (.cell rfl S53 b4 rfl .nil) ?_
 exact ⟨_, rfl, e4, _, _, rfl, (hmq3.chgBk (b2.ext e3) (by decide) q4).mono (by omega), (hms3.chgBk (b2.ext e3) (by decide) q4).mono (by omega)⟩

theorem imake_T {w : World} {vx vy : Value} {x y e f : Int} {bx by_ : Bool} (hbx : bx = decide (x < 0)) (hx : Nl w vx (dig x.natAbs)) (hby : by_ = decide (y < 0)) (hy : Nl w vy (dig y.natAbs)) (hvx : dval x e = true) (hvy : dval y f = true) (ho : dcmp x e y f ≤ 0) :
    Calls Tryd.prog 48 #[.agg #[.bool bx, vx, .int .i64 e], .agg #[.bool by_, vy, .int .i64 f]] w (Ret w fun r w' => ∃ q s, r = .tuple #[.agg #[.bool (decide ((x) < 0)), q, .int .i64 (e), .bool (decide ((y) < 0)), s, .int .i64 (f)], .int .i64 0] ∧ No w.heap.size 111 w' q (dig x.natAbs) ∧ No w.heap.size 111 w' s (dig y.natAbs)) := by
 subst hbx
 subst hby
 have hRx := dval_range hvx
 have hlx : (dig x.natAbs).length ≤ 2049 := dval_len hvx
 have hRy := dval_range hvy
 have hly : (dig y.natAbs).length ≤ 2049 := dval_len hvy
 refine enter (args := [_, _]) Tryd.func48 rfl Tryd.ntmps48 rfl ?_
 refine WP_seq ?_
 refine WP_region ?_
 refine O_box _ rfl rfl rfl rfl (fun g1 w1 b1 e1 gl1 gh1 => ?_)
 have z1 := e1.size
 refine O_box _ rfl rfl rfl rfl (fun g2 w2 b2 e2 gl2 gh2 => ?_)
 have z2 := e2.size
 refine O_alloc S53 rfl rfl (fun g3 w3 b3 e3 gl3 gh3 => ?_)
 have z3 := e3.size
 refine O_assign rfl rfl rfl ?_
 refine WL_end [(2, _), (3, _), (4, _)] ⟨rfl, rfl, rfl, trivial⟩ ?_
 refine WP_seq ?_
 refine WP_seq ?_
 refine WP_region ?_
 refine O_loadA (vs := [_, _, _]) S26 rfl rfl rfl ((b1.ext e2).ext e3) rfl rfl ?_
 refine O_loadA (vs := [_, _, _]) S26 rfl rfl rfl (b2.ext e3) rfl rfl ?_
 refine O_call enters96 rfl rfl rfl (dcmp_c rfl (hx.ext ((e1.trans e2).trans e3)) rfl (hy.ext ((e1.trans e2).trans e3)) (by (try simp only [lens]); omega) (by (try simp only [lens]); omega) (by (try simp only [lens]); omega) (by (try simp only [lens]); omega) (by (try simp only [lens]); omega) (by (try simp only [lens]); omega)) (fun v4 w4 e4 h4 => ?_)
 have z4 := e4.size
 obtain rfl := h4
 refine O_gtr (t := false) rfl rfl rfl rfl (decide_eq_false (by omega)) ?_
 refine WL_end [(2, _), (3, _), (4, _), (9, _)] ⟨rfl, rfl, rfl, rfl, trivial⟩ ?_
 refine WP_condF rfl ?_
 refine WP_skip ?_
 refine WP_seq ?_
 refine WP_region ?_
 refine O_loadA (vs := [_, _, _]) S26 rfl rfl rfl (((b1.ext e2).ext e3).ext e4) rfl rfl ?_
 refine O_loadA (vs := [_, _, _]) S26 rfl rfl rfl ((b2.ext e3).ext e4) rfl rfl ?_
 refine O_call enters105 rfl rfl rfl (between_c rfl (hx.ext (((e1.trans e2).trans e3).trans e4)) rfl (hy.ext (((e1.trans e2).trans e3).trans e4)) (by first | with_reducible assumption | exact dval_dman _ _ | exact dval_zero | exact dval_dg (by assumption) (by assumption) | exact dval_dl (by assumption) (by assumption)) (by first | with_reducible assumption | exact dval_dman _ _ | exact dval_zero | exact dval_dg (by assumption) (by assumption) | exact dval_dl (by assumption) (by assumption))) (fun v5 w5 e5 h5 => ?_)
 have z5 := e5.size
 try simp only [val_dig] at h5
 obtain ⟨mq5, ms5, rfl, hmq5, hms5⟩ := h5
 refine O_storeA (cs' := [_, _, _, _, _, _]) S53 rfl rfl rfl ((b3.ext e4).ext e5) rfl rfl (one_cons rfl (one_cons (hmq5.nl).one (one_cons rfl (one_cons rfl (one_cons (hms5.nl).one (one_cons rfl one_nil)))))) rfl (fun w6 b6 q6 => ?_)
 have z6 := Nat.le_of_eq q6.size.symm
 have e6 : Ext w w6 := q6.ext ((((e1.trans e2).trans e3).trans e4).trans e5) (by omega)
 refine O_assign rfl rfl rfl ?_
 refine WL_end [(4, _), (5, _)] ⟨rfl, rfl, trivial⟩ ?_
 refine WP_ret ?_
 refine retL Tryd.results48 (.cell rfl S53 b6 rfl (.tmp rfl .nil)) ?_
 exact ⟨_, rfl, e6, _, _, rfl, (hmq5.chgBk ((b3.ext e4).ext e5) (by decide) q6).mono (by omega), (hms5.chgBk ((b3.ext e4).ext e5) (by decide) q6).mono (by omega)⟩

theorem imake_F {w : World} {vx vy : Value} {x y e f : Int} {bx by_ : Bool} (hbx : bx = decide (x < 0)) (hx : Nl w vx (dig x.natAbs)) (hby : by_ = decide (y < 0)) (hy : Nl w vy (dig y.natAbs)) (hvx : dval x e = true) (hvy : dval y f = true) (ho : ¬ dcmp x e y f ≤ 0) :
    Calls Tryd.prog 48 #[.agg #[.bool bx, vx, .int .i64 e], .agg #[.bool by_, vy, .int .i64 f]] w (Ret w fun r w' => r = .tuple #[.agg #[.bool (decide ((0) < 0)), .slice none 0 0, .int .i64 (0), .bool (decide ((0) < 0)), .slice none 0 0, .int .i64 (0)], .int .i64 1]) := by
 subst hbx
 subst hby
 have hRx := dval_range hvx
 have hlx : (dig x.natAbs).length ≤ 2049 := dval_len hvx
 have hRy := dval_range hvy
 have hly : (dig y.natAbs).length ≤ 2049 := dval_len hvy
 refine enter (args := [_, _]) Tryd.func48 rfl Tryd.ntmps48 rfl ?_
 refine WP_seq ?_
 refine WP_region ?_
 refine O_box _ rfl rfl rfl rfl (fun g1 w1 b1 e1 gl1 gh1 => ?_)
 have z1 := e1.size
 refine O_box _ rfl rfl rfl rfl (fun g2 w2 b2 e2 gl2 gh2 => ?_)
 have z2 := e2.size
 refine O_alloc S53 rfl rfl (fun g3 w3 b3 e3 gl3 gh3 => ?_)
 have z3 := e3.size
 refine O_assign rfl rfl rfl ?_
 refine WL_end [(2, _), (3, _), (4, _)] ⟨rfl, rfl, rfl, trivial⟩ ?_
 refine WP_seq ?_
 refine WP_seq ?_
 refine WP_region ?_
 refine O_loadA (vs := [_, _, _]) S26 rfl rfl rfl ((b1.ext e2).ext e3) rfl rfl ?_
 refine O_loadA (vs := [_, _, _]) S26 rfl rfl rfl (b2.ext e3) rfl rfl ?_
 refine O_call enters96 rfl rfl rfl (dcmp_c rfl (hx.ext ((e1.trans e2).trans e3)) rfl (hy.ext ((e1.trans e2).trans e3)) (by (try simp only [lens]); omega) (by (try simp only [lens]); omega) (by (try simp only [lens]); omega) (by (try simp only [lens]); omega) (by (try simp only [lens]); omega) (by (try simp only [lens]); omega)) (fun v4 w4 e4 h4 => ?_)
 have z4 := e4.size
 obtain rfl := h4
 refine O_gtr (t := true) rfl rfl rfl rfl (decide_eq_true (by omega)) ?_
 refine WL_end [(2, _), (3, _), (4, _), (9, _)] ⟨rfl, rfl, rfl, rfl, trivial⟩ ?_
 refine WP_condT rfl ?_
 refine WP_seq ?_
 refine WP_region ?_
 refine O_build (cs := [_, _, _, _, _, _]) B53 rfl rfl rfl cells_nil rfl ?_
 refine O_storeA (cs' := [_, _, _, _, _, _]) S53 rfl rfl rfl (b3.ext e4) rfl rfl (one_cons rfl (one_cons rfl (one_cons rfl (one_cons rfl (one_cons rfl (one_cons rfl one_nil)))))) rfl (fun w5 b5 q5 => ?_)
 have z5 := Nat.le_of_eq q5.size.symm
 have e5 : Ext w w5 := q5.ext (((e1.trans e2).trans e3).trans e4) (by omega)
 refine O_assign rfl rfl rfl ?_
 refine WL_end [(4, _), (5, _)] ⟨rfl, rfl, trivial⟩ ?_
 refine WP_ret ?_
 refine retL Tryd.results48 (.cell rfl S53 b5 rfl (.tmp rfl .nil)) ?_
 exact ⟨_, rfl, e5, rfl⟩

theorem greater_c {w : World} {vx vy : Value} {x y e f : Int} {bx by_ : Bool} (hbx : bx = decide (x < 0)) (hx : No 0 111 w vx (dig x.natAbs)) (hby : by_ = decide (y < 0)) (hy : No 0 111 w vy (dig y.natAbs)) (hvx : dval x e = true) (hvy : dval y f = true) :
    Calls Tryd.prog 106 #[.agg #[.bool bx, vx, .int .i64 e], .agg #[.bool by_, vy, .int .i64 f]] w (Ret w fun r w' => ∃ q, r = .agg #[.bool (decide ((dgx x e y f) < 0)), q, .int .i64 (dge x e y f)] ∧ No 0 111 w' q (dig (dgx x e y f).natAbs)) := by
 subst hbx
 subst hby
 have hRx := dval_range hvx
 have hlx : (dig x.natAbs).length ≤ 2049 := dval_len hvx
 have hRy := dval_range hvy
 have hly : (dig y.natAbs).length ≤ 2049 := dval_len hvy
 refine enter (args := [_, _]) Tryd.func106 rfl Tryd.ntmps106 rfl ?_
 refine WP_seq ?_
 refine WP_region ?_
 refine O_box _ rfl rfl rfl rfl (fun g1 w1 b1 e1 gl1 gh1 => ?_)
 have z1 := e1.size
 refine O_box _ rfl rfl rfl rfl (fun g2 w2 b2 e2 gl2 gh2 => ?_)
 have z2 := e2.size
 refine O_alloc S26 rfl rfl (fun g3 w3 b3 e3 gl3 gh3 => ?_)
 have z3 := e3.size
 refine WL_end [(2, _), (3, _), (4, _)] ⟨rfl, rfl, rfl, trivial⟩ ?_
 refine WP_seq ?_
 refine WP_seq ?_
 refine WP_region ?_
 refine O_loadA (vs := [_, _, _]) S26 rfl rfl rfl ((b1.ext e2).ext e3) rfl rfl ?_
 refine O_loadA (vs := [_, _, _]) S26 rfl rfl rfl (b2.ext e3) rfl rfl ?_
 refine O_call enters96 rfl rfl rfl (dcmp_c rfl (hx.ext ((e1.trans e2).trans e3)).nl rfl (hy.ext ((e1.trans e2).trans e3)).nl (by (try simp only [lens]); omega) (by (try simp only [lens]); omega) (by (try simp only [lens]); omega) (by (try simp only [lens]); omega) (by (try simp only [lens]); omega) (by (try simp only [lens]); omega)) (fun v4 w4 e4 h4 => ?_)
 have z4 := e4.size
 obtain rfl := h4
 refine O_lss rfl rfl rfl rfl rfl ?_
 refine WL_end [(2, _), (3, _), (4, _), (8, _)] ⟨rfl, rfl, rfl, rfl, trivial⟩ ?_
 refine WP_condD rfl (fun c8 => ?_) (fun c8 => ?_)
 · --
  refine WP_seq ?_
  refine WP_region ?_
  refine O_loadA (vs := [_, _, _]) S26 rfl rfl rfl ((b2.ext e3).ext e4) rfl rfl ?_
  refine O_storeA (cs' := [_, _, _]) S26 rfl rfl rfl (b3.ext e4) rfl rfl (one_cons rfl (one_cons ((hy.ext (((e1.trans e2).trans e3).trans e4)).nl).one (one_cons rfl one_nil))) rfl (fun w5 b5 q5 => ?_)
  have z5 := Nat.le_of_eq q5.size.symm
  have e5 : Ext w w5 := q5.ext (((e1.trans e2).trans e3).trans e4) (by omega)
  refine WL_end [(4, _)] ⟨rfl, trivial⟩ ?_
  refine WP_ret ?_
  refine retL Tryd.results106 (.cell rfl S26 b5 rfl .nil) ?_
  have h1 : dgx x e y f = y := if_pos (by omega)
  have h2 : dge x e y f = f := if_pos (by omega)
  rw [h1, h2]
  exact ⟨_, rfl, e5, _, rfl, (hy.ext e5).mono (Nat.zero_le _)⟩
 · --
  refine WP_skip ?_
  refine WP_seq ?_
  refine WP_region ?_
  refine O_loadA (vs := [_, _, _]) S26 rfl rfl rfl (((b1.ext e2).ext e3).ext e4) rfl rfl ?_
  refine O_storeA (cs' := [_, _, _]) S26 rfl rfl rfl (b3.ext e4) rfl rfl (one_cons rfl (one_cons ((hx.ext (((e1.trans e2).trans e3).trans e4)).nl).one (one_cons rfl one_nil))) rfl (fun w6 b6 q6 => ?_)
  have z6 := Nat.le_of_eq q6.size.symm
  have e6 : Ext w w6 := q6.ext (((e1.trans e2).trans e3).trans e4) (by omega)
  refine WL_end [(4, _)] ⟨rfl, trivial⟩ ?_
  refine WP_ret ?_
  refine retL Tryd.results106 (.cell rfl S26 b6 rfl .nil) ?_
  have h1 : dgx x e y f = x := if_neg (by omega)
  have h2 : dge x e y f = e := if_neg (by omega)
  rw [h1, h2]
  exact ⟨_, rfl, e6, _, rfl, (hx.ext e6).mono (Nat.zero_le _)⟩

theorem lesser_c {w : World} {vx vy : Value} {x y e f : Int} {bx by_ : Bool} (hbx : bx = decide (x < 0)) (hx : No 0 111 w vx (dig x.natAbs)) (hby : by_ = decide (y < 0)) (hy : No 0 111 w vy (dig y.natAbs)) (hvx : dval x e = true) (hvy : dval y f = true) :
    Calls Tryd.prog 107 #[.agg #[.bool bx, vx, .int .i64 e], .agg #[.bool by_, vy, .int .i64 f]] w (Ret w fun r w' => ∃ q, r = .agg #[.bool (decide ((dlx x e y f) < 0)), q, .int .i64 (dle x e y f)] ∧ No 0 111 w' q (dig (dlx x e y f).natAbs)) := by
 subst hbx
 subst hby
 have hRx := dval_range hvx
 have hlx : (dig x.natAbs).length ≤ 2049 := dval_len hvx
 have hRy := dval_range hvy
 have hly : (dig y.natAbs).length ≤ 2049 := dval_len hvy
 refine enter (args := [_, _]) Tryd.func107 rfl Tryd.ntmps107 rfl ?_
 refine WP_seq ?_
 refine WP_region ?_
 refine O_box _ rfl rfl rfl rfl (fun g1 w1 b1 e1 gl1 gh1 => ?_)
 have z1 := e1.size
 refine O_box _ rfl rfl rfl rfl (fun g2 w2 b2 e2 gl2 gh2 => ?_)
 have z2 := e2.size
 refine O_alloc S26 rfl rfl (fun g3 w3 b3 e3 gl3 gh3 => ?_)
 have z3 := e3.size
 refine WL_end [(2, _), (3, _), (4, _)] ⟨rfl, rfl, rfl, trivial⟩ ?_
 refine WP_seq ?_
 refine WP_seq ?_
 refine WP_region ?_
 refine O_loadA (vs := [_, _, _]) S26 rfl rfl rfl ((b1.ext e2).ext e3) rfl rfl ?_
 refine O_loadA (vs := [_, _, _]) S26 rfl rfl rfl (b2.ext e3) rfl rfl ?_
 refine O_call enters96 rfl rfl rfl (dcmp_c rfl (hx.ext ((e1.trans e2).trans e3)).nl rfl (hy.ext ((e1.trans e2).trans e3)).nl (by (try simp only [lens]); omega) (by (try simp only [lens]); omega) (by (try simp only [lens]); omega) (by (try simp only [lens]); omega) (by (try simp only [lens]); omega) (by (try simp only [lens]); omega)) (fun v4 w4 e4 h4 => ?_)
 have z4 := e4.size
 obtain rfl := h4
 refine O_gtr rfl rfl rfl rfl rfl ?_
 refine WL_end [(2, _), (3, _), (4, _), (8, _)] ⟨rfl, rfl, rfl, rfl, trivial⟩ ?_
 refine WP_condD rfl (fun c8 => ?_) (fun c8 => ?_)
 · --
  refine WP_seq ?_
  refine WP_region ?_
  refine O_loadA (vs := [_, _, _]) S26 rfl rfl rfl ((b2.ext e3).ext e4) rfl rfl ?_
  refine O_storeA (cs' := [_, _, _]) S26 rfl rfl rfl (b3.ext e4) rfl rfl (one_cons rfl (one_cons ((hy.ext (((e1.trans e2).trans e3).trans e4)).nl).one (one_cons rfl one_nil))) rfl (fun w5 b5 q5 => ?_)
  have z5 := Nat.le_of_eq q5.size.symm
  have e5 : Ext w w5 := q5.ext (((e1.trans e2).trans e3).trans e4) (by omega)
  refine WL_end [(4, _)] ⟨rfl, trivial⟩ ?_
  refine WP_ret ?_
  refine retL Tryd.results107 (.cell rfl S26 b5 rfl .nil) ?_
  have h1 : dlx x e y f = y := if_pos (by omega)
  have h2 : dle x e y f = f := if_pos (by omega)
  rw [h1, h2]
  exact ⟨_, rfl, e5, _, rfl, (hy.ext e5).mono (Nat.zero_le _)⟩
 · --
  refine WP_skip ?_
  refine WP_seq ?_
  refine WP_region ?_
  refine O_loadA (vs := [_, _, _]) S26 rfl rfl rfl (((b1.ext e2).ext e3).ext e4) rfl rfl ?_
  refine O_storeA (cs' := [_, _, _]) S26 rfl rfl rfl (b3.ext e4) rfl rfl (one_cons rfl (one_cons ((hx.ext (((e1.trans e2).trans e3).trans e4)).nl).one (one_cons rfl one_nil))) rfl (fun w6 b6 q6 => ?_)
  have z6 := Nat.le_of_eq q6.size.symm
  have e6 : Ext w w6 := q6.ext (((e1.trans e2).trans e3).trans e4) (by omega)
  refine WL_end [(4, _)] ⟨rfl, trivial⟩ ?_
  refine WP_ret ?_
  refine retL Tryd.results107 (.cell rfl S26 b6 rfl .nil) ?_
  have h1 : dlx x e y f = x := if_neg (by omega)
  have h2 : dle x e y f = e := if_neg (by omega)
  rw [h1, h2]
  exact ⟨_, rfl, e6, _, rfl, (hx.ext e6).mono (Nat.zero_le _)⟩

theorem meet_T {w : World} {vx vy : Value} {x y e f : Int} {bx by_ : Bool} (hbx : bx = decide (x < 0)) (hx : No 0 111 w vx (dig x.natAbs)) (hby : by_ = decide (y < 0)) (hy : No 0 111 w vy (dig y.natAbs)) (hvx : dval x e = true) (hvy : dval y f = true) {vz vu : Value} {z u g h : Int} {bz bu : Bool} (hbz : bz = decide (z < 0)) (hz : No 0 111 w vz (dig z.natAbs)) (hbu : bu = decide (u < 0)) (hu : No 0 111 w vu (dig u.natAbs)) (hvz : dval z g = true) (hvu : dval u h = true) (ho : dcmp (dgx x e z g) (dge x e z g) (dlx y f u h) (dle y f u h) ≤ 0) :
    Calls Tryd.prog 49 #[.agg #[.bool bx, vx, .int .i64 e, .bool by_, vy, .int .i64 f], .agg #[.bool bz, vz, .int .i64 g, .bool bu, vu, .int .i64 h]] w (Ret w fun r w' => ∃ q s, r = .tuple #[.agg #[.bool (decide ((dgx x e z g) < 0)), q, .int .i64 (dge x e z g), .bool (decide ((dlx y f u h) < 0)), s, .int .i64 (dle y f u h)], .bool true] ∧ No 0 111 w' q (dig (dgx x e z g).natAbs) ∧ No 0 111 w' s (dig (dlx y f u h).natAbs)) := by
 subst hbx
 subst hby
 subst hbz
 subst hbu
 have hRx := dval_range hvx
 have hlx : (dig x.natAbs).length ≤ 2049 := dval_len hvx
 have hRy := dval_range hvy
 have hly : (dig y.natAbs).length ≤ 2049 := dval_len hvy
 have hRz := dval_range hvz
 have hlz : (dig z.natAbs).length ≤ 2049 := dval_len hvz
 have hRu := dval_range hvu
 have hlu : (dig u.natAbs).length ≤ 2049 := dval_len hvu
 
 have hd1 := dval_dg hvx hvz
 have hd2 := dval_dl hvy hvu
 refine enter (args := [_, _]) Tryd.func49 rfl Tryd.ntmps49 rfl ?_
 refine WP_seq ?_
 refine WP_region ?_
 refine O_box _ rfl rfl rfl rfl (fun g1 w1 b1 e1 gl1 gh1 => ?_)
 have z1 := e1.size
 refine O_box _ rfl rfl rfl rfl (fun g2 w2 b2 e2 gl2 gh2 => ?_)
 have z2 := e2.size
 refine O_alloc S53 rfl rfl (fun g3 w3 b3 e3 gl3 gh3 => ?_)
 have z3 := e3.size
 refine O_assign rfl rfl rfl ?_
 refine WL_end [(2, _), (3, _), (4, _)] ⟨rfl, rfl, rfl, trivial⟩ ?_
 refine WP_seq ?_
 refine WP_sub [(2, _), (3, _), (4, _)] ⟨rfl, rfl, rfl, trivial⟩ ?_
 have hS4n : ∀ g T, (g, T) ∈ (⟨[], [(53, 6)], (w3).heap.size⟩ : SS) → 111 ≠ T.1 := by
   intro g T hm; rw [mem_SS] at hm; simp only [List.mem_cons, Prod.mk.injEq, List.not_mem_nil, or_false, false_or, and_false] at hm
   rcases hm with ⟨_, rfl⟩
   · decide
 refine WP_anySR (⟨[], [(53, 6)], (w3).heap.size⟩ : SS) 16 [2, 3, 4] mixed rfl (by kernel_rfl) (Nat.le_refl _) ?_
 apply AnySR_val [2] rfl (by kernel_rfl)
 · --
  intro y5 hy5
  have zy5 := hy5.size
  have hx5 := hy5.toExt
  refine AllS_nil ?_
  refine O_field F53_0 rfl rfl rfl ?_
  exact WL_nil ⟨(Ext.refl _), rfl⟩
 apply AnySR_val [9] rfl (by kernel_rfl)
 · --
  intro y6 hy6
  have zy6 := hy6.size
  have hx6 := hy6.toExt
  refine AllS_v ?_
  refine AllS_nil ?_
  refine O_loadA (vs := [_, _, _]) S26 rfl rfl rfl (((b1.ext e2).ext e3).ext hx6) rfl rfl ?_
  exact WL_nil ⟨(Ext.refl _), rfl⟩
 apply AnySR_val [3] rfl (by kernel_rfl)
 · --
  intro y7 hy7
  have zy7 := hy7.size
  have hx7 := hy7.toExt
  refine AllS_nil ?_
  refine O_field F53_0 rfl rfl rfl ?_
  exact WL_nil ⟨(Ext.refl _), rfl⟩
 apply AnySR_val [11] rfl (by kernel_rfl)
 · --
  intro y8 hy8
  have zy8 := hy8.size
  have hx8 := hy8.toExt
  refine AllS_v ?_
  refine AllS_nil ?_
  refine O_loadA (vs := [_, _, _]) S26 rfl rfl rfl ((b2.ext e3).ext hx8) rfl rfl ?_
  exact WL_nil ⟨(Ext.refl _), rfl⟩
 apply AnySR_rel (RelP (pAgg [pEq _, pNo 0 111 _, pEq _])) [10, 12] rfl (RelP.monoS (pAgg_monoS (PsS.cons pEq_monoS (PsS.cons (pNo_monoS hS4n) (PsS.cons pEq_monoS PsS.nil))))) (by kernel_rfl)
 · --
  intro y9 hy9
  have zy9 := hy9.size
  have hx9 := hy9.toExt
  refine AllS_v ?_
  refine AllS_v ?_
  refine AllS_nil ?_
  refine O_call enters106 rfl rfl rfl (greater_c rfl ((hx.ext (((e1.trans e2).trans e3).trans hx9)).mono (Nat.zero_le _)) rfl ((hz.ext (((e1.trans e2).trans e3).trans hx9)).mono (Nat.zero_le _)) (by first | with_reducible assumption | exact dval_dman _ _ | exact dval_zero | exact dval_dg (by assumption) (by assumption) | exact dval_dl (by assumption) (by assumption)) (by first | with_reducible assumption | exact dval_dman _ _ | exact dval_zero | exact dval_dg (by assumption) (by assumption) | exact dval_dl (by assumption) (by assumption))) (fun v10 w10 e10 h10 => ?_)
  have z10 := e10.size
  try simp only [val_dig] at h10
  obtain ⟨q10, rfl, hq10⟩ := h10
  exact WL_nil ⟨e10, _, rfl, ⟨_, rfl, (AllP.cons rfl (AllP.cons (hq10.mono (Nat.zero_le _)) (AllP.cons rfl AllP.nil)))⟩⟩
 apply AnySR_val [2] rfl (by kernel_rfl)
 · --
  intro y11 hy11
  have zy11 := hy11.size
  have hx11 := hy11.toExt
  refine AllS_nil ?_
  refine O_field F53_1 rfl rfl rfl ?_
  exact WL_nil ⟨(Ext.refl _), rfl⟩
 apply AnySR_val [14] rfl (by kernel_rfl)
 · --
  intro y12 hy12
  have zy12 := hy12.size
  have hx12 := hy12.toExt
  refine AllS_v ?_
  refine AllS_nil ?_
  refine O_loadA (vs := [_, _, _]) S26 rfl rfl rfl (((b1.ext e2).ext e3).ext hx12) rfl rfl ?_
  exact WL_nil ⟨(Ext.refl _), rfl⟩
 apply AnySR_val [3] rfl (by kernel_rfl)
 · --
  intro y13 hy13
  have zy13 := hy13.size
  have hx13 := hy13.toExt
  refine AllS_nil ?_
  refine O_field F53_1 rfl rfl rfl ?_
  exact WL_nil ⟨(Ext.refl _), rfl⟩
 apply AnySR_val [16] rfl (by kernel_rfl)
 · --
  intro y14 hy14
  have zy14 := hy14.size
  have hx14 := hy14.toExt
  refine AllS_v ?_
  refine AllS_nil ?_
  refine O_loadA (vs := [_, _, _]) S26 rfl rfl rfl ((b2.ext e3).ext hx14) rfl rfl ?_
  exact WL_nil ⟨(Ext.refl _), rfl⟩
 apply AnySR_rel (RelP (pAgg [pEq _, pNo 0 111 _, pEq _])) [15, 17] rfl (RelP.monoS (pAgg_monoS (PsS.cons pEq_monoS (PsS.cons (pNo_monoS hS4n) (PsS.cons pEq_monoS PsS.nil))))) (by kernel_rfl)
 · --
  intro y15 hy15
  have zy15 := hy15.size
  have hx15 := hy15.toExt
  refine AllS_v ?_
  refine AllS_v ?_
  refine AllS_nil ?_
  refine O_call enters107 rfl rfl rfl (lesser_c rfl ((hy.ext (((e1.trans e2).trans e3).trans hx15)).mono (Nat.zero_le _)) rfl ((hu.ext (((e1.trans e2).trans e3).trans hx15)).mono (Nat.zero_le _)) (by first | with_reducible assumption | exact dval_dman _ _ | exact dval_zero | exact dval_dg (by assumption) (by assumption) | exact dval_dl (by assumption) (by assumption)) (by first | with_reducible assumption | exact dval_dman _ _ | exact dval_zero | exact dval_dg (by assumption) (by assumption) | exact dval_dl (by assumption) (by assumption))) (fun v16 w16 e16 h16 => ?_)
  have z16 := e16.size
  try simp only [val_dig] at h16
  obtain ⟨q16, rfl, hq16⟩ := h16
  exact WL_nil ⟨e16, _, rfl, ⟨_, rfl, (AllP.cons rfl (AllP.cons (hq16.mono (Nat.zero_le _)) (AllP.cons rfl AllP.nil)))⟩⟩
 apply AnySR_rel (RelP (pTup [pAgg [pEq _, pNo w3.heap.size 111 _, pEq _, pEq _, pNo w3.heap.size 111 _, pEq _], pEq _])) [13, 18] rfl (RelP.monoS (pTup_monoS (PsS.cons (pAgg_monoS (PsS.cons pEq_monoS (PsS.cons (pNo_monoS hS4n) (PsS.cons pEq_monoS (PsS.cons pEq_monoS (PsS.cons (pNo_monoS hS4n) (PsS.cons pEq_monoS PsS.nil))))))) (PsS.cons pEq_monoS PsS.nil)))) (by kernel_rfl)
 · --
  intro y17 hy17
  have zy17 := hy17.size
  have hx17 := hy17.toExt
  refine AllS_r fun a18 b18 v18 la18 lb18 lc18 h18 ap18 => ?_
  clear ap18
  obtain ⟨_, rfl, v18_0, _, rfl, rfl, v18_1, _, rfl, h18_1, v18_2, _, rfl, rfl, rfl⟩ := h18
  refine AllS_r fun a19 b19 v19 la19 lb19 lc19 h19 ap19 => ?_
  clear ap19
  obtain ⟨_, rfl, v19_0, _, rfl, rfl, v19_1, _, rfl, h19_1, v19_2, _, rfl, rfl, rfl⟩ := h19
  refine AllS_nil ?_
  refine O_call enters48 rfl rfl rfl (imake_T rfl h18_1.nl rfl h19_1.nl (by first | with_reducible assumption | exact dval_dman _ _ | exact dval_zero | exact dval_dg (by assumption) (by assumption) | exact dval_dl (by assumption) (by assumption)) (by first | with_reducible assumption | exact dval_dman _ _ | exact dval_zero | exact dval_dg (by assumption) (by assumption) | exact dval_dl (by assumption) (by assumption)) ho) (fun v20 w20 e20 h20 => ?_)
  have z20 := e20.size
  try simp only [val_dig] at h20
  obtain ⟨mq20, ms20, rfl, hmq20, hms20⟩ := h20
  exact WL_nil ⟨e20, _, rfl, ⟨_, rfl, (AllP.cons ⟨_, rfl, (AllP.cons rfl (AllP.cons (hmq20.mono (by omega)) (AllP.cons rfl (AllP.cons rfl (AllP.cons (hms20.mono (by omega)) (AllP.cons rfl AllP.nil))))))⟩ (AllP.cons rfl AllP.nil))⟩⟩
 apply AnySR_rel (RelP (pTup [pAgg [pEq _, pNo w3.heap.size 111 _, pEq _, pEq _, pNo w3.heap.size 111 _, pEq _], pEq _])) [19] rfl (RelP.monoS (pTup_monoS (PsS.cons (pAgg_monoS (PsS.cons pEq_monoS (PsS.cons (pNo_monoS hS4n) (PsS.cons pEq_monoS (PsS.cons pEq_monoS (PsS.cons (pNo_monoS hS4n) (PsS.cons pEq_monoS PsS.nil))))))) (PsS.cons pEq_monoS PsS.nil)))) (by kernel_rfl)
 · --
  intro y21 hy21
  have zy21 := hy21.size
  have hx21 := hy21.toExt
  refine AllS_r fun a22 b22 v22 la22 lb22 lc22 h22 ap22 => ?_
  clear ap22
  obtain ⟨_, rfl, v22_0, _, rfl, ⟨_, rfl, v22_0_0, _, rfl, rfl, v22_0_1, _, rfl, h22_0_1, v22_0_2, _, rfl, rfl, v22_0_3, _, rfl, rfl, v22_0_4, _, rfl, h22_0_4, v22_0_5, _, rfl, rfl, rfl⟩, v22_1, _, rfl, rfl, rfl⟩ := h22
  refine AllS_nil ?_
  refine O_move rfl rfl rfl ?_
  exact WL_nil ⟨(Ext.refl _), _, rfl, ⟨_, rfl, (AllP.cons ⟨_, rfl, (AllP.cons rfl (AllP.cons (h22_0_1.mono (by omega)) (AllP.cons rfl (AllP.cons rfl (AllP.cons (h22_0_4.mono (by omega)) (AllP.cons rfl AllP.nil))))))⟩ (AllP.cons rfl AllP.nil))⟩⟩
 apply AnySR_rel (RelP (pAgg [pEq _, pNo w3.heap.size 111 _, pEq _, pEq _, pNo w3.heap.size 111 _, pEq _])) [8] rfl (RelP.monoS (pAgg_monoS (PsS.cons pEq_monoS (PsS.cons (pNo_monoS hS4n) (PsS.cons pEq_monoS (PsS.cons pEq_monoS (PsS.cons (pNo_monoS hS4n) (PsS.cons pEq_monoS PsS.nil)))))))) (by kernel_rfl)
 · --
  intro y23 hy23
  have zy23 := hy23.size
  have hx23 := hy23.toExt
  refine AllS_r fun a24 b24 v24 la24 lb24 lc24 h24 ap24 => ?_
  clear ap24
  obtain ⟨_, rfl, v24_0, _, rfl, ⟨_, rfl, v24_0_0, _, rfl, rfl, v24_0_1, _, rfl, h24_0_1, v24_0_2, _, rfl, rfl, v24_0_3, _, rfl, rfl, v24_0_4, _, rfl, h24_0_4, v24_0_5, _, rfl, rfl, rfl⟩, v24_1, _, rfl, rfl, rfl⟩ := h24
  refine AllS_nil ?_
  refine O_extract rfl rfl rfl rfl ?_
  exact WL_nil ⟨(Ext.refl _), _, rfl, ⟨_, rfl, (AllP.cons rfl (AllP.cons (h24_0_1.mono (by omega)) (AllP.cons rfl (AllP.cons rfl (AllP.cons (h24_0_4.mono (by omega)) (AllP.cons rfl AllP.nil))))))⟩⟩
 apply AnySR_val [8] rfl (by kernel_rfl)
 · --
  intro y25 hy25
  have zy25 := hy25.size
  have hx25 := hy25.toExt
  refine AllS_r fun a26 b26 v26 la26 lb26 lc26 h26 ap26 => ?_
  clear ap26
  obtain ⟨_, rfl, v26_0, _, rfl, ⟨_, rfl, v26_0_0, _, rfl, rfl, v26_0_1, _, rfl, h26_0_1, v26_0_2, _, rfl, rfl, v26_0_3, _, rfl, rfl, v26_0_4, _, rfl, h26_0_4, v26_0_5, _, rfl, rfl, rfl⟩, v26_1, _, rfl, rfl, rfl⟩ := h26
  refine AllS_nil ?_
  refine O_extract rfl rfl rfl rfl ?_
  exact WL_nil ⟨(Ext.refl _), rfl⟩
 apply AnySR_rel (BkTR (53, 6)) [] rfl BkTR.monoS (by kernel_rfl)
 · --
  intro y27 hy27
  have zy27 := hy27.size
  have hx27 := hy27.toExt
  refine AllS_nil ?_
  refine O_alloc S53 rfl rfl (fun g28 w28 b28 e28 gl28 gh28 => ?_)
  have z28 := e28.size
  exact WL_nil ⟨e28, _, rfl, g28, rfl, gl28, gh28, _, b28, rfl⟩
 apply AnySR_stv 6 (53, 6) (pStv 53 [pEq _, pNo w3.heap.size 111 _, pEq _, pEq _, pNo w3.heap.size 111 _, pEq _]) [6, 20] rfl (by simp) rfl rfl ⟨BkTR (53, 6), (by repeat first | exact List.Mem.head _ | apply List.Mem.tail), BkTR.ptr⟩ (pStv_monoS (PsS.cons pEq_monoS (PsS.cons (pNo_monoS hS4n) (PsS.cons pEq_monoS (PsS.cons pEq_monoS (PsS.cons (pNo_monoS hS4n) (PsS.cons pEq_monoS PsS.nil))))))) (by exact (compat_cons ⟨trivial, trivial⟩ (compat_cons ⟨trivial, trivial⟩ (compat_cons ⟨trivial, trivial⟩ (compat_cons ⟨trivial, trivial⟩ (compat_cons ⟨trivial, trivial⟩ (compat_cons ⟨trivial, trivial⟩ (compat_cons ⟨trivial, trivial⟩ (compat_cons ⟨trivial, trivial⟩ (compat_cons ⟨trivial, trivial⟩ (compat_cons ⟨trivial, trivial⟩ (compat_cons ⟨trivial, trivial⟩ (compat_cons ⟨trivial, trivial⟩ (compat_cons ⟨trivial, trivial⟩ (compat_cons ⟨trivial, trivial⟩ (compat_cons ⟨trivial, trivial⟩ compat_nil)))))))))))))))) (by kernel_rfl)
 · --
  intro y29 hy29
  have zy29 := hy29.size
  have hx29 := hy29.toExt
  refine AllS_r fun a30 b30 v30 la30 lb30 lc30 h30 ap30 => ?_
  clear ap30
  obtain ⟨_, rfl, v30_0, _, rfl, rfl, v30_1, _, rfl, h30_1, v30_2, _, rfl, rfl, v30_3, _, rfl, rfl, v30_4, _, rfl, h30_4, v30_5, _, rfl, rfl, rfl⟩ := h30
  refine AllS_r fun a31 b31 v31 la31 lb31 lc31 h31 ap31 => ?_
  clear ap31
  obtain ⟨g31, rfl, gl31, gh31, hB31⟩ := h31
  refine AllS_nil ?_
  have hB29 := hB31
  refine O_storeW S53 rfl rfl rfl hB29 rfl (one_cons rfl (one_cons (h30_1.nl).one (one_cons rfl (one_cons rfl (one_cons (h30_4.nl).one (one_cons rfl one_nil)))))) (fun w29 b29 q29 => ?_)
  obtain ⟨cs29, hk29, hl29⟩ := hB29
  exact WL_nil ⟨g31, rfl, ⟨⟨cs29, hk29, hl29⟩, q29, ⟨_, b29, rfl⟩⟩, fun g' e' => by cases e'; exact ⟨_, b29, (AllP.cons rfl (AllP.cons (((h30_1).mono (by omega)).chgBk hk29 (by decide) q29) (AllP.cons rfl (AllP.cons rfl (AllP.cons (((h30_4).mono (by omega)).chgBk hk29 (by decide) q29) (AllP.cons rfl AllP.nil))))))⟩⟩
 refine AnySR_nil fun y32 hy32 => ?_
 have zy32 := hy32.size
 have hx32 := hy32.toExt
 refine AllS_v ?_
 refine AllS_v ?_
 refine AllS_v ?_
 refine AllS_v ?_
 refine AllS_r fun a33 b33 v33 la33 lb33 lc33 h33 ap33 => ?_
 clear ap33
 obtain ⟨_, rfl, v33_0, _, rfl, rfl, v33_1, _, rfl, h33_1, v33_2, _, rfl, rfl, rfl⟩ := h33
 refine AllS_v ?_
 refine AllS_v ?_
 refine AllS_v ?_
 refine AllS_v ?_
 refine AllS_r fun a34 b34 v34 la34 lb34 lc34 h34 ap34 => ?_
 clear ap34
 obtain ⟨_, rfl, v34_0, _, rfl, rfl, v34_1, _, rfl, h34_1, v34_2, _, rfl, rfl, rfl⟩ := h34
 refine AllS_r fun a35 b35 v35 la35 lb35 lc35 h35 ap35 => ?_
 clear ap35
 obtain ⟨_, rfl, v35_0, _, rfl, ⟨_, rfl, v35_0_0, _, rfl, rfl, v35_0_1, _, rfl, h35_0_1, v35_0_2, _, rfl, rfl, v35_0_3, _, rfl, rfl, v35_0_4, _, rfl, h35_0_4, v35_0_5, _, rfl, rfl, rfl⟩, v35_1, _, rfl, rfl, rfl⟩ := h35
 refine AllS_r fun a36 b36 v36 la36 lb36 lc36 h36 ap36 => ?_
 clear ap36
 obtain ⟨_, rfl, v36_0, _, rfl, ⟨_, rfl, v36_0_0, _, rfl, rfl, v36_0_1, _, rfl, h36_0_1, v36_0_2, _, rfl, rfl, v36_0_3, _, rfl, rfl, v36_0_4, _, rfl, h36_0_4, v36_0_5, _, rfl, rfl, rfl⟩, v36_1, _, rfl, rfl, rfl⟩ := h36
 refine AllS_r fun a37 b37 v37 la37 lb37 lc37 h37 ap37 => ?_
 clear ap37
 obtain ⟨_, rfl, v37_0, _, rfl, rfl, v37_1, _, rfl, h37_1, v37_2, _, rfl, rfl, v37_3, _, rfl, rfl, v37_4, _, rfl, h37_4, v37_5, _, rfl, rfl, rfl⟩ := h37
 refine AllS_v ?_
 refine AllS_r fun a38 b38 v38 la38 lb38 lc38 h38 ap38 => ?_
 clear ap38
 obtain ⟨g38, rfl, gl38, gh38, hB38⟩ := h38
 refine AllS_qv rfl fun hq39 => ?_
 obtain ⟨_, hb39, u39_0, _, rfl, rfl, u39_1, _, rfl, hu39_1, u39_2, _, rfl, rfl, u39_3, _, rfl, rfl, u39_4, _, rfl, hu39_4, u39_5, _, rfl, rfl, rfl⟩ := hq39 g38 rfl
 refine AllS_nil ?_
 refine O_assign rfl rfl rfl ?_
 refine WL_end [(4, _), (6, _), (7, _)] ⟨rfl, rfl, rfl, trivial⟩ ?_
 refine WP_seq ?_
 refine WP_region ?_
 refine O_loadA (vs := [_, _, _, _, _, _]) S53 rfl rfl rfl hb39 rfl rfl ?_
 refine O_move rfl rfl rfl ?_
 refine O_eql (t := true) rfl rfl rfl rfl (decide_eq_true rfl) ?_
 refine O_storeA (cs' := [_, _, _, _, _, _]) S53 rfl rfl rfl (b3.ext hx32) rfl rfl (one_cons rfl (one_cons (hu39_1.nl).one (one_cons rfl (one_cons rfl (one_cons (hu39_4.nl).one (one_cons rfl one_nil)))))) rfl (fun w40 b40 q40 => ?_)
 have z40 := Nat.le_of_eq q40.size.symm
 have e40 : Ext w w40 := q40.ext (((e1.trans e2).trans e3).trans hx32) (by omega)
 refine O_assign rfl rfl rfl ?_
 refine WL_end [(4, _), (5, _)] ⟨rfl, rfl, trivial⟩ ?_
 refine WP_ret ?_
 refine retL Tryd.results49 (.cell rfl S53 b40 rfl (.tmp rfl .nil)) ?_
 exact ⟨_, rfl, e40, _, _, rfl, (hu39_1.chgBk (b3.ext hx32) (by decide) q40).mono (Nat.zero_le _), (hu39_4.chgBk (b3.ext hx32) (by decide) q40).mono (Nat.zero_le _)⟩

theorem meet_F {w : World} {vx vy : Value} {x y e f : Int} {bx by_ : Bool} (hbx : bx = decide (x < 0)) (hx : No 0 111 w vx (dig x.natAbs)) (hby : by_ = decide (y < 0)) (hy : No 0 111 w vy (dig y.natAbs)) (hvx : dval x e = true) (hvy : dval y f = true) {vz vu : Value} {z u g h : Int} {bz bu : Bool} (hbz : bz = decide (z < 0)) (hz : No 0 111 w vz (dig z.natAbs)) (hbu : bu = decide (u < 0)) (hu : No 0 111 w vu (dig u.natAbs)) (hvz : dval z g = true) (hvu : dval u h = true) (ho : ¬ dcmp (dgx x e z g) (dge x e z g) (dlx y f u h) (dle y f u h) ≤ 0) :
    Calls Tryd.prog 49 #[.agg #[.bool bx, vx, .int .i64 e, .bool by_, vy, .int .i64 f], .agg #[.bool bz, vz, .int .i64 g, .bool bu, vu, .int .i64 h]] w (Ret w fun r _ => r = .tuple #[.agg #[.bool (decide ((0) < 0)), .slice none 0 0, .int .i64 (0), .bool (decide ((0) < 0)), .slice none 0 0, .int .i64 (0)], .bool false]) := by
 subst hbx
 subst hby
 subst hbz
 subst hbu
 have hRx := dval_range hvx
 have hlx : (dig x.natAbs).length ≤ 2049 := dval_len hvx
 have hRy := dval_range hvy
 have hly : (dig y.natAbs).length ≤ 2049 := dval_len hvy
 have hRz := dval_range hvz
 have hlz : (dig z.natAbs).length ≤ 2049 := dval_len hvz
 have hRu := dval_range hvu
 have hlu : (dig u.natAbs).length ≤ 2049 := dval_len hvu
 
 have hd1 := dval_dg hvx hvz
 have hd2 := dval_dl hvy hvu
 refine enter (args := [_, _]) Tryd.func49 rfl Tryd.ntmps49 rfl ?_
 refine WP_seq ?_
 refine WP_region ?_
 refine O_box _ rfl rfl rfl rfl (fun g1 w1 b1 e1 gl1 gh1 => ?_)
 have z1 := e1.size
 refine O_box _ rfl rfl rfl rfl (fun g2 w2 b2 e2 gl2 gh2 => ?_)
 have z2 := e2.size
 refine O_alloc S53 rfl rfl (fun g3 w3 b3 e3 gl3 gh3 => ?_)
 have z3 := e3.size
 refine O_assign rfl rfl rfl ?_
 refine WL_end [(2, _), (3, _), (4, _)] ⟨rfl, rfl, rfl, trivial⟩ ?_
 refine WP_seq ?_
 refine WP_sub [(2, _), (3, _), (4, _)] ⟨rfl, rfl, rfl, trivial⟩ ?_
 have hS4n : ∀ g T, (g, T) ∈ (⟨[], [(53, 6)], (w3).heap.size⟩ : SS) → 111 ≠ T.1 := by
   intro g T hm; rw [mem_SS] at hm; simp only [List.mem_cons, Prod.mk.injEq, List.not_mem_nil, or_false, false_or, and_false] at hm
   rcases hm with ⟨_, rfl⟩
   · decide
 refine WP_anySR (⟨[], [(53, 6)], (w3).heap.size⟩ : SS) 16 [2, 3, 4] mixed rfl (by kernel_rfl) (Nat.le_refl _) ?_
 apply AnySR_val [2] rfl (by kernel_rfl)
 · --
  intro y5 hy5
  have zy5 := hy5.size
  have hx5 := hy5.toExt
  refine AllS_nil ?_
  refine O_field F53_0 rfl rfl rfl ?_
  exact WL_nil ⟨(Ext.refl _), rfl⟩
 apply AnySR_val [9] rfl (by kernel_rfl)
 · --
  intro y6 hy6
  have zy6 := hy6.size
  have hx6 := hy6.toExt
  refine AllS_v ?_
  refine AllS_nil ?_
  refine O_loadA (vs := [_, _, _]) S26 rfl rfl rfl (((b1.ext e2).ext e3).ext hx6) rfl rfl ?_
  exact WL_nil ⟨(Ext.refl _), rfl⟩
 apply AnySR_val [3] rfl (by kernel_rfl)
 · --
  intro y7 hy7
  have zy7 := hy7.size
  have hx7 := hy7.toExt
  refine AllS_nil ?_
  refine O_field F53_0 rfl rfl rfl ?_
  exact WL_nil ⟨(Ext.refl _), rfl⟩
 apply AnySR_val [11] rfl (by kernel_rfl)
 · --
  intro y8 hy8
  have zy8 := hy8.size
  have hx8 := hy8.toExt
  refine AllS_v ?_
  refine AllS_nil ?_
  refine O_loadA (vs := [_, _, _]) S26 rfl rfl rfl ((b2.ext e3).ext hx8) rfl rfl ?_
  exact WL_nil ⟨(Ext.refl _), rfl⟩
 apply AnySR_rel (RelP (pAgg [pEq _, pNo 0 111 _, pEq _])) [10, 12] rfl (RelP.monoS (pAgg_monoS (PsS.cons pEq_monoS (PsS.cons (pNo_monoS hS4n) (PsS.cons pEq_monoS PsS.nil))))) (by kernel_rfl)
 · --
  intro y9 hy9
  have zy9 := hy9.size
  have hx9 := hy9.toExt
  refine AllS_v ?_
  refine AllS_v ?_
  refine AllS_nil ?_
  refine O_call enters106 rfl rfl rfl (greater_c rfl ((hx.ext (((e1.trans e2).trans e3).trans hx9)).mono (Nat.zero_le _)) rfl ((hz.ext (((e1.trans e2).trans e3).trans hx9)).mono (Nat.zero_le _)) (by first | with_reducible assumption | exact dval_dman _ _ | exact dval_zero | exact dval_dg (by assumption) (by assumption) | exact dval_dl (by assumption) (by assumption)) (by first | with_reducible assumption | exact dval_dman _ _ | exact dval_zero | exact dval_dg (by assumption) (by assumption) | exact dval_dl (by assumption) (by assumption))) (fun v10 w10 e10 h10 => ?_)
  have z10 := e10.size
  try simp only [val_dig] at h10
  obtain ⟨q10, rfl, hq10⟩ := h10
  exact WL_nil ⟨e10, _, rfl, ⟨_, rfl, (AllP.cons rfl (AllP.cons (hq10.mono (Nat.zero_le _)) (AllP.cons rfl AllP.nil)))⟩⟩
 apply AnySR_val [2] rfl (by kernel_rfl)
 · --
  intro y11 hy11
  have zy11 := hy11.size
  have hx11 := hy11.toExt
  refine AllS_nil ?_
  refine O_field F53_1 rfl rfl rfl ?_
  exact WL_nil ⟨(Ext.refl _), rfl⟩
 apply AnySR_val [14] rfl (by kernel_rfl)
 · --
  intro y12 hy12
  have zy12 := hy12.size
  have hx12 := hy12.toExt
  refine AllS_v ?_
  refine AllS_nil ?_
  refine O_loadA (vs := [_, _, _]) S26 rfl rfl rfl (((b1.ext e2).ext e3).ext hx12) rfl rfl ?_
  exact WL_nil ⟨(Ext.refl _), rfl⟩
 apply AnySR_val [3] rfl (by kernel_rfl)
 · --
  intro y13 hy13
  have zy13 := hy13.size
  have hx13 := hy13.toExt
  refine AllS_nil ?_
  refine O_field F53_1 rfl rfl rfl ?_
  exact WL_nil ⟨(Ext.refl _), rfl⟩
 apply AnySR_val [16] rfl (by kernel_rfl)
 · --
  intro y14 hy14
  have zy14 := hy14.size
  have hx14 := hy14.toExt
  refine AllS_v ?_
  refine AllS_nil ?_
  refine O_loadA (vs := [_, _, _]) S26 rfl rfl rfl ((b2.ext e3).ext hx14) rfl rfl ?_
  exact WL_nil ⟨(Ext.refl _), rfl⟩
 apply AnySR_rel (RelP (pAgg [pEq _, pNo 0 111 _, pEq _])) [15, 17] rfl (RelP.monoS (pAgg_monoS (PsS.cons pEq_monoS (PsS.cons (pNo_monoS hS4n) (PsS.cons pEq_monoS PsS.nil))))) (by kernel_rfl)
 · --
  intro y15 hy15
  have zy15 := hy15.size
  have hx15 := hy15.toExt
  refine AllS_v ?_
  refine AllS_v ?_
  refine AllS_nil ?_
  refine O_call enters107 rfl rfl rfl (lesser_c rfl ((hy.ext (((e1.trans e2).trans e3).trans hx15)).mono (Nat.zero_le _)) rfl ((hu.ext (((e1.trans e2).trans e3).trans hx15)).mono (Nat.zero_le _)) (by first | with_reducible assumption | exact dval_dman _ _ | exact dval_zero | exact dval_dg (by assumption) (by assumption) | exact dval_dl (by assumption) (by assumption)) (by first | with_reducible assumption | exact dval_dman _ _ | exact dval_zero | exact dval_dg (by assumption) (by assumption) | exact dval_dl (by assumption) (by assumption))) (fun v16 w16 e16 h16 => ?_)
  have z16 := e16.size
  try simp only [val_dig] at h16
  obtain ⟨q16, rfl, hq16⟩ := h16
  exact WL_nil ⟨e16, _, rfl, ⟨_, rfl, (AllP.cons rfl (AllP.cons (hq16.mono (Nat.zero_le _)) (AllP.cons rfl AllP.nil)))⟩⟩
 apply AnySR_val [13, 18] rfl (by kernel_rfl)
 · --
  intro y17 hy17
  have zy17 := hy17.size
  have hx17 := hy17.toExt
  refine AllS_r fun a18 b18 v18 la18 lb18 lc18 h18 ap18 => ?_
  clear ap18
  obtain ⟨_, rfl, v18_0, _, rfl, rfl, v18_1, _, rfl, h18_1, v18_2, _, rfl, rfl, rfl⟩ := h18
  refine AllS_r fun a19 b19 v19 la19 lb19 lc19 h19 ap19 => ?_
  clear ap19
  obtain ⟨_, rfl, v19_0, _, rfl, rfl, v19_1, _, rfl, h19_1, v19_2, _, rfl, rfl, rfl⟩ := h19
  refine AllS_nil ?_
  refine O_call enters48 rfl rfl rfl (imake_F rfl h18_1.nl rfl h19_1.nl (by first | with_reducible assumption | exact dval_dman _ _ | exact dval_zero | exact dval_dg (by assumption) (by assumption) | exact dval_dl (by assumption) (by assumption)) (by first | with_reducible assumption | exact dval_dman _ _ | exact dval_zero | exact dval_dg (by assumption) (by assumption) | exact dval_dl (by assumption) (by assumption)) ho) (fun v20 w20 e20 h20 => ?_)
  have z20 := e20.size
  try simp only [val_dig] at h20
  obtain rfl := h20
  exact WL_nil ⟨e20, rfl⟩
 apply AnySR_val [19] rfl (by kernel_rfl)
 · --
  intro y21 hy21
  have zy21 := hy21.size
  have hx21 := hy21.toExt
  refine AllS_v ?_
  refine AllS_nil ?_
  refine O_move rfl rfl rfl ?_
  exact WL_nil ⟨(Ext.refl _), rfl⟩
 apply AnySR_val [8] rfl (by kernel_rfl)
 · --
  intro y22 hy22
  have zy22 := hy22.size
  have hx22 := hy22.toExt
  refine AllS_v ?_
  refine AllS_nil ?_
  refine O_extract rfl rfl rfl rfl ?_
  exact WL_nil ⟨(Ext.refl _), rfl⟩
 apply AnySR_val [8] rfl (by kernel_rfl)
 · --
  intro y23 hy23
  have zy23 := hy23.size
  have hx23 := hy23.toExt
  refine AllS_v ?_
  refine AllS_nil ?_
  refine O_extract rfl rfl rfl rfl ?_
  exact WL_nil ⟨(Ext.refl _), rfl⟩
 apply AnySR_rel (BkTR (53, 6)) [] rfl BkTR.monoS (by kernel_rfl)
 · --
  intro y24 hy24
  have zy24 := hy24.size
  have hx24 := hy24.toExt
  refine AllS_nil ?_
  refine O_alloc S53 rfl rfl (fun g25 w25 b25 e25 gl25 gh25 => ?_)
  have z25 := e25.size
  exact WL_nil ⟨e25, _, rfl, g25, rfl, gl25, gh25, _, b25, rfl⟩
 apply AnySR_stv 6 (53, 6) (pStv 53 [pEq _, pEq _, pEq _, pEq _, pEq _, pEq _]) [6, 20] rfl (by simp) rfl rfl ⟨BkTR (53, 6), (by repeat first | exact List.Mem.head _ | apply List.Mem.tail), BkTR.ptr⟩ (pStv_monoS (PsS.cons pEq_monoS (PsS.cons pEq_monoS (PsS.cons pEq_monoS (PsS.cons pEq_monoS (PsS.cons pEq_monoS (PsS.cons pEq_monoS PsS.nil))))))) (by exact (compat_cons ⟨trivial, trivial⟩ (compat_cons ⟨trivial, trivial⟩ (compat_cons ⟨trivial, trivial⟩ (compat_cons ⟨trivial, trivial⟩ (compat_cons ⟨trivial, trivial⟩ (compat_cons ⟨trivial, trivial⟩ (compat_cons ⟨trivial, trivial⟩ (compat_cons ⟨trivial, trivial⟩ (compat_cons ⟨trivial, trivial⟩ (compat_cons ⟨trivial, trivial⟩ (compat_cons ⟨trivial, trivial⟩ (compat_cons ⟨trivial, trivial⟩ (compat_cons ⟨trivial, trivial⟩ (compat_cons ⟨trivial, trivial⟩ (compat_cons ⟨trivial, trivial⟩ compat_nil)))))))))))))))) (by kernel_rfl)
 · --
  intro y26 hy26
  have zy26 := hy26.size
  have hx26 := hy26.toExt
  refine AllS_v ?_
  refine AllS_r fun a27 b27 v27 la27 lb27 lc27 h27 ap27 => ?_
  clear ap27
  obtain ⟨g27, rfl, gl27, gh27, hB27⟩ := h27
  refine AllS_nil ?_
  have hB26 := hB27
  refine O_storeW S53 rfl rfl rfl hB26 rfl (one_cons rfl (one_cons rfl (one_cons rfl (one_cons rfl (one_cons rfl (one_cons rfl one_nil)))))) (fun w26 b26 q26 => ?_)
  obtain ⟨cs26, hk26, hl26⟩ := hB26
  exact WL_nil ⟨g27, rfl, ⟨⟨cs26, hk26, hl26⟩, q26, ⟨_, b26, rfl⟩⟩, fun g' e' => by cases e'; exact ⟨_, b26, (AllP.cons rfl (AllP.cons rfl (AllP.cons rfl (AllP.cons rfl (AllP.cons rfl (AllP.cons rfl AllP.nil))))))⟩⟩
 refine AnySR_nil fun y28 hy28 => ?_
 have zy28 := hy28.size
 have hx28 := hy28.toExt
 refine AllS_v ?_
 refine AllS_v ?_
 refine AllS_v ?_
 refine AllS_v ?_
 refine AllS_r fun a29 b29 v29 la29 lb29 lc29 h29 ap29 => ?_
 clear ap29
 obtain ⟨_, rfl, v29_0, _, rfl, rfl, v29_1, _, rfl, h29_1, v29_2, _, rfl, rfl, rfl⟩ := h29
 refine AllS_v ?_
 refine AllS_v ?_
 refine AllS_v ?_
 refine AllS_v ?_
 refine AllS_r fun a30 b30 v30 la30 lb30 lc30 h30 ap30 => ?_
 clear ap30
 obtain ⟨_, rfl, v30_0, _, rfl, rfl, v30_1, _, rfl, h30_1, v30_2, _, rfl, rfl, rfl⟩ := h30
 refine AllS_v ?_
 refine AllS_v ?_
 refine AllS_v ?_
 refine AllS_v ?_
 refine AllS_r fun a31 b31 v31 la31 lb31 lc31 h31 ap31 => ?_
 clear ap31
 obtain ⟨g31, rfl, gl31, gh31, hB31⟩ := h31
 refine AllS_qv rfl fun hq32 => ?_
 obtain ⟨_, hb32, u32_0, _, rfl, rfl, u32_1, _, rfl, rfl, u32_2, _, rfl, rfl, u32_3, _, rfl, rfl, u32_4, _, rfl, rfl, u32_5, _, rfl, rfl, rfl⟩ := hq32 g31 rfl
 refine AllS_nil ?_
 refine O_assign rfl rfl rfl ?_
 refine WL_end [(4, _), (6, _), (7, _)] ⟨rfl, rfl, rfl, trivial⟩ ?_
 refine WP_seq ?_
 refine WP_region ?_
 refine O_loadA (vs := [_, _, _, _, _, _]) S53 rfl rfl rfl hb32 rfl rfl ?_
 refine O_move rfl rfl rfl ?_
 refine O_eql (t := false) rfl rfl rfl rfl (decide_eq_false (by decide)) ?_
 refine O_storeA (cs' := [_, _, _, _, _, _]) S53 rfl rfl rfl (b3.ext hx28) rfl rfl (one_cons rfl (one_cons rfl (one_cons rfl (one_cons rfl (one_cons rfl (one_cons rfl one_nil)))))) rfl (fun w33 b33 q33 => ?_)
 have z33 := Nat.le_of_eq q33.size.symm
 have e33 : Ext w w33 := q33.ext (((e1.trans e2).trans e3).trans hx28) (by omega)
 refine O_assign rfl rfl rfl ?_
 refine WL_end [(4, _), (5, _)] ⟨rfl, rfl, trivial⟩ ?_
 refine WP_ret ?_
 refine retL Tryd.results49 (.cell rfl S53 b33 rfl (.tmp rfl .nil)) ?_
 exact ⟨_, rfl, e33, rfl⟩

theorem hull_c {w : World} {vx vy : Value} {x y e f : Int} {bx by_ : Bool} (hbx : bx = decide (x < 0)) (hx : No 0 111 w vx (dig x.natAbs)) (hby : by_ = decide (y < 0)) (hy : No 0 111 w vy (dig y.natAbs)) (hvx : dval x e = true) (hvy : dval y f = true) {vz vu : Value} {z u g h : Int} {bz bu : Bool} (hbz : bz = decide (z < 0)) (hz : No 0 111 w vz (dig z.natAbs)) (hbu : bu = decide (u < 0)) (hu : No 0 111 w vu (dig u.natAbs)) (hvz : dval z g = true) (hvu : dval u h = true) :
    Calls Tryd.prog 52 #[.agg #[.bool bx, vx, .int .i64 e, .bool by_, vy, .int .i64 f], .agg #[.bool bz, vz, .int .i64 g, .bool bu, vu, .int .i64 h]] w (Ret w fun r w' => ∃ q s, r = .agg #[.bool (decide ((dlx x e z g) < 0)), q, .int .i64 (dle x e z g), .bool (decide ((dgx y f u h) < 0)), s, .int .i64 (dge y f u h)] ∧ No 0 111 w' q (dig (dlx x e z g).natAbs) ∧ No 0 111 w' s (dig (dgx y f u h).natAbs)) := by
 subst hbx
 subst hby
 subst hbz
 subst hbu
 have hRx := dval_range hvx
 have hlx : (dig x.natAbs).length ≤ 2049 := dval_len hvx
 have hRy := dval_range hvy
 have hly : (dig y.natAbs).length ≤ 2049 := dval_len hvy
 have hRz := dval_range hvz
 have hlz : (dig z.natAbs).length ≤ 2049 := dval_len hvz
 have hRu := dval_range hvu
 have hlu : (dig u.natAbs).length ≤ 2049 := dval_len hvu
 
 have hd1 := dval_dl hvx hvz
 have hd2 := dval_dg hvy hvu
 refine enter (args := [_, _]) Tryd.func52 rfl Tryd.ntmps52 rfl ?_
 refine WP_seq ?_
 refine WP_region ?_
 refine O_box _ rfl rfl rfl rfl (fun g1 w1 b1 e1 gl1 gh1 => ?_)
 have z1 := e1.size
 refine O_box _ rfl rfl rfl rfl (fun g2 w2 b2 e2 gl2 gh2 => ?_)
 have z2 := e2.size
 refine O_alloc S53 rfl rfl (fun g3 w3 b3 e3 gl3 gh3 => ?_)
 have z3 := e3.size
 refine WL_end [(2, _), (3, _), (4, _)] ⟨rfl, rfl, rfl, trivial⟩ ?_
 refine WP_seq ?_
 refine WP_sub [(2, _), (3, _), (4, _)] ⟨rfl, rfl, rfl, trivial⟩ ?_
 refine WP_anyR 9 [2, 3, 4] mixed rfl (by kernel_rfl) ?_
 apply AnyR_val [2] rfl (by kernel_rfl)
 · --
  intro y4 hy4
  have zy4 := hy4.size
  refine AllV_nil ?_
  refine O_field F53_0 rfl rfl rfl ?_
  exact WL_nil ⟨(Ext.refl _), rfl⟩
 apply AnyR_val [5] rfl (by kernel_rfl)
 · --
  intro y5 hy5
  have zy5 := hy5.size
  refine AllV_v ?_
  refine AllV_nil ?_
  refine O_loadA (vs := [_, _, _]) S26 rfl rfl rfl (((b1.ext e2).ext e3).ext hy5) rfl rfl ?_
  exact WL_nil ⟨(Ext.refl _), rfl⟩
 apply AnyR_val [3] rfl (by kernel_rfl)
 · --
  intro y6 hy6
  have zy6 := hy6.size
  refine AllV_nil ?_
  refine O_field F53_0 rfl rfl rfl ?_
  exact WL_nil ⟨(Ext.refl _), rfl⟩
 apply AnyR_val [7] rfl (by kernel_rfl)
 · --
  intro y7 hy7
  have zy7 := hy7.size
  refine AllV_v ?_
  refine AllV_nil ?_
  refine O_loadA (vs := [_, _, _]) S26 rfl rfl rfl ((b2.ext e3).ext hy7) rfl rfl ?_
  exact WL_nil ⟨(Ext.refl _), rfl⟩
 apply AnyR_rel (RelP (pAgg [pEq _, pNo 0 111 _, pEq _])) [6, 8] rfl (RelP.mono (pAgg_mono (PsM.cons pEq_mono (PsM.cons pNo_mono (PsM.cons pEq_mono PsM.nil))))) (by kernel_rfl)
 · --
  intro y8 hy8
  have zy8 := hy8.size
  refine AllV_v ?_
  refine AllV_v ?_
  refine AllV_nil ?_
  refine O_call enters107 rfl rfl rfl (lesser_c rfl ((hx.ext (((e1.trans e2).trans e3).trans hy8)).mono (Nat.zero_le _)) rfl ((hz.ext (((e1.trans e2).trans e3).trans hy8)).mono (Nat.zero_le _)) (by first | with_reducible assumption | exact dval_dman _ _ | exact dval_zero | exact dval_dg (by assumption) (by assumption) | exact dval_dl (by assumption) (by assumption)) (by first | with_reducible assumption | exact dval_dman _ _ | exact dval_zero | exact dval_dg (by assumption) (by assumption) | exact dval_dl (by assumption) (by assumption))) (fun v9 w9 e9 h9 => ?_)
  have z9 := e9.size
  try simp only [val_dig] at h9
  obtain ⟨q9, rfl, hq9⟩ := h9
  exact WL_nil ⟨e9, _, rfl, ⟨_, rfl, (AllP.cons rfl (AllP.cons (hq9.mono (Nat.zero_le _)) (AllP.cons rfl AllP.nil)))⟩⟩
 apply AnyR_val [2] rfl (by kernel_rfl)
 · --
  intro y10 hy10
  have zy10 := hy10.size
  refine AllV_nil ?_
  refine O_field F53_1 rfl rfl rfl ?_
  exact WL_nil ⟨(Ext.refl _), rfl⟩
 apply AnyR_val [10] rfl (by kernel_rfl)
 · --
  intro y11 hy11
  have zy11 := hy11.size
  refine AllV_v ?_
  refine AllV_nil ?_
  refine O_loadA (vs := [_, _, _]) S26 rfl rfl rfl (((b1.ext e2).ext e3).ext hy11) rfl rfl ?_
  exact WL_nil ⟨(Ext.refl _), rfl⟩
 apply AnyR_val [3] rfl (by kernel_rfl)
 · --
  intro y12 hy12
  have zy12 := hy12.size
  refine AllV_nil ?_
  refine O_field F53_1 rfl rfl rfl ?_
  exact WL_nil ⟨(Ext.refl _), rfl⟩
 apply AnyR_val [12] rfl (by kernel_rfl)
 · --
  intro y13 hy13
  have zy13 := hy13.size
  refine AllV_v ?_
  refine AllV_nil ?_
  refine O_loadA (vs := [_, _, _]) S26 rfl rfl rfl ((b2.ext e3).ext hy13) rfl rfl ?_
  exact WL_nil ⟨(Ext.refl _), rfl⟩
 refine AnyR_nil fun y14 hy14 => ?_
 have zy14 := hy14.size
 refine AllV_v ?_
 refine AllV_v ?_
 refine AllV_v ?_
 refine AllV_v ?_
 refine AllV_r fun a15 b15 v15 la15 lb15 lc15 h15 ap15 => ?_
 clear ap15
 obtain ⟨_, rfl, v15_0, _, rfl, rfl, v15_1, _, rfl, h15_1, v15_2, _, rfl, rfl, rfl⟩ := h15
 refine AllV_v ?_
 refine AllV_v ?_
 refine AllV_v ?_
 refine AllV_v ?_
 refine AllV_nil ?_
 refine O_call enters106 rfl rfl rfl (greater_c rfl ((hy.ext (((e1.trans e2).trans e3).trans hy14)).mono (Nat.zero_le _)) rfl ((hu.ext (((e1.trans e2).trans e3).trans hy14)).mono (Nat.zero_le _)) (by first | with_reducible assumption | exact dval_dman _ _ | exact dval_zero | exact dval_dg (by assumption) (by assumption) | exact dval_dl (by assumption) (by assumption)) (by first | with_reducible assumption | exact dval_dman _ _ | exact dval_zero | exact dval_dg (by assumption) (by assumption) | exact dval_dl (by assumption) (by assumption))) (fun v16 w16 e16 h16 => ?_)
 have z16 := e16.size
 try simp only [val_dig] at h16
 obtain ⟨q16, rfl, hq16⟩ := h16
 refine O_call enters105 rfl rfl rfl (between_c rfl (h15_1.ext e16).nl rfl hq16.nl (by first | with_reducible assumption | exact dval_dman _ _ | exact dval_zero | exact dval_dg (by assumption) (by assumption) | exact dval_dl (by assumption) (by assumption)) (by first | with_reducible assumption | exact dval_dman _ _ | exact dval_zero | exact dval_dg (by assumption) (by assumption) | exact dval_dl (by assumption) (by assumption))) (fun v17 w17 e17 h17 => ?_)
 have z17 := e17.size
 try simp only [val_dig] at h17
 obtain ⟨mq17, ms17, rfl, hmq17, hms17⟩ := h17
 refine O_storeA (cs' := [_, _, _, _, _, _]) S53 rfl rfl rfl (((b3.ext hy14).ext e16).ext e17) rfl rfl (one_cons rfl (one_cons (hmq17.nl).one (one_cons rfl (one_cons rfl (one_cons (hms17.nl).one (one_cons rfl one_nil)))))) rfl (fun w18 b18 q18 => ?_)
 have z18 := Nat.le_of_eq q18.size.symm
 have e18 : Ext w w18 := q18.ext (((((e1.trans e2).trans e3).trans hy14).trans e16).trans e17) (by omega)
 refine WL_end [(4, _)] ⟨rfl, trivial⟩ ?_
 refine WP_ret ?_
 refine retL Tryd.results52 (.cell rfl S53 b18 rfl .nil) ?_
 exact ⟨_, rfl, e18, _, _, rfl, (hmq17.chgBk (((b3.ext hy14).ext e16).ext e17) (by decide) q18).mono (Nat.zero_le _), (hms17.chgBk (((b3.ext hy14).ext e16).ext e17) (by decide) q18).mono (Nat.zero_le _)⟩

end Go.Proofs.YthbfhljpfkicpaaDoor
