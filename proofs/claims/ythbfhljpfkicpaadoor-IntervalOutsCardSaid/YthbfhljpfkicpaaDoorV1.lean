/-
  Walks.
-/
import Derived.Test.YthbfhljpfkicpaaDoorY3
set_option linter.unusedVariables false
set_option linter.unusedSimpArgs false
set_option maxRecDepth 100000
namespace Go.Proofs.YthbfhljpfkicpaaDoor
open Go Go.RowKit
/-- The order of intervals. -/
def ivcmp (x e y f z g u h : Int) : Int := if dcmp y f z g < 0 then -1 else if 0 < dcmp x e u h then 1 else 0
theorem dcmp_bd (x e y f : Int) : -1 ≤ dcmp x e y f ∧ dcmp x e y f ≤ 1 := icmp_bd _ _
theorem ivcmp_bd (x e y f z g u h : Int) : -1 ≤ ivcmp x e y f z g u h ∧ ivcmp x e y f z g u h ≤ 1 := by unfold ivcmp; split <;> (try split) <;> omega
theorem dval_K {x e : Int} (h : dval x e = true) : -((70000 : Nat) : Int) ≤ e := by have := dval_range h; omega
/-- A value on the scale that serves all dyadics. -/
def sw (x e : Int) : Int := sv 70000 x e
theorem sw_dcmp {x e y f : Int} (hx : dval x e = true) (hy : dval y f = true) : dcmp x e y f = icmp (sw x e) (sw y f) := sv_dcmp (dval_K hx) (dval_K hy)
theorem sw_zero : sw 0 0 = 0 := sv_zero _ _
theorem sw_sign (x e : Int) : x.sign = icmp (sw x e) 0 := by
  unfold sw sv
  have hp := ipow_pos (e + ((70000 : Nat) : Int)).toNat
  generalize (2 : Int) ^ (e + ((70000 : Nat) : Int)).toNat = P at *
  rw [← icmp_sign, Int.sub_zero, Int.sign_mul, Int.sign_eq_one_of_pos hp, Int.mul_one]
theorem ivcmp_swap {x e y f z g u h : Int} (hx : dval x e = true) (hy : dval y f = true) (hz : dval z g = true) (hu : dval u h = true) (h1 : dcmp x e y f ≤ 0) (h2 : dcmp z g u h ≤ 0) : ivcmp z g u h x e y f = -ivcmp x e y f z g u h := by
  unfold ivcmp
  rw [sw_dcmp hx hy] at h1
  rw [sw_dcmp hz hu] at h2
  rw [sw_dcmp hu hx, sw_dcmp hz hy, sw_dcmp hy hz, sw_dcmp hx hu]
  rw [icmp_pos] at h1 h2
  simp only [icmp_lt, icmp_gt]
  split <;> split <;> (try split) <;> (try split) <;> omega
theorem sign_ivcmp {x e y f : Int} (hx : dval x e = true) (hy : dval y f = true) (h1 : dcmp x e y f ≤ 0) : decide (ivcmp x e y f 0 0 0 0 = 0) = (if x.sign = y.sign then decide (x.sign = 0) else true) := by
  unfold ivcmp
  rw [sw_dcmp hx hy, icmp_pos] at h1
  rw [sw_dcmp hy dval_zero, sw_dcmp hx dval_zero, sw_zero]
  rw [sw_sign x e, sw_sign y f]
  simp only [icmp_lt, icmp_gt]
  generalize sw x e = A at *
  generalize sw y f = B at *
  have k : ∀ a b : Int, icmp a b = if a < b then -1 else if b < a then 1 else 0 := fun _ _ => rfl
  simp only [k]
  by_cases a1 : A < 0 <;> by_cases a2 : 0 < A <;> by_cases b1 : B < 0 <;> by_cases b2 : 0 < B <;> simp [a1, a2, b1, b2] <;> omega
theorem made0 : dman 0 0 = 0 ∧ dexp 0 0 = 0 := (dval_made dval_zero).2
theorem made1 : dman 1 0 = 1 ∧ dexp 1 0 = 0 := (dval_made (show dval 1 0 = true by decide)).2
theorem made3 : dman 3 0 = 3 ∧ dexp 3 0 = 0 := (dval_made (show dval 3 0 = true by decide)).2
theorem made2 : dman 2 0 = 1 ∧ dexp 2 0 = 1 := by
  have h1 := dcode_shl (x := 1) (e := 1) (k := 1) (by decide) (by decide) (by decide)
  have h2 := dval_made (show dval 1 1 = true by decide)
  exact ⟨h1.2.1.trans h2.2.1, h1.2.2.trans h2.2.2⟩


theorem dvalT_c {w : World} {vx : Value} {x e : Int} {bx : Bool} (hbx : bx = decide (x < 0)) (hx : Nl w vx (dig x.natAbs)) (hlx : (dig x.natAbs).length ≤ 30000) (hv : dval x e = true) : Calls Tryd.prog 115 #[.agg #[.bool bx, vx, .int .i64 e]] w (Ret w fun r _ => r = .bool true) :=
  (dval_c hbx hx hlx).mono fun _ w' ⟨r, he, hx', hr⟩ => ⟨r, he, hx', by rw [hr, hv]⟩


theorem rdvalT_c {w : World} {vx : Value} {x e : Int} {bx : Bool} (hbx : bx = decide (x < 0)) (hx : Nl w vx (dig x.natAbs)) (hlx : (dig x.natAbs).length ≤ 30000) (hv : dval x e = true) : Calls Tryd.prog 111 #[.agg #[.bool bx, vx, .int .i64 e]] w (Ret w fun r _ => r = .bool true) :=
  (rdval_c hbx hx hlx).mono fun _ w' ⟨r, he, hx', hr⟩ => ⟨r, he, hx', by rw [hr, hv]⟩

theorem of10_c {w : World} {a b : Int} (h1 : -9223372036854775808 ≤ a) (h2 : a ≤ 9223372036854775807) (h3 : -9223372036854775808 ≤ b) (h4 : b ≤ 9223372036854775807) :
    Calls Tryd.prog 93 #[.int .i64 a, .int .i64 b] w (Ret w fun r w' => ∃ q s, r = .agg #[.bool (decide ((dman a 0) < 0)), q, .int .i64 (dexp a 0), .bool (decide ((dman b 0) < 0)), s, .int .i64 (dexp b 0)] ∧ No w.heap.size 111 w' q (dig (dman a 0).natAbs) ∧ No w.heap.size 111 w' s (dig (dman b 0).natAbs)) := by
 refine enter (args := [_, _]) Tryd.func93 rfl Tryd.ntmps93 rfl ?_
 refine WP_seq ?_
 refine WP_region ?_
 refine O_alloc S53 rfl rfl (fun g1 w1 b1 e1 gl1 gh1 => ?_)
 have z1 := e1.size
 refine WL_end [(0, _), (1, _), (4, _)] ⟨rfl, rfl, rfl, trivial⟩ ?_
 refine WP_seq ?_
 refine WP_region ?_
 refine O_move rfl rfl rfl ?_
 refine O_call enters135 rfl rfl rfl (rdof_c (by (try simp only [lens]); omega) (by (try simp only [lens]); omega)) (fun v2 w2 e2 h2 => ?_)
 have z2 := e2.size
 try simp only [val_dig] at h2
 obtain ⟨q2, rfl, hq2⟩ := h2
 refine O_move rfl rfl rfl ?_
 refine O_call enters135 rfl rfl rfl (rdof_c (by (try simp only [lens]); omega) (by (try simp only [lens]); omega)) (fun v3 w3 e3 h3 => ?_)
 have z3 := e3.size
 try simp only [val_dig] at h3
 obtain ⟨q3, rfl, hq3⟩ := h3
 refine O_build (cs := [_, _, _, _, _, _]) B53 rfl rfl rfl (cells_cons rfl (cells_cons rfl cells_nil)) rfl ?_
 refine O_storeA (cs' := [_, _, _, _, _, _]) S53 rfl rfl rfl ((b1.ext e2).ext e3) rfl rfl (one_cons rfl (one_cons ((hq2.ext e3).nl).one (one_cons rfl (one_cons rfl (one_cons (hq3.nl).one (one_cons rfl one_nil)))))) rfl (fun w4 b4 q4 => ?_)
 have z4 := Nat.le_of_eq q4.size.symm
 have e4 : Ext w w4 := q4.ext ((e1.trans e2).trans e3) (by omega)
 refine WL_end [(4, _)] ⟨rfl, trivial⟩ ?_
 refine WP_ret ?_
 refine retL Tryd.results93 (.cell rfl S53 b4 rfl .nil) ?_
 exact ⟨_, rfl, e4, _, _, rfl, ((hq2.ext e3).chgBk ((b1.ext e2).ext e3) (by decide) q4).mono (by omega), (hq3.chgBk ((b1.ext e2).ext e3) (by decide) q4).mono (by omega)⟩

theorem ivcmp_c {w : World} {vx vy : Value} {x y e f : Int} {bx by_ : Bool} (hbx : bx = decide (x < 0)) (hx : Nl w vx (dig x.natAbs)) (hby : by_ = decide (y < 0)) (hy : Nl w vy (dig y.natAbs)) (hvx : dval x e = true) (hvy : dval y f = true) {vz vu : Value} {z u g h : Int} {bz bu : Bool} (hbz : bz = decide (z < 0)) (hz : Nl w vz (dig z.natAbs)) (hbu : bu = decide (u < 0)) (hu : Nl w vu (dig u.natAbs)) (hvz : dval z g = true) (hvu : dval u h = true) :
    Calls Tryd.prog 94 #[.agg #[.bool bx, vx, .int .i64 e, .bool by_, vy, .int .i64 f], .agg #[.bool bz, vz, .int .i64 g, .bool bu, vu, .int .i64 h]] w (Ret w fun r _ => r = .int .i64 (ivcmp x e y f z g u h)) := by
 subst hbx
 subst hby
 subst hbz
 subst hbu
 have hRx := dval_range hvx
 have hlx : (dig x.natAbs).length ≤ 2049 := dval_len hvx
 have hRy := dval_range hvy
 have hly : (dig y.natAbs).length ≤ 2049 := dval_len hvy
 have hRz := dval_range hvz
 have hlz : (dig z.natAbs).length ≤ 2049 := dval_len hvz
 have hRu := dval_range hvu
 have hlu : (dig u.natAbs).length ≤ 2049 := dval_len hvu
 refine enter (args := [_, _]) Tryd.func94 rfl Tryd.ntmps94 rfl ?_
 refine WP_seq ?_
 refine WP_region ?_
 refine O_box _ rfl rfl rfl rfl (fun g1 w1 b1 e1 gl1 gh1 => ?_)
 have z1 := e1.size
 refine O_box _ rfl rfl rfl rfl (fun g2 w2 b2 e2 gl2 gh2 => ?_)
 have z2 := e2.size
 refine O_assign rfl rfl rfl ?_
 refine WL_end [(2, _), (3, _)] ⟨rfl, rfl, trivial⟩ ?_
 refine WP_seq ?_
 refine WP_block ?_
 refine WP_seq ?_
 refine WP_region ?_
 refine O_field F53_1 rfl rfl rfl ?_
 refine O_loadA (vs := [_, _, _]) S26 rfl rfl rfl (b1.ext e2) rfl rfl ?_
 refine O_field F53_0 rfl rfl rfl ?_
 refine O_loadA (vs := [_, _, _]) S26 rfl rfl rfl b2 rfl rfl ?_
 refine O_call enters96 rfl rfl rfl (dcmp_c rfl (hy.ext (e1.trans e2)) rfl (hz.ext (e1.trans e2)) (by (try simp only [lens]); omega) (by (try simp only [lens]); omega) (by (try simp only [lens]); omega) (by (try simp only [lens]); omega) (by (try simp only [lens]); omega) (by (try simp only [lens]); omega)) (fun v3 w3 e3 h3 => ?_)
 have z3 := e3.size
 obtain rfl := h3
 refine O_lss rfl rfl rfl rfl rfl ?_
 refine O_assign rfl rfl rfl ?_
 refine WL_end [(2, _), (3, _), (5, _)] ⟨rfl, rfl, rfl, trivial⟩ ?_
 refine WP_condD rfl (fun c5 => ?_) (fun c5 => ?_)
 · --
  refine WP_seq ?_
  refine WP_region ?_
  refine O_assign rfl rfl rfl ?_
  refine WL_end [(4, _)] ⟨rfl, trivial⟩ ?_
  refine WP_ret ?_
  refine inBlk_ret ?_
  refine ret1 Tryd.results94 rfl ?_
  exact ⟨_, rfl, ((e1.trans e2).trans e3), by unfold ivcmp; rw [if_pos c5]⟩
 · --
  refine WP_seq ?_
  refine WP_region ?_
  refine O_field F53_0 rfl rfl rfl ?_
  refine O_loadA (vs := [_, _, _]) S26 rfl rfl rfl ((b1.ext e2).ext e3) rfl rfl ?_
  refine O_field F53_1 rfl rfl rfl ?_
  refine O_loadA (vs := [_, _, _]) S26 rfl rfl rfl (b2.ext e3) rfl rfl ?_
  refine O_call enters96 rfl rfl rfl (dcmp_c rfl (hx.ext ((e1.trans e2).trans e3)) rfl (hu.ext ((e1.trans e2).trans e3)) (by (try simp only [lens]); omega) (by (try simp only [lens]); omega) (by (try simp only [lens]); omega) (by (try simp only [lens]); omega) (by (try simp only [lens]); omega) (by (try simp only [lens]); omega)) (fun v4 w4 e4 h4 => ?_)
  have z4 := e4.size
  obtain rfl := h4
  refine O_gtr rfl rfl rfl rfl rfl ?_
  refine O_assign rfl rfl rfl ?_
  refine WL_end [(12, _)] ⟨rfl, trivial⟩ ?_
  refine WP_condD rfl (fun c12 => ?_) (fun c12 => ?_)
  · --
   refine WP_seq ?_
   refine WP_region ?_
   refine O_assign rfl rfl rfl ?_
   refine WL_end [(4, _)] ⟨rfl, trivial⟩ ?_
   refine WP_ret ?_
   refine inBlk_ret ?_
   refine ret1 Tryd.results94 rfl ?_
   exact ⟨_, rfl, (((e1.trans e2).trans e3).trans e4), by unfold ivcmp; rw [if_neg c5, if_pos c12]⟩
  · --
   refine WP_skip ?_
   refine WP_seq ?_
   refine WP_region ?_
   refine O_assign rfl rfl rfl ?_
   refine WL_end [(4, _)] ⟨rfl, trivial⟩ ?_
   refine WP_ret ?_
   refine ret1 Tryd.results94 rfl ?_
   exact ⟨_, rfl, (((e1.trans e2).trans e3).trans e4), by unfold ivcmp; rw [if_neg c5, if_neg c12]⟩

theorem ivsign_c {w : World} {vx vy : Value} {x y e f : Int} {bx by_ : Bool} (hbx : bx = decide (x < 0)) (hx : Nl w vx (dig x.natAbs)) (hby : by_ = decide (y < 0)) (hy : Nl w vy (dig y.natAbs)) (hvx : dval x e = true) (hvy : dval y f = true) :
    Calls Tryd.prog 92 #[.agg #[.bool bx, vx, .int .i64 e, .bool by_, vy, .int .i64 f]] w (Ret w fun r _ => r = .tuple #[.int .i64 (if x.sign = y.sign then x.sign else 0), .bool (decide (x.sign = y.sign))]) := by
 subst hbx
 subst hby
 have hRx := dval_range hvx
 have hlx : (dig x.natAbs).length ≤ 2049 := dval_len hvx
 have hRy := dval_range hvy
 have hly : (dig y.natAbs).length ≤ 2049 := dval_len hvy
 refine enter (args := [_]) Tryd.func92 rfl Tryd.ntmps92 rfl ?_
 refine WP_seq ?_
 refine WP_region ?_
 refine O_box _ rfl rfl rfl rfl (fun g1 w1 b1 e1 gl1 gh1 => ?_)
 have z1 := e1.size
 refine O_assign rfl rfl rfl ?_
 refine O_assign rfl rfl rfl ?_
 refine WL_end [(1, _)] ⟨rfl, trivial⟩ ?_
 refine WP_seq ?_
 refine WP_sub [(1, _)] ⟨rfl, trivial⟩ ?_
 refine WP_anyR 5 [1] mixed rfl (by kernel_rfl) ?_
 apply AnyR_val [1] rfl (by kernel_rfl)
 · --
  intro y2 hy2
  have zy2 := hy2.size
  refine AllV_nil ?_
  refine O_field F53_0 rfl rfl rfl ?_
  exact WL_nil ⟨(Ext.refl _), rfl⟩
 apply AnyR_val [6] rfl (by kernel_rfl)
 · --
  intro y3 hy3
  have zy3 := hy3.size
  refine AllV_v ?_
  refine AllV_nil ?_
  refine O_loadA (vs := [_, _, _]) S26 rfl rfl rfl (b1.ext hy3) rfl rfl ?_
  exact WL_nil ⟨(Ext.refl _), rfl⟩
 apply AnyR_val [7] rfl (by kernel_rfl)
 · --
  intro y4 hy4
  have zy4 := hy4.size
  refine AllV_v ?_
  refine AllV_nil ?_
  refine O_call enters73 rfl rfl rfl (dsign_c rfl (hx.ext (e1.trans hy4)) (by (try simp only [lens]); omega)) (fun v5 w5 e5 h5 => ?_)
  have z5 := e5.size
  obtain rfl := h5
  exact WL_nil ⟨e5, rfl⟩
 apply AnyR_val [1] rfl (by kernel_rfl)
 · --
  intro y6 hy6
  have zy6 := hy6.size
  refine AllV_nil ?_
  refine O_field F53_1 rfl rfl rfl ?_
  exact WL_nil ⟨(Ext.refl _), rfl⟩
 apply AnyR_val [9] rfl (by kernel_rfl)
 · --
  intro y7 hy7
  have zy7 := hy7.size
  refine AllV_v ?_
  refine AllV_nil ?_
  refine O_loadA (vs := [_, _, _]) S26 rfl rfl rfl (b1.ext hy7) rfl rfl ?_
  exact WL_nil ⟨(Ext.refl _), rfl⟩
 refine AnyR_nil fun y8 hy8 => ?_
 have zy8 := hy8.size
 refine AllV_v ?_
 refine AllV_v ?_
 refine AllV_v ?_
 refine AllV_v ?_
 refine AllV_v ?_
 refine AllV_nil ?_
 refine O_call enters73 rfl rfl rfl (dsign_c rfl (hy.ext (e1.trans hy8)) (by (try simp only [lens]); omega)) (fun v9 w9 e9 h9 => ?_)
 have z9 := e9.size
 obtain rfl := h9
 refine O_assign rfl rfl rfl ?_
 refine O_assign rfl rfl rfl ?_
 refine WL_end [(4, _), (5, _)] ⟨rfl, rfl, trivial⟩ ?_
 refine WP_seq ?_
 refine WP_seq ?_
 refine WP_region ?_
 refine O_move rfl rfl rfl ?_
 refine O_move rfl rfl rfl ?_
 refine O_neq rfl rfl rfl rfl rfl ?_
 refine WL_end [(4, _), (14, _)] ⟨rfl, rfl, trivial⟩ ?_
 refine WP_condN rfl (fun c14 => ?_) (fun c14 => ?_)
 · --
  refine WP_seq ?_
  refine WP_region ?_
  refine O_assign rfl rfl rfl ?_
  refine O_assign rfl rfl rfl ?_
  refine WL_end [(2, _), (3, _)] ⟨rfl, rfl, trivial⟩ ?_
  refine WP_ret ?_
  refine ret2 Tryd.results92 rfl rfl ?_
  exact ⟨_, rfl, ((e1.trans hy8).trans e9), by rw [if_neg (by omega), decide_eq_false (by omega)]⟩
 · --
  refine WP_skip ?_
  refine WP_seq ?_
  refine WP_region ?_
  refine O_move rfl rfl rfl ?_
  refine O_assign rfl rfl rfl ?_
  refine O_assign rfl rfl rfl ?_
  refine WL_end [(2, _), (3, _)] ⟨rfl, rfl, trivial⟩ ?_
  refine WP_ret ?_
  refine ret2 Tryd.results92 rfl rfl ?_
  exact ⟨_, rfl, ((e1.trans hy8).trans e9), by rw [if_pos (by omega), decide_eq_true (by omega)]⟩


theorem ivsign_T {w : World} {vx vy : Value} {x y e f : Int} {bx by_ : Bool} (hbx : bx = decide (x < 0)) (hx : Nl w vx (dig x.natAbs)) (hby : by_ = decide (y < 0)) (hy : Nl w vy (dig y.natAbs)) (hvx : dval x e = true) (hvy : dval y f = true) (hs : x.sign = y.sign) : Calls Tryd.prog 92 #[.agg #[.bool bx, vx, .int .i64 e, .bool by_, vy, .int .i64 f]] w (Ret w fun r _ => r = .tuple #[.int .i64 x.sign, .bool true]) :=
  (ivsign_c hbx hx hby hy hvx hvy).mono fun _ w' ⟨r, he, hx', hr⟩ => ⟨r, he, hx', by rw [hr, if_pos hs, decide_eq_true hs]⟩
theorem ivsign_F {w : World} {vx vy : Value} {x y e f : Int} {bx by_ : Bool} (hbx : bx = decide (x < 0)) (hx : Nl w vx (dig x.natAbs)) (hby : by_ = decide (y < 0)) (hy : Nl w vy (dig y.natAbs)) (hvx : dval x e = true) (hvy : dval y f = true) (hs : ¬ x.sign = y.sign) : Calls Tryd.prog 92 #[.agg #[.bool bx, vx, .int .i64 e, .bool by_, vy, .int .i64 f]] w (Ret w fun r _ => r = .tuple #[.int .i64 0, .bool false]) :=
  (ivsign_c hbx hx hby hy hvx hvy).mono fun _ w' ⟨r, he, hx', hr⟩ => ⟨r, he, hx', by rw [hr, if_neg hs, decide_eq_false hs]⟩

theorem ivval_c {w : World} {vx vy : Value} {x y e f : Int} {bx by_ : Bool} (hbx : bx = decide (x < 0)) (hx : Nl w vx (dig x.natAbs)) (hby : by_ = decide (y < 0)) (hy : Nl w vy (dig y.natAbs)) (hvx : dval x e = true) (hvy : dval y f = true) :
    Calls Tryd.prog 95 #[.agg #[.bool bx, vx, .int .i64 e, .bool by_, vy, .int .i64 f]] w (Ret w fun r _ => r = .bool (decide (dcmp x e y f ≤ 0))) := by
 subst hbx
 subst hby
 have hRx := dval_range hvx
 have hlx : (dig x.natAbs).length ≤ 2049 := dval_len hvx
 have hRy := dval_range hvy
 have hly : (dig y.natAbs).length ≤ 2049 := dval_len hvy
 refine enter (args := [_]) Tryd.func95 rfl Tryd.ntmps95 rfl ?_
 refine WP_seq ?_
 refine WP_region ?_
 refine O_box _ rfl rfl rfl rfl (fun g1 w1 b1 e1 gl1 gh1 => ?_)
 have z1 := e1.size
 refine O_assign rfl rfl rfl ?_
 refine WL_end [(1, _)] ⟨rfl, trivial⟩ ?_
 refine WP_seq ?_
 refine WP_region ?_
 refine O_field F53_0 rfl rfl rfl ?_
 refine O_loadA (vs := [_, _, _]) S26 rfl rfl rfl b1 rfl rfl ?_
 refine O_call enters115 rfl rfl rfl (dvalT_c rfl (hx.ext e1) (by (try simp only [lens]); omega) (by first | with_reducible assumption | exact dval_dman _ _ | exact dval_zero)) (fun v2 w2 e2 h2 => ?_)
 have z2 := e2.size
 obtain rfl := h2
 refine O_move rfl rfl rfl ?_
 refine O_field F53_1 rfl rfl rfl ?_
 refine O_loadA (vs := [_, _, _]) S26 rfl rfl rfl (b1.ext e2) rfl rfl ?_
 refine O_call enters115 rfl rfl rfl (dvalT_c rfl (hy.ext (e1.trans e2)) (by (try simp only [lens]); omega) (by first | with_reducible assumption | exact dval_dman _ _ | exact dval_zero)) (fun v3 w3 e3 h3 => ?_)
 have z3 := e3.size
 obtain rfl := h3
 refine O_pickT rfl rfl rfl rfl ?_
 refine O_move rfl rfl rfl ?_
 refine O_field F53_0 rfl rfl rfl ?_
 refine O_loadA (vs := [_, _, _]) S26 rfl rfl rfl ((b1.ext e2).ext e3) rfl rfl ?_
 refine O_field F53_1 rfl rfl rfl ?_
 refine O_loadA (vs := [_, _, _]) S26 rfl rfl rfl ((b1.ext e2).ext e3) rfl rfl ?_
 refine O_call enters96 rfl rfl rfl (dcmp_c rfl (hx.ext ((e1.trans e2).trans e3)) rfl (hy.ext ((e1.trans e2).trans e3)) (by (try simp only [lens]); omega) (by (try simp only [lens]); omega) (by (try simp only [lens]); omega) (by (try simp only [lens]); omega) (by (try simp only [lens]); omega) (by (try simp only [lens]); omega)) (fun v4 w4 e4 h4 => ?_)
 have z4 := e4.size
 obtain rfl := h4
 refine O_leq rfl rfl rfl rfl rfl ?_
 refine O_pickT rfl rfl rfl rfl ?_
 refine O_assign rfl rfl rfl ?_
 refine WL_end [(2, _)] ⟨rfl, trivial⟩ ?_
 refine WP_ret ?_
 refine ret1 Tryd.results95 rfl ?_
 exact ⟨_, rfl, (((e1.trans e2).trans e3).trans e4), rfl⟩


theorem ivval_T {w : World} {vx vy : Value} {x y e f : Int} {bx by_ : Bool} (hbx : bx = decide (x < 0)) (hx : Nl w vx (dig x.natAbs)) (hby : by_ = decide (y < 0)) (hy : Nl w vy (dig y.natAbs)) (hvx : dval x e = true) (hvy : dval y f = true) (hs : dcmp x e y f ≤ 0) : Calls Tryd.prog 95 #[.agg #[.bool bx, vx, .int .i64 e, .bool by_, vy, .int .i64 f]] w (Ret w fun r _ => r = .bool true) :=
  (ivval_c hbx hx hby hy hvx hvy).mono fun _ w' ⟨r, he, hx', hr⟩ => ⟨r, he, hx', by rw [hr, decide_eq_true hs]⟩
theorem ivval_F {w : World} {vx vy : Value} {x y e f : Int} {bx by_ : Bool} (hbx : bx = decide (x < 0)) (hx : Nl w vx (dig x.natAbs)) (hby : by_ = decide (y < 0)) (hy : Nl w vy (dig y.natAbs)) (hvx : dval x e = true) (hvy : dval y f = true) (hs : ¬ dcmp x e y f ≤ 0) : Calls Tryd.prog 95 #[.agg #[.bool bx, vx, .int .i64 e, .bool by_, vy, .int .i64 f]] w (Ret w fun r _ => r = .bool false) :=
  (ivval_c hbx hx hby hy hvx hvy).mono fun _ w' ⟨r, he, hx', hr⟩ => ⟨r, he, hx', by rw [hr, decide_eq_false hs]⟩

theorem awake10_c {w : World} :
    Calls Tryd.prog 37 #[] w (Ret w fun r _ => r = .bool true) := by
 have d1 : dval 1 0 = true := by decide
 have d2 : dval 1 1 = true := by decide
 have d3 : dval 3 0 = true := by decide
 refine enter (args := []) Tryd.func37 rfl Tryd.ntmps37 rfl ?_
 refine WP_seq ?_
 refine WP_region ?_
 refine O_assign rfl rfl rfl ?_
 refine WL_end [] trivial ?_
 refine WP_seq ?_
 refine WP_region ?_
 refine O_call enters93 rfl rfl rfl (of10_c (by (try simp only [lens]); omega) (by (try simp only [lens]); omega) (by (try simp only [lens]); omega) (by (try simp only [lens]); omega)) (fun v1 w1 e1 h1 => ?_)
 have z1 := e1.size
 try simp only [val_dig] at h1
 obtain ⟨mq1, ms1, rfl, hmq1, hms1⟩ := h1
 simp only [made0, made1, made2, made3] at hmq1 hms1 ⊢
 refine O_call enters92 rfl rfl rfl (ivsign_T rfl hmq1.nl rfl hms1.nl (by first | with_reducible assumption | exact dval_dman _ _ | exact dval_zero) (by first | with_reducible assumption | exact dval_dman _ _ | exact dval_zero) (by decide)) (fun v2 w2 e2 h2 => ?_)
 have z2 := e2.size
 try simp only [val_dig] at h2
 obtain rfl := h2
 refine O_move rfl rfl rfl ?_
 refine O_extract rfl rfl rfl rfl ?_
 refine O_extract rfl rfl rfl rfl ?_
 refine O_assign rfl rfl rfl ?_
 refine O_assign rfl rfl rfl ?_
 refine WL_end [(1, _), (2, _)] ⟨rfl, rfl, trivial⟩ ?_
 refine WP_seq ?_
 refine WP_region ?_
 refine O_call enters93 rfl rfl rfl (of10_c (by (try simp only [lens]); omega) (by (try simp only [lens]); omega) (by (try simp only [lens]); omega) (by (try simp only [lens]); omega)) (fun v3 w3 e3 h3 => ?_)
 have z3 := e3.size
 try simp only [val_dig] at h3
 obtain ⟨mq3, ms3, rfl, hmq3, hms3⟩ := h3
 simp only [made0, made1, made2, made3] at hmq3 hms3 ⊢
 refine O_call enters92 rfl rfl rfl (ivsign_F rfl hmq3.nl rfl hms3.nl (by first | with_reducible assumption | exact dval_dman _ _ | exact dval_zero) (by first | with_reducible assumption | exact dval_dman _ _ | exact dval_zero) (by decide)) (fun v4 w4 e4 h4 => ?_)
 have z4 := e4.size
 try simp only [val_dig] at h4
 obtain rfl := h4
 refine O_move rfl rfl rfl ?_
 refine O_extract rfl rfl rfl rfl ?_
 refine O_extract rfl rfl rfl rfl ?_
 refine O_assign rfl rfl rfl ?_
 refine O_assign rfl rfl rfl ?_
 refine WL_end [(1, _), (2, _), (3, _), (4, _)] ⟨rfl, rfl, rfl, rfl, trivial⟩ ?_
 refine WP_seq ?_
 refine WP_region ?_
 refine O_move rfl rfl rfl ?_
 refine O_eql (t := true) rfl rfl rfl rfl (decide_eq_true (by decide)) ?_
 refine O_move rfl rfl rfl ?_
 refine O_move rfl rfl rfl ?_
 refine O_pickT rfl rfl rfl rfl ?_
 refine O_move rfl rfl rfl ?_
 refine O_move rfl rfl rfl ?_
 refine O_eql (t := true) rfl rfl rfl rfl (decide_eq_true (by decide)) ?_
 refine O_pickT rfl rfl rfl rfl ?_
 refine O_move rfl rfl rfl ?_
 refine O_move rfl rfl rfl ?_
 refine O_not rfl rfl rfl rfl ?_
 refine O_pickT rfl rfl rfl rfl ?_
 refine O_move rfl rfl rfl ?_
 refine O_call enters93 rfl rfl rfl (of10_c (by (try simp only [lens]); omega) (by (try simp only [lens]); omega) (by (try simp only [lens]); omega) (by (try simp only [lens]); omega)) (fun v5 w5 e5 h5 => ?_)
 have z5 := e5.size
 try simp only [val_dig] at h5
 obtain ⟨mq5, ms5, rfl, hmq5, hms5⟩ := h5
 simp only [made0, made1, made2, made3] at hmq5 hms5 ⊢
 refine O_call enters93 rfl rfl rfl (of10_c (by (try simp only [lens]); omega) (by (try simp only [lens]); omega) (by (try simp only [lens]); omega) (by (try simp only [lens]); omega)) (fun v6 w6 e6 h6 => ?_)
 have z6 := e6.size
 try simp only [val_dig] at h6
 obtain ⟨mq6, ms6, rfl, hmq6, hms6⟩ := h6
 simp only [made0, made1, made2, made3] at hmq6 hms6 ⊢
 refine O_call enters94 rfl rfl rfl (ivcmp_c rfl (hmq5.ext e6).nl rfl (hms5.ext e6).nl (by first | with_reducible assumption | exact dval_dman _ _ | exact dval_zero) (by first | with_reducible assumption | exact dval_dman _ _ | exact dval_zero) rfl hmq6.nl rfl hms6.nl (by first | with_reducible assumption | exact dval_dman _ _ | exact dval_zero) (by first | with_reducible assumption | exact dval_dman _ _ | exact dval_zero)) (fun v7 w7 e7 h7 => ?_)
 have z7 := e7.size
 obtain rfl := h7
 refine O_eql (t := true) rfl rfl rfl rfl (decide_eq_true (by decide)) ?_
 refine O_pickT rfl rfl rfl rfl ?_
 refine O_move rfl rfl rfl ?_
 refine O_call enters93 rfl rfl rfl (of10_c (by (try simp only [lens]); omega) (by (try simp only [lens]); omega) (by (try simp only [lens]); omega) (by (try simp only [lens]); omega)) (fun v8 w8 e8 h8 => ?_)
 have z8 := e8.size
 try simp only [val_dig] at h8
 obtain ⟨mq8, ms8, rfl, hmq8, hms8⟩ := h8
 simp only [made0, made1, made2, made3] at hmq8 hms8 ⊢
 refine O_call enters93 rfl rfl rfl (of10_c (by (try simp only [lens]); omega) (by (try simp only [lens]); omega) (by (try simp only [lens]); omega) (by (try simp only [lens]); omega)) (fun v9 w9 e9 h9 => ?_)
 have z9 := e9.size
 try simp only [val_dig] at h9
 obtain ⟨mq9, ms9, rfl, hmq9, hms9⟩ := h9
 simp only [made0, made1, made2, made3] at hmq9 hms9 ⊢
 refine O_call enters94 rfl rfl rfl (ivcmp_c rfl (hmq8.ext e9).nl rfl (hms8.ext e9).nl (by first | with_reducible assumption | exact dval_dman _ _ | exact dval_zero) (by first | with_reducible assumption | exact dval_dman _ _ | exact dval_zero) rfl hmq9.nl rfl hms9.nl (by first | with_reducible assumption | exact dval_dman _ _ | exact dval_zero) (by first | with_reducible assumption | exact dval_dman _ _ | exact dval_zero)) (fun v10 w10 e10 h10 => ?_)
 have z10 := e10.size
 obtain rfl := h10
 refine O_eql (t := true) rfl rfl rfl rfl (decide_eq_true (by decide)) ?_
 refine O_pickT rfl rfl rfl rfl ?_
 refine O_move rfl rfl rfl ?_
 refine O_call enters93 rfl rfl rfl (of10_c (by (try simp only [lens]); omega) (by (try simp only [lens]); omega) (by (try simp only [lens]); omega) (by (try simp only [lens]); omega)) (fun v11 w11 e11 h11 => ?_)
 have z11 := e11.size
 try simp only [val_dig] at h11
 obtain ⟨mq11, ms11, rfl, hmq11, hms11⟩ := h11
 simp only [made0, made1, made2, made3] at hmq11 hms11 ⊢
 refine O_call enters95 rfl rfl rfl (ivval_T rfl hmq11.nl rfl hms11.nl (by first | with_reducible assumption | exact dval_dman _ _ | exact dval_zero) (by first | with_reducible assumption | exact dval_dman _ _ | exact dval_zero) (by decide)) (fun v12 w12 e12 h12 => ?_)
 have z12 := e12.size
 obtain rfl := h12
 refine O_pickT rfl rfl rfl rfl ?_
 refine O_move rfl rfl rfl ?_
 refine O_call enters93 rfl rfl rfl (of10_c (by (try simp only [lens]); omega) (by (try simp only [lens]); omega) (by (try simp only [lens]); omega) (by (try simp only [lens]); omega)) (fun v13 w13 e13 h13 => ?_)
 have z13 := e13.size
 try simp only [val_dig] at h13
 obtain ⟨mq13, ms13, rfl, hmq13, hms13⟩ := h13
 simp only [made0, made1, made2, made3] at hmq13 hms13 ⊢
 refine O_call enters95 rfl rfl rfl (ivval_F rfl hmq13.nl rfl hms13.nl (by first | with_reducible assumption | exact dval_dman _ _ | exact dval_zero) (by first | with_reducible assumption | exact dval_dman _ _ | exact dval_zero) (by decide)) (fun v14 w14 e14 h14 => ?_)
 have z14 := e14.size
 obtain rfl := h14
 refine O_not rfl rfl rfl rfl ?_
 refine O_pickT rfl rfl rfl rfl ?_
 refine O_assign rfl rfl rfl ?_
 refine WL_end [(0, _)] ⟨rfl, trivial⟩ ?_
 refine WP_ret ?_
 refine ret1 Tryd.results37 rfl ?_
 exact ⟨_, rfl, (((((((((((((e1.trans e2).trans e3).trans e4).trans e5).trans e6).trans e7).trans e8).trans e9).trans e10).trans e11).trans e12).trans e13).trans e14), rfl⟩

end Go.Proofs.YthbfhljpfkicpaaDoor
