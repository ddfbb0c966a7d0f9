/-
  Walks.
-/
import Derived.Test.YthbfhljpfkicpaaDoorS2
set_option linter.unusedVariables false
set_option linter.unusedSimpArgs false
set_option maxRecDepth 100000
namespace Go.Proofs.YthbfhljpfkicpaaDoor
open Go Go.RowKit
/-- Quotient, rounded down, and remainder. -/
def dsg (x y : Int) : Bool := !(decide (x < 0) == decide (y < 0))
def idq (x y : Int) : Int := if y = 0 then 0 else if dsg x y = true ∧ x.natAbs % y.natAbs ≠ 0 then mk (dsg x y) (x.natAbs / y.natAbs + 1) else mk (dsg x y) (x.natAbs / y.natAbs)
def idr (x y : Int) : Int := if y = 0 then 0 else if dsg x y = true ∧ x.natAbs % y.natAbs ≠ 0 then mk (decide (y < 0)) (y.natAbs - x.natAbs % y.natAbs) else mk (decide (y < 0)) (x.natAbs % y.natAbs)

theorem rishr_true {w : World} {vx : Value} {x : Int} {k : Nat} (hx : Nl w vx (dig x.natAbs)) (hlx : (dig x.natAbs).length ≤ 1000000) (hk : k ≤ 1048576) (hx0 : x < 0) :
    Calls Tryd.prog 68 #[.agg #[.bool true, vx], .int .i64 (k : Nat)] w (Ret w fun r w' => ∃ q, r = .agg #[.bool (decide ((x / 2 ^ k) < 0)), q] ∧ No w.heap.size 111 w' q (dig (x / 2 ^ k).natAbs)) := by
 have hLa := dig_len_mono (Nat.div_le_self x.natAbs (2 ^ k))
 have hLb := dig_len_add (x.natAbs / 2 ^ k) 1
 have hL0 : (dig 1).length ≤ 1 := dig_len_of_lt (by decide)
 have hLc := dig_len_mono (Nat.div_mul_le_self x.natAbs (2 ^ k))
 refine enter (args := [_, _]) Tryd.func68 rfl Tryd.ntmps68 rfl ?_
 refine WP_seq ?_
 refine WP_region ?_
 refine O_box _ rfl rfl rfl rfl (fun g1 w1 b1 e1 gl1 gh1 => ?_)
 have z1 := e1.size
 refine O_alloc S24 rfl rfl (fun g2 w2 b2 e2 gl2 gh2 => ?_)
 have z2 := e2.size
 refine WL_end [(1, _), (2, _), (4, _)] ⟨rfl, rfl, rfl, trivial⟩ ?_
 refine WP_seq ?_
 refine WP_region ?_
 refine O_field F24_1 rfl rfl rfl ?_
 refine O_loadC Tryd.underlying22 rfl rfl rfl rfl (b1.ext e2) rfl ?_
 refine O_move rfl rfl rfl ?_
 refine O_call enters110 rfl rfl rfl (rshr_c (hx.ext (e1.trans e2)) (by (try simp only [lens]); omega) (by (try simp only [lens]); omega)) (fun v3 w3 e3 h3 => ?_)
 have z3 := e3.size
 try simp only [val_dig] at h3
 refine O_assign rfl rfl rfl ?_
 refine WL_end [(1, _), (2, _), (4, _), (5, _)] ⟨rfl, rfl, rfl, rfl, trivial⟩ ?_
 refine WP_seq ?_
 refine WP_seq ?_
 refine WP_sub [(1, _), (2, _), (4, _), (5, _)] ⟨rfl, rfl, rfl, rfl, trivial⟩ ?_
 refine WP_anyR 8 [1, 2, 4, 5] mixed rfl (by kernel_rfl) ?_
 apply AnyR_val [2] rfl (by kernel_rfl)
 · --
  intro y4 hy4
  have zy4 := hy4.size
  refine AllV_nil ?_
  refine O_field F24_0 rfl rfl rfl ?_
  exact WL_nil ⟨(Ext.refl _), rfl⟩
 apply AnyR_val [10] rfl (by kernel_rfl)
 · --
  intro y5 hy5
  have zy5 := hy5.size
  refine AllV_v ?_
  refine AllV_nil ?_
  refine O_loadC Tryd.underlying4 rfl rfl rfl rfl (((b1.ext e2).ext e3).ext hy5) rfl ?_
  exact WL_nil ⟨(Ext.refl _), rfl⟩
 apply AnyR_val [11] rfl (by kernel_rfl)
 · --
  intro y6 hy6
  have zy6 := hy6.size
  refine AllV_v ?_
  refine AllV_nil ?_
  refine O_move rfl rfl rfl ?_
  exact WL_nil ⟨(Ext.refl _), rfl⟩
 apply AnyR_val [12, 5] rfl (by kernel_rfl)
 · --
  intro y7 hy7
  have zy7 := hy7.size
  refine AllV_v ?_
  refine AllV_nil ?_
  refine O_move rfl rfl rfl ?_
  exact WL_nil ⟨(Ext.refl _), rfl⟩
 apply AnyR_val [12, 1] rfl (by kernel_rfl)
 · --
  intro y8 hy8
  have zy8 := hy8.size
  refine AllV_v ?_
  refine AllV_nil ?_
  refine O_move rfl rfl rfl ?_
  exact WL_nil ⟨(Ext.refl _), rfl⟩
 apply AnyR_no [12, 13, 14] rfl (by kernel_rfl)
 · --
  intro y9 hy9
  have zy9 := hy9.size
  refine AllV_v ?_
  refine AllV_v ?_
  refine AllV_v ?_
  refine AllV_nil ?_
  refine O_call enters123 rfl rfl rfl (rshl_c (h3.ext hy9).nl (by (try simp only [lens]); omega) (by (try simp only [lens]); omega)) (fun v10 w10 e10 h10 => ?_)
  have z10 := e10.size
  try simp only [val_dig] at h10
  exact WL_nil ⟨e10, _, rfl, NoR.mk' h10⟩
 apply AnyR_val [12, 2] rfl (by kernel_rfl)
 · --
  intro y11 hy11
  have zy11 := hy11.size
  refine AllV_v ?_
  refine AllV_nil ?_
  refine O_field F24_1 rfl rfl rfl ?_
  exact WL_nil ⟨(Ext.refl _), rfl⟩
 apply AnyR_val [12, 16] rfl (by kernel_rfl)
 · --
  intro y12 hy12
  have zy12 := hy12.size
  refine AllV_v ?_
  refine AllV_v ?_
  refine AllV_nil ?_
  refine O_loadC Tryd.underlying22 rfl rfl rfl rfl (((b1.ext e2).ext e3).ext hy12) rfl ?_
  exact WL_nil ⟨(Ext.refl _), rfl⟩
 refine AnyR_nil fun y13 hy13 => ?_
 have zy13 := hy13.size
 refine AllV_v ?_
 refine AllV_v ?_
 refine AllV_v ?_
 refine AllV_v ?_
 refine AllV_v ?_
 refine AllV_r fun a14 b14 v14 la14 lb14 lc14 h14 ap14 => ?_
 clear ap14
 refine AllV_v ?_
 refine AllV_v ?_
 refine AllV_nil ?_
 refine O_call enters122 rfl rfl rfl (rcmp_c h14.1.nl (hx.ext (((e1.trans e2).trans e3).trans hy13)) (by (try simp only [lens]); omega) (by (try simp only [lens]); omega)) (fun v15 w15 e15 h15 => ?_)
 have z15 := e15.size
 obtain rfl := h15
 simp only [val_dig]
 refine O_neq rfl rfl rfl rfl rfl ?_
 refine O_pickT rfl rfl rfl rfl ?_
 refine WL_end [(2, _), (4, _), (5, _), (20, _)] ⟨rfl, rfl, rfl, rfl, trivial⟩ ?_
 refine WP_condN rfl (fun c20 => ?_) (fun c20 => ?_)
 · --
  refine WP_region ?_
  refine O_move rfl rfl rfl ?_
  refine O_call enters75 rfl rfl rfl (rof_c 1 (by decide)) (fun v16 w16 e16 h16 => ?_)
  have z16 := e16.size
  try simp only [val_dig] at h16
  refine O_call enters124 rfl rfl rfl (radd_c (((h3.ext hy13).ext e15).ext e16).nl h16.nl (by (try simp only [lens]); omega) (by (try simp only [lens]); omega)) (fun v17 w17 e17 h17 => ?_)
  have z17 := e17.size
  try simp only [val_dig] at h17
  refine O_assign rfl rfl rfl ?_
  refine WL_end [(2, _), (4, _), (5, _)] ⟨rfl, rfl, rfl, trivial⟩ ?_
  refine WP_seq ?_
  refine WP_region ?_
  refine O_field F24_0 rfl rfl rfl ?_
  refine O_loadC Tryd.underlying4 rfl rfl rfl rfl ((((((b1.ext e2).ext e3).ext hy13).ext e15).ext e16).ext e17) rfl ?_
  refine O_move rfl rfl rfl ?_
  refine O_call enters85 rfl rfl rfl (rinat_c h17.nl (by (try simp only [lens]); omega)) (fun v18 w18 e18 h18 => ?_)
  have z18 := e18.size
  try simp only [val_dig] at h18
  obtain ⟨q18, rfl, hq18⟩ := h18
  refine O_storeA (cs' := [_, _]) S24 rfl rfl rfl ((((((b2.ext e3).ext hy13).ext e15).ext e16).ext e17).ext e18) rfl rfl (one_cons rfl (one_cons (hq18.nl).one one_nil)) rfl (fun w19 b19 q19 => ?_)
  have z19 := Nat.le_of_eq q19.size.symm
  have e19 : Ext w w19 := q19.ext (((((((e1.trans e2).trans e3).trans hy13).trans e15).trans e16).trans e17).trans e18) (by omega)
  refine WL_end [(4, _)] ⟨rfl, trivial⟩ ?_
  refine WP_ret ?_
  refine retL Tryd.results68 (.cell rfl S24 b19 rfl .nil) ?_
  have hz : mk true (x.natAbs / 2 ^ k + 1) = x / 2 ^ k := by have h9 := shr_neg1 k hx0 (fun e => c20 (cmpv_zero.2 (by have := sub_low x.natAbs k; have := Nat.div_mul_le_self x.natAbs (2 ^ k); omega))); rwa [decide_eq_true hx0] at h9
  rw [← hz]
  exact ⟨_, rfl, e19, _, rfl, (hq18.chgBk ((((((b2.ext e3).ext hy13).ext e15).ext e16).ext e17).ext e18) (by decide) q19).mono (by omega)⟩
 · --
  refine WP_skip ?_
  refine WP_seq ?_
  refine WP_region ?_
  refine O_field F24_0 rfl rfl rfl ?_
  refine O_loadC Tryd.underlying4 rfl rfl rfl rfl ((((b1.ext e2).ext e3).ext hy13).ext e15) rfl ?_
  refine O_move rfl rfl rfl ?_
  refine O_call enters85 rfl rfl rfl (rinat_c ((h3.ext hy13).ext e15).nl (by (try simp only [lens]); omega)) (fun v20 w20 e20 h20 => ?_)
  have z20 := e20.size
  try simp only [val_dig] at h20
  obtain ⟨q20, rfl, hq20⟩ := h20
  refine O_storeA (cs' := [_, _]) S24 rfl rfl rfl ((((b2.ext e3).ext hy13).ext e15).ext e20) rfl rfl (one_cons rfl (one_cons (hq20.nl).one one_nil)) rfl (fun w21 b21 q21 => ?_)
  have z21 := Nat.le_of_eq q21.size.symm
  have e21 : Ext w w21 := q21.ext (((((e1.trans e2).trans e3).trans hy13).trans e15).trans e20) (by omega)
  refine WL_end [(4, _)] ⟨rfl, trivial⟩ ?_
  refine WP_ret ?_
  refine retL Tryd.results68 (.cell rfl S24 b21 rfl .nil) ?_
  have hz : mk true (x.natAbs / 2 ^ k) = x / 2 ^ k := by have h9 := shr_neg0 k hx0 (by have := sub_low x.natAbs k; have := cmpv_zero.1 c20; omega); rwa [decide_eq_true hx0] at h9
  rw [← hz]
  exact ⟨_, rfl, e21, _, rfl, (hq20.chgBk ((((b2.ext e3).ext hy13).ext e15).ext e20) (by decide) q21).mono (by omega)⟩

theorem rishr_false {w : World} {vx : Value} {x : Int} {k : Nat} (hx : Nl w vx (dig x.natAbs)) (hlx : (dig x.natAbs).length ≤ 1000000) (hk : k ≤ 1048576) (hx0 : ¬ x < 0) :
    Calls Tryd.prog 68 #[.agg #[.bool false, vx], .int .i64 (k : Nat)] w (Ret w fun r w' => ∃ q, r = .agg #[.bool (decide ((x / 2 ^ k) < 0)), q] ∧ No w.heap.size 111 w' q (dig (x / 2 ^ k).natAbs)) := by
 have hLa := dig_len_mono (Nat.div_le_self x.natAbs (2 ^ k))
 have hLb := dig_len_add (x.natAbs / 2 ^ k) 1
 have hL0 : (dig 1).length ≤ 1 := dig_len_of_lt (by decide)
 have hLc := dig_len_mono (Nat.div_mul_le_self x.natAbs (2 ^ k))
 refine enter (args := [_, _]) Tryd.func68 rfl Tryd.ntmps68 rfl ?_
 refine WP_seq ?_
 refine WP_region ?_
 refine O_box _ rfl rfl rfl rfl (fun g1 w1 b1 e1 gl1 gh1 => ?_)
 have z1 := e1.size
 refine O_alloc S24 rfl rfl (fun g2 w2 b2 e2 gl2 gh2 => ?_)
 have z2 := e2.size
 refine WL_end [(1, _), (2, _), (4, _)] ⟨rfl, rfl, rfl, trivial⟩ ?_
 refine WP_seq ?_
 refine WP_region ?_
 refine O_field F24_1 rfl rfl rfl ?_
 refine O_loadC Tryd.underlying22 rfl rfl rfl rfl (b1.ext e2) rfl ?_
 refine O_move rfl rfl rfl ?_
 refine O_call enters110 rfl rfl rfl (rshr_c (hx.ext (e1.trans e2)) (by (try simp only [lens]); omega) (by (try simp only [lens]); omega)) (fun v3 w3 e3 h3 => ?_)
 have z3 := e3.size
 try simp only [val_dig] at h3
 refine O_assign rfl rfl rfl ?_
 refine WL_end [(1, _), (2, _), (4, _), (5, _)] ⟨rfl, rfl, rfl, rfl, trivial⟩ ?_
 refine WP_seq ?_
 refine WP_seq ?_
 refine WP_sub [(1, _), (2, _), (4, _), (5, _)] ⟨rfl, rfl, rfl, rfl, trivial⟩ ?_
 refine WP_anyR 8 [1, 2, 4, 5] mixed rfl (by kernel_rfl) ?_
 apply AnyR_val [2] rfl (by kernel_rfl)
 · --
  intro y4 hy4
  have zy4 := hy4.size
  refine AllV_nil ?_
  refine O_field F24_0 rfl rfl rfl ?_
  exact WL_nil ⟨(Ext.refl _), rfl⟩
 apply AnyR_val [10] rfl (by kernel_rfl)
 · --
  intro y5 hy5
  have zy5 := hy5.size
  refine AllV_v ?_
  refine AllV_nil ?_
  refine O_loadC Tryd.underlying4 rfl rfl rfl rfl (((b1.ext e2).ext e3).ext hy5) rfl ?_
  exact WL_nil ⟨(Ext.refl _), rfl⟩
 apply AnyR_val [11] rfl (by kernel_rfl)
 · --
  intro y6 hy6
  have zy6 := hy6.size
  refine AllV_v ?_
  refine AllV_nil ?_
  refine O_move rfl rfl rfl ?_
  exact WL_nil ⟨(Ext.refl _), rfl⟩
 apply AnyR_val [12, 5] rfl (by kernel_rfl)
 · --
  intro y7 hy7
  have zy7 := hy7.size
  refine AllV_v ?_
  refine AllV_nil ?_
  refine O_skip rfl rfl ?_
  exact WL_nil ⟨(Ext.refl _), rfl⟩
 apply AnyR_val [12, 1] rfl (by kernel_rfl)
 · --
  intro y8 hy8
  have zy8 := hy8.size
  refine AllV_v ?_
  refine AllV_nil ?_
  refine O_skip rfl rfl ?_
  exact WL_nil ⟨(Ext.refl _), rfl⟩
 apply AnyR_val [12, 13, 14] rfl (by kernel_rfl)
 · --
  intro y9 hy9
  have zy9 := hy9.size
  refine AllV_v ?_
  refine AllV_v ?_
  refine AllV_v ?_
  refine AllV_nil ?_
  refine O_skip rfl rfl ?_
  exact WL_nil ⟨(Ext.refl _), rfl⟩
 apply AnyR_val [12, 2] rfl (by kernel_rfl)
 · --
  intro y10 hy10
  have zy10 := hy10.size
  refine AllV_v ?_
  refine AllV_nil ?_
  refine O_skip rfl rfl ?_
  exact WL_nil ⟨(Ext.refl _), rfl⟩
 apply AnyR_val [12, 16] rfl (by kernel_rfl)
 · --
  intro y11 hy11
  have zy11 := hy11.size
  refine AllV_v ?_
  refine AllV_v ?_
  refine AllV_nil ?_
  refine O_skip rfl rfl ?_
  exact WL_nil ⟨(Ext.refl _), rfl⟩
 refine AnyR_nil fun y12 hy12 => ?_
 have zy12 := hy12.size
 refine AllV_v ?_
 refine AllV_v ?_
 refine AllV_v ?_
 refine AllV_v ?_
 refine AllV_v ?_
 refine AllV_v ?_
 refine AllV_v ?_
 refine AllV_v ?_
 refine AllV_nil ?_
 refine O_skip rfl rfl ?_
 refine O_skip rfl rfl ?_
 refine O_pickF rfl rfl rfl rfl ?_
 refine WL_end [(2, _), (4, _), (5, _), (20, _)] ⟨rfl, rfl, rfl, rfl, trivial⟩ ?_
 refine WP_condF rfl ?_
 refine WP_skip ?_
 refine WP_seq ?_
 refine WP_region ?_
 refine O_field F24_0 rfl rfl rfl ?_
 refine O_loadC Tryd.underlying4 rfl rfl rfl rfl (((b1.ext e2).ext e3).ext hy12) rfl ?_
 refine O_move rfl rfl rfl ?_
 refine O_call enters85 rfl rfl rfl (rinat_c (h3.ext hy12).nl (by (try simp only [lens]); omega)) (fun v13 w13 e13 h13 => ?_)
 have z13 := e13.size
 try simp only [val_dig] at h13
 obtain ⟨q13, rfl, hq13⟩ := h13
 refine O_storeA (cs' := [_, _]) S24 rfl rfl rfl (((b2.ext e3).ext hy12).ext e13) rfl rfl (one_cons rfl (one_cons (hq13.nl).one one_nil)) rfl (fun w14 b14 q14 => ?_)
 have z14 := Nat.le_of_eq q14.size.symm
 have e14 : Ext w w14 := q14.ext ((((e1.trans e2).trans e3).trans hy12).trans e13) (by omega)
 refine WL_end [(4, _)] ⟨rfl, trivial⟩ ?_
 refine WP_ret ?_
 refine retL Tryd.results68 (.cell rfl S24 b14 rfl .nil) ?_
 have hz : mk false (x.natAbs / 2 ^ k) = x / 2 ^ k := by have h9 := shr_pos k hx0; rwa [decide_eq_false hx0] at h9
 rw [← hz]
 exact ⟨_, rfl, e14, _, rfl, (hq13.chgBk (((b2.ext e3).ext hy12).ext e13) (by decide) q14).mono (by omega)⟩

theorem rishr_c {w : World} {vx : Value} {x : Int} {bx : Bool} {k : Nat} (hbx : bx = decide (x < 0)) (hx : Nl w vx (dig x.natAbs)) (hlx : (dig x.natAbs).length ≤ 1000000) (hk : k ≤ 1048576) : Calls Tryd.prog 68 #[.agg #[.bool bx, vx], .int .i64 (k : Nat)] w (Ret w fun r w' => ∃ q, r = .agg #[.bool (decide ((x / 2 ^ k) < 0)), q] ∧ No w.heap.size 111 w' q (dig (x / 2 ^ k).natAbs)) := by
  subst hbx
  by_cases h : x < 0
  · rw [decide_eq_true h]; exact rishr_true hx hlx hk h
  · rw [decide_eq_false h]; exact rishr_false hx hlx hk h

theorem idivmod_z {w : World} {vx vy : Value} {x y : Int} {bx by_ : Bool} (hbx : bx = decide (x < 0)) (hx : Nl w vx (dig x.natAbs)) (hby : by_ = decide (y < 0)) (hy : Nl w vy (dig y.natAbs)) (hlx : (dig x.natAbs).length ≤ 1000000) (hly : (dig y.natAbs).length ≤ 1000000) (h0 : y = 0) :
    Calls Tryd.prog 90 #[.agg #[.bool bx, vx], .agg #[.bool by_, vy]] w (Ret w fun r w' => ∃ q s, r = .tuple #[.agg #[.bool (decide (idq x y < 0)), q], .agg #[.bool (decide (idr x y < 0)), s], .bool (decide (y ≠ 0))] ∧ No w.heap.size 111 w' q (dig (idq x y).natAbs) ∧ No w.heap.size 111 w' s (dig (idr x y).natAbs)) := by
 subst hbx
 subst hby
 refine enter (args := [_, _]) Tryd.func90 rfl Tryd.ntmps90 rfl ?_
 refine WP_seq ?_
 refine WP_region ?_
 refine O_box _ rfl rfl rfl rfl (fun g1 w1 b1 e1 gl1 gh1 => ?_)
 have z1 := e1.size
 refine O_box _ rfl rfl rfl rfl (fun g2 w2 b2 e2 gl2 gh2 => ?_)
 have z2 := e2.size
 refine O_alloc S24 rfl rfl (fun g3 w3 b3 e3 gl3 gh3 => ?_)
 have z3 := e3.size
 refine O_alloc S24 rfl rfl (fun g4 w4 b4 e4 gl4 gh4 => ?_)
 have z4 := e4.size
 refine O_assign rfl rfl rfl ?_
 refine WL_end [(2, _), (3, _), (4, _), (5, _)] ⟨rfl, rfl, rfl, rfl, trivial⟩ ?_
 refine WP_seq ?_
 refine WP_region ?_
 refine O_field F24_1 rfl rfl rfl ?_
 refine O_loadC Tryd.underlying22 rfl rfl rfl rfl (((b1.ext e2).ext e3).ext e4) rfl ?_
 refine O_field F24_1 rfl rfl rfl ?_
 refine O_loadC Tryd.underlying22 rfl rfl rfl rfl ((b2.ext e3).ext e4) rfl ?_
 refine O_call enters134 rfl rfl rfl (divmod_z (hx.ext (((e1.trans e2).trans e3).trans e4)) (hy.ext (((e1.trans e2).trans e3).trans e4)) (by (try simp only [lens]); omega) (by (try simp only [lens]); omega) (by rw [val_dig, h0]; rfl)) (fun v5 w5 e5 h5 => ?_)
 have z5 := e5.size
 try simp only [val_dig] at h5
 obtain ⟨q5, r5, rfl, hq5, hr5⟩ := h5
 refine O_move rfl rfl rfl ?_
 refine O_extract rfl rfl rfl rfl ?_
 refine O_extract rfl rfl rfl rfl ?_
 refine O_extract rfl rfl rfl rfl ?_
 refine O_assign rfl rfl rfl ?_
 refine O_assign rfl rfl rfl ?_
 refine O_assign rfl rfl rfl ?_
 refine WL_end [(2, _), (3, _), (4, _), (5, _), (7, _), (8, _), (9, _)] ⟨rfl, rfl, rfl, rfl, rfl, rfl, rfl, trivial⟩ ?_
 refine WP_seq ?_
 refine WP_seq ?_
 refine WP_region ?_
 refine O_move rfl rfl rfl ?_
 refine O_not rfl rfl rfl rfl ?_
 refine WL_end [(2, _), (3, _), (4, _), (5, _), (7, _), (8, _), (20, _)] ⟨rfl, rfl, rfl, rfl, rfl, rfl, rfl, trivial⟩ ?_
 refine WP_condT rfl ?_
 refine WP_seq ?_
 refine WP_region ?_
 refine O_build (cs := [_, _]) B24 rfl rfl rfl cells_nil rfl ?_
 refine O_build (cs := [_, _]) B24 rfl rfl rfl cells_nil rfl ?_
 refine O_storeA (cs' := [_, _]) S24 rfl rfl rfl ((b3.ext e4).ext e5) rfl rfl (one_cons rfl (one_cons rfl one_nil)) rfl (fun w6 b6 q6 => ?_)
 have z6 := Nat.le_of_eq q6.size.symm
 have e6 : Ext w w6 := q6.ext ((((e1.trans e2).trans e3).trans e4).trans e5) (by omega)
 refine O_storeA (cs' := [_, _]) S24 rfl rfl rfl ((b4.ext e5).chg q6 (by first | assumption | omega)) rfl rfl (one_cons rfl (one_cons rfl one_nil)) rfl (fun w7 b7 q7 => ?_)
 have z7 := Nat.le_of_eq q7.size.symm
 have e7 : Ext w w7 := q7.ext e6 (by omega)
 refine O_assign rfl rfl rfl ?_
 refine WL_end [(4, _), (5, _), (6, _)] ⟨rfl, rfl, rfl, trivial⟩ ?_
 refine WP_ret ?_
 refine retL Tryd.results90 (.cell rfl S24 (b6.chg q7 (by first | assumption | omega)) rfl (.cell rfl S24 b7 rfl (.tmp rfl .nil))) ?_
 have e1 : idq x y = 0 := if_pos h0
 have e2 : idr x y = 0 := if_pos h0
 rw [e1, e2, decide_eq_false (by omega : ¬ y ≠ 0)]
 exact ⟨_, rfl, e7, _, _, rfl, by rw [show dig (0 : Int).natAbs = [] from dig_zero]; exact No.nil _ _ _, by rw [show dig (0 : Int).natAbs = [] from dig_zero]; exact No.nil _ _ _⟩

set_option maxHeartbeats 2000000 in
theorem idivmod_t {w : World} {vx vy : Value} {x y : Int} {bx by_ : Bool} (hbx : bx = decide (x < 0)) (hx : Nl w vx (dig x.natAbs)) (hby : by_ = decide (y < 0)) (hy : Nl w vy (dig y.natAbs)) (hlx : (dig x.natAbs).length ≤ 1000000) (hly : (dig y.natAbs).length ≤ 1000000) (h0 : y ≠ 0) :
    Calls Tryd.prog 90 #[.agg #[.bool bx, vx], .agg #[.bool by_, vy]] w (Ret w fun r w' => ∃ q s, r = .tuple #[.agg #[.bool (decide (idq x y < 0)), q], .agg #[.bool (decide (idr x y < 0)), s], .bool (decide (y ≠ 0))] ∧ No w.heap.size 111 w' q (dig (idq x y).natAbs) ∧ No w.heap.size 111 w' s (dig (idr x y).natAbs)) := by
 subst hbx
 subst hby
 have hm := Nat.mod_lt x.natAbs (show 0 < y.natAbs by omega)
 have hLq := dig_len_mono (Nat.div_le_self x.natAbs y.natAbs)
 have hLr := dig_len_mono (Nat.le_of_lt hm)
 have hLs := dig_len_mono (Nat.sub_le y.natAbs (x.natAbs % y.natAbs))
 have hLt := dig_len_add (x.natAbs / y.natAbs) 1
 have hL0 : (dig 1).length ≤ 1 := dig_len_of_lt (by decide)
 refine enter (args := [_, _]) Tryd.func90 rfl Tryd.ntmps90 rfl ?_
 refine WP_seq ?_
 refine WP_region ?_
 refine O_box _ rfl rfl rfl rfl (fun g1 w1 b1 e1 gl1 gh1 => ?_)
 have z1 := e1.size
 refine O_box _ rfl rfl rfl rfl (fun g2 w2 b2 e2 gl2 gh2 => ?_)
 have z2 := e2.size
 refine O_alloc S24 rfl rfl (fun g3 w3 b3 e3 gl3 gh3 => ?_)
 have z3 := e3.size
 refine O_alloc S24 rfl rfl (fun g4 w4 b4 e4 gl4 gh4 => ?_)
 have z4 := e4.size
 refine O_assign rfl rfl rfl ?_
 refine WL_end [(2, _), (3, _), (4, _), (5, _)] ⟨rfl, rfl, rfl, rfl, trivial⟩ ?_
 refine WP_seq ?_
 refine WP_region ?_
 refine O_field F24_1 rfl rfl rfl ?_
 refine O_loadC Tryd.underlying22 rfl rfl rfl rfl (((b1.ext e2).ext e3).ext e4) rfl ?_
 refine O_field F24_1 rfl rfl rfl ?_
 refine O_loadC Tryd.underlying22 rfl rfl rfl rfl ((b2.ext e3).ext e4) rfl ?_
 refine O_call enters134 rfl rfl rfl (divmod_t (hx.ext (((e1.trans e2).trans e3).trans e4)) (hy.ext (((e1.trans e2).trans e3).trans e4)) (by (try simp only [lens]); omega) (by (try simp only [lens]); omega) (by rw [val_dig]; omega)) (fun v5 w5 e5 h5 => ?_)
 have z5 := e5.size
 try simp only [val_dig] at h5
 obtain ⟨q5, r5, rfl, hq5, hr5⟩ := h5
 refine O_move rfl rfl rfl ?_
 refine O_extract rfl rfl rfl rfl ?_
 refine O_extract rfl rfl rfl rfl ?_
 refine O_extract rfl rfl rfl rfl ?_
 refine O_assign rfl rfl rfl ?_
 refine O_assign rfl rfl rfl ?_
 refine O_assign rfl rfl rfl ?_
 refine WL_end [(2, _), (3, _), (4, _), (5, _), (7, _), (8, _), (9, _)] ⟨rfl, rfl, rfl, rfl, rfl, rfl, rfl, trivial⟩ ?_
 refine WP_seq ?_
 refine WP_seq ?_
 refine WP_region ?_
 refine O_move rfl rfl rfl ?_
 refine O_not rfl rfl rfl rfl ?_
 refine WL_end [(2, _), (3, _), (4, _), (5, _), (7, _), (8, _), (20, _)] ⟨rfl, rfl, rfl, rfl, rfl, rfl, rfl, trivial⟩ ?_
 refine WP_condF rfl ?_
 refine WP_skip ?_
 refine WP_seq ?_
 refine WP_seq ?_
 refine WP_region ?_
 refine O_field F24_0 rfl rfl rfl ?_
 refine O_loadC Tryd.underlying4 rfl rfl rfl rfl ((((b1.ext e2).ext e3).ext e4).ext e5) rfl ?_
 refine O_field F24_0 rfl rfl rfl ?_
 refine O_loadC Tryd.underlying4 rfl rfl rfl rfl (((b2.ext e3).ext e4).ext e5) rfl ?_
 refine O_bneq Tryd.underlying4 rfl rfl rfl rfl rfl ?_
 refine O_move rfl rfl rfl ?_
 refine WL_bool 28 rfl (fun g28 => ?_) (fun g28 => ?_)
 · --
  refine O_move rfl rfl rfl ?_
  refine N_len T22 rfl rfl rfl hr5.nl ?_
  refine O_gtr rfl rfl rfl rfl rfl ?_
  refine O_pickT rfl rfl rfl rfl ?_
  refine WL_end [(2, _), (3, _), (4, _), (5, _), (7, _), (8, _), (32, _)] ⟨rfl, rfl, rfl, rfl, rfl, rfl, rfl, trivial⟩ ?_
  refine WP_condD rfl (fun c32 => ?_) (fun c32 => ?_)
  · --
   refine WP_seq ?_
   refine WP_region ?_
   refine O_move rfl rfl rfl ?_
   refine O_call enters118 rfl rfl rfl (of_c 1 (by decide)) (fun v6 w6 e6 h6 => ?_)
   have z6 := e6.size
   try simp only [val_dig] at h6
   refine O_call enters116 rfl rfl rfl (add_c (hq5.ext e6).nl h6.nl (by (try simp only [lens]); omega) (by (try simp only [lens]); omega)) (fun v7 w7 e7 h7 => ?_)
   have z7 := e7.size
   try simp only [val_dig] at h7
   refine O_assign rfl rfl rfl ?_
   refine WL_end [(2, _), (3, _), (4, _), (5, _), (7, _), (8, _)] ⟨rfl, rfl, rfl, rfl, rfl, rfl, trivial⟩ ?_
   refine WP_region ?_
   refine O_field F24_1 rfl rfl rfl ?_
   refine O_loadC Tryd.underlying22 rfl rfl rfl rfl (((((b2.ext e3).ext e4).ext e5).ext e6).ext e7) rfl ?_
   refine O_move rfl rfl rfl ?_
   refine O_call enters117 rfl rfl rfl (sub_c (hy.ext ((((((e1.trans e2).trans e3).trans e4).trans e5).trans e6).trans e7)) ((hr5.ext e6).ext e7).nl (by (try simp only [lens]); omega)) (fun v8 w8 e8 h8 => ?_)
   have z8 := e8.size
   try simp only [val_dig] at h8
   obtain ⟨q8, rfl, hq8⟩ := h8
   refine O_move rfl rfl rfl ?_
   refine O_extract rfl rfl rfl rfl ?_
   refine O_extract rfl rfl rfl rfl ?_
   refine O_assign rfl rfl rfl ?_
   refine WL_end [(2, _), (3, _), (4, _), (5, _), (7, _), (8, _)] ⟨rfl, rfl, rfl, rfl, rfl, rfl, trivial⟩ ?_
   refine WP_seq ?_
   refine WP_sub [(2, _), (3, _), (4, _), (5, _), (7, _), (8, _)] ⟨rfl, rfl, rfl, rfl, rfl, rfl, trivial⟩ ?_
   refine WP_anyR 10 [2, 3, 4, 5, 7, 8] mixed rfl (by kernel_rfl) ?_
   apply AnyR_val [2] rfl (by kernel_rfl)
   · --
    intro y9 hy9
    have zy9 := hy9.size
    refine AllV_nil ?_
    refine O_field F24_0 rfl rfl rfl ?_
    exact WL_nil ⟨(Ext.refl _), rfl⟩
   apply AnyR_val [43] rfl (by kernel_rfl)
   · --
    intro y10 hy10
    have zy10 := hy10.size
    refine AllV_v ?_
    refine AllV_nil ?_
    refine O_loadC Tryd.underlying4 rfl rfl rfl rfl ((((((((b1.ext e2).ext e3).ext e4).ext e5).ext e6).ext e7).ext e8).ext hy10) rfl ?_
    exact WL_nil ⟨(Ext.refl _), rfl⟩
   apply AnyR_val [3] rfl (by kernel_rfl)
   · --
    intro y11 hy11
    have zy11 := hy11.size
    refine AllV_nil ?_
    refine O_field F24_0 rfl rfl rfl ?_
    exact WL_nil ⟨(Ext.refl _), rfl⟩
   apply AnyR_val [45] rfl (by kernel_rfl)
   · --
    intro y12 hy12
    have zy12 := hy12.size
    refine AllV_v ?_
    refine AllV_nil ?_
    refine O_loadC Tryd.underlying4 rfl rfl rfl rfl (((((((b2.ext e3).ext e4).ext e5).ext e6).ext e7).ext e8).ext hy12) rfl ?_
    exact WL_nil ⟨(Ext.refl _), rfl⟩
   apply AnyR_val [44, 46] rfl (by kernel_rfl)
   · --
    intro y13 hy13
    have zy13 := hy13.size
    refine AllV_v ?_
    refine AllV_v ?_
    refine AllV_nil ?_
    refine O_bneq Tryd.underlying4 rfl rfl rfl rfl rfl ?_
    exact WL_nil ⟨(Ext.refl _), rfl⟩
   apply AnyR_val [7] rfl (by kernel_rfl)
   · --
    intro y14 hy14
    have zy14 := hy14.size
    refine AllV_nil ?_
    refine O_move rfl rfl rfl ?_
    exact WL_nil ⟨(Ext.refl _), rfl⟩
   apply AnyR_rel (RelP (pAgg [pEq _, pNo w8.heap.size 111 _])) [47, 48] rfl (RelP.mono (pAgg_mono (PsM.cons pEq_mono (PsM.cons pNo_mono PsM.nil)))) (by kernel_rfl)
   · --
    intro y15 hy15
    have zy15 := hy15.size
    refine AllV_v ?_
    refine AllV_v ?_
    refine AllV_nil ?_
    refine O_call enters87 rfl rfl rfl (inat_c ((h7.ext e8).ext hy15).nl (by (try simp only [lens]); omega)) (fun v16 w16 e16 h16 => ?_)
    have z16 := e16.size
    try simp only [val_dig] at h16
    obtain ⟨q16, rfl, hq16⟩ := h16
    exact WL_nil ⟨e16, _, rfl, ⟨_, rfl, (AllP.cons rfl (AllP.cons (hq16.mono (by omega)) AllP.nil))⟩⟩
   apply AnyR_val [3] rfl (by kernel_rfl)
   · --
    intro y17 hy17
    have zy17 := hy17.size
    refine AllV_nil ?_
    refine O_field F24_0 rfl rfl rfl ?_
    exact WL_nil ⟨(Ext.refl _), rfl⟩
   apply AnyR_val [50] rfl (by kernel_rfl)
   · --
    intro y18 hy18
    have zy18 := hy18.size
    refine AllV_v ?_
    refine AllV_nil ?_
    refine O_loadC Tryd.underlying4 rfl rfl rfl rfl (((((((b2.ext e3).ext e4).ext e5).ext e6).ext e7).ext e8).ext hy18) rfl ?_
    exact WL_nil ⟨(Ext.refl _), rfl⟩
   apply AnyR_val [8] rfl (by kernel_rfl)
   · --
    intro y19 hy19
    have zy19 := hy19.size
    refine AllV_nil ?_
    refine O_move rfl rfl rfl ?_
    exact WL_nil ⟨(Ext.refl _), rfl⟩
   refine AnyR_nil fun y20 hy20 => ?_
   have zy20 := hy20.size
   refine AllV_v ?_
   refine AllV_v ?_
   refine AllV_v ?_
   refine AllV_v ?_
   refine AllV_v ?_
   refine AllV_v ?_
   refine AllV_r fun a21 b21 v21 la21 lb21 lc21 h21 ap21 => ?_
   clear ap21
   obtain ⟨_, rfl, v21_0, _, rfl, rfl, v21_1, _, rfl, h21_1, rfl⟩ := h21
   refine AllV_v ?_
   refine AllV_v ?_
   refine AllV_v ?_
   refine AllV_nil ?_
   refine O_call enters87 rfl rfl rfl (inat_c (hq8.ext hy20).nl (by (try simp only [lens]); omega)) (fun v22 w22 e22 h22 => ?_)
   have z22 := e22.size
   try simp only [val_dig] at h22
   obtain ⟨q22, rfl, hq22⟩ := h22
   refine O_storeA (cs' := [_, _]) S24 rfl rfl rfl (((((((b3.ext e4).ext e5).ext e6).ext e7).ext e8).ext hy20).ext e22) rfl rfl (one_cons rfl (one_cons ((h21_1.ext e22).nl).one one_nil)) rfl (fun w23 b23 q23 => ?_)
   have z23 := Nat.le_of_eq q23.size.symm
   have e23 : Ext w w23 := q23.ext (((((((((e1.trans e2).trans e3).trans e4).trans e5).trans e6).trans e7).trans e8).trans hy20).trans e22) (by omega)
   refine O_storeA (cs' := [_, _]) S24 rfl rfl rfl (((((((b4.ext e5).ext e6).ext e7).ext e8).ext hy20).ext e22).chg q23 (by first | assumption | omega)) rfl rfl (one_cons rfl (one_cons ((hq22.chgBk (((((((b3.ext e4).ext e5).ext e6).ext e7).ext e8).ext hy20).ext e22) (by decide) q23).nl).one one_nil)) rfl (fun w24 b24 q24 => ?_)
   have z24 := Nat.le_of_eq q24.size.symm
   have e24 : Ext w w24 := q24.ext e23 (by omega)
   refine O_assign rfl rfl rfl ?_
   refine WL_end [(4, _), (5, _), (6, _)] ⟨rfl, rfl, rfl, trivial⟩ ?_
   refine WP_ret ?_
   refine retL Tryd.results90 (.cell rfl S24 (b23.chg q24 (by first | assumption | omega)) rfl (.cell rfl S24 b24 rfl (.tmp rfl .nil))) ?_
   have hr0 : x.natAbs % y.natAbs ≠ 0 := fun e => by rw [e, dig_zero] at c32; simp at c32
   have e1 : mk (dsg x y) (x.natAbs / y.natAbs + 1) = idq x y := by unfold idq; rw [if_neg h0, if_pos ⟨g28, hr0⟩]
   have e2 : mk (decide (y < 0)) (y.natAbs - x.natAbs % y.natAbs) = idr x y := by unfold idr; rw [if_neg h0, if_pos ⟨g28, hr0⟩]
   rw [decide_eq_true h0]
   rw [← e1, ← e2]
   exact ⟨_, rfl, e24, _, _, rfl, (((h21_1.ext e22).chgBk (((((((b3.ext e4).ext e5).ext e6).ext e7).ext e8).ext hy20).ext e22) (by decide) q23).chgBk (((((((b4.ext e5).ext e6).ext e7).ext e8).ext hy20).ext e22).chg q23 (by first | assumption | omega)) (by decide) q24).mono (by omega), ((hq22.chgBk (((((((b3.ext e4).ext e5).ext e6).ext e7).ext e8).ext hy20).ext e22) (by decide) q23).chgBk (((((((b4.ext e5).ext e6).ext e7).ext e8).ext hy20).ext e22).chg q23 (by first | assumption | omega)) (by decide) q24).mono (by omega)⟩
  · --
   refine WP_skip ?_
   refine WP_seq ?_
   refine WP_sub [(2, _), (3, _), (4, _), (5, _), (7, _), (8, _)] ⟨rfl, rfl, rfl, rfl, rfl, rfl, trivial⟩ ?_
   refine WP_anyR 10 [2, 3, 4, 5, 7, 8] mixed rfl (by kernel_rfl) ?_
   apply AnyR_val [2] rfl (by kernel_rfl)
   · --
    intro y25 hy25
    have zy25 := hy25.size
    refine AllV_nil ?_
    refine O_field F24_0 rfl rfl rfl ?_
    exact WL_nil ⟨(Ext.refl _), rfl⟩
   apply AnyR_val [43] rfl (by kernel_rfl)
   · --
    intro y26 hy26
    have zy26 := hy26.size
    refine AllV_v ?_
    refine AllV_nil ?_
    refine O_loadC Tryd.underlying4 rfl rfl rfl rfl (((((b1.ext e2).ext e3).ext e4).ext e5).ext hy26) rfl ?_
    exact WL_nil ⟨(Ext.refl _), rfl⟩
   apply AnyR_val [3] rfl (by kernel_rfl)
   · --
    intro y27 hy27
    have zy27 := hy27.size
    refine AllV_nil ?_
    refine O_field F24_0 rfl rfl rfl ?_
    exact WL_nil ⟨(Ext.refl _), rfl⟩
   apply AnyR_val [45] rfl (by kernel_rfl)
   · --
    intro y28 hy28
    have zy28 := hy28.size
    refine AllV_v ?_
    refine AllV_nil ?_
    refine O_loadC Tryd.underlying4 rfl rfl rfl rfl ((((b2.ext e3).ext e4).ext e5).ext hy28) rfl ?_
    exact WL_nil ⟨(Ext.refl _), rfl⟩
   apply AnyR_val [44, 46] rfl (by kernel_rfl)
   · --
    intro y29 hy29
    have zy29 := hy29.size
    refine AllV_v ?_
    refine AllV_v ?_
    refine AllV_nil ?_
    refine O_bneq Tryd.underlying4 rfl rfl rfl rfl rfl ?_
    exact WL_nil ⟨(Ext.refl _), rfl⟩
   apply AnyR_val [7] rfl (by kernel_rfl)
   · --
    intro y30 hy30
    have zy30 := hy30.size
    refine AllV_nil ?_
    refine O_move rfl rfl rfl ?_
    exact WL_nil ⟨(Ext.refl _), rfl⟩
   apply AnyR_rel (RelP (pAgg [pEq _, pNo w5.heap.size 111 _])) [47, 48] rfl (RelP.mono (pAgg_mono (PsM.cons pEq_mono (PsM.cons pNo_mono PsM.nil)))) (by kernel_rfl)
   · --
    intro y31 hy31
    have zy31 := hy31.size
    refine AllV_v ?_
    refine AllV_v ?_
    refine AllV_nil ?_
    refine O_call enters87 rfl rfl rfl (inat_c (hq5.ext hy31).nl (by (try simp only [lens]); omega)) (fun v32 w32 e32 h32 => ?_)
    have z32 := e32.size
    try simp only [val_dig] at h32
    obtain ⟨q32, rfl, hq32⟩ := h32
    exact WL_nil ⟨e32, _, rfl, ⟨_, rfl, (AllP.cons rfl (AllP.cons (hq32.mono (by omega)) AllP.nil))⟩⟩
   apply AnyR_val [3] rfl (by kernel_rfl)
   · --
    intro y33 hy33
    have zy33 := hy33.size
    refine AllV_nil ?_
    refine O_field F24_0 rfl rfl rfl ?_
    exact WL_nil ⟨(Ext.refl _), rfl⟩
   apply AnyR_val [50] rfl (by kernel_rfl)
   · --
    intro y34 hy34
    have zy34 := hy34.size
    refine AllV_v ?_
    refine AllV_nil ?_
    refine O_loadC Tryd.underlying4 rfl rfl rfl rfl ((((b2.ext e3).ext e4).ext e5).ext hy34) rfl ?_
    exact WL_nil ⟨(Ext.refl _), rfl⟩
   apply AnyR_val [8] rfl (by kernel_rfl)
   · --
    intro y35 hy35
    have zy35 := hy35.size
    refine AllV_nil ?_
    refine O_move rfl rfl rfl ?_
    exact WL_nil ⟨(Ext.refl _), rfl⟩
   refine AnyR_nil fun y36 hy36 => ?_
   have zy36 := hy36.size
   refine AllV_v ?_
   refine AllV_v ?_
   refine AllV_v ?_
   refine AllV_v ?_
   refine AllV_v ?_
   refine AllV_v ?_
   refine AllV_r fun a37 b37 v37 la37 lb37 lc37 h37 ap37 => ?_
   clear ap37
   obtain ⟨_, rfl, v37_0, _, rfl, rfl, v37_1, _, rfl, h37_1, rfl⟩ := h37
   refine AllV_v ?_
   refine AllV_v ?_
   refine AllV_v ?_
   refine AllV_nil ?_
   refine O_call enters87 rfl rfl rfl (inat_c (hr5.ext hy36).nl (by (try simp only [lens]); omega)) (fun v38 w38 e38 h38 => ?_)
   have z38 := e38.size
   try simp only [val_dig] at h38
   obtain ⟨q38, rfl, hq38⟩ := h38
   refine O_storeA (cs' := [_, _]) S24 rfl rfl rfl ((((b3.ext e4).ext e5).ext hy36).ext e38) rfl rfl (one_cons rfl (one_cons ((h37_1.ext e38).nl).one one_nil)) rfl (fun w39 b39 q39 => ?_)
   have z39 := Nat.le_of_eq q39.size.symm
   have e39 : Ext w w39 := q39.ext ((((((e1.trans e2).trans e3).trans e4).trans e5).trans hy36).trans e38) (by omega)
   refine O_storeA (cs' := [_, _]) S24 rfl rfl rfl ((((b4.ext e5).ext hy36).ext e38).chg q39 (by first | assumption | omega)) rfl rfl (one_cons rfl (one_cons ((hq38.chgBk ((((b3.ext e4).ext e5).ext hy36).ext e38) (by decide) q39).nl).one one_nil)) rfl (fun w40 b40 q40 => ?_)
   have z40 := Nat.le_of_eq q40.size.symm
   have e40 : Ext w w40 := q40.ext e39 (by omega)
   refine O_assign rfl rfl rfl ?_
   refine WL_end [(4, _), (5, _), (6, _)] ⟨rfl, rfl, rfl, trivial⟩ ?_
   refine WP_ret ?_
   refine retL Tryd.results90 (.cell rfl S24 (b39.chg q40 (by first | assumption | omega)) rfl (.cell rfl S24 b40 rfl (.tmp rfl .nil))) ?_
   have hr0 : x.natAbs % y.natAbs = 0 := dig_len_zero.1 (by omega)
   have e1 : mk (dsg x y) (x.natAbs / y.natAbs) = idq x y := by unfold idq; rw [if_neg h0, if_neg (fun h => h.2 hr0)]
   have e2 : mk (decide (y < 0)) (x.natAbs % y.natAbs) = idr x y := by unfold idr; rw [if_neg h0, if_neg (fun h => h.2 hr0)]
   rw [decide_eq_true h0]
   rw [← e1, ← e2]
   exact ⟨_, rfl, e40, _, _, rfl, (((h37_1.ext e38).chgBk ((((b3.ext e4).ext e5).ext hy36).ext e38) (by decide) q39).chgBk ((((b4.ext e5).ext hy36).ext e38).chg q39 (by first | assumption | omega)) (by decide) q40).mono (by omega), ((hq38.chgBk ((((b3.ext e4).ext e5).ext hy36).ext e38) (by decide) q39).chgBk ((((b4.ext e5).ext hy36).ext e38).chg q39 (by first | assumption | omega)) (by decide) q40).mono (by omega)⟩
 · --
  refine O_skip rfl rfl ?_
  refine O_skip rfl rfl ?_
  refine O_skip rfl rfl ?_
  refine O_pickF rfl rfl rfl rfl ?_
  refine WL_end [(2, _), (3, _), (4, _), (5, _), (7, _), (8, _), (32, _)] ⟨rfl, rfl, rfl, rfl, rfl, rfl, rfl, trivial⟩ ?_
  refine WP_condF rfl ?_
  refine WP_skip ?_
  refine WP_seq ?_
  refine WP_sub [(2, _), (3, _), (4, _), (5, _), (7, _), (8, _)] ⟨rfl, rfl, rfl, rfl, rfl, rfl, trivial⟩ ?_
  refine WP_anyR 10 [2, 3, 4, 5, 7, 8] mixed rfl (by kernel_rfl) ?_
  apply AnyR_val [2] rfl (by kernel_rfl)
  · --
   intro y41 hy41
   have zy41 := hy41.size
   refine AllV_nil ?_
   refine O_field F24_0 rfl rfl rfl ?_
   exact WL_nil ⟨(Ext.refl _), rfl⟩
  apply AnyR_val [43] rfl (by kernel_rfl)
  · --
   intro y42 hy42
   have zy42 := hy42.size
   refine AllV_v ?_
   refine AllV_nil ?_
   refine O_loadC Tryd.underlying4 rfl rfl rfl rfl (((((b1.ext e2).ext e3).ext e4).ext e5).ext hy42) rfl ?_
   exact WL_nil ⟨(Ext.refl _), rfl⟩
  apply AnyR_val [3] rfl (by kernel_rfl)
  · --
   intro y43 hy43
   have zy43 := hy43.size
   refine AllV_nil ?_
   refine O_field F24_0 rfl rfl rfl ?_
   exact WL_nil ⟨(Ext.refl _), rfl⟩
  apply AnyR_val [45] rfl (by kernel_rfl)
  · --
   intro y44 hy44
   have zy44 := hy44.size
   refine AllV_v ?_
   refine AllV_nil ?_
   refine O_loadC Tryd.underlying4 rfl rfl rfl rfl ((((b2.ext e3).ext e4).ext e5).ext hy44) rfl ?_
   exact WL_nil ⟨(Ext.refl _), rfl⟩
  apply AnyR_val [44, 46] rfl (by kernel_rfl)
  · --
   intro y45 hy45
   have zy45 := hy45.size
   refine AllV_v ?_
   refine AllV_v ?_
   refine AllV_nil ?_
   refine O_bneq Tryd.underlying4 rfl rfl rfl rfl rfl ?_
   exact WL_nil ⟨(Ext.refl _), rfl⟩
  apply AnyR_val [7] rfl (by kernel_rfl)
  · --
   intro y46 hy46
   have zy46 := hy46.size
   refine AllV_nil ?_
   refine O_move rfl rfl rfl ?_
   exact WL_nil ⟨(Ext.refl _), rfl⟩
  apply AnyR_rel (RelP (pAgg [pEq _, pNo w5.heap.size 111 _])) [47, 48] rfl (RelP.mono (pAgg_mono (PsM.cons pEq_mono (PsM.cons pNo_mono PsM.nil)))) (by kernel_rfl)
  · --
   intro y47 hy47
   have zy47 := hy47.size
   refine AllV_v ?_
   refine AllV_v ?_
   refine AllV_nil ?_
   refine O_call enters87 rfl rfl rfl (inat_c (hq5.ext hy47).nl (by (try simp only [lens]); omega)) (fun v48 w48 e48 h48 => ?_)
   have z48 := e48.size
   try simp only [val_dig] at h48
   obtain ⟨q48, rfl, hq48⟩ := h48
   exact WL_nil ⟨e48, _, rfl, ⟨_, rfl, (AllP.cons rfl (AllP.cons (hq48.mono (by omega)) AllP.nil))⟩⟩
  apply AnyR_val [3] rfl (by kernel_rfl)
  · --
   intro y49 hy49
   have zy49 := hy49.size
   refine AllV_nil ?_
   refine O_field F24_0 rfl rfl rfl ?_
   exact WL_nil ⟨(Ext.refl _), rfl⟩
  apply AnyR_val [50] rfl (by kernel_rfl)
  · --
   intro y50 hy50
   have zy50 := hy50.size
   refine AllV_v ?_
   refine AllV_nil ?_
   refine O_loadC Tryd.underlying4 rfl rfl rfl rfl ((((b2.ext e3).ext e4).ext e5).ext hy50) rfl ?_
   exact WL_nil ⟨(Ext.refl _), rfl⟩
  apply AnyR_val [8] rfl (by kernel_rfl)
  · --
   intro y51 hy51
   have zy51 := hy51.size
   refine AllV_nil ?_
   refine O_move rfl rfl rfl ?_
   exact WL_nil ⟨(Ext.refl _), rfl⟩
  refine AnyR_nil fun y52 hy52 => ?_
  have zy52 := hy52.size
  refine AllV_v ?_
  refine AllV_v ?_
  refine AllV_v ?_
  refine AllV_v ?_
  refine AllV_v ?_
  refine AllV_v ?_
  refine AllV_r fun a53 b53 v53 la53 lb53 lc53 h53 ap53 => ?_
  clear ap53
  obtain ⟨_, rfl, v53_0, _, rfl, rfl, v53_1, _, rfl, h53_1, rfl⟩ := h53
  refine AllV_v ?_
  refine AllV_v ?_
  refine AllV_v ?_
  refine AllV_nil ?_
  refine O_call enters87 rfl rfl rfl (inat_c (hr5.ext hy52).nl (by (try simp only [lens]); omega)) (fun v54 w54 e54 h54 => ?_)
  have z54 := e54.size
  try simp only [val_dig] at h54
  obtain ⟨q54, rfl, hq54⟩ := h54
  refine O_storeA (cs' := [_, _]) S24 rfl rfl rfl ((((b3.ext e4).ext e5).ext hy52).ext e54) rfl rfl (one_cons rfl (one_cons ((h53_1.ext e54).nl).one one_nil)) rfl (fun w55 b55 q55 => ?_)
  have z55 := Nat.le_of_eq q55.size.symm
  have e55 : Ext w w55 := q55.ext ((((((e1.trans e2).trans e3).trans e4).trans e5).trans hy52).trans e54) (by omega)
  refine O_storeA (cs' := [_, _]) S24 rfl rfl rfl ((((b4.ext e5).ext hy52).ext e54).chg q55 (by first | assumption | omega)) rfl rfl (one_cons rfl (one_cons ((hq54.chgBk ((((b3.ext e4).ext e5).ext hy52).ext e54) (by decide) q55).nl).one one_nil)) rfl (fun w56 b56 q56 => ?_)
  have z56 := Nat.le_of_eq q56.size.symm
  have e56 : Ext w w56 := q56.ext e55 (by omega)
  refine O_assign rfl rfl rfl ?_
  refine WL_end [(4, _), (5, _), (6, _)] ⟨rfl, rfl, rfl, trivial⟩ ?_
  refine WP_ret ?_
  refine retL Tryd.results90 (.cell rfl S24 (b55.chg q56 (by first | assumption | omega)) rfl (.cell rfl S24 b56 rfl (.tmp rfl .nil))) ?_
  have hds : ¬ dsg x y = true := by show ¬ (!(decide (x < 0) == decide (y < 0))) = true; rw [g28]; decide
  have e1 : mk (dsg x y) (x.natAbs / y.natAbs) = idq x y := by unfold idq; rw [if_neg h0, if_neg (fun h => hds h.1)]
  have e2 : mk (decide (y < 0)) (x.natAbs % y.natAbs) = idr x y := by unfold idr; rw [if_neg h0, if_neg (fun h => hds h.1)]
  rw [decide_eq_true h0]
  rw [← e1, ← e2]
  exact ⟨_, rfl, e56, _, _, rfl, (((h53_1.ext e54).chgBk ((((b3.ext e4).ext e5).ext hy52).ext e54) (by decide) q55).chgBk ((((b4.ext e5).ext hy52).ext e54).chg q55 (by first | assumption | omega)) (by decide) q56).mono (by omega), ((hq54.chgBk ((((b3.ext e4).ext e5).ext hy52).ext e54) (by decide) q55).chgBk ((((b4.ext e5).ext hy52).ext e54).chg q55 (by first | assumption | omega)) (by decide) q56).mono (by omega)⟩

theorem idivmod_c {w : World} {vx vy : Value} {x y : Int} {bx by_ : Bool} (hbx : bx = decide (x < 0)) (hx : Nl w vx (dig x.natAbs)) (hby : by_ = decide (y < 0)) (hy : Nl w vy (dig y.natAbs)) (hlx : (dig x.natAbs).length ≤ 1000000) (hly : (dig y.natAbs).length ≤ 1000000) : Calls Tryd.prog 90 #[.agg #[.bool bx, vx], .agg #[.bool by_, vy]] w (Ret w fun r w' => ∃ q s, r = .tuple #[.agg #[.bool (decide (idq x y < 0)), q], .agg #[.bool (decide (idr x y < 0)), s], .bool (decide (y ≠ 0))] ∧ No w.heap.size 111 w' q (dig (idq x y).natAbs) ∧ No w.heap.size 111 w' s (dig (idr x y).natAbs)) := by
  by_cases h0 : y = 0
  · exact idivmod_z hbx hx hby hy hlx hly h0
  · exact idivmod_t hbx hx hby hy hlx hly h0
theorem idivmod_T {w : World} {vx vy : Value} {x y : Int} {bx by_ : Bool} (hbx : bx = decide (x < 0)) (hx : Nl w vx (dig x.natAbs)) (hby : by_ = decide (y < 0)) (hy : Nl w vy (dig y.natAbs)) (hlx : (dig x.natAbs).length ≤ 1000000) (hly : (dig y.natAbs).length ≤ 1000000) (h0 : y ≠ 0) : Calls Tryd.prog 90 #[.agg #[.bool bx, vx], .agg #[.bool by_, vy]] w (Ret w fun r w' => ∃ q s, r = .tuple #[.agg #[.bool (decide (idq x y < 0)), q], .agg #[.bool (decide (idr x y < 0)), s], .bool true] ∧ No w.heap.size 111 w' q (dig (idq x y).natAbs) ∧ No w.heap.size 111 w' s (dig (idr x y).natAbs)) :=
  (idivmod_t hbx hx hby hy hlx hly h0).mono fun e w' ⟨r, he, hx, q, s, hr, hq, hs⟩ => ⟨r, he, hx, q, s, by rw [hr, decide_eq_true h0], hq, hs⟩

theorem iof_c {w : World} {n : Int} (h1 : -9223372036854775808 ≤ n) (h2 : n ≤ 9223372036854775807) :
    Calls Tryd.prog 64 #[.int .i64 n] w (Ret w fun r w' => ∃ q, r = .agg #[.bool (decide ((n) < 0)), q] ∧ No w.heap.size 111 w' q (dig (n).natAbs)) := by
 refine enter (args := [_]) Tryd.func64 rfl Tryd.ntmps64 rfl ?_
 refine WP_seq ?_
 refine WP_region ?_
 refine O_alloc S24 rfl rfl (fun g1 w1 b1 e1 gl1 gh1 => ?_)
 have z1 := e1.size
 refine WL_end [(0, _), (2, _)] ⟨rfl, rfl, trivial⟩ ?_
 refine WP_seq ?_
 refine WP_seq ?_
 refine WP_region ?_
 refine O_move rfl rfl rfl ?_
 refine O_lss rfl rfl rfl rfl rfl ?_
 refine WL_end [(0, _), (2, _), (4, _)] ⟨rfl, rfl, rfl, trivial⟩ ?_
 refine WP_condD rfl (fun c4 => ?_) (fun c4 => ?_)
 · --
  refine WP_seq ?_
  refine WP_region ?_
  refine O_move rfl rfl rfl ?_
  refine O_add rfl rfl rfl rfl (wrap_i64_id (by omega) (by omega)) ?_
  refine O_neg rfl rfl rfl (wrap_i64_id (by omega) (by omega)) ?_
  refine O_conv Tryd.underlying3 Tryd.underlying83 rfl rfl rfl (wrap_u64_id (by omega) (by omega)) ?_
  refine O_add (r := ((n.natAbs : Nat) : Int)) rfl rfl rfl rfl (by rw [wrap_u64]; omega) ?_
  refine O_call enters118 rfl rfl rfl (of_c n.natAbs (by omega)) (fun v2 w2 e2 h2 => ?_)
  have z2 := e2.size
  try simp only [val_dig] at h2
  refine O_build (cs := [_, _]) B24 rfl rfl rfl (cells_cons rfl (cells_cons (h2.nl).cells1 cells_nil)) rfl ?_
  refine O_storeA (cs' := [_, _]) S24 rfl rfl rfl (b1.ext e2) rfl rfl (one_cons rfl (one_cons (h2.nl).one one_nil)) rfl (fun w3 b3 q3 => ?_)
  have z3 := Nat.le_of_eq q3.size.symm
  have e3 : Ext w w3 := q3.ext (e1.trans e2) (by omega)
  refine WL_end [(2, _)] ⟨rfl, trivial⟩ ?_
  refine WP_ret ?_
  refine retL Tryd.results64 (.cell rfl S24 b3 rfl .nil) ?_
  rw [decide_eq_true c4]
  exact ⟨_, rfl, e3, _, rfl, (h2.chgBk (b1.ext e2) (by decide) q3).mono (by omega)⟩
 · --
  refine WP_skip ?_
  refine WP_seq ?_
  refine WP_region ?_
  refine O_move rfl rfl rfl ?_
  refine O_conv Tryd.underlying3 Tryd.underlying83 (r := ((n.natAbs : Nat) : Int)) rfl rfl rfl (by rw [wrap_u64]; omega) ?_
  refine O_call enters118 rfl rfl rfl (of_c n.natAbs (by omega)) (fun v4 w4 e4 h4 => ?_)
  have z4 := e4.size
  try simp only [val_dig] at h4
  refine O_build (cs := [_, _]) B24 rfl rfl rfl (cells_cons (h4.nl).cells1 cells_nil) rfl ?_
  refine O_storeA (cs' := [_, _]) S24 rfl rfl rfl (b1.ext e4) rfl rfl (one_cons rfl (one_cons (h4.nl).one one_nil)) rfl (fun w5 b5 q5 => ?_)
  have z5 := Nat.le_of_eq q5.size.symm
  have e5 : Ext w w5 := q5.ext (e1.trans e4) (by omega)
  refine WL_end [(2, _)] ⟨rfl, trivial⟩ ?_
  refine WP_ret ?_
  refine retL Tryd.results64 (.cell rfl S24 b5 rfl .nil) ?_
  rw [decide_eq_false c4]
  exact ⟨_, rfl, e5, _, rfl, (h4.chgBk (b1.ext e4) (by decide) q5).mono (by omega)⟩

theorem riof_c {w : World} {n : Int} (h1 : -9223372036854775808 ≤ n) (h2 : n ≤ 9223372036854775807) :
    Calls Tryd.prog 70 #[.int .i64 n] w (Ret w fun r w' => ∃ q, r = .agg #[.bool (decide ((n) < 0)), q] ∧ No w.heap.size 111 w' q (dig (n).natAbs)) := by
 refine enter (args := [_]) Tryd.func70 rfl Tryd.ntmps70 rfl ?_
 refine WP_seq ?_
 refine WP_region ?_
 refine O_alloc S24 rfl rfl (fun g1 w1 b1 e1 gl1 gh1 => ?_)
 have z1 := e1.size
 refine WL_end [(0, _), (2, _)] ⟨rfl, rfl, trivial⟩ ?_
 refine WP_seq ?_
 refine WP_region ?_
 refine O_move rfl rfl rfl ?_
 refine O_conv Tryd.underlying3 Tryd.underlying83 (r := (n % 18446744073709551616)) rfl rfl rfl (wrap_u64 n) ?_
 refine O_assign rfl rfl rfl ?_
 refine WL_end [(0, _), (2, _), (3, _)] ⟨rfl, rfl, rfl, trivial⟩ ?_
 refine WP_seq ?_
 refine WP_seq ?_
 refine WP_region ?_
 refine O_move rfl rfl rfl ?_
 refine O_lss rfl rfl rfl rfl rfl ?_
 refine WL_end [(0, _), (2, _), (3, _), (7, _)] ⟨rfl, rfl, rfl, rfl, trivial⟩ ?_
 refine WP_condD rfl (fun c7 => ?_) (fun c7 => ?_)
 · --
  refine WP_region ?_
  refine O_move rfl rfl rfl ?_
  refine O_neg (r := ((n.natAbs : Nat) : Int)) rfl rfl rfl (by rw [wrap_u64]; omega) ?_
  refine O_assign rfl rfl rfl ?_
  refine WL_end [(0, _), (2, _), (3, _)] ⟨rfl, rfl, rfl, trivial⟩ ?_
  refine WP_seq ?_
  refine WP_region ?_
  try rw [show n % 18446744073709551616 = ((n.natAbs : Nat) : Int) from by omega]
  refine O_move rfl rfl rfl ?_
  refine O_lss rfl rfl rfl rfl rfl ?_
  refine O_move rfl rfl rfl ?_
  refine O_call enters75 rfl rfl rfl (rof_c n.natAbs (by omega)) (fun v2 w2 e2 h2 => ?_)
  have z2 := e2.size
  try simp only [val_dig] at h2
  have hLn : (dig n.natAbs).length ≤ 2 := dig_len_of_lt (Nat.lt_of_le_of_lt (show n.natAbs ≤ 9223372036854775808 by omega) (by decide))
  refine O_call enters85 rfl rfl rfl (rinat_c h2.nl (by (try simp only [lens]); omega)) (fun v3 w3 e3 h3 => ?_)
  have z3 := e3.size
  try simp only [val_dig] at h3
  obtain ⟨q3, rfl, hq3⟩ := h3
  rw [mk_self] at hq3 ⊢
  refine O_storeA (cs' := [_, _]) S24 rfl rfl rfl ((b1.ext e2).ext e3) rfl rfl (one_cons rfl (one_cons (hq3.nl).one one_nil)) rfl (fun w4 b4 q4 => ?_)
  have z4 := Nat.le_of_eq q4.size.symm
  have e4 : Ext w w4 := q4.ext ((e1.trans e2).trans e3) (by omega)
  refine WL_end [(2, _)] ⟨rfl, trivial⟩ ?_
  refine WP_ret ?_
  refine retL Tryd.results70 (.cell rfl S24 b4 rfl .nil) ?_
  exact ⟨_, rfl, e4, _, rfl, (hq3.chgBk ((b1.ext e2).ext e3) (by decide) q4).mono (by omega)⟩
 · --
  refine WP_skip ?_
  refine WP_seq ?_
  refine WP_region ?_
  try rw [show n % 18446744073709551616 = ((n.natAbs : Nat) : Int) from by omega]
  refine O_move rfl rfl rfl ?_
  refine O_lss rfl rfl rfl rfl rfl ?_
  refine O_move rfl rfl rfl ?_
  refine O_call enters75 rfl rfl rfl (rof_c n.natAbs (by omega)) (fun v5 w5 e5 h5 => ?_)
  have z5 := e5.size
  try simp only [val_dig] at h5
  have hLn : (dig n.natAbs).length ≤ 2 := dig_len_of_lt (Nat.lt_of_le_of_lt (show n.natAbs ≤ 9223372036854775808 by omega) (by decide))
  refine O_call enters85 rfl rfl rfl (rinat_c h5.nl (by (try simp only [lens]); omega)) (fun v6 w6 e6 h6 => ?_)
  have z6 := e6.size
  try simp only [val_dig] at h6
  obtain ⟨q6, rfl, hq6⟩ := h6
  rw [mk_self] at hq6 ⊢
  refine O_storeA (cs' := [_, _]) S24 rfl rfl rfl ((b1.ext e5).ext e6) rfl rfl (one_cons rfl (one_cons (hq6.nl).one one_nil)) rfl (fun w7 b7 q7 => ?_)
  have z7 := Nat.le_of_eq q7.size.symm
  have e7 : Ext w w7 := q7.ext ((e1.trans e5).trans e6) (by omega)
  refine WL_end [(2, _)] ⟨rfl, trivial⟩ ?_
  refine WP_ret ?_
  refine retL Tryd.results70 (.cell rfl S24 b7 rfl .nil) ?_
  exact ⟨_, rfl, e7, _, rfl, (hq6.chgBk ((b1.ext e5).ext e6) (by decide) q7).mono (by omega)⟩

end Go.Proofs.YthbfhljpfkicpaaDoor
