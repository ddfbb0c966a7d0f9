/-
  Walks.
-/
import Derived.Test.YtnfnadhbjdcbnaaDoorS5
import Derived.Test.YtnfnadhbjdcbnaaDoorDy
import Derived.Test.YtnfnadhbjdcbnaaDoorAnyS
import Derived.Test.YtnfnadhbjdcbnaaDoorZ1
set_option linter.unusedVariables false
set_option linter.unusedSimpArgs false
set_option maxRecDepth 100000
namespace Go.Proofs.YtnfnadhbjdcbnaaDoor
open Go Go.RowKit

theorem rivalidT_c {w : World} {vx : Value} {x : Int} {bx : Bool} (hbx : bx = decide (x < 0)) (hx : Nl w vx (dig x.natAbs)) (hlx : (dig x.natAbs).length ≤ 1000000) : Calls Tryd.prog 65 #[.agg #[.bool bx, vx]] w (Ret w fun r _ => r = .bool true) :=
  (rivalid_c hx).mono fun e w' ⟨r, he, hx', hr⟩ => ⟨r, he, hx', by rw [hr, hbx, ival_dig]⟩

theorem tz_len (x : Int) : tz x.natAbs ≤ 32 * (dig x.natAbs).length := by
  by_cases h : x = 0
  · subst h; rw [show (0 : Int).natAbs = 0 from rfl, tz_zero]; omega
  · have h1 := (tz_split x.natAbs (by omega)).2
    have h2 := bl_dig x.natAbs
    have h3 : 2 ^ tz x.natAbs ≤ x.natAbs := by
      rcases Nat.eq_zero_or_pos (x.natAbs / 2 ^ tz x.natAbs) with h4 | h4
      · rw [h4, Nat.zero_mul] at h1; omega
      · have h5 := Nat.le_mul_of_pos_left (2 ^ tz x.natAbs) h4
        rw [h1] at h5; exact h5
    have h4 := bl_shift h3
    omega
theorem odn_len {x : Int} {a : Nat} (h : (dig x.natAbs).length ≤ a) : (dig (odn x).natAbs).length ≤ a := by
  rw [odn_abs]; exact Nat.le_trans (dig_len_mono (Nat.div_le_self _ _)) h
theorem dman_len {x e : Int} {a : Nat} (h : (dig x.natAbs).length ≤ a) : (dig (dman x e).natAbs).length ≤ a := by
  by_cases hc : dcode x e = 0
  · rw [(dman_ok hc).1]; exact odn_len h
  · rw [(dman_bad hc).1, show dig (0 : Int).natAbs = [] from dig_zero]; exact Nat.zero_le _
theorem dexp_bd (x e : Int) : -65536 ≤ dexp x e ∧ dexp x e ≤ 65536 := dval_range (dval_dman x e)
theorem dig0 : dig (0 : Int).natAbs = [] := dig_zero
theorem bit0 (n : Nat) : bitv n 0 = decide (n % 2 = 1) := by
  have h := bitv_nat n 0
  rw [show ((0 : Nat) : Int) = 0 from rfl] at h
  rw [h, Nat.testBit_zero]
theorem dval_nz {x e : Int} (h : x ≠ 0) : dval x e = decide (bl x.natAbs ≤ 65536 ∧ -65536 ≤ e ∧ e ≤ 65536 ∧ x.natAbs % 2 = 1) := if_neg h
theorem dval_at0 {x e : Int} (h : x = 0) : dval x e = decide (e = 0) := if_pos h
/-- The code that the exact makers answer. -/
def dcode3 (x e : Int) : Int := if dcode x e = 0 then 0 else 3
def dtop (x e : Int) : Int := if x = 0 then 0 else (bl x.natAbs : Nat) + e
def dsum (x e y f : Int) : Int := x * 2 ^ (e - min e f).toNat + y * 2 ^ (f - min e f).toNat
theorem bl_mul_two {n k : Nat} (h : n ≠ 0) : bl (n * 2 ^ k) = bl n + k := by
  have hp := Nat.two_pow_pos k
  have h1 : 2 ^ k ≤ n * 2 ^ k := Nat.le_mul_of_pos_left _ (by omega)
  rw [bl_shift h1, Nat.mul_div_cancel _ hp]; omega
theorem bl_lt {a b : Nat} (h : bl a < bl b) : a < b := by
  rcases Nat.lt_or_ge a b with h1 | h1
  · exact h1
  · exfalso
    by_cases hb : b = 0
    · subst hb; rw [bl_zero] at h; omega
    · have h2 := bl_spec hb
      have h3 := lt_of_bl (show bl a ≤ bl b - 1 by omega)
      omega
theorem dcmp_signs {x e y f : Int} (h : x.sign ≠ y.sign) : dcmp x e y f = if x.sign < y.sign then -1 else 1 := by
  unfold dcmp
  have hs : ∀ (z : Int) (k : Nat), (z * 2 ^ k).sign = z.sign := fun z k => by
    rw [Int.sign_mul, Int.sign_eq_one_of_pos (ipow_pos k), Int.mul_one]
  have h1 := hs x (e - min e f).toNat
  have h2 := hs y (f - min e f).toNat
  generalize x * 2 ^ (e - min e f).toNat = X at *
  generalize y * 2 ^ (f - min e f).toNat = Y at *
  rw [← h1, ← h2] at h ⊢
  clear hs h1 h2
  rcases Int.lt_trichotomy X 0 with a | a | a <;> rcases Int.lt_trichotomy Y 0 with b | b | b <;>
    (simp only [Int.sign_eq_neg_one_of_neg, Int.sign_eq_one_of_pos, a, b, Int.sign_zero] at h ⊢) <;> unfold icmp <;> (first | omega | (repeat' split) <;> omega)
theorem sign_zero_iff {x : Int} : x.sign = 0 ↔ x = 0 := Int.sign_eq_zero_iff_zero
theorem dcmp_zero (e f : Int) : dcmp 0 e 0 f = 0 := by unfold dcmp; rw [Int.zero_mul, Int.zero_mul]; exact icmp_self 0
theorem dcmp_tops {x e y f : Int} (h : x.sign = y.sign) (h0 : x ≠ 0) (hne : dtop x e ≠ dtop y f) : dcmp x e y f = if dtop x e < dtop y f then -x.sign else x.sign := by
  have hy0 : y ≠ 0 := fun e' => by subst e'; rw [Int.sign_zero] at h; exact h0 (sign_zero_iff.1 h)
  unfold dtop at hne ⊢
  rw [if_neg h0, if_neg hy0] at *
  unfold dcmp
  have a1 := bl_mul_two (k := (e - min e f).toNat) (show x.natAbs ≠ 0 by omega)
  have a2 := bl_mul_two (k := (f - min e f).toNat) (show y.natAbs ≠ 0 by omega)
  rw [← mul_two_abs] at a1 a2
  have hs : ∀ (z : Int) (k : Nat), (z * 2 ^ k).sign = z.sign := fun z k => by
    rw [Int.sign_mul, Int.sign_eq_one_of_pos (ipow_pos k), Int.mul_one]
  have h1 := hs x (e - min e f).toNat
  have h2 := hs y (f - min e f).toNat
  have z1 : x * 2 ^ (e - min e f).toNat ≠ 0 := fun e' => h0 (mul_two_zero.1 e')
  have z2 : y * 2 ^ (f - min e f).toNat ≠ 0 := fun e' => hy0 (mul_two_zero.1 e')
  generalize x * 2 ^ (e - min e f).toNat = X at *
  generalize y * 2 ^ (f - min e f).toNat = Y at *
  rw [h] at h1 ⊢
  clear hs
  by_cases hlt : ((bl x.natAbs : Nat) : Int) + e < (bl y.natAbs : Nat) + f
  · rw [if_pos hlt]
    have h3 : X.natAbs < Y.natAbs := bl_lt (by omega)
    rcases Int.lt_trichotomy Y 0 with b | b | b
    · rw [Int.sign_eq_neg_one_of_neg b] at h2
      have hX : X < 0 := Int.sign_eq_neg_one_iff_neg.1 (by rw [h1, ← h2])
      rw [← h2]; unfold icmp; rw [if_neg (by omega), if_pos (by omega)]; rfl
    · exact absurd b z2
    · rw [Int.sign_eq_one_of_pos b] at h2
      have hX : 0 < X := Int.sign_eq_one_iff_pos.1 (by rw [h1, ← h2])
      rw [← h2]; unfold icmp; rw [if_pos (by omega)]
  · rw [if_neg hlt]
    have h3 : Y.natAbs < X.natAbs := bl_lt (by omega)
    rcases Int.lt_trichotomy Y 0 with b | b | b
    · rw [Int.sign_eq_neg_one_of_neg b] at h2
      have hX : X < 0 := Int.sign_eq_neg_one_iff_neg.1 (by rw [h1, ← h2])
      rw [← h2]; unfold icmp; rw [if_pos (by omega)]
    · exact absurd b z2
    · rw [Int.sign_eq_one_of_pos b] at h2
      have hX : 0 < X := Int.sign_eq_one_iff_pos.1 (by rw [h1, ← h2])
      rw [← h2]; unfold icmp; rw [if_neg (by omega), if_pos (by omega)]
theorem dadd_zero_l {y f : Int} (hf1 : -65536 ≤ f) (hf2 : f ≤ 65536) : dcode (dsum 0 0 y f) (min 0 f) = dcode y f ∧ dman (dsum 0 0 y f) (min 0 f) = dman y f ∧ dexp (dsum 0 0 y f) (min 0 f) = dexp y f := by
  unfold dsum
  rw [Int.zero_mul, Int.zero_add]
  have h := dcode_shl (x := y) (e := f) (k := (f - min 0 f).toNat) (by omega) (by omega) (by omega)
  rw [show f - ((f - min 0 f).toNat : Int) = min 0 f from by omega] at h
  exact h
theorem dadd_zero_r {x e : Int} (he1 : -65536 ≤ e) (he2 : e ≤ 65536) : dcode (dsum x e 0 0) (min e 0) = dcode x e ∧ dman (dsum x e 0 0) (min e 0) = dman x e ∧ dexp (dsum x e 0 0) (min e 0) = dexp x e := by
  unfold dsum
  rw [Int.zero_mul, Int.add_zero]
  have h := dcode_shl (x := x) (e := e) (k := (e - min e 0).toNat) (by omega) (by omega) (by omega)
  rw [show e - ((e - min e 0).toNat : Int) = min e 0 from by omega] at h
  exact h
theorem dcode3_eq {x e : Int} (h1 : -131072 ≤ e) (h2 : e ≤ 131072) : dcode3 x e = dcode x e := by
  unfold dcode3
  rcases dcode_cases x e with h | h | h
  · rw [h]; rfl
  · exfalso; unfold dcode at h; rw [if_neg (by omega)] at h; split at h
    · cases h
    · split at h <;> cases h
  · rw [h]; rfl
theorem shl_len' {x : Int} {a k : Nat} (hx : (dig x.natAbs).length ≤ a) : (dig (x * 2 ^ k).natAbs).length ≤ a + k / 32 + 1 := by
  have h1 := dig_len_mul x.natAbs (2 ^ k)
  have h2 := dig_len_two k
  rw [mul_two_abs]
  generalize (dig (x.natAbs * 2 ^ k)).length = p at *
  generalize (dig (2 ^ k)).length = q at *
  omega

theorem dval_c {w : World} {vx : Value} {x e : Int} {bx : Bool} (hbx : bx = decide (x < 0)) (hx : Nl w vx (dig x.natAbs)) (hlx : (dig x.natAbs).length ≤ 30000) :
    Calls Tryd.prog 23 #[.agg #[.bool bx, vx, .int .i64 e]] w (Ret w fun r _ => r = .bool (dval x e)) := by
 subst hbx
 refine enter (args := [_]) Tryd.func23 rfl Tryd.ntmps23 rfl ?_
 refine WP_seq ?_
 refine WP_region ?_
 refine O_box _ rfl rfl rfl rfl (fun g1 w1 b1 e1 gl1 gh1 => ?_)
 have z1 := e1.size
 refine O_assign rfl rfl rfl ?_
 refine WL_end [(1, _)] ⟨rfl, trivial⟩ ?_
 refine WP_seq ?_
 refine WP_block ?_
 refine WP_seq ?_
 refine WP_region ?_
 refine O_field F26_0 rfl rfl rfl ?_
 refine O_loadA (vs := [_, _]) S24 rfl rfl rfl b1 rfl rfl ?_
 refine O_call enters62 rfl rfl rfl (ivalidT_c rfl (hx.ext e1) (by (try simp only [lens]); omega)) (fun v2 w2 e2 h2 => ?_)
 have z2 := e2.size
 obtain rfl := h2
 refine O_not rfl rfl rfl rfl ?_
 refine O_assign rfl rfl rfl ?_
 refine WL_end [(1, _), (3, _)] ⟨rfl, rfl, trivial⟩ ?_
 refine WP_condF rfl ?_
 refine WP_seq ?_
 refine WP_region ?_
 refine O_field F26_0 rfl rfl rfl ?_
 refine O_field F24_1 rfl rfl rfl ?_
 refine O_loadC Tryd.underlying22 rfl rfl rfl rfl (b1.ext e2) rfl ?_
 refine N_len T22 rfl rfl rfl (hx.ext (e1.trans e2)) ?_
 refine O_eql rfl rfl rfl rfl rfl ?_
 refine O_assign rfl rfl rfl ?_
 refine WL_end [(1, _), (8, _)] ⟨rfl, rfl, trivial⟩ ?_
 refine WP_condD rfl (fun c8 => ?_) (fun c8 => ?_)
 · --
  refine WP_seq ?_
  refine WP_region ?_
  refine O_field F26_1 rfl rfl rfl ?_
  refine O_loadC Tryd.underlying3 rfl rfl rfl rfl (b1.ext e2) rfl ?_
  refine O_eql rfl rfl rfl rfl rfl ?_
  refine O_assign rfl rfl rfl ?_
  refine WL_end [(2, _)] ⟨rfl, trivial⟩ ?_
  refine WP_ret ?_
  refine inBlk_ret ?_
  refine ret1 Tryd.results23 rfl ?_
  have hx0 : x = 0 := by have := dig_len_zero (n := x.natAbs); omega
  exact ⟨_, rfl, (e1.trans e2), by rw [dval_at0 hx0]⟩
 · --
  refine WP_skip ?_
  refine WP_seq ?_
  refine WP_region ?_
  refine O_field F26_0 rfl rfl rfl ?_
  refine O_field F24_1 rfl rfl rfl ?_
  refine O_loadC Tryd.underlying22 rfl rfl rfl rfl (b1.ext e2) rfl ?_
  refine O_call enters63 rfl rfl rfl (bits_c (hx.ext (e1.trans e2)) (by (try simp only [lens]); omega)) (fun v3 w3 e3 h3 => ?_)
  have z3 := e3.size
  obtain rfl := h3
  simp only [val_dig]
  refine O_leq rfl rfl rfl rfl rfl ?_
  refine O_move rfl rfl rfl ?_
  refine WL_dec 22 rfl (fun g22 => ?_) (fun g22 => ?_)
  · --
   refine O_field F26_1 rfl rfl rfl ?_
   refine O_loadC Tryd.underlying3 rfl rfl rfl rfl ((b1.ext e2).ext e3) rfl ?_
   refine O_geq rfl rfl rfl rfl rfl ?_
   refine O_pickT rfl rfl rfl rfl ?_
   refine O_move rfl rfl rfl ?_
   refine WL_dec 27 rfl (fun g27 => ?_) (fun g27 => ?_)
   · --
    refine O_field F26_1 rfl rfl rfl ?_
    refine O_loadC Tryd.underlying3 rfl rfl rfl rfl ((b1.ext e2).ext e3) rfl ?_
    refine O_leq rfl rfl rfl rfl rfl ?_
    refine O_pickT rfl rfl rfl rfl ?_
    refine O_move rfl rfl rfl ?_
    refine WL_dec 32 rfl (fun g32 => ?_) (fun g32 => ?_)
    · --
     refine O_field F26_0 rfl rfl rfl ?_
     refine O_field F24_1 rfl rfl rfl ?_
     refine O_loadC Tryd.underlying22 rfl rfl rfl rfl ((b1.ext e2).ext e3) rfl ?_
     refine O_call enters64 rfl rfl rfl (bit_c (hx.ext ((e1.trans e2).trans e3)) (by (try simp only [lens]); omega)) (fun v4 w4 e4 h4 => ?_)
     have z4 := e4.size
     obtain rfl := h4
     simp only [val_dig]
     rw [bit0]
     refine O_pickT rfl rfl rfl rfl ?_
     refine O_assign rfl rfl rfl ?_
     refine WL_end [(2, _)] ⟨rfl, trivial⟩ ?_
     refine WP_ret ?_
     refine ret1 Tryd.results23 rfl ?_
     have hx0 : x ≠ 0 := fun h => c8 (by rw [h, dig0]; rfl)
     exact ⟨_, rfl, (((e1.trans e2).trans e3).trans e4), by rw [dval_nz hx0]; exact congrArg Value.bool (decide_eq_decide.2 (by omega))⟩
    · --
     refine O_skip rfl rfl ?_
     refine O_skip rfl rfl ?_
     refine O_skip rfl rfl ?_
     refine O_skip rfl rfl ?_
     refine O_pickF rfl rfl rfl rfl ?_
     refine O_assign rfl rfl rfl ?_
     refine WL_end [(2, _)] ⟨rfl, trivial⟩ ?_
     refine WP_ret ?_
     refine ret1 Tryd.results23 rfl ?_
     have hx0 : x ≠ 0 := fun h => c8 (by rw [h, dig0]; rfl)
     exact ⟨_, rfl, ((e1.trans e2).trans e3), by rw [dval_nz hx0, decide_eq_false (by omega)]⟩
   · --
    refine O_skip rfl rfl ?_
    refine O_skip rfl rfl ?_
    refine O_skip rfl rfl ?_
    refine O_pickF rfl rfl rfl rfl ?_
    refine O_move rfl rfl rfl ?_
    refine O_skip rfl rfl ?_
    refine O_skip rfl rfl ?_
    refine O_skip rfl rfl ?_
    refine O_skip rfl rfl ?_
    refine O_pickF rfl rfl rfl rfl ?_
    refine O_assign rfl rfl rfl ?_
    refine WL_end [(2, _)] ⟨rfl, trivial⟩ ?_
    refine WP_ret ?_
    refine ret1 Tryd.results23 rfl ?_
    have hx0 : x ≠ 0 := fun h => c8 (by rw [h, dig0]; rfl)
    exact ⟨_, rfl, ((e1.trans e2).trans e3), by rw [dval_nz hx0, decide_eq_false (by omega)]⟩
  · --
   refine O_skip rfl rfl ?_
   refine O_skip rfl rfl ?_
   refine O_skip rfl rfl ?_
   refine O_pickF rfl rfl rfl rfl ?_
   refine O_move rfl rfl rfl ?_
   refine O_skip rfl rfl ?_
   refine O_skip rfl rfl ?_
   refine O_skip rfl rfl ?_
   refine O_pickF rfl rfl rfl rfl ?_
   refine O_move rfl rfl rfl ?_
   refine O_skip rfl rfl ?_
   refine O_skip rfl rfl ?_
   refine O_skip rfl rfl ?_
   refine O_skip rfl rfl ?_
   refine O_pickF rfl rfl rfl rfl ?_
   refine O_assign rfl rfl rfl ?_
   refine WL_end [(2, _)] ⟨rfl, trivial⟩ ?_
   refine WP_ret ?_
   refine ret1 Tryd.results23 rfl ?_
   have hx0 : x ≠ 0 := fun h => c8 (by rw [h, dig0]; rfl)
   exact ⟨_, rfl, ((e1.trans e2).trans e3), by rw [dval_nz hx0, decide_eq_false (by omega)]⟩

theorem rdval_c {w : World} {vx : Value} {x e : Int} {bx : Bool} (hbx : bx = decide (x < 0)) (hx : Nl w vx (dig x.natAbs)) (hlx : (dig x.natAbs).length ≤ 30000) :
    Calls Tryd.prog 24 #[.agg #[.bool bx, vx, .int .i64 e]] w (Ret w fun r _ => r = .bool (dval x e)) := by
 subst hbx
 refine enter (args := [_]) Tryd.func24 rfl Tryd.ntmps24 rfl ?_
 refine WP_seq ?_
 refine WP_region ?_
 refine O_box _ rfl rfl rfl rfl (fun g1 w1 b1 e1 gl1 gh1 => ?_)
 have z1 := e1.size
 refine O_assign rfl rfl rfl ?_
 refine WL_end [(1, _)] ⟨rfl, trivial⟩ ?_
 refine WP_seq ?_
 refine WP_seq ?_
 refine WP_region ?_
 refine O_field F26_0 rfl rfl rfl ?_
 refine O_loadA (vs := [_, _]) S24 rfl rfl rfl b1 rfl rfl ?_
 refine O_call enters65 rfl rfl rfl (rivalidT_c rfl (hx.ext e1) (by (try simp only [lens]); omega)) (fun v2 w2 e2 h2 => ?_)
 have z2 := e2.size
 obtain rfl := h2
 refine O_not rfl rfl rfl rfl ?_
 refine WL_end [(1, _), (6, _)] ⟨rfl, rfl, trivial⟩ ?_
 refine WP_condF rfl ?_
 refine WP_skip ?_
 refine WP_seq ?_
 refine WP_seq ?_
 refine WP_region ?_
 refine O_field F26_0 rfl rfl rfl ?_
 refine O_field F24_1 rfl rfl rfl ?_
 refine O_loadC Tryd.underlying22 rfl rfl rfl rfl (b1.ext e2) rfl ?_
 refine N_len T22 rfl rfl rfl (hx.ext (e1.trans e2)) ?_
 refine O_eql rfl rfl rfl rfl rfl ?_
 refine WL_end [(1, _), (11, _)] ⟨rfl, rfl, trivial⟩ ?_
 refine WP_condD rfl (fun c11 => ?_) (fun c11 => ?_)
 · --
  refine WP_seq ?_
  refine WP_region ?_
  refine O_field F26_1 rfl rfl rfl ?_
  refine O_loadC Tryd.underlying3 rfl rfl rfl rfl (b1.ext e2) rfl ?_
  refine O_eql rfl rfl rfl rfl rfl ?_
  refine O_assign rfl rfl rfl ?_
  refine WL_end [(2, _)] ⟨rfl, trivial⟩ ?_
  refine WP_ret ?_
  refine ret1 Tryd.results24 rfl ?_
  have hx0 : x = 0 := by have := dig_len_zero (n := x.natAbs); omega
  exact ⟨_, rfl, (e1.trans e2), by rw [dval_at0 hx0]⟩
 · --
  refine WP_skip ?_
  refine WP_seq ?_
  refine WP_region ?_
  refine O_field F26_0 rfl rfl rfl ?_
  refine O_field F24_1 rfl rfl rfl ?_
  refine O_loadC Tryd.underlying22 rfl rfl rfl rfl (b1.ext e2) rfl ?_
  refine O_call enters66 rfl rfl rfl (rbits_c (hx.ext (e1.trans e2)) (by (try simp only [lens]); omega)) (fun v3 w3 e3 h3 => ?_)
  have z3 := e3.size
  obtain rfl := h3
  simp only [val_dig]
  refine O_leq rfl rfl rfl rfl rfl ?_
  refine O_move rfl rfl rfl ?_
  refine WL_dec 20 rfl (fun g20 => ?_) (fun g20 => ?_)
  · --
   refine O_field F26_1 rfl rfl rfl ?_
   refine O_loadC Tryd.underlying3 rfl rfl rfl rfl ((b1.ext e2).ext e3) rfl ?_
   refine O_geq rfl rfl rfl rfl rfl ?_
   refine O_pickT rfl rfl rfl rfl ?_
   refine O_move rfl rfl rfl ?_
   refine WL_dec 25 rfl (fun g25 => ?_) (fun g25 => ?_)
   · --
    refine O_field F26_1 rfl rfl rfl ?_
    refine O_loadC Tryd.underlying3 rfl rfl rfl rfl ((b1.ext e2).ext e3) rfl ?_
    refine O_leq rfl rfl rfl rfl rfl ?_
    refine O_pickT rfl rfl rfl rfl ?_
    refine O_move rfl rfl rfl ?_
    refine WL_dec 30 rfl (fun g30 => ?_) (fun g30 => ?_)
    · --
     refine O_field F26_0 rfl rfl rfl ?_
     refine O_field F24_1 rfl rfl rfl ?_
     refine O_loadC Tryd.underlying22 rfl rfl rfl rfl ((b1.ext e2).ext e3) rfl ?_
     refine O_call enters67 rfl rfl rfl (rbit_c (hx.ext ((e1.trans e2).trans e3)) (by (try simp only [lens]); omega)) (fun v4 w4 e4 h4 => ?_)
     have z4 := e4.size
     obtain rfl := h4
     simp only [val_dig]
     rw [bit0]
     refine O_pickT rfl rfl rfl rfl ?_
     refine O_assign rfl rfl rfl ?_
     refine WL_end [(2, _)] ⟨rfl, trivial⟩ ?_
     refine WP_ret ?_
     refine ret1 Tryd.results24 rfl ?_
     have hx0 : x ≠ 0 := fun h => c11 (by rw [h, dig0]; rfl)
     exact ⟨_, rfl, (((e1.trans e2).trans e3).trans e4), by rw [dval_nz hx0]; exact congrArg Value.bool (decide_eq_decide.2 (by omega))⟩
    · --
     refine O_skip rfl rfl ?_
     refine O_skip rfl rfl ?_
     refine O_skip rfl rfl ?_
     refine O_skip rfl rfl ?_
     refine O_pickF rfl rfl rfl rfl ?_
     refine O_assign rfl rfl rfl ?_
     refine WL_end [(2, _)] ⟨rfl, trivial⟩ ?_
     refine WP_ret ?_
     refine ret1 Tryd.results24 rfl ?_
     have hx0 : x ≠ 0 := fun h => c11 (by rw [h, dig0]; rfl)
     exact ⟨_, rfl, ((e1.trans e2).trans e3), by rw [dval_nz hx0, decide_eq_false (by omega)]⟩
   · --
    refine O_skip rfl rfl ?_
    refine O_skip rfl rfl ?_
    refine O_skip rfl rfl ?_
    refine O_pickF rfl rfl rfl rfl ?_
    refine O_move rfl rfl rfl ?_
    refine O_skip rfl rfl ?_
    refine O_skip rfl rfl ?_
    refine O_skip rfl rfl ?_
    refine O_skip rfl rfl ?_
    refine O_pickF rfl rfl rfl rfl ?_
    refine O_assign rfl rfl rfl ?_
    refine WL_end [(2, _)] ⟨rfl, trivial⟩ ?_
    refine WP_ret ?_
    refine ret1 Tryd.results24 rfl ?_
    have hx0 : x ≠ 0 := fun h => c11 (by rw [h, dig0]; rfl)
    exact ⟨_, rfl, ((e1.trans e2).trans e3), by rw [dval_nz hx0, decide_eq_false (by omega)]⟩
  · --
   refine O_skip rfl rfl ?_
   refine O_skip rfl rfl ?_
   refine O_skip rfl rfl ?_
   refine O_pickF rfl rfl rfl rfl ?_
   refine O_move rfl rfl rfl ?_
   refine O_skip rfl rfl ?_
   refine O_skip rfl rfl ?_
   refine O_skip rfl rfl ?_
   refine O_pickF rfl rfl rfl rfl ?_
   refine O_move rfl rfl rfl ?_
   refine O_skip rfl rfl ?_
   refine O_skip rfl rfl ?_
   refine O_skip rfl rfl ?_
   refine O_skip rfl rfl ?_
   refine O_pickF rfl rfl rfl rfl ?_
   refine O_assign rfl rfl rfl ?_
   refine WL_end [(2, _)] ⟨rfl, trivial⟩ ?_
   refine WP_ret ?_
   refine ret1 Tryd.results24 rfl ?_
   have hx0 : x ≠ 0 := fun h => c11 (by rw [h, dig0]; rfl)
   exact ⟨_, rfl, ((e1.trans e2).trans e3), by rw [dval_nz hx0, decide_eq_false (by omega)]⟩

set_option maxHeartbeats 1000000 in
theorem dmake_c {w : World} {vx : Value} {x e : Int} {bx : Bool} (hbx : bx = decide (x < 0)) (hx : Nl w vx (dig x.natAbs)) (hlx : (dig x.natAbs).length ≤ 30000) (hT : Tab w) :
    Calls Tryd.prog 22 #[.agg #[.bool bx, vx], .int .i64 e] w (Ret w fun r w' => ∃ q, r = .tuple #[.agg #[.bool (decide ((dman (x) (e)) < 0)), q, .int .i64 (dexp (x) (e))], .int .i64 (dcode (x) (e))] ∧ No w.heap.size 89 w' q (dig (dman (x) (e)).natAbs)) := by
 subst hbx
 refine enter (args := [_, _]) Tryd.func22 rfl Tryd.ntmps22 rfl ?_
 refine WP_seq ?_
 refine WP_region ?_
 refine O_box _ rfl rfl rfl rfl (fun g1 w1 b1 e1 gl1 gh1 => ?_)
 have z1 := e1.size
 refine O_alloc S26 rfl rfl (fun g2 w2 b2 e2 gl2 gh2 => ?_)
 have z2 := e2.size
 refine O_assign rfl rfl rfl ?_
 refine WL_end [(1, _), (2, _), (4, _)] ⟨rfl, rfl, rfl, trivial⟩ ?_
 refine WP_seq ?_
 refine WP_seq ?_
 refine WP_region ?_
 refine O_move rfl rfl rfl ?_
 refine O_lss rfl rfl rfl rfl rfl ?_
 refine O_move rfl rfl rfl ?_
 refine WL_dec 10 rfl (fun g10 => ?_) (fun g10 => ?_)
 · --
  refine O_skip rfl rfl ?_
  refine O_skip rfl rfl ?_
  refine O_pickT rfl rfl rfl rfl ?_
  refine WL_end [(1, _), (2, _), (4, _), (13, _)] ⟨rfl, rfl, rfl, rfl, trivial⟩ ?_
  refine WP_condT rfl ?_
  refine WP_seq ?_
  refine WP_region ?_
  refine O_build (cs := [_, _, _]) B26 rfl rfl rfl cells_nil rfl ?_
  refine O_storeA (cs' := [_, _, _]) S26 rfl rfl rfl b2 rfl rfl (one_cons rfl (one_cons rfl (one_cons rfl one_nil))) rfl (fun w3 b3 q3 => ?_)
  have z3 := Nat.le_of_eq q3.size.symm
  have e3 : Ext w w3 := q3.ext (e1.trans e2) (by omega)
  refine O_assign rfl rfl rfl ?_
  refine WL_end [(4, _), (5, _)] ⟨rfl, rfl, trivial⟩ ?_
  refine WP_ret ?_
  refine retL Tryd.results22 (.cell rfl S26 b3 rfl (.tmp rfl .nil)) ?_
  have hc : dcode x e = 1 := by unfold dcode; rw [if_pos (by omega)]
  obtain ⟨k1, k2⟩ := dman_bad (x := x) (e := e) (by omega)
  rw [hc, k1, k2]
  exact ⟨_, rfl, e3, _, rfl, by rw [dig0]; exact No.nil _ _ _⟩
 · --
  refine O_move rfl rfl rfl ?_
  refine O_gtr rfl rfl rfl rfl rfl ?_
  refine O_pickF rfl rfl rfl rfl ?_
  refine WL_end [(1, _), (2, _), (4, _), (13, _)] ⟨rfl, rfl, rfl, rfl, trivial⟩ ?_
  refine WP_condD rfl (fun c13 => ?_) (fun c13 => ?_)
  · --
   refine WP_seq ?_
   refine WP_region ?_
   refine O_build (cs := [_, _, _]) B26 rfl rfl rfl cells_nil rfl ?_
   refine O_storeA (cs' := [_, _, _]) S26 rfl rfl rfl b2 rfl rfl (one_cons rfl (one_cons rfl (one_cons rfl one_nil))) rfl (fun w4 b4 q4 => ?_)
   have z4 := Nat.le_of_eq q4.size.symm
   have e4 : Ext w w4 := q4.ext (e1.trans e2) (by omega)
   refine O_assign rfl rfl rfl ?_
   refine WL_end [(4, _), (5, _)] ⟨rfl, rfl, trivial⟩ ?_
   refine WP_ret ?_
   refine retL Tryd.results22 (.cell rfl S26 b4 rfl (.tmp rfl .nil)) ?_
   have hc : dcode x e = 1 := by unfold dcode; rw [if_pos (by omega)]
   obtain ⟨k1, k2⟩ := dman_bad (x := x) (e := e) (by omega)
   rw [hc, k1, k2]
   exact ⟨_, rfl, e4, _, rfl, by rw [dig0]; exact No.nil _ _ _⟩
  · --
   refine WP_skip ?_
   refine WP_seq ?_
   refine WP_seq ?_
   refine WP_region ?_
   refine O_loadA (vs := [_, _]) S24 rfl rfl rfl (b1.ext e2) rfl rfl ?_
   refine O_call enters58 rfl rfl rfl (isign_c rfl (hx.ext (e1.trans e2)) (by (try simp only [lens]); omega)) (fun v5 w5 e5 h5 => ?_)
   have z5 := e5.size
   obtain rfl := h5
   refine O_eql rfl rfl rfl rfl rfl ?_
   refine WL_end [(1, _), (2, _), (4, _), (17, _)] ⟨rfl, rfl, rfl, rfl, trivial⟩ ?_
   refine WP_condD rfl (fun c17 => ?_) (fun c17 => ?_)
   · --
    refine WP_seq ?_
    refine WP_region ?_
    refine O_build (cs := [_, _, _]) B26 rfl rfl rfl cells_nil rfl ?_
    refine O_storeA (cs' := [_, _, _]) S26 rfl rfl rfl (b2.ext e5) rfl rfl (one_cons rfl (one_cons rfl (one_cons rfl one_nil))) rfl (fun w6 b6 q6 => ?_)
    have z6 := Nat.le_of_eq q6.size.symm
    have e6 : Ext w w6 := q6.ext ((e1.trans e2).trans e5) (by omega)
    refine O_assign rfl rfl rfl ?_
    refine WL_end [(4, _), (5, _)] ⟨rfl, rfl, trivial⟩ ?_
    refine WP_ret ?_
    refine retL Tryd.results22 (.cell rfl S26 b6 rfl (.tmp rfl .nil)) ?_
    have hx0 : x = 0 := sign_zero_iff.1 c17
    have hc : dcode x e = 0 := by unfold dcode; rw [if_neg (by omega), if_pos hx0]
    obtain ⟨k1, k2⟩ := dman_ok hc
    rw [if_pos hx0] at k2
    rw [hc, k1, k2, hx0, odn_zero]
    exact ⟨_, rfl, e6, _, rfl, by rw [dig0]; exact No.nil _ _ _⟩
   · --
    refine WP_skip ?_
    refine WP_seq ?_
    refine WP_region ?_
    refine O_field F24_1 rfl rfl rfl ?_
    refine O_loadC Tryd.underlying22 rfl rfl rfl rfl ((b1.ext e2).ext e5) rfl ?_
    refine O_call enters59 rfl rfl rfl (zeros_c (hT.ext ((e1.trans e2).trans e5)) (hx.ext ((e1.trans e2).trans e5)) (by (try simp only [lens]); omega)) (fun v7 w7 e7 h7 => ?_)
    have z7 := e7.size
    obtain rfl := h7
    simp only [val_dig]
    have htz := tz_len x
    have hLo := odn_len hlx
    have hLo2 := hLo
    rw [odn_abs] at hLo2
    refine O_assign rfl rfl rfl ?_
    refine WL_end [(1, _), (2, _), (4, _), (6, _)] ⟨rfl, rfl, rfl, rfl, trivial⟩ ?_
    refine WP_seq ?_
    refine WP_sub [(1, _), (2, _), (4, _), (6, _)] ⟨rfl, rfl, rfl, rfl, trivial⟩ ?_
    refine WP_anyR 12 [1, 2, 4, 6] mixed rfl (by kernel_rfl) ?_
    apply AnyR_val [2] rfl (by kernel_rfl)
    · --
     intro y8 hy8
     have zy8 := hy8.size
     refine AllV_nil ?_
     refine O_field F24_0 rfl rfl rfl ?_
     exact WL_nil ⟨(Ext.refl _), rfl⟩
    apply AnyR_val [22] rfl (by kernel_rfl)
    · --
     intro y9 hy9
     have zy9 := hy9.size
     refine AllV_v ?_
     refine AllV_nil ?_
     refine O_loadC Tryd.underlying4 rfl rfl rfl rfl ((((b1.ext e2).ext e5).ext e7).ext hy9) rfl ?_
     exact WL_nil ⟨(Ext.refl _), rfl⟩
    apply AnyR_val [2] rfl (by kernel_rfl)
    · --
     intro y10 hy10
     have zy10 := hy10.size
     refine AllV_nil ?_
     refine O_field F24_1 rfl rfl rfl ?_
     exact WL_nil ⟨(Ext.refl _), rfl⟩
    apply AnyR_val [24] rfl (by kernel_rfl)
    · --
     intro y11 hy11
     have zy11 := hy11.size
     refine AllV_v ?_
     refine AllV_nil ?_
     refine O_loadC Tryd.underlying22 rfl rfl rfl rfl ((((b1.ext e2).ext e5).ext e7).ext hy11) rfl ?_
     exact WL_nil ⟨(Ext.refl _), rfl⟩
    apply AnyR_val [6] rfl (by kernel_rfl)
    · --
     intro y12 hy12
     have zy12 := hy12.size
     refine AllV_nil ?_
     refine O_move rfl rfl rfl ?_
     exact WL_nil ⟨(Ext.refl _), rfl⟩
    apply AnyR_no [25, 26] rfl (by kernel_rfl)
    · --
     intro y13 hy13
     have zy13 := hy13.size
     refine AllV_v ?_
     refine AllV_v ?_
     refine AllV_nil ?_
     refine O_call enters61 rfl rfl rfl (shr_c (hx.ext ((((e1.trans e2).trans e5).trans e7).trans hy13)) (by (try simp only [lens]); omega) (by (try simp only [lens]); omega)) (fun v14 w14 e14 h14 => ?_)
     have z14 := e14.size
     try simp only [val_dig] at h14
     exact WL_nil ⟨e14, _, rfl, NoR.mk' h14⟩
    apply AnyR_rel (RelP (pAgg [pEq _, pNo w7.heap.size 89 _])) [23, 27] rfl (RelP.mono (pAgg_mono (PsM.cons pEq_mono (PsM.cons pNo_mono PsM.nil)))) (by kernel_rfl)
    · --
     intro y15 hy15
     have zy15 := hy15.size
     refine AllV_v ?_
     refine AllV_r fun a16 b16 v16 la16 lb16 lc16 h16 ap16 => ?_
     clear ap16
     refine AllV_nil ?_
     refine O_call enters60 rfl rfl rfl (inat_c h16.1.nl (by (try simp only [lens]); omega)) (fun v17 w17 e17 h17 => ?_)
     have z17 := e17.size
     try simp only [val_dig] at h17
     obtain ⟨q17, rfl, hq17⟩ := h17
     have ho9 : mk (decide (x < 0)) (x.natAbs / 2 ^ tz x.natAbs) = odn x := rfl
     simp only [ho9] at hq17 ⊢
     exact WL_nil ⟨e17, _, rfl, ⟨_, rfl, (AllP.cons rfl (AllP.cons (hq17.mono (by omega)) AllP.nil))⟩⟩
    apply AnyR_val [1] rfl (by kernel_rfl)
    · --
     intro y18 hy18
     have zy18 := hy18.size
     refine AllV_nil ?_
     refine O_move rfl rfl rfl ?_
     exact WL_nil ⟨(Ext.refl _), rfl⟩
    apply AnyR_val [6] rfl (by kernel_rfl)
    · --
     intro y19 hy19
     have zy19 := hy19.size
     refine AllV_nil ?_
     refine O_move rfl rfl rfl ?_
     exact WL_nil ⟨(Ext.refl _), rfl⟩
    apply AnyR_val [29, 30] rfl (by kernel_rfl)
    · --
     intro y20 hy20
     have zy20 := hy20.size
     refine AllV_v ?_
     refine AllV_v ?_
     refine AllV_nil ?_
     refine O_add rfl rfl rfl rfl (wrap_i64_id (by omega) (by omega)) ?_
     exact WL_nil ⟨(Ext.refl _), rfl⟩
    apply AnyR_rel (RelP (pAgg [pEq _, pNo w7.heap.size 89 _, pEq _])) [28, 31] rfl (RelP.mono (pAgg_mono (PsM.cons pEq_mono (PsM.cons pNo_mono (PsM.cons pEq_mono PsM.nil))))) (by kernel_rfl)
    · --
     intro y21 hy21
     have zy21 := hy21.size
     refine AllV_r fun a22 b22 v22 la22 lb22 lc22 h22 ap22 => ?_
     clear ap22
     obtain ⟨_, rfl, v22_0, _, rfl, rfl, v22_1, _, rfl, h22_1, rfl⟩ := h22
     refine AllV_v ?_
     refine AllV_nil ?_
     refine O_build (cs := [_, _, _]) B26 rfl rfl rfl (cells_cons rfl (cells_cons rfl cells_nil)) rfl ?_
     exact WL_nil ⟨(Ext.refl _), _, rfl, ⟨_, rfl, (AllP.cons rfl (AllP.cons (h22_1.mono (by omega)) (AllP.cons rfl AllP.nil)))⟩⟩
    apply AnyR_rel (BkR _ _) [] rfl BkR.mono (by kernel_rfl)
    · --
     intro y23 hy23
     have zy23 := hy23.size
     refine AllV_nil ?_
     refine O_alloc S26 rfl rfl (fun g24 w24 b24 e24 gl24 gh24 => ?_)
     have z24 := e24.size
     exact WL_nil ⟨e24, _, rfl, _, rfl, gl24, gh24, b24⟩
    refine AnyR_nil fun y25 hy25 => ?_
    have zy25 := hy25.size
    refine AllV_v ?_
    refine AllV_v ?_
    refine AllV_v ?_
    refine AllV_v ?_
    refine AllV_v ?_
    refine AllV_r fun a26 b26 v26 la26 lb26 lc26 h26 ap26 => ?_
    clear ap26
    refine AllV_r fun a27 b27 v27 la27 lb27 lc27 h27 ap27 => ?_
    clear ap27
    obtain ⟨_, rfl, v27_0, _, rfl, rfl, v27_1, _, rfl, h27_1, rfl⟩ := h27
    refine AllV_v ?_
    refine AllV_v ?_
    refine AllV_v ?_
    refine AllV_r fun a28 b28 v28 la28 lb28 lc28 h28 ap28 => ?_
    clear ap28
    obtain ⟨_, rfl, v28_0, _, rfl, rfl, v28_1, _, rfl, h28_1, v28_2, _, rfl, rfl, rfl⟩ := h28
    refine AllV_r fun a29 b29 v29 la29 lb29 lc29 h29 ap29 => ?_
    clear ap29
    obtain ⟨g29, rfl, gl29, gh29, b29⟩ := h29
    refine AllV_nil ?_
    refine O_storeA (cs' := [_, _, _]) S26 rfl rfl rfl b29 rfl rfl (one_cons rfl (one_cons (h28_1.nl).one (one_cons rfl one_nil))) rfl (fun w30 b30 q30 => ?_)
    have z30 := Nat.le_of_eq q30.size.symm
    have e30 : Ext w w30 := q30.ext ((((e1.trans e2).trans e5).trans e7).trans hy25) (by omega)
    refine WL_end [(4, _), (7, _)] ⟨rfl, rfl, trivial⟩ ?_
    refine WP_seq ?_
    refine WP_seq ?_
    refine WP_region ?_
    refine O_loadA (vs := [_, _, _]) S26 rfl rfl rfl b30 rfl rfl ?_
    refine O_call enters23 rfl rfl rfl (dval_c rfl (h28_1.chgBk b29 (by decide) q30).nl (by (try simp only [lens]); omega)) (fun v31 w31 e31 h31 => ?_)
    have z31 := e31.size
    obtain rfl := h31
    refine O_not rfl rfl rfl rfl ?_
    refine WL_end [(4, _), (7, _), (35, _)] ⟨rfl, rfl, rfl, trivial⟩ ?_
    refine WP_cond rfl (fun c35 => ?_) (fun c35 => ?_)
    · --
     refine WP_seq ?_
     refine WP_region ?_
     refine O_build (cs := [_, _, _]) B26 rfl rfl rfl cells_nil rfl ?_
     refine O_storeA (cs' := [_, _, _]) S26 rfl rfl rfl (((((b2.ext e5).ext e7).ext hy25).chg q30 (by first | assumption | omega)).ext e31) rfl rfl (one_cons rfl (one_cons rfl (one_cons rfl one_nil))) rfl (fun w32 b32 q32 => ?_)
     have z32 := Nat.le_of_eq q32.size.symm
     have e32 : Ext w w32 := q32.ext (e30.trans e31) (by omega)
     refine O_assign rfl rfl rfl ?_
     refine WL_end [(4, _), (5, _)] ⟨rfl, rfl, trivial⟩ ?_
     refine WP_ret ?_
     refine retL Tryd.results22 (.cell rfl S26 b32 rfl (.tmp rfl .nil)) ?_
     have hx0 : x ≠ 0 := (fun h => c17 (by rw [h]; rfl))
     have hc : dcode x e = 3 := by unfold dcode; rw [if_neg (by omega), if_neg hx0, if_neg (by intro h9; rw [h9] at c35; simp at c35)]
     obtain ⟨k1, k2⟩ := dman_bad (x := x) (e := e) (by omega)
     rw [hc, k1, k2]
     exact ⟨_, rfl, e32, _, rfl, by rw [dig0]; exact No.nil _ _ _⟩
    · --
     refine WP_skip ?_
     refine WP_seq ?_
     refine WP_region ?_
     refine O_loadA (vs := [_, _, _]) S26 rfl rfl rfl (b30.ext e31) rfl rfl ?_
     refine O_storeA (cs' := [_, _, _]) S26 rfl rfl rfl (((((b2.ext e5).ext e7).ext hy25).chg q30 (by first | assumption | omega)).ext e31) rfl rfl (one_cons rfl (one_cons (((h28_1.chgBk b29 (by decide) q30).ext e31).nl).one (one_cons rfl one_nil))) rfl (fun w33 b33 q33 => ?_)
     have z33 := Nat.le_of_eq q33.size.symm
     have e33 : Ext w w33 := q33.ext (e30.trans e31) (by omega)
     refine O_assign rfl rfl rfl ?_
     refine WL_end [(4, _), (5, _)] ⟨rfl, rfl, trivial⟩ ?_
     refine WP_ret ?_
     refine retL Tryd.results22 (.cell rfl S26 b33 rfl (.tmp rfl .nil)) ?_
     have hx0 : x ≠ 0 := (fun h => c17 (by rw [h]; rfl))
     have hc : dcode x e = 0 := by unfold dcode; rw [if_neg (by omega), if_neg hx0, if_pos (by revert c35; cases dval (odn x) (e + ((tz x.natAbs : Nat) : Int)) <;> simp)]
     obtain ⟨k1, k2⟩ := dman_ok hc
     rw [if_neg hx0] at k2
     rw [hc, k1, k2]
     exact ⟨_, rfl, e33, _, rfl, (((h28_1.chgBk b29 (by decide) q30).ext e31).chgBk (((((b2.ext e5).ext e7).ext hy25).chg q30 (by first | assumption | omega)).ext e31) (by decide) q33).mono (by omega)⟩

set_option maxHeartbeats 1000000 in
theorem rdmake_c {w : World} {vx : Value} {x e : Int} {bx : Bool} (hbx : bx = decide (x < 0)) (hx : Nl w vx (dig x.natAbs)) (hlx : (dig x.natAbs).length ≤ 30000) :
    Calls Tryd.prog 11 #[.agg #[.bool bx, vx], .int .i64 e] w (Ret w fun r w' => ∃ q, r = .tuple #[.agg #[.bool (decide ((dman (x) (e)) < 0)), q, .int .i64 (dexp (x) (e))], .int .i64 (dcode (x) (e))] ∧ No w.heap.size 89 w' q (dig (dman (x) (e)).natAbs)) := by
 subst hbx
 refine enter (args := [_, _]) Tryd.func11 rfl Tryd.ntmps11 rfl ?_
 refine WP_seq ?_
 refine WP_region ?_
 refine O_box _ rfl rfl rfl rfl (fun g1 w1 b1 e1 gl1 gh1 => ?_)
 have z1 := e1.size
 refine O_alloc S26 rfl rfl (fun g2 w2 b2 e2 gl2 gh2 => ?_)
 have z2 := e2.size
 refine O_assign rfl rfl rfl ?_
 refine WL_end [(1, _), (2, _), (4, _)] ⟨rfl, rfl, rfl, trivial⟩ ?_
 refine WP_seq ?_
 refine WP_seq ?_
 refine WP_region ?_
 refine O_move rfl rfl rfl ?_
 refine O_lss rfl rfl rfl rfl rfl ?_
 refine O_move rfl rfl rfl ?_
 refine WL_dec 10 rfl (fun g10 => ?_) (fun g10 => ?_)
 · --
  refine O_skip rfl rfl ?_
  refine O_skip rfl rfl ?_
  refine O_pickT rfl rfl rfl rfl ?_
  refine WL_end [(1, _), (2, _), (4, _), (13, _)] ⟨rfl, rfl, rfl, rfl, trivial⟩ ?_
  refine WP_condT rfl ?_
  refine WP_seq ?_
  refine WP_region ?_
  refine O_build (cs := [_, _, _]) B26 rfl rfl rfl cells_nil rfl ?_
  refine O_storeA (cs' := [_, _, _]) S26 rfl rfl rfl b2 rfl rfl (one_cons rfl (one_cons rfl (one_cons rfl one_nil))) rfl (fun w3 b3 q3 => ?_)
  have z3 := Nat.le_of_eq q3.size.symm
  have e3 : Ext w w3 := q3.ext (e1.trans e2) (by omega)
  refine O_assign rfl rfl rfl ?_
  refine WL_end [(4, _), (5, _)] ⟨rfl, rfl, trivial⟩ ?_
  refine WP_ret ?_
  refine retL Tryd.results11 (.cell rfl S26 b3 rfl (.tmp rfl .nil)) ?_
  have hc : dcode x e = 1 := by unfold dcode; rw [if_pos (by omega)]
  obtain ⟨k1, k2⟩ := dman_bad (x := x) (e := e) (by omega)
  rw [hc, k1, k2]
  exact ⟨_, rfl, e3, _, rfl, by rw [dig0]; exact No.nil _ _ _⟩
 · --
  refine O_move rfl rfl rfl ?_
  refine O_gtr rfl rfl rfl rfl rfl ?_
  refine O_pickF rfl rfl rfl rfl ?_
  refine WL_end [(1, _), (2, _), (4, _), (13, _)] ⟨rfl, rfl, rfl, rfl, trivial⟩ ?_
  refine WP_condD rfl (fun c13 => ?_) (fun c13 => ?_)
  · --
   refine WP_seq ?_
   refine WP_region ?_
   refine O_build (cs := [_, _, _]) B26 rfl rfl rfl cells_nil rfl ?_
   refine O_storeA (cs' := [_, _, _]) S26 rfl rfl rfl b2 rfl rfl (one_cons rfl (one_cons rfl (one_cons rfl one_nil))) rfl (fun w4 b4 q4 => ?_)
   have z4 := Nat.le_of_eq q4.size.symm
   have e4 : Ext w w4 := q4.ext (e1.trans e2) (by omega)
   refine O_assign rfl rfl rfl ?_
   refine WL_end [(4, _), (5, _)] ⟨rfl, rfl, trivial⟩ ?_
   refine WP_ret ?_
   refine retL Tryd.results11 (.cell rfl S26 b4 rfl (.tmp rfl .nil)) ?_
   have hc : dcode x e = 1 := by unfold dcode; rw [if_pos (by omega)]
   obtain ⟨k1, k2⟩ := dman_bad (x := x) (e := e) (by omega)
   rw [hc, k1, k2]
   exact ⟨_, rfl, e4, _, rfl, by rw [dig0]; exact No.nil _ _ _⟩
  · --
   refine WP_skip ?_
   refine WP_seq ?_
   refine WP_seq ?_
   refine WP_region ?_
   refine O_field F24_1 rfl rfl rfl ?_
   refine O_loadC Tryd.underlying22 rfl rfl rfl rfl (b1.ext e2) rfl ?_
   refine N_len T22 rfl rfl rfl (hx.ext (e1.trans e2)) ?_
   refine O_eql rfl rfl rfl rfl rfl ?_
   refine WL_end [(1, _), (2, _), (4, _), (18, _)] ⟨rfl, rfl, rfl, rfl, trivial⟩ ?_
   refine WP_condD rfl (fun c18 => ?_) (fun c18 => ?_)
   · --
    refine WP_seq ?_
    refine WP_region ?_
    refine O_build (cs := [_, _, _]) B26 rfl rfl rfl cells_nil rfl ?_
    refine O_storeA (cs' := [_, _, _]) S26 rfl rfl rfl b2 rfl rfl (one_cons rfl (one_cons rfl (one_cons rfl one_nil))) rfl (fun w5 b5 q5 => ?_)
    have z5 := Nat.le_of_eq q5.size.symm
    have e5 : Ext w w5 := q5.ext (e1.trans e2) (by omega)
    refine O_assign rfl rfl rfl ?_
    refine WL_end [(4, _), (5, _)] ⟨rfl, rfl, trivial⟩ ?_
    refine WP_ret ?_
    refine retL Tryd.results11 (.cell rfl S26 b5 rfl (.tmp rfl .nil)) ?_
    have hx0 : x = 0 := by have := dig_len_zero (n := x.natAbs); omega
    have hc : dcode x e = 0 := by unfold dcode; rw [if_neg (by omega), if_pos hx0]
    obtain ⟨k1, k2⟩ := dman_ok hc
    rw [if_pos hx0] at k2
    rw [hc, k1, k2, hx0, odn_zero]
    exact ⟨_, rfl, e5, _, rfl, by rw [dig0]; exact No.nil _ _ _⟩
   · --
    refine WP_skip ?_
    refine WP_seq ?_
    refine WP_region ?_
    refine O_field F24_1 rfl rfl rfl ?_
    refine O_loadC Tryd.underlying22 rfl rfl rfl rfl (b1.ext e2) rfl ?_
    refine O_call enters46 rfl rfl rfl (rzeros_c (hx.ext (e1.trans e2)) (by (try simp only [lens]); omega)) (fun v6 w6 e6 h6 => ?_)
    have z6 := e6.size
    obtain rfl := h6
    simp only [val_dig]
    have htz := tz_len x
    have hLo := odn_len hlx
    have hLo2 := hLo
    rw [odn_abs] at hLo2
    refine O_assign rfl rfl rfl ?_
    refine WL_end [(1, _), (2, _), (4, _), (6, _)] ⟨rfl, rfl, rfl, rfl, trivial⟩ ?_
    refine WP_seq ?_
    refine WP_sub [(1, _), (2, _), (4, _), (6, _)] ⟨rfl, rfl, rfl, rfl, trivial⟩ ?_
    refine WP_anyR 12 [1, 2, 4, 6] mixed rfl (by kernel_rfl) ?_
    apply AnyR_val [2] rfl (by kernel_rfl)
    · --
     intro y7 hy7
     have zy7 := hy7.size
     refine AllV_nil ?_
     refine O_field F24_0 rfl rfl rfl ?_
     exact WL_nil ⟨(Ext.refl _), rfl⟩
    apply AnyR_val [23] rfl (by kernel_rfl)
    · --
     intro y8 hy8
     have zy8 := hy8.size
     refine AllV_v ?_
     refine AllV_nil ?_
     refine O_loadC Tryd.underlying4 rfl rfl rfl rfl (((b1.ext e2).ext e6).ext hy8) rfl ?_
     exact WL_nil ⟨(Ext.refl _), rfl⟩
    apply AnyR_val [2] rfl (by kernel_rfl)
    · --
     intro y9 hy9
     have zy9 := hy9.size
     refine AllV_nil ?_
     refine O_field F24_1 rfl rfl rfl ?_
     exact WL_nil ⟨(Ext.refl _), rfl⟩
    apply AnyR_val [25] rfl (by kernel_rfl)
    · --
     intro y10 hy10
     have zy10 := hy10.size
     refine AllV_v ?_
     refine AllV_nil ?_
     refine O_loadC Tryd.underlying22 rfl rfl rfl rfl (((b1.ext e2).ext e6).ext hy10) rfl ?_
     exact WL_nil ⟨(Ext.refl _), rfl⟩
    apply AnyR_val [6] rfl (by kernel_rfl)
    · --
     intro y11 hy11
     have zy11 := hy11.size
     refine AllV_nil ?_
     refine O_move rfl rfl rfl ?_
     exact WL_nil ⟨(Ext.refl _), rfl⟩
    apply AnyR_no [26, 27] rfl (by kernel_rfl)
    · --
     intro y12 hy12
     have zy12 := hy12.size
     refine AllV_v ?_
     refine AllV_v ?_
     refine AllV_nil ?_
     refine O_call enters48 rfl rfl rfl (rshr_c (hx.ext (((e1.trans e2).trans e6).trans hy12)) (by (try simp only [lens]); omega) (by (try simp only [lens]); omega)) (fun v13 w13 e13 h13 => ?_)
     have z13 := e13.size
     try simp only [val_dig] at h13
     exact WL_nil ⟨e13, _, rfl, NoR.mk' h13⟩
    apply AnyR_rel (RelP (pAgg [pEq _, pNo w6.heap.size 89 _])) [24, 28] rfl (RelP.mono (pAgg_mono (PsM.cons pEq_mono (PsM.cons pNo_mono PsM.nil)))) (by kernel_rfl)
    · --
     intro y14 hy14
     have zy14 := hy14.size
     refine AllV_v ?_
     refine AllV_r fun a15 b15 v15 la15 lb15 lc15 h15 ap15 => ?_
     clear ap15
     refine AllV_nil ?_
     refine O_call enters47 rfl rfl rfl (rinat_c h15.1.nl (by (try simp only [lens]); omega)) (fun v16 w16 e16 h16 => ?_)
     have z16 := e16.size
     try simp only [val_dig] at h16
     obtain ⟨q16, rfl, hq16⟩ := h16
     have ho9 : mk (decide (x < 0)) (x.natAbs / 2 ^ tz x.natAbs) = odn x := rfl
     simp only [ho9] at hq16 ⊢
     exact WL_nil ⟨e16, _, rfl, ⟨_, rfl, (AllP.cons rfl (AllP.cons (hq16.mono (by omega)) AllP.nil))⟩⟩
    apply AnyR_val [1] rfl (by kernel_rfl)
    · --
     intro y17 hy17
     have zy17 := hy17.size
     refine AllV_nil ?_
     refine O_move rfl rfl rfl ?_
     exact WL_nil ⟨(Ext.refl _), rfl⟩
    apply AnyR_val [6] rfl (by kernel_rfl)
    · --
     intro y18 hy18
     have zy18 := hy18.size
     refine AllV_nil ?_
     refine O_move rfl rfl rfl ?_
     exact WL_nil ⟨(Ext.refl _), rfl⟩
    apply AnyR_val [30, 31] rfl (by kernel_rfl)
    · --
     intro y19 hy19
     have zy19 := hy19.size
     refine AllV_v ?_
     refine AllV_v ?_
     refine AllV_nil ?_
     refine O_add rfl rfl rfl rfl (wrap_i64_id (by omega) (by omega)) ?_
     exact WL_nil ⟨(Ext.refl _), rfl⟩
    apply AnyR_rel (RelP (pAgg [pEq _, pNo w6.heap.size 89 _, pEq _])) [29, 32] rfl (RelP.mono (pAgg_mono (PsM.cons pEq_mono (PsM.cons pNo_mono (PsM.cons pEq_mono PsM.nil))))) (by kernel_rfl)
    · --
     intro y20 hy20
     have zy20 := hy20.size
     refine AllV_r fun a21 b21 v21 la21 lb21 lc21 h21 ap21 => ?_
     clear ap21
     obtain ⟨_, rfl, v21_0, _, rfl, rfl, v21_1, _, rfl, h21_1, rfl⟩ := h21
     refine AllV_v ?_
     refine AllV_nil ?_
     refine O_build (cs := [_, _, _]) B26 rfl rfl rfl (cells_cons rfl (cells_cons rfl cells_nil)) rfl ?_
     exact WL_nil ⟨(Ext.refl _), _, rfl, ⟨_, rfl, (AllP.cons rfl (AllP.cons (h21_1.mono (by omega)) (AllP.cons rfl AllP.nil)))⟩⟩
    apply AnyR_rel (BkR _ _) [] rfl BkR.mono (by kernel_rfl)
    · --
     intro y22 hy22
     have zy22 := hy22.size
     refine AllV_nil ?_
     refine O_alloc S26 rfl rfl (fun g23 w23 b23 e23 gl23 gh23 => ?_)
     have z23 := e23.size
     exact WL_nil ⟨e23, _, rfl, _, rfl, gl23, gh23, b23⟩
    refine AnyR_nil fun y24 hy24 => ?_
    have zy24 := hy24.size
    refine AllV_v ?_
    refine AllV_v ?_
    refine AllV_v ?_
    refine AllV_v ?_
    refine AllV_v ?_
    refine AllV_r fun a25 b25 v25 la25 lb25 lc25 h25 ap25 => ?_
    clear ap25
    refine AllV_r fun a26 b26 v26 la26 lb26 lc26 h26 ap26 => ?_
    clear ap26
    obtain ⟨_, rfl, v26_0, _, rfl, rfl, v26_1, _, rfl, h26_1, rfl⟩ := h26
    refine AllV_v ?_
    refine AllV_v ?_
    refine AllV_v ?_
    refine AllV_r fun a27 b27 v27 la27 lb27 lc27 h27 ap27 => ?_
    clear ap27
    obtain ⟨_, rfl, v27_0, _, rfl, rfl, v27_1, _, rfl, h27_1, v27_2, _, rfl, rfl, rfl⟩ := h27
    refine AllV_r fun a28 b28 v28 la28 lb28 lc28 h28 ap28 => ?_
    clear ap28
    obtain ⟨g28, rfl, gl28, gh28, b28⟩ := h28
    refine AllV_nil ?_
    refine O_storeA (cs' := [_, _, _]) S26 rfl rfl rfl b28 rfl rfl (one_cons rfl (one_cons (h27_1.nl).one (one_cons rfl one_nil))) rfl (fun w29 b29 q29 => ?_)
    have z29 := Nat.le_of_eq q29.size.symm
    have e29 : Ext w w29 := q29.ext (((e1.trans e2).trans e6).trans hy24) (by omega)
    refine WL_end [(4, _), (7, _)] ⟨rfl, rfl, trivial⟩ ?_
    refine WP_seq ?_
    refine WP_seq ?_
    refine WP_region ?_
    refine O_loadA (vs := [_, _, _]) S26 rfl rfl rfl b29 rfl rfl ?_
    refine O_call enters24 rfl rfl rfl (rdval_c rfl (h27_1.chgBk b28 (by decide) q29).nl (by (try simp only [lens]); omega)) (fun v30 w30 e30 h30 => ?_)
    have z30 := e30.size
    obtain rfl := h30
    refine O_not rfl rfl rfl rfl ?_
    refine WL_end [(4, _), (7, _), (36, _)] ⟨rfl, rfl, rfl, trivial⟩ ?_
    refine WP_cond rfl (fun c36 => ?_) (fun c36 => ?_)
    · --
     refine WP_seq ?_
     refine WP_region ?_
     refine O_build (cs := [_, _, _]) B26 rfl rfl rfl cells_nil rfl ?_
     refine O_storeA (cs' := [_, _, _]) S26 rfl rfl rfl ((((b2.ext e6).ext hy24).chg q29 (by first | assumption | omega)).ext e30) rfl rfl (one_cons rfl (one_cons rfl (one_cons rfl one_nil))) rfl (fun w31 b31 q31 => ?_)
     have z31 := Nat.le_of_eq q31.size.symm
     have e31 : Ext w w31 := q31.ext (e29.trans e30) (by omega)
     refine O_assign rfl rfl rfl ?_
     refine WL_end [(4, _), (5, _)] ⟨rfl, rfl, trivial⟩ ?_
     refine WP_ret ?_
     refine retL Tryd.results11 (.cell rfl S26 b31 rfl (.tmp rfl .nil)) ?_
     have hx0 : x ≠ 0 := (fun h => c18 (by rw [h, dig0]; rfl))
     have hc : dcode x e = 3 := by unfold dcode; rw [if_neg (by omega), if_neg hx0, if_neg (by intro h9; rw [h9] at c36; simp at c36)]
     obtain ⟨k1, k2⟩ := dman_bad (x := x) (e := e) (by omega)
     rw [hc, k1, k2]
     exact ⟨_, rfl, e31, _, rfl, by rw [dig0]; exact No.nil _ _ _⟩
    · --
     refine WP_skip ?_
     refine WP_seq ?_
     refine WP_region ?_
     refine O_loadA (vs := [_, _, _]) S26 rfl rfl rfl (b29.ext e30) rfl rfl ?_
     refine O_storeA (cs' := [_, _, _]) S26 rfl rfl rfl ((((b2.ext e6).ext hy24).chg q29 (by first | assumption | omega)).ext e30) rfl rfl (one_cons rfl (one_cons (((h27_1.chgBk b28 (by decide) q29).ext e30).nl).one (one_cons rfl one_nil))) rfl (fun w32 b32 q32 => ?_)
     have z32 := Nat.le_of_eq q32.size.symm
     have e32 : Ext w w32 := q32.ext (e29.trans e30) (by omega)
     refine O_assign rfl rfl rfl ?_
     refine WL_end [(4, _), (5, _)] ⟨rfl, rfl, trivial⟩ ?_
     refine WP_ret ?_
     refine retL Tryd.results11 (.cell rfl S26 b32 rfl (.tmp rfl .nil)) ?_
     have hx0 : x ≠ 0 := (fun h => c18 (by rw [h, dig0]; rfl))
     have hc : dcode x e = 0 := by unfold dcode; rw [if_neg (by omega), if_neg hx0, if_pos (by revert c36; cases dval (odn x) (e + ((tz x.natAbs : Nat) : Int)) <;> simp)]
     obtain ⟨k1, k2⟩ := dman_ok hc
     rw [if_neg hx0] at k2
     rw [hc, k1, k2]
     exact ⟨_, rfl, e32, _, rfl, (((h27_1.chgBk b28 (by decide) q29).ext e30).chgBk ((((b2.ext e6).ext hy24).chg q29 (by first | assumption | omega)).ext e30) (by decide) q32).mono (by omega)⟩

theorem dexact_c {w : World} {vx : Value} {x e : Int} {bx : Bool} (hbx : bx = decide (x < 0)) (hx : Nl w vx (dig x.natAbs)) (hlx : (dig x.natAbs).length ≤ 30000) (hT : Tab w) :
    Calls Tryd.prog 49 #[.agg #[.bool bx, vx], .int .i64 e] w (Ret w fun r w' => ∃ q, r = .tuple #[.agg #[.bool (decide ((dman (x) (e)) < 0)), q, .int .i64 (dexp (x) (e))], .int .i64 (dcode3 (x) (e))] ∧ No w.heap.size 89 w' q (dig (dman (x) (e)).natAbs)) := by
 subst hbx
 refine enter (args := [_, _]) Tryd.func49 rfl Tryd.ntmps49 rfl ?_
 refine WP_seq ?_
 refine WP_region ?_
 refine O_box _ rfl rfl rfl rfl (fun g1 w1 b1 e1 gl1 gh1 => ?_)
 have z1 := e1.size
 refine O_alloc S26 rfl rfl (fun g2 w2 b2 e2 gl2 gh2 => ?_)
 have z2 := e2.size
 refine O_assign rfl rfl rfl ?_
 refine WL_end [(1, _), (2, _), (4, _)] ⟨rfl, rfl, rfl, trivial⟩ ?_
 refine WP_seq ?_
 refine WP_region ?_
 refine O_loadA (vs := [_, _]) S24 rfl rfl rfl (b1.ext e2) rfl rfl ?_
 refine O_move rfl rfl rfl ?_
 refine O_call enters22 rfl rfl rfl (dmake_c rfl (hx.ext (e1.trans e2)) (by (try simp only [lens]); omega) (hT.ext (e1.trans e2))) (fun v3 w3 e3 h3 => ?_)
 have z3 := e3.size
 try simp only [val_dig] at h3
 obtain ⟨q3, rfl, hq3⟩ := h3
 refine O_move rfl rfl rfl ?_
 refine O_extract rfl rfl rfl rfl ?_
 refine O_extract rfl rfl rfl rfl ?_
 refine O_alloc S26 rfl rfl (fun g4 w4 b4 e4 gl4 gh4 => ?_)
 have z4 := e4.size
 refine O_storeA (cs' := [_, _, _]) S26 rfl rfl rfl b4 rfl rfl (one_cons rfl (one_cons ((hq3.ext e4).nl).one (one_cons rfl one_nil))) rfl (fun w5 b5 q5 => ?_)
 have z5 := Nat.le_of_eq q5.size.symm
 have e5 : Ext w w5 := q5.ext (((e1.trans e2).trans e3).trans e4) (by omega)
 refine O_assign rfl rfl rfl ?_
 refine WL_end [(4, _), (6, _), (7, _)] ⟨rfl, rfl, rfl, trivial⟩ ?_
 refine WP_seq ?_
 refine WP_seq ?_
 refine WP_region ?_
 refine O_move rfl rfl rfl ?_
 refine O_neq rfl rfl rfl rfl rfl ?_
 refine WL_end [(4, _), (6, _), (15, _)] ⟨rfl, rfl, rfl, trivial⟩ ?_
 refine WP_condN rfl (fun c15 => ?_) (fun c15 => ?_)
 · --
  refine WP_seq ?_
  refine WP_region ?_
  refine O_build (cs := [_, _, _]) B26 rfl rfl rfl cells_nil rfl ?_
  refine O_storeA (cs' := [_, _, _]) S26 rfl rfl rfl (((b2.ext e3).ext e4).chg q5 (by first | assumption | omega)) rfl rfl (one_cons rfl (one_cons rfl (one_cons rfl one_nil))) rfl (fun w6 b6 q6 => ?_)
  have z6 := Nat.le_of_eq q6.size.symm
  have e6 : Ext w w6 := q6.ext e5 (by omega)
  refine O_assign rfl rfl rfl ?_
  refine WL_end [(4, _), (5, _)] ⟨rfl, rfl, trivial⟩ ?_
  refine WP_ret ?_
  refine retL Tryd.results49 (.cell rfl S26 b6 rfl (.tmp rfl .nil)) ?_
  have hc : dcode3 x e = 3 := if_neg c15
  obtain ⟨k1, k2⟩ := dman_bad c15
  rw [hc, k1, k2]
  exact ⟨_, rfl, e6, _, rfl, by rw [dig0]; exact No.nil _ _ _⟩
 · --
  refine WP_skip ?_
  refine WP_seq ?_
  refine WP_region ?_
  refine O_loadA (vs := [_, _, _]) S26 rfl rfl rfl b5 rfl rfl ?_
  refine O_storeA (cs' := [_, _, _]) S26 rfl rfl rfl (((b2.ext e3).ext e4).chg q5 (by first | assumption | omega)) rfl rfl (one_cons rfl (one_cons (((hq3.ext e4).chgBk b4 (by decide) q5).nl).one (one_cons rfl one_nil))) rfl (fun w7 b7 q7 => ?_)
  have z7 := Nat.le_of_eq q7.size.symm
  have e7 : Ext w w7 := q7.ext e5 (by omega)
  refine O_assign rfl rfl rfl ?_
  refine WL_end [(4, _), (5, _)] ⟨rfl, rfl, trivial⟩ ?_
  refine WP_ret ?_
  refine retL Tryd.results49 (.cell rfl S26 b7 rfl (.tmp rfl .nil)) ?_
  have hc : dcode3 x e = 0 := if_pos (by omega)
  rw [hc]
  exact ⟨_, rfl, e7, _, rfl, (((hq3.ext e4).chgBk b4 (by decide) q5).chgBk (((b2.ext e3).ext e4).chg q5 (by first | assumption | omega)) (by decide) q7).mono (by omega)⟩

theorem dof_c {w : World} {n : Int} (h1 : -9223372036854775808 ≤ n) (h2 : n ≤ 9223372036854775807) (hT : Tab w) :
    Calls Tryd.prog 25 #[.int .i64 n] w (Ret w fun r w' => ∃ q, r = .agg #[.bool (decide ((dman n 0) < 0)), q, .int .i64 (dexp n 0)] ∧ No w.heap.size 89 w' q (dig (dman n 0).natAbs)) := by
 refine enter (args := [_]) Tryd.func25 rfl Tryd.ntmps25 rfl ?_
 refine WP_seq ?_
 refine WP_region ?_
 refine O_alloc S26 rfl rfl (fun g1 w1 b1 e1 gl1 gh1 => ?_)
 have z1 := e1.size
 refine WL_end [(0, _), (2, _)] ⟨rfl, rfl, trivial⟩ ?_
 refine WP_seq ?_
 refine WP_region ?_
 refine O_move rfl rfl rfl ?_
 refine O_call enters43 rfl rfl rfl (iof_c (by (try simp only [lens]); omega) (by (try simp only [lens]); omega)) (fun v2 w2 e2 h2 => ?_)
 have z2 := e2.size
 try simp only [val_dig] at h2
 obtain ⟨q2, rfl, hq2⟩ := h2
 have hLn : (dig n.natAbs).length ≤ 2 := dig_len_of_lt (Nat.lt_of_le_of_lt (show n.natAbs ≤ 9223372036854775808 by omega) (by decide))
 refine O_call enters22 rfl rfl rfl (dmake_c rfl hq2.nl (by (try simp only [lens]); omega) (hT.ext (e1.trans e2))) (fun v3 w3 e3 h3 => ?_)
 have z3 := e3.size
 try simp only [val_dig] at h3
 obtain ⟨q3, rfl, hq3⟩ := h3
 refine O_move rfl rfl rfl ?_
 refine O_extract rfl rfl rfl rfl ?_
 refine O_extract rfl rfl rfl rfl ?_
 refine O_alloc S26 rfl rfl (fun g4 w4 b4 e4 gl4 gh4 => ?_)
 have z4 := e4.size
 refine O_storeA (cs' := [_, _, _]) S26 rfl rfl rfl b4 rfl rfl (one_cons rfl (one_cons ((hq3.ext e4).nl).one (one_cons rfl one_nil))) rfl (fun w5 b5 q5 => ?_)
 have z5 := Nat.le_of_eq q5.size.symm
 have e5 : Ext w w5 := q5.ext (((e1.trans e2).trans e3).trans e4) (by omega)
 refine O_assign rfl rfl rfl ?_
 refine WL_end [(2, _), (3, _)] ⟨rfl, rfl, trivial⟩ ?_
 refine WP_seq ?_
 refine WP_region ?_
 refine O_loadA (vs := [_, _, _]) S26 rfl rfl rfl b5 rfl rfl ?_
 refine O_storeA (cs' := [_, _, _]) S26 rfl rfl rfl ((((b1.ext e2).ext e3).ext e4).chg q5 (by first | assumption | omega)) rfl rfl (one_cons rfl (one_cons (((hq3.ext e4).chgBk b4 (by decide) q5).nl).one (one_cons rfl one_nil))) rfl (fun w6 b6 q6 => ?_)
 have z6 := Nat.le_of_eq q6.size.symm
 have e6 : Ext w w6 := q6.ext e5 (by omega)
 refine WL_end [(2, _)] ⟨rfl, trivial⟩ ?_
 refine WP_ret ?_
 refine retL Tryd.results25 (.cell rfl S26 b6 rfl .nil) ?_
 exact ⟨_, rfl, e6, _, rfl, (((hq3.ext e4).chgBk b4 (by decide) q5).chgBk ((((b1.ext e2).ext e3).ext e4).chg q5 (by first | assumption | omega)) (by decide) q6).mono (by omega)⟩

theorem rdof_c {w : World} {n : Int} (h1 : -9223372036854775808 ≤ n) (h2 : n ≤ 9223372036854775807) :
    Calls Tryd.prog 26 #[.int .i64 n] w (Ret w fun r w' => ∃ q, r = .agg #[.bool (decide ((dman n 0) < 0)), q, .int .i64 (dexp n 0)] ∧ No w.heap.size 89 w' q (dig (dman n 0).natAbs)) := by
 refine enter (args := [_]) Tryd.func26 rfl Tryd.ntmps26 rfl ?_
 refine WP_seq ?_
 refine WP_region ?_
 refine O_alloc S26 rfl rfl (fun g1 w1 b1 e1 gl1 gh1 => ?_)
 have z1 := e1.size
 refine WL_end [(0, _), (2, _)] ⟨rfl, rfl, trivial⟩ ?_
 refine WP_seq ?_
 refine WP_region ?_
 refine O_move rfl rfl rfl ?_
 refine O_call enters45 rfl rfl rfl (riof_c (by (try simp only [lens]); omega) (by (try simp only [lens]); omega)) (fun v2 w2 e2 h2 => ?_)
 have z2 := e2.size
 try simp only [val_dig] at h2
 obtain ⟨q2, rfl, hq2⟩ := h2
 have hLn : (dig n.natAbs).length ≤ 2 := dig_len_of_lt (Nat.lt_of_le_of_lt (show n.natAbs ≤ 9223372036854775808 by omega) (by decide))
 refine O_call enters11 rfl rfl rfl (rdmake_c rfl hq2.nl (by (try simp only [lens]); omega)) (fun v3 w3 e3 h3 => ?_)
 have z3 := e3.size
 try simp only [val_dig] at h3
 obtain ⟨q3, rfl, hq3⟩ := h3
 refine O_move rfl rfl rfl ?_
 refine O_extract rfl rfl rfl rfl ?_
 refine O_extract rfl rfl rfl rfl ?_
 refine O_alloc S26 rfl rfl (fun g4 w4 b4 e4 gl4 gh4 => ?_)
 have z4 := e4.size
 refine O_storeA (cs' := [_, _, _]) S26 rfl rfl rfl b4 rfl rfl (one_cons rfl (one_cons ((hq3.ext e4).nl).one (one_cons rfl one_nil))) rfl (fun w5 b5 q5 => ?_)
 have z5 := Nat.le_of_eq q5.size.symm
 have e5 : Ext w w5 := q5.ext (((e1.trans e2).trans e3).trans e4) (by omega)
 refine O_assign rfl rfl rfl ?_
 refine WL_end [(2, _), (3, _)] ⟨rfl, rfl, trivial⟩ ?_
 refine WP_seq ?_
 refine WP_region ?_
 refine O_loadA (vs := [_, _, _]) S26 rfl rfl rfl b5 rfl rfl ?_
 refine O_storeA (cs' := [_, _, _]) S26 rfl rfl rfl ((((b1.ext e2).ext e3).ext e4).chg q5 (by first | assumption | omega)) rfl rfl (one_cons rfl (one_cons (((hq3.ext e4).chgBk b4 (by decide) q5).nl).one (one_cons rfl one_nil))) rfl (fun w6 b6 q6 => ?_)
 have z6 := Nat.le_of_eq q6.size.symm
 have e6 : Ext w w6 := q6.ext e5 (by omega)
 refine WL_end [(2, _)] ⟨rfl, trivial⟩ ?_
 refine WP_ret ?_
 refine retL Tryd.results26 (.cell rfl S26 b6 rfl .nil) ?_
 exact ⟨_, rfl, e6, _, rfl, (((hq3.ext e4).chgBk b4 (by decide) q5).chgBk ((((b1.ext e2).ext e3).ext e4).chg q5 (by first | assumption | omega)) (by decide) q6).mono (by omega)⟩

end Go.Proofs.YtnfnadhbjdcbnaaDoor
