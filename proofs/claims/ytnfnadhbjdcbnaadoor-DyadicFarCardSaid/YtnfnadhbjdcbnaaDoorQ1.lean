/-
  Walks.
-/
import Derived.Test.YtnfnadhbjdcbnaaDoorNat4
import Derived.Test.YtnfnadhbjdcbnaaDoorDops
import Derived.Test.YtnfnadhbjdcbnaaDoorView
set_option linter.unusedVariables false
set_option linter.unusedSimpArgs false
set_option maxRecDepth 100000
namespace Go.Proofs.YtnfnadhbjdcbnaaDoor
open Go Go.RowKit
theorem val_drop_sz {l : List Nat} (hd : D l) {k : Nat} (h : sz l ≤ k) : val (l.drop k) = 0 := by
  have h0 : val (l.drop (sz l)) = 0 := by
    have h1 := val_split l (sz l)
    rw [val_take_sz hd, val_dig] at h1
    have h2 : 0 = 4294967296 ^ sz l * val (l.drop (sz l)) := Nat.add_left_cancel (n := val l) (by rw [Nat.add_zero]; exact h1)
    rcases Nat.mul_eq_zero.1 h2.symm with h3 | h3
    · exact absurd h3 (Nat.ne_of_gt (Nat.pow_pos (by decide)))
    · exact h3
  have h1 : ∀ m, val (l.drop (sz l + m)) = 0 := by
    intro m
    induction m with
    | zero => exact h0
    | succ m ih => rw [val_drop] at ih; rw [← Nat.add_assoc]; omega
  have h2 := h1 (k - sz l)
  rwa [show sz l + (k - sz l) = k from by omega] at h2
theorem val_le2 {l : List Nat} (hd : D l) (h : sz l ≤ 2) : val l = l.getD 0 0 + 4294967296 * l.getD 1 0 := by
  have h1 := val_drop l 0
  have h2 := val_drop l 1
  rw [val_drop_sz hd h] at h2
  rw [List.drop_zero] at h1
  rw [h1, h2]; omega
theorem val_ge3 {l : List Nat} (h : 2 < sz l) : 18446744073709551616 ≤ val l := by
  rcases Nat.lt_or_ge (val l) (4294967296 ^ 2) with h1 | h1
  · have := dig_len_of_lt h1
    unfold sz at h
    omega
  · exact h1
theorem val_sz_le1 {l : List Nat} (hd : D l) (h : sz l ≤ 1) : val l = l.getD 0 0 := by
  rw [val_le2 hd (by omega), getD_sz hd h]; omega
def uv (n : Nat) : Nat := if n < 18446744073709551616 then n else 0
theorem uv_lt {n : Nat} (h : n < 18446744073709551616) : uv n = n := if_pos h
theorem uv_ge {n : Nat} (h : 18446744073709551616 ≤ n) : uv n = 0 := if_neg (by omega)
theorem shl32 {x : Nat} (hx : x < 4294967296) : IntKind.u64.wrap ((x : Int) * 2 ^ (min (Int.toNat 32) IntKind.u64.bits)) = ((x * 4294967296 : Nat) : Int) := by
  rw [wrap_u64, show min (Int.toNat 32) IntKind.u64.bits = 32 from rfl]; omega
theorem or_add {x y : Nat} (hy : y < 4294967296) : x * 4294967296 ||| y = x * 4294967296 + y := by
  have h := Nat.shiftLeft_add_eq_or_of_lt (a := x) (b := y) (i := 32) (by omega)
  rw [Nat.shiftLeft_eq] at h
  exact h.symm
theorem shlB {k x : Nat} (hk : k ≤ 1) (hx : x < 4294967296) : IntKind.u64.wrap ((x : Int) * 2 ^ (min (Int.toNat (32 * (k : Int))) IntKind.u64.bits)) = ((4294967296 ^ k * x : Nat) : Int) := by
  rcases Nat.lt_or_ge k 1 with h | h
  · obtain rfl : k = 0 := by omega
    rw [wrap_u64, show min (Int.toNat (32 * ((0 : Nat) : Int))) IntKind.u64.bits = 0 from rfl]; omega
  · obtain rfl : k = 1 := by omega
    rw [wrap_u64, show min (Int.toNat (32 * ((1 : Nat) : Int))) IntKind.u64.bits = 32 from rfl]; omega
theorem add_take {l : List Nat} {k : Nat} (hd : D l) (hk : k ≤ 1) : IntKind.u64.wrap ((val (l.take k) : Int) + ((4294967296 ^ k * l.getD k 0 : Nat) : Int)) = ((val (l.take (k + 1)) : Nat) : Int) := by
  have h0 := hd.getD 0
  have h1 := hd.getD 1
  have e1 : val (l.take 1) = l.getD 0 0 := by rw [val_take_succ']; simp [val]
  rcases Nat.lt_or_ge k 1 with h | h
  · obtain rfl : k = 0 := by omega
    rw [wrap_u64, e1, show val (l.take 0) = 0 from by simp [val]]; omega
  · obtain rfl : k = 1 := by omega
    rw [wrap_u64, show val (l.take (1 + 1)) = val (l.take 1) + 4294967296 ^ 1 * l.getD 1 0 from val_take_succ' l 1, e1]; omega
def validv (l : List Nat) : Bool := decide (sz l = l.length)
theorem validv_dig (n : Nat) : validv (dig n) = true := decide_eq_true (sz_dig n)
theorem validv_nil : validv [] = true := by rw [← dig_zero]; exact validv_dig 0
theorem validv_top {l : List Nat} (hd : D l) (h : l ≠ []) : validv l = decide (l.getD (l.length - 1) 0 ≠ 0) := by
  have hp : 0 < l.length := List.length_pos_iff.2 h
  apply decide_eq_decide.2
  constructor
  · intro h1 h2
    have h3 := top_ne_zero hd (by omega)
    rw [h1] at h3
    exact h3 h2
  · intro h1
    have h3 := sz_take_pos hd (k := l.length - 1) (by omega) h1
    rw [show l.length - 1 + 1 = l.length from by omega, List.take_length] at h3
    exact h3

theorem borrow_step {A O Y c c' x y d k : Nat} (h : A + 4294967296 ^ k * c = O + Y) (hd : x + 4294967296 * c' = d + y + c) :
    A + 4294967296 ^ k * x + 4294967296 ^ (k + 1) * c' = O + 4294967296 ^ k * d + (Y + 4294967296 ^ k * y) := by
  rw [Nat.pow_succ]
  generalize 4294967296 ^ k = P at *
  have h1 : P * (x + 4294967296 * c') = P * (d + y + c) := by rw [hd]
  rw [Nat.mul_add, Nat.mul_add, Nat.mul_add, ← Nat.mul_assoc] at h1
  omega
theorem take_all_sz {l : List Nat} (hd : D l) {k : Nat} (h : sz l ≤ k) : val (l.take k) = val l := by
  have h1 := val_split l k
  rw [val_drop_sz hd h] at h1
  rw [h1]; simp
theorem no_borrow {la lb lo : List Nat} {k c : Nat} (ha : D la) (hb : D lb) (ho : D lo) (hk : lo.length ≤ k) (hka : sz la ≤ k) (hle : val lb ≤ val la) (hc : c ≤ 1)
    (h : val (la.take k) + 4294967296 ^ k * c = val lo + val (lb.take k)) : val lo = val la - val lb := by
  have hkb : sz lb ≤ k := Nat.le_trans (by unfold sz; exact dig_len_mono hle) hka
  rw [take_all_sz ha hka, take_all_sz hb hkb] at h
  have h1 := val_lt_pow ho hk
  generalize 4294967296 ^ k = P at *
  rcases Nat.lt_or_ge c 1 with h2 | h2
  · obtain rfl : c = 0 := by omega
    omega
  · obtain rfl : c = 1 := by omega
    omega
theorem cmpv_nlt {a b : Nat} (h : ¬ cmpv a b < 0) : b ≤ a := by
  rcases Nat.lt_or_ge a b with h1 | h1
  · exact absurd (cmpv_lt_zero.2 h1) h
  · exact h1

theorem cmp_c {w : World} {va vb : Value} {la lb : List Nat} (ha : Nl w va la) (hb : Nl w vb lb) :
    Calls Tryd.prog 94 #[va, vb] w (Ret w fun r _ => r = .int .i64 (cmpv (val la) (val lb))) := by
 have hsa := sz_le ha.d
 have hsb := sz_le hb.d
 have hla := ha.len_le
 have hlb := hb.len_le
 refine enter (args := [va, vb]) Tryd.func94 rfl Tryd.ntmps94 rfl ?_
 refine WP_seq ?_
 refine WP_region ?_
 refine O_assign rfl rfl rfl ?_
 refine WL_end [(0, _), (1, _)] ⟨rfl, rfl, trivial⟩ ?_
 refine WP_seq ?_
 refine WP_region ?_
 refine O_move rfl rfl rfl ?_
 refine O_call enters99 rfl rfl rfl (size_c ha) (fun v1 w1 e1 h1 => ?_)
 have z1 := e1.size
 obtain rfl := h1
 refine O_move rfl rfl rfl ?_
 refine O_call enters99 rfl rfl rfl (size_c (hb.ext e1)) (fun v2 w2 e2 h2 => ?_)
 have z2 := e2.size
 obtain rfl := h2
 refine O_assign rfl rfl rfl ?_
 refine O_assign rfl rfl rfl ?_
 refine WL_end [(0, _), (1, _), (5, _), (6, _)] ⟨rfl, rfl, rfl, rfl, trivial⟩ ?_
 refine WP_seq ?_
 refine WP_block ?_
 refine WP_seq ?_
 refine WP_region ?_
 refine O_move rfl rfl rfl ?_
 refine O_move rfl rfl rfl ?_
 refine O_lss rfl rfl rfl rfl rfl ?_
 refine O_assign rfl rfl rfl ?_
 refine WL_end [(0, _), (1, _), (5, _), (6, _), (12, _)] ⟨rfl, rfl, rfl, rfl, rfl, trivial⟩ ?_
 refine WP_condD rfl (fun c12 => ?_) (fun c12 => ?_)
 · --
  refine WP_seq ?_
  refine WP_region ?_
  refine O_assign rfl rfl rfl ?_
  refine WL_end [(4, _)] ⟨rfl, trivial⟩ ?_
  refine WP_ret ?_
  refine inBlk_ret ?_
  refine ret1 Tryd.results94 rfl ?_
  exact ⟨_, rfl, (e1.trans e2), by rw [cmpv_lt (sz_lt_val (by omega))]⟩
 · --
  refine WP_seq ?_
  refine WP_region ?_
  refine O_move rfl rfl rfl ?_
  refine O_move rfl rfl rfl ?_
  refine O_gtr rfl rfl rfl rfl rfl ?_
  refine O_assign rfl rfl rfl ?_
  refine WL_end [(0, _), (1, _), (5, _), (16, _)] ⟨rfl, rfl, rfl, rfl, trivial⟩ ?_
  refine WP_condD rfl (fun c16 => ?_) (fun c16 => ?_)
  · --
   refine WP_seq ?_
   refine WP_region ?_
   refine O_assign rfl rfl rfl ?_
   refine WL_end [(4, _)] ⟨rfl, trivial⟩ ?_
   refine WP_ret ?_
   refine inBlk_ret ?_
   refine ret1 Tryd.results94 rfl ?_
   exact ⟨_, rfl, (e1.trans e2), by rw [cmpv_gt (sz_lt_val (by omega))]⟩
  · --
   refine WP_skip ?_
   refine WP_seq ?_
   refine WP_seq ?_
   refine WP_region ?_
   refine O_move rfl rfl rfl ?_
   refine O_sub rfl rfl rfl rfl (wrap_i64_id (by omega) (by omega)) ?_
   refine O_assign rfl rfl rfl ?_
   refine WL_end [(0, _), (1, _), (7, _)] ⟨rfl, rfl, rfl, trivial⟩ ?_
   refine WP_block ?_
   refine WP_loop (S := Nat) (fun k => [(0, va), (1, vb), (7, .int .i64 (((k : Nat) : Int) - 1))]) (fun k w' => Ext w w' ∧ k ≤ sz la ∧ sz la = sz lb ∧ ∀ j, k ≤ j → la.getD j 0 = lb.getD j 0) (fun k => k) (sz la) ⟨rfl, rfl, rfl, trivial⟩ ⟨(e1.trans e2), Nat.le_refl _, by omega, fun j hj => by rw [getD_sz ha.d hj, getD_sz hb.d (by omega)]⟩ ?_
   rintro k w3 ⟨hE, hk, hss, hag⟩
   refine WP_seq ?_
   refine WP_seq ?_
   refine WP_region ?_
   refine O_move rfl rfl rfl ?_
   refine O_geq rfl rfl rfl rfl rfl ?_
   refine WL_end [(0, _), (1, _), (7, _), (23, _)] ⟨rfl, rfl, rfl, rfl, trivial⟩ ?_
   refine WP_condD rfl (fun c23 => ?_) (fun c23 => ?_)
   · --
    refine WP_skip ?_
    refine WP_seq ?_
    refine WP_block ?_
    refine WP_block ?_
    refine WP_seq ?_
    refine WP_sub [(0, _), (1, _), (7, _)] ⟨rfl, rfl, rfl, trivial⟩ ?_
    refine WP_anyR 8 [0, 1, 7] mixed rfl (by kernel_rfl) ?_
    apply AnyR_val [0] rfl (by kernel_rfl)
    · --
     intro y3 hy3
     have zy3 := hy3.size
     refine AllV_nil ?_
     refine O_move rfl rfl rfl ?_
     exact WL_nil ⟨(Ext.refl _), rfl⟩
    apply AnyR_val [7] rfl (by kernel_rfl)
    · --
     intro y4 hy4
     have zy4 := hy4.size
     refine AllV_nil ?_
     refine O_move rfl rfl rfl ?_
     exact WL_nil ⟨(Ext.refl _), rfl⟩
    apply AnyR_val [27, 28] rfl (by kernel_rfl)
    · --
     intro y5 hy5
     have zy5 := hy5.size
     refine AllV_v ?_
     refine AllV_v ?_
     refine AllV_nil ?_
     refine N_index T22 rfl rfl rfl rfl (ha.ext (hE.trans hy5)) (k - 1) (by omega) (by omega) ?_
     exact WL_nil ⟨(Ext.refl _), rfl⟩
    apply AnyR_val [29] rfl (by kernel_rfl)
    · --
     intro y6 hy6
     have zy6 := hy6.size
     refine AllV_v ?_
     refine AllV_nil ?_
     refine N_load Tryd.underlying89 rfl rfl rfl (ha.ext (hE.trans hy6)) (by omega) (fun d30 => ?_)
     exact WL_nil ⟨(Ext.refl _), rfl⟩
    apply AnyR_val [1] rfl (by kernel_rfl)
    · --
     intro y7 hy7
     have zy7 := hy7.size
     refine AllV_nil ?_
     refine O_move rfl rfl rfl ?_
     exact WL_nil ⟨(Ext.refl _), rfl⟩
    apply AnyR_val [7] rfl (by kernel_rfl)
    · --
     intro y8 hy8
     have zy8 := hy8.size
     refine AllV_nil ?_
     refine O_move rfl rfl rfl ?_
     exact WL_nil ⟨(Ext.refl _), rfl⟩
    apply AnyR_val [31, 32] rfl (by kernel_rfl)
    · --
     intro y9 hy9
     have zy9 := hy9.size
     refine AllV_v ?_
     refine AllV_v ?_
     refine AllV_nil ?_
     refine N_index T22 rfl rfl rfl rfl (hb.ext (hE.trans hy9)) (k - 1) (by omega) (by omega) ?_
     exact WL_nil ⟨(Ext.refl _), rfl⟩
    apply AnyR_val [33] rfl (by kernel_rfl)
    · --
     intro y10 hy10
     have zy10 := hy10.size
     refine AllV_v ?_
     refine AllV_nil ?_
     refine N_load Tryd.underlying89 rfl rfl rfl (hb.ext (hE.trans hy10)) (by omega) (fun d34 => ?_)
     exact WL_nil ⟨(Ext.refl _), rfl⟩
    refine AnyR_nil fun y11 hy11 => ?_
    have zy11 := hy11.size
    refine AllV_v ?_
    refine AllV_v ?_
    refine AllV_v ?_
    refine AllV_v ?_
    refine AllV_v ?_
    refine AllV_v ?_
    refine AllV_v ?_
    refine AllV_v ?_
    refine AllV_nil ?_
    refine O_lss rfl rfl rfl rfl rfl ?_
    refine O_assign rfl rfl rfl ?_
    refine WL_end [(0, _), (1, _), (7, _), (26, _)] ⟨rfl, rfl, rfl, rfl, trivial⟩ ?_
    refine WP_condD rfl (fun c26 => ?_) (fun c26 => ?_)
    · --
     refine WP_seq ?_
     refine WP_region ?_
     refine O_assign rfl rfl rfl ?_
     refine WL_end [(4, _)] ⟨rfl, trivial⟩ ?_
     refine WP_ret ?_
     refine inBlk_ret ?_
     refine inBlk_ret ?_
     refine inBlk_ret ?_
     refine ret1 Tryd.results94 rfl ?_
     have hlt := val_lt_of_top ha.d (k := k - 1) (fun j hj => hag j (by omega)) (show la.getD (k - 1) 0 < lb.getD (k - 1) 0 by omega)
     exact ⟨_, rfl, (hE.trans hy11), by rw [cmpv_lt hlt]⟩
    · --
     refine WP_seq ?_
     refine WP_sub [(0, _), (1, _), (7, _)] ⟨rfl, rfl, rfl, trivial⟩ ?_
     refine WP_anyR 8 [0, 1, 7] mixed rfl (by kernel_rfl) ?_
     apply AnyR_val [0] rfl (by kernel_rfl)
     · --
      intro y12 hy12
      have zy12 := hy12.size
      refine AllV_nil ?_
      refine O_move rfl rfl rfl ?_
      exact WL_nil ⟨(Ext.refl _), rfl⟩
     apply AnyR_val [7] rfl (by kernel_rfl)
     · --
      intro y13 hy13
      have zy13 := hy13.size
      refine AllV_nil ?_
      refine O_move rfl rfl rfl ?_
      exact WL_nil ⟨(Ext.refl _), rfl⟩
     apply AnyR_val [37, 38] rfl (by kernel_rfl)
     · --
      intro y14 hy14
      have zy14 := hy14.size
      refine AllV_v ?_
      refine AllV_v ?_
      refine AllV_nil ?_
      refine N_index T22 rfl rfl rfl rfl (ha.ext ((hE.trans hy11).trans hy14)) (k - 1) (by omega) (by omega) ?_
      exact WL_nil ⟨(Ext.refl _), rfl⟩
     apply AnyR_val [39] rfl (by kernel_rfl)
     · --
      intro y15 hy15
      have zy15 := hy15.size
      refine AllV_v ?_
      refine AllV_nil ?_
      refine N_load Tryd.underlying89 rfl rfl rfl (ha.ext ((hE.trans hy11).trans hy15)) (by omega) (fun d40 => ?_)
      exact WL_nil ⟨(Ext.refl _), rfl⟩
     apply AnyR_val [1] rfl (by kernel_rfl)
     · --
      intro y16 hy16
      have zy16 := hy16.size
      refine AllV_nil ?_
      refine O_move rfl rfl rfl ?_
      exact WL_nil ⟨(Ext.refl _), rfl⟩
     apply AnyR_val [7] rfl (by kernel_rfl)
     · --
      intro y17 hy17
      have zy17 := hy17.size
      refine AllV_nil ?_
      refine O_move rfl rfl rfl ?_
      exact WL_nil ⟨(Ext.refl _), rfl⟩
     apply AnyR_val [41, 42] rfl (by kernel_rfl)
     · --
      intro y18 hy18
      have zy18 := hy18.size
      refine AllV_v ?_
      refine AllV_v ?_
      refine AllV_nil ?_
      refine N_index T22 rfl rfl rfl rfl (hb.ext ((hE.trans hy11).trans hy18)) (k - 1) (by omega) (by omega) ?_
      exact WL_nil ⟨(Ext.refl _), rfl⟩
     apply AnyR_val [43] rfl (by kernel_rfl)
     · --
      intro y19 hy19
      have zy19 := hy19.size
      refine AllV_v ?_
      refine AllV_nil ?_
      refine N_load Tryd.underlying89 rfl rfl rfl (hb.ext ((hE.trans hy11).trans hy19)) (by omega) (fun d44 => ?_)
      exact WL_nil ⟨(Ext.refl _), rfl⟩
     refine AnyR_nil fun y20 hy20 => ?_
     have zy20 := hy20.size
     refine AllV_v ?_
     refine AllV_v ?_
     refine AllV_v ?_
     refine AllV_v ?_
     refine AllV_v ?_
     refine AllV_v ?_
     refine AllV_v ?_
     refine AllV_v ?_
     refine AllV_nil ?_
     refine O_gtr rfl rfl rfl rfl rfl ?_
     refine O_assign rfl rfl rfl ?_
     refine WL_end [(0, _), (1, _), (7, _), (36, _)] ⟨rfl, rfl, rfl, rfl, trivial⟩ ?_
     refine WP_condD rfl (fun c36 => ?_) (fun c36 => ?_)
     · --
      refine WP_seq ?_
      refine WP_region ?_
      refine O_assign rfl rfl rfl ?_
      refine WL_end [(4, _)] ⟨rfl, trivial⟩ ?_
      refine WP_ret ?_
      refine inBlk_ret ?_
      refine inBlk_ret ?_
      refine inBlk_ret ?_
      refine ret1 Tryd.results94 rfl ?_
      have hlt := val_lt_of_top hb.d (k := k - 1) (fun j hj => (hag j (by omega)).symm) (show lb.getD (k - 1) 0 < la.getD (k - 1) 0 by omega)
      exact ⟨_, rfl, ((hE.trans hy11).trans hy20), by rw [cmpv_gt hlt]⟩
     · --
      refine WP_skip ?_
      refine WP_region ?_
      refine O_move rfl rfl rfl ?_
      refine O_sub rfl rfl rfl rfl (wrap_i64_id (by omega) (by omega)) ?_
      refine O_assign rfl rfl rfl ?_
      refine WL_end [(0, _), (1, _), (7, _)] ⟨rfl, rfl, rfl, trivial⟩ ?_
      refine ⟨k - 1, ⟨rfl, rfl, (by simp only [look]; congr 3; omega), trivial⟩, ⟨((hE.trans hy11).trans hy20), by omega, hss, fun j hj => ?_⟩, by omega⟩
      by_cases hj2 : j = k - 1
      · rw [hj2]; omega
      · exact hag j (by omega)
   · --
    refine WP_exit ?_
    refine inBlk_hit ?_
    refine WP_seq ?_
    refine WP_region ?_
    refine O_assign rfl rfl rfl ?_
    refine WL_end [(4, _)] ⟨rfl, trivial⟩ ?_
    refine WP_ret ?_
    refine ret1 Tryd.results94 rfl ?_
    have heq : val la = val lb := val_congr fun j => hag j (by omega)
    exact ⟨_, rfl, hE, by rw [heq, cmpv_self]⟩

theorem valid_c {w : World} {v : Value} {l : List Nat} (hs : Nl w v l) :
    Calls Tryd.prog 100 #[v] w (Ret w fun r _ => r = .bool (validv l)) := by
 refine enter (args := [v]) Tryd.func100 rfl Tryd.ntmps100 rfl ?_
 refine WP_seq ?_
 refine WP_region ?_
 refine O_assign rfl rfl rfl ?_
 refine WL_end [(0, _)] ⟨rfl, trivial⟩ ?_
 refine WP_seq ?_
 refine WP_region ?_
 refine O_move rfl rfl rfl ?_
 refine O_call enters99 rfl rfl rfl (size_c hs) (fun v1 w1 e1 h1 => ?_)
 have z1 := e1.size
 obtain rfl := h1
 refine O_move rfl rfl rfl ?_
 refine N_len T22 rfl rfl rfl (hs.ext e1) ?_
 refine O_eql rfl rfl rfl rfl rfl ?_
 refine O_assign rfl rfl rfl ?_
 refine WL_end [(2, _)] ⟨rfl, trivial⟩ ?_
 refine WP_ret ?_
 refine ret1 Tryd.results100 rfl ?_
 exact ⟨_, rfl, e1, congrArg Value.bool (decide_eq_decide.2 (by omega))⟩
theorem validT_c {w : World} {v : Value} {l : List Nat} (hs : Nl w v l) (h : validv l = true) : Calls Tryd.prog 100 #[v] w (Ret w fun r _ => r = .bool true) :=
  (valid_c hs).mono fun e w' ⟨r, he, hx, hr⟩ => ⟨r, he, hx, by rw [hr, h]⟩

theorem rvalid_c {w : World} {v : Value} {l : List Nat} (hs : Nl w v l) :
    Calls Tryd.prog 102 #[v] w (Ret w fun r _ => r = .bool (validv l)) := by
 have hmx := hs.len_le
 refine enter (args := [v]) Tryd.func102 rfl Tryd.ntmps102 rfl ?_
 refine WP_seq ?_
 refine WP_region ?_
 refine O_assign rfl rfl rfl ?_
 refine WL_end [(0, _)] ⟨rfl, trivial⟩ ?_
 refine WP_seq ?_
 refine WP_region ?_
 refine O_move rfl rfl rfl ?_
 refine N_len T22 rfl rfl rfl hs ?_
 refine O_eql rfl rfl rfl rfl rfl ?_
 refine O_move rfl rfl rfl ?_
 refine WL_dec 6 rfl (fun g6 => ?_) (fun g6 => ?_)
 · --
  refine O_skip rfl rfl ?_
  refine O_skip rfl rfl ?_
  refine O_skip rfl rfl ?_
  refine O_skip rfl rfl ?_
  refine O_skip rfl rfl ?_
  refine O_skip rfl rfl ?_
  refine O_skip rfl rfl ?_
  refine O_pickT rfl rfl rfl rfl ?_
  refine O_assign rfl rfl rfl ?_
  refine WL_end [(2, _)] ⟨rfl, trivial⟩ ?_
  refine WP_ret ?_
  refine ret1 Tryd.results102 rfl ?_
  exact ⟨_, rfl, (Ext.refl _), by rw [List.eq_nil_of_length_eq_zero (by omega : l.length = 0), validv_nil]⟩
 · --
  refine O_move rfl rfl rfl ?_
  refine O_move rfl rfl rfl ?_
  refine N_len T22 rfl rfl rfl hs ?_
  refine O_sub rfl rfl rfl rfl (wrap_i64_id (by omega) (by omega)) ?_
  refine N_index T22 rfl rfl rfl rfl hs (l.length - 1) (by omega) (by omega) ?_
  refine N_load Tryd.underlying89 rfl rfl rfl hs (by omega) (fun d12 => ?_)
  refine O_neq rfl rfl rfl rfl rfl ?_
  refine O_pickF rfl rfl rfl rfl ?_
  refine O_assign rfl rfl rfl ?_
  refine WL_end [(2, _)] ⟨rfl, trivial⟩ ?_
  refine WP_ret ?_
  refine ret1 Tryd.results102 rfl ?_
  exact ⟨_, rfl, (Ext.refl _), by rw [validv_top hs.d (fun h => by rw [h] at g6; simp at g6)]; exact congrArg Value.bool (decide_eq_decide.2 (by omega))⟩

theorem uint_c {w : World} {v : Value} {l : List Nat} (hs : Nl w v l) (n : Nat) (hn : val l = n) :
    Calls Tryd.prog 105 #[v] w (Ret w fun r _ => r = .tuple #[.int .u64 (uv n : Nat), .bool (decide (n < 18446744073709551616))]) := by
 subst hn
 have hd0 := hs.d.getD 0
 have hd1 := hs.d.getD 1
 have hsl := sz_le hs.d
 refine enter (args := [v]) Tryd.func105 rfl Tryd.ntmps105 rfl ?_
 refine WP_seq ?_
 refine WP_region ?_
 refine O_assign rfl rfl rfl ?_
 refine O_assign rfl rfl rfl ?_
 refine WL_end [(0, _)] ⟨rfl, trivial⟩ ?_
 refine WP_seq ?_
 refine WP_seq ?_
 refine WP_region ?_
 refine O_move rfl rfl rfl ?_
 refine O_call enters99 rfl rfl rfl (size_c hs) (fun v1 w1 e1 h1 => ?_)
 have z1 := e1.size
 obtain rfl := h1
 refine O_assign rfl rfl rfl ?_
 refine WL_end [(0, _), (4, _)] ⟨rfl, rfl, trivial⟩ ?_
 refine WP_seq ?_
 refine WP_region ?_
 refine O_move rfl rfl rfl ?_
 refine WL_end [(0, _), (7, _)] ⟨rfl, rfl, trivial⟩ ?_
 refine WP_block ?_
 refine WP_seq ?_
 refine WP_region ?_
 refine O_eql rfl rfl rfl rfl rfl ?_
 refine O_assign rfl rfl rfl ?_
 refine WL_end [(0, _), (7, _), (8, _)] ⟨rfl, rfl, rfl, trivial⟩ ?_
 refine WP_condD rfl (fun c8 => ?_) (fun c8 => ?_)
 · --
  refine WP_seq ?_
  refine WP_region ?_
  refine O_assign rfl rfl rfl ?_
  refine O_assign rfl rfl rfl ?_
  refine WL_end [(2, _), (3, _)] ⟨rfl, rfl, trivial⟩ ?_
  refine WP_ret ?_
  refine inBlk_ret ?_
  refine ret2 Tryd.results105 rfl rfl ?_
  have h0 := sz_zero hs.d (by omega)
  exact ⟨_, rfl, e1, by rw [h0]; rfl⟩
 · --
  refine WP_seq ?_
  refine WP_region ?_
  refine O_eql rfl rfl rfl rfl rfl ?_
  refine O_assign rfl rfl rfl ?_
  refine WL_end [(0, _), (7, _), (10, _)] ⟨rfl, rfl, rfl, trivial⟩ ?_
  refine WP_condD rfl (fun c10 => ?_) (fun c10 => ?_)
  · --
   refine WP_seq ?_
   refine WP_region ?_
   refine O_move rfl rfl rfl ?_
   refine N_index T22 rfl rfl rfl rfl (hs.ext e1) 0 rfl (by omega) ?_
   refine N_load Tryd.underlying89 rfl rfl rfl (hs.ext e1) (by omega) (fun d14 => ?_)
   refine O_conv Tryd.underlying89 Tryd.underlying82 rfl rfl rfl (wrap_u64_id (by omega) (by omega)) ?_
   refine O_assign rfl rfl rfl ?_
   refine O_assign rfl rfl rfl ?_
   refine WL_end [(2, _), (3, _)] ⟨rfl, rfl, trivial⟩ ?_
   refine WP_ret ?_
   refine inBlk_ret ?_
   refine ret2 Tryd.results105 rfl rfl ?_
   have h0 := val_sz_le1 hs.d (by omega)
   exact ⟨_, rfl, e1, by rw [uv_lt (by omega), decide_eq_true (by omega), h0]⟩
  · --
   refine WP_seq ?_
   refine WP_region ?_
   refine O_eql rfl rfl rfl rfl rfl ?_
   refine O_assign rfl rfl rfl ?_
   refine WL_end [(0, _), (16, _)] ⟨rfl, rfl, trivial⟩ ?_
   refine WP_condD rfl (fun c16 => ?_) (fun c16 => ?_)
   · --
    refine WP_seq ?_
    refine WP_sub [(0, _)] ⟨rfl, trivial⟩ ?_
    refine WP_anyR 9 [0] mixed rfl (by kernel_rfl) ?_
    apply AnyR_val [0] rfl (by kernel_rfl)
    · --
     intro y2 hy2
     have zy2 := hy2.size
     refine AllV_nil ?_
     refine O_move rfl rfl rfl ?_
     exact WL_nil ⟨(Ext.refl _), rfl⟩
    apply AnyR_val [18] rfl (by kernel_rfl)
    · --
     intro y3 hy3
     have zy3 := hy3.size
     refine AllV_v ?_
     refine AllV_nil ?_
     refine N_index T22 rfl rfl rfl rfl (hs.ext (e1.trans hy3)) 1 rfl (by omega) ?_
     exact WL_nil ⟨(Ext.refl _), rfl⟩
    apply AnyR_val [19] rfl (by kernel_rfl)
    · --
     intro y4 hy4
     have zy4 := hy4.size
     refine AllV_v ?_
     refine AllV_nil ?_
     refine N_load Tryd.underlying89 rfl rfl rfl (hs.ext (e1.trans hy4)) (by omega) (fun d20 => ?_)
     exact WL_nil ⟨(Ext.refl _), rfl⟩
    apply AnyR_val [20] rfl (by kernel_rfl)
    · --
     intro y5 hy5
     have zy5 := hy5.size
     refine AllV_v ?_
     refine AllV_nil ?_
     refine O_conv Tryd.underlying89 Tryd.underlying82 rfl rfl rfl (wrap_u64_id (by omega) (by omega)) ?_
     exact WL_nil ⟨(Ext.refl _), rfl⟩
    apply AnyR_val [21] rfl (by kernel_rfl)
    · --
     intro y6 hy6
     have zy6 := hy6.size
     refine AllV_v ?_
     refine AllV_nil ?_
     refine O_shl (r := ((l.getD 1 0 * 4294967296 : Nat) : Int)) rfl rfl rfl rfl (by decide) (shl32 hd1) ?_
     exact WL_nil ⟨(Ext.refl _), rfl⟩
    apply AnyR_val [0] rfl (by kernel_rfl)
    · --
     intro y7 hy7
     have zy7 := hy7.size
     refine AllV_nil ?_
     refine O_move rfl rfl rfl ?_
     exact WL_nil ⟨(Ext.refl _), rfl⟩
    apply AnyR_val [23] rfl (by kernel_rfl)
    · --
     intro y8 hy8
     have zy8 := hy8.size
     refine AllV_v ?_
     refine AllV_nil ?_
     refine N_index T22 rfl rfl rfl rfl (hs.ext (e1.trans hy8)) 0 rfl (by omega) ?_
     exact WL_nil ⟨(Ext.refl _), rfl⟩
    apply AnyR_val [24] rfl (by kernel_rfl)
    · --
     intro y9 hy9
     have zy9 := hy9.size
     refine AllV_v ?_
     refine AllV_nil ?_
     refine N_load Tryd.underlying89 rfl rfl rfl (hs.ext (e1.trans hy9)) (by omega) (fun d25 => ?_)
     exact WL_nil ⟨(Ext.refl _), rfl⟩
    apply AnyR_val [25] rfl (by kernel_rfl)
    · --
     intro y10 hy10
     have zy10 := hy10.size
     refine AllV_v ?_
     refine AllV_nil ?_
     refine O_conv Tryd.underlying89 Tryd.underlying82 rfl rfl rfl (wrap_u64_id (by omega) (by omega)) ?_
     exact WL_nil ⟨(Ext.refl _), rfl⟩
    refine AnyR_nil fun y11 hy11 => ?_
    have zy11 := hy11.size
    refine AllV_v ?_
    refine AllV_v ?_
    refine AllV_v ?_
    refine AllV_v ?_
    refine AllV_v ?_
    refine AllV_v ?_
    refine AllV_v ?_
    refine AllV_v ?_
    refine AllV_v ?_
    refine AllV_nil ?_
    refine O_or rfl rfl rfl rfl (u64_or_nat _ _ (by omega) (by omega)) ?_
    rw [or_add hd0]
    refine O_assign rfl rfl rfl ?_
    refine O_assign rfl rfl rfl ?_
    refine WL_end [(2, _), (3, _)] ⟨rfl, rfl, trivial⟩ ?_
    refine WP_ret ?_
    refine inBlk_ret ?_
    refine ret2 Tryd.results105 rfl rfl ?_
    have h0 := val_le2 hs.d (by omega)
    exact ⟨_, rfl, (e1.trans hy11), by rw [uv_lt (by omega), decide_eq_true (by omega), h0]; congr 4; omega⟩
   · --
    refine WP_skip ?_
    refine WP_seq ?_
    refine WP_region ?_
    refine O_assign rfl rfl rfl ?_
    refine O_assign rfl rfl rfl ?_
    refine WL_end [(2, _), (3, _)] ⟨rfl, rfl, trivial⟩ ?_
    refine WP_ret ?_
    refine ret2 Tryd.results105 rfl rfl ?_
    have h0 := val_ge3 (l := l) (by omega)
    exact ⟨_, rfl, e1, by rw [uv_ge h0, decide_eq_false (by omega)]; rfl⟩
theorem uintT_c {w : World} {v : Value} {l : List Nat} (hs : Nl w v l) (n : Nat) (hn : val l = n) (h : n < 18446744073709551616) : Calls Tryd.prog 105 #[v] w (Ret w fun r _ => r = .tuple #[.int .u64 (n : Nat), .bool true]) :=
  (uint_c hs n hn).mono fun e w' ⟨r, he, hx, hr⟩ => ⟨r, he, hx, by rw [hr, uv_lt h, decide_eq_true h]⟩

theorem ruint_c {w : World} {v : Value} {l : List Nat} (hs : Nl w v l) (hv : validv l = true) (hl : l.length ≤ 100000000) (n : Nat) (hn : val l = n) :
    Calls Tryd.prog 109 #[v] w (Ret w fun r _ => r = .tuple #[.int .u64 (uv n : Nat), .bool (decide (n < 18446744073709551616))]) := by
 subst hn
 have hsz : sz l = l.length := of_decide_eq_true hv
 refine enter (args := [v]) Tryd.func109 rfl Tryd.ntmps109 rfl ?_
 refine WP_seq ?_
 refine WP_region ?_
 refine O_assign rfl rfl rfl ?_
 refine O_assign rfl rfl rfl ?_
 refine WL_end [(0, _)] ⟨rfl, trivial⟩ ?_
 refine WP_seq ?_
 refine WP_region ?_
 refine O_assign rfl rfl rfl ?_
 refine WL_end [(0, _), (4, _)] ⟨rfl, rfl, trivial⟩ ?_
 refine WP_seq ?_
 refine WP_seq ?_
 refine WP_region ?_
 refine O_move rfl rfl rfl ?_
 refine N_len T22 rfl rfl rfl hs ?_
 refine O_move rfl rfl rfl ?_
 refine WL_end [(4, _), (7, _), (8, _), (9, _)] ⟨rfl, rfl, rfl, rfl, trivial⟩ ?_
 refine WP_block ?_
 refine WP_loop (S := Nat) (fun k => [(4, .int .u64 (val (l.take k) : Nat)), (7, v), (8, .int .i64 (l.length : Nat)), (9, .int .i64 (k : Nat))]) (fun k w' => w = w' ∧ k ≤ l.length ∧ k ≤ 2) (fun k => l.length - k) 0 ⟨rfl, rfl, rfl, rfl, trivial⟩ ⟨rfl, Nat.zero_le _, Nat.zero_le _⟩ ?_
 rintro k w1 ⟨rfl, hk, hk2⟩
 have hdk := hs.d.getD k
 refine WP_seq ?_
 refine WP_region ?_
 refine O_lss rfl rfl rfl rfl rfl ?_
 refine WL_end [(4, _), (7, _), (8, _), (9, _), (10, _)] ⟨rfl, rfl, rfl, rfl, rfl, trivial⟩ ?_
 refine WP_seq ?_
 refine WP_condD rfl (fun c10 => ?_) (fun c10 => ?_)
 · --
  refine WP_skip ?_
  refine WP_seq ?_
  refine WP_block ?_
  refine WP_seq ?_
  refine WP_region ?_
  refine O_move rfl rfl rfl ?_
  refine N_index T22 rfl rfl rfl rfl hs k rfl (by omega) ?_
  refine N_load Tryd.underlying89 rfl rfl rfl hs (by omega) (fun d13 => ?_)
  refine O_assign rfl rfl rfl ?_
  refine O_assign rfl rfl rfl ?_
  refine WL_end [(4, _), (5, _), (6, _), (7, _), (8, _), (9, _)] ⟨rfl, rfl, rfl, rfl, rfl, rfl, trivial⟩ ?_
  refine WP_seq ?_
  refine WP_seq ?_
  refine WP_region ?_
  refine O_move rfl rfl rfl ?_
  refine O_gtr rfl rfl rfl rfl rfl ?_
  refine WL_end [(4, _), (5, _), (6, _), (7, _), (8, _), (9, _), (15, _)] ⟨rfl, rfl, rfl, rfl, rfl, rfl, rfl, trivial⟩ ?_
  refine WP_condD rfl (fun c15 => ?_) (fun c15 => ?_)
  · --
   refine WP_seq ?_
   refine WP_region ?_
   refine O_assign rfl rfl rfl ?_
   refine O_assign rfl rfl rfl ?_
   refine WL_end [(2, _), (3, _)] ⟨rfl, rfl, trivial⟩ ?_
   refine WP_ret ?_
   refine inBlk_ret ?_
   refine inBlk_ret ?_
   refine ret2 Tryd.results109 rfl rfl ?_
   have h0 := val_ge3 (l := l) (by omega)
   exact ⟨_, rfl, (Ext.refl _), by rw [uv_ge h0, decide_eq_false (by omega)]; rfl⟩
  · --
   refine WP_skip ?_
   refine WP_region ?_
   refine O_move rfl rfl rfl ?_
   refine O_move rfl rfl rfl ?_
   refine O_conv Tryd.underlying89 Tryd.underlying82 rfl rfl rfl (wrap_u64_id (by omega) (by omega)) ?_
   refine O_move rfl rfl rfl ?_
   refine O_mul rfl rfl rfl rfl (wrap_i64_id (by omega) (by omega)) ?_
   refine O_conv Tryd.underlying3 Tryd.underlying91 rfl rfl rfl (wrap_u64_id (by omega) (by omega)) ?_
   refine O_shl (r := ((4294967296 ^ k * l.getD k 0 : Nat) : Int)) rfl rfl rfl rfl (by omega) (shlB (by omega) (hs.d.getD k)) ?_
   refine O_add (r := ((val (l.take (k + 1)) : Nat) : Int)) rfl rfl rfl rfl (add_take hs.d (by omega)) ?_
   refine O_assign rfl rfl rfl ?_
   refine WL_end [(4, _), (7, _), (8, _), (9, _)] ⟨rfl, rfl, rfl, rfl, trivial⟩ ?_
   refine WP_region ?_
   refine O_add rfl rfl rfl rfl (wrap_i64_id (by omega) (by omega)) ?_
   refine O_move rfl rfl rfl ?_
   refine WL_end [(4, _), (7, _), (8, _), (9, _)] ⟨rfl, rfl, rfl, rfl, trivial⟩ ?_
   exact ⟨k + 1, ⟨rfl, rfl, rfl, rfl, trivial⟩, ⟨rfl, by omega, by omega⟩, by omega⟩
 · --
  refine WP_exit ?_
  refine inBlk_hit ?_
  refine WP_seq ?_
  refine WP_region ?_
  refine O_move rfl rfl rfl ?_
  refine O_assign rfl rfl rfl ?_
  refine O_assign rfl rfl rfl ?_
  refine WL_end [(2, _), (3, _)] ⟨rfl, rfl, trivial⟩ ?_
  refine WP_ret ?_
  refine ret2 Tryd.results109 rfl rfl ?_
  have hk3 : k = l.length := by omega
  have h0 := val_take_lt hs.d 2
  rw [List.take_of_length_le (by omega)] at h0
  have h1 : val l < 18446744073709551616 := h0
  exact ⟨_, rfl, (Ext.refl _), by rw [hk3, List.take_length, uv_lt h1, decide_eq_true h1]⟩

theorem sub32_c {w : World} {x y c : Nat} (hx : x < 4294967296) (hy : y < 4294967296) (hc : c ≤ 1) :
    Calls Tryd.prog 111 #[.int .u32 (x : Nat), .int .u32 (y : Nat), .int .u32 (c : Nat)] w (Ret w fun r _ => r = .tuple #[.int .u32 (((x + 8589934592 - y - c) % 4294967296 : Nat) : Int), .int .u32 ((if x < y + c then 1 else 0 : Nat) : Int)]) := by
 have hd : (x + 8589934592 - y - c) % 4294967296 < 4294967296 := Nat.mod_lt _ (by decide)
 refine enter (args := [_, _, _]) Tryd.func111 rfl Tryd.ntmps111 rfl ?_
 refine WP_seq ?_
 refine WP_region ?_
 refine O_assign rfl rfl rfl ?_
 refine O_assign rfl rfl rfl ?_
 refine WL_end [(0, _), (1, _), (2, _)] ⟨rfl, rfl, rfl, trivial⟩ ?_
 refine WP_seq ?_
 refine WP_region ?_
 refine O_move rfl rfl rfl ?_
 refine O_move rfl rfl rfl ?_
 refine O_sub (r := (((x + 4294967296 - y) % 4294967296 : Nat) : Int)) rfl rfl rfl rfl (by rw [wrap_u32]; omega) ?_
 refine O_move rfl rfl rfl ?_
 refine O_sub (r := ((((x + 8589934592 - y - c) % 4294967296) : Nat) : Int)) rfl rfl rfl rfl (by rw [wrap_u32]; omega) ?_
 refine O_assign rfl rfl rfl ?_
 refine WL_end [(0, _), (1, _), (6, _)] ⟨rfl, rfl, rfl, trivial⟩ ?_
 refine WP_seq ?_
 refine WP_region ?_
 refine O_move rfl rfl rfl ?_
 refine O_compl rfl rfl rfl (u32_xor_nat 4294967295 x (by decide) hx) ?_
 refine O_move rfl rfl rfl ?_
 refine O_and rfl rfl rfl rfl (u32_and_nat _ _ (xl hx) hy) ?_
 refine O_move rfl rfl rfl ?_
 refine O_move rfl rfl rfl ?_
 refine O_xor rfl rfl rfl rfl (u32_xor_nat _ _ hx hy) ?_
 refine O_compl rfl rfl rfl (u32_xor_nat 4294967295 _ (by decide) (xl2 hx hy)) ?_
 refine O_move rfl rfl rfl ?_
 refine O_and rfl rfl rfl rfl (u32_and_nat _ _ (xl (xl2 hx hy)) hd) ?_
 refine O_or rfl rfl rfl rfl (u32_or_nat _ _ (al hy) (al hd)) ?_
 refine O_shr rfl rfl rfl rfl (by decide) (shrN (s := 31) rfl (subb hx hy hc)) ?_
 refine O_assign rfl rfl rfl ?_
 refine WL_end [(6, _), (7, _)] ⟨rfl, rfl, trivial⟩ ?_
 refine WP_ret ?_
 refine ret2 Tryd.results111 rfl rfl ?_
 exact ⟨_, rfl, (Ext.refl _), rfl⟩

theorem sub_c {w : World} {va vb : Value} {la lb : List Nat} (ha : Nl w va la) (hb : Nl w vb lb) (hla : la.length ≤ 100000000) :
    Calls Tryd.prog 88 #[va, vb] w (Ret w fun r w' => ∃ q, r = .tuple #[q, .bool (decide (val lb ≤ val la))] ∧ No w.heap.size 89 w' q (dig (val la - val lb))) := by
 have hsa := sz_le ha.d
 refine enter (args := [va, vb]) Tryd.func88 rfl Tryd.ntmps88 rfl ?_
 refine WP_seq ?_
 refine WP_region ?_
 refine O_assign rfl rfl rfl ?_
 refine O_assign rfl rfl rfl ?_
 refine WL_end [(0, _), (1, _)] ⟨rfl, rfl, trivial⟩ ?_
 refine WP_seq ?_
 refine WP_seq ?_
 refine WP_region ?_
 refine O_move rfl rfl rfl ?_
 refine O_move rfl rfl rfl ?_
 refine O_call enters94 rfl rfl rfl (cmp_c ha hb) (fun v1 w1 e1 h1 => ?_)
 have z1 := e1.size
 obtain rfl := h1
 refine O_lss rfl rfl rfl rfl rfl ?_
 refine WL_end [(0, _), (1, _), (13, _)] ⟨rfl, rfl, rfl, trivial⟩ ?_
 refine WP_condD rfl (fun c13 => ?_) (fun c13 => ?_)
 · --
  refine WP_seq ?_
  refine WP_region ?_
  refine O_assign rfl rfl rfl ?_
  refine O_assign rfl rfl rfl ?_
  refine WL_end [(4, _), (5, _)] ⟨rfl, rfl, trivial⟩ ?_
  refine WP_ret ?_
  refine ret2 Tryd.results88 rfl rfl ?_
  have hlt := cmpv_lt_zero.1 c13
  exact ⟨_, rfl, e1, _, by rw [decide_eq_false (by omega : ¬ val lb ≤ val la)], by rw [show val la - val lb = 0 from by omega, dig_zero]; exact No.nil _ _ _⟩
 · --
  refine WP_skip ?_
  refine WP_seq ?_
  refine WP_region ?_
  refine O_move rfl rfl rfl ?_
  refine O_call enters99 rfl rfl rfl (size_c (ha.ext e1)) (fun v2 w2 e2 h2 => ?_)
  have z2 := e2.size
  obtain rfl := h2
  refine N_make T22 (by decide) rfl rfl rfl rfl (sz la) rfl rfl (by omega) (fun v3 w3 o3 e3 => ?_)
  have z3 := e3.size
  refine O_assign rfl rfl rfl ?_
  refine WL_end [(0, _), (1, _), (6, _)] ⟨rfl, rfl, rfl, trivial⟩ ?_
  refine WP_seq ?_
  refine WP_region ?_
  refine O_assign rfl rfl rfl ?_
  refine WL_end [(0, _), (1, _), (6, _), (7, _)] ⟨rfl, rfl, rfl, rfl, trivial⟩ ?_
  refine WP_seq ?_
  refine WP_seq ?_
  refine WP_region ?_
  refine O_move rfl rfl rfl ?_
  refine N_len T22 rfl rfl rfl o3.nl ?_
  rw [List.length_replicate]
  refine O_move rfl rfl rfl ?_
  refine WL_end [(0, _), (1, _), (6, _), (7, _), (18, _), (19, _)] ⟨rfl, rfl, rfl, rfl, rfl, rfl, trivial⟩ ?_
  refine WP_block ?_
  refine WP_loop (S := Nat × Nat × List Nat) (fun (k, c, lo) => [(0, va), (1, vb), (6, v3), (7, .int .u32 (c : Nat)), (18, .int .i64 (sz la : Nat)), (19, .int .i64 (k : Nat))]) (fun (k, c, lo) w' => Ext w w' ∧ No w.heap.size 89 w' v3 lo ∧ lo.length = sz la ∧ k ≤ sz la ∧ c ≤ 1 ∧ val (la.take k) + 4294967296 ^ k * c = val (lo.take k) + val (lb.take k)) (fun (k, c, lo) => sz la - k) (0, 0, List.replicate (sz la) 0) ⟨rfl, rfl, rfl, rfl, rfl, rfl, trivial⟩ ⟨((e1.trans e2).trans e3), o3.mono (by omega), by simp, by omega, by omega, by simp [val]⟩ ?_
  rintro ⟨k, c, lo⟩ w4 ⟨hE, ho, hlo, hk, hc, hv⟩
  show WP _ _ _ _ _ [(0, va), (1, vb), (6, v3), (7, .int .u32 (c : Nat)), (18, .int .i64 (sz la : Nat)), (19, .int .i64 (k : Nat))] _
  have hz := hE.size
  have hxd := ha.d.getD k
  have hyd := hb.d.getD k
  refine WP_seq ?_
  refine WP_region ?_
  refine O_lss rfl rfl rfl rfl rfl ?_
  refine WL_end [(0, _), (1, _), (6, _), (7, _), (18, _), (19, _), (20, _)] ⟨rfl, rfl, rfl, rfl, rfl, rfl, rfl, trivial⟩ ?_
  refine WP_seq ?_
  refine WP_condD rfl (fun c20 => ?_) (fun c20 => ?_)
  · --
   refine WP_skip ?_
   refine WP_seq ?_
   refine WP_block ?_
   refine WP_seq ?_
   refine WP_region ?_
   refine O_move rfl rfl rfl ?_
   refine O_assign rfl rfl rfl ?_
   refine WL_end [(0, _), (1, _), (6, _), (7, _), (8, _), (18, _), (19, _)] ⟨rfl, rfl, rfl, rfl, rfl, rfl, rfl, trivial⟩ ?_
   refine WP_seq ?_
   refine WP_region ?_
   refine O_assign rfl rfl rfl ?_
   refine WL_end [(0, _), (1, _), (6, _), (7, _), (8, _), (9, _), (18, _), (19, _)] ⟨rfl, rfl, rfl, rfl, rfl, rfl, rfl, rfl, trivial⟩ ?_
   refine WP_seq ?_
   refine WP_seq ?_
   refine WP_region ?_
   refine O_move rfl rfl rfl ?_
   refine O_move rfl rfl rfl ?_
   refine N_len T22 rfl rfl rfl (hb.ext hE) ?_
   refine O_lss rfl rfl rfl rfl rfl ?_
   refine WL_end [(0, _), (1, _), (6, _), (7, _), (8, _), (9, _), (18, _), (19, _), (25, _)] ⟨rfl, rfl, rfl, rfl, rfl, rfl, rfl, rfl, rfl, trivial⟩ ?_
   refine WP_joinK (S := Unit) (fun u => [(0, va), (1, vb), (6, v3), (7, .int .u32 (c : Nat)), (8, .int .i64 (k : Nat)), (9, .int .u32 (lb.getD k 0 : Nat)), (18, .int .i64 (sz la : Nat)), (19, .int .i64 (k : Nat))]) (fun u w' => Ext w w' ∧ No w.heap.size 89 w' v3 lo) ?_ ?_
   · --
    refine WP_condD rfl (fun c25 => ?_) (fun c25 => ?_)
    · --
     refine WP_region ?_
     refine O_move rfl rfl rfl ?_
     refine O_move rfl rfl rfl ?_
     refine N_index T22 rfl rfl rfl rfl (hb.ext hE) k rfl (by omega) ?_
     refine N_load Tryd.underlying89 rfl rfl rfl (hb.ext hE) (by omega) (fun d29 => ?_)
     refine O_assign rfl rfl rfl ?_
     refine WL_end [(0, _), (1, _), (6, _), (7, _), (8, _), (9, _), (18, _), (19, _)] ⟨rfl, rfl, rfl, rfl, rfl, rfl, rfl, rfl, trivial⟩ ?_
     exact ⟨(), ⟨rfl, rfl, rfl, rfl, rfl, rfl, rfl, rfl, trivial⟩, hE, ho⟩
    · --
     refine WP_skip ?_
     have h0 := getD_ge (l := lb) (j := k) (by omega)
     exact ⟨(), ⟨rfl, rfl, rfl, rfl, rfl, by rw [h0]; rfl, rfl, rfl, trivial⟩, hE, ho⟩
   · --
    rintro ⟨⟩ w5 ⟨hE5, ho5⟩
    refine WP_region ?_
    refine O_move rfl rfl rfl ?_
    refine O_move rfl rfl rfl ?_
    refine O_move rfl rfl rfl ?_
    refine O_move rfl rfl rfl ?_
    refine N_index T22 rfl rfl rfl rfl (ha.ext hE5) k rfl (by omega) ?_
    refine N_load Tryd.underlying89 rfl rfl rfl (ha.ext hE5) (by omega) (fun d36 => ?_)
    refine O_move rfl rfl rfl ?_
    refine O_move rfl rfl rfl ?_
    refine O_call enters111 rfl rfl rfl (sub32_c (ha.d.getD k) (hb.d.getD k) (by (try simp only [lens]); omega)) (fun v4 w4 e4 h4 => ?_)
    have z4 := e4.size
    obtain rfl := h4
    refine O_move rfl rfl rfl ?_
    refine O_extract rfl rfl rfl rfl ?_
    refine O_extract rfl rfl rfl rfl ?_
    refine N_index T22 rfl rfl rfl rfl (ho5.ext e4).nl k rfl (by omega) ?_
    refine N_store T22 rfl rfl rfl (ho5.ext e4) (by omega) ((la.getD k 0 + 8589934592 - lb.getD k 0 - c) % 4294967296) rfl (by omega) (fun w5 o5 q5 a5 b5 => ?_)
    have z5 := q5.size
    have e5 : Ext w w5 := q5.ext (hE5.trans e4) (by omega)
    refine O_assign rfl rfl rfl ?_
    refine WL_end [(0, _), (1, _), (6, _), (7, _), (18, _), (19, _)] ⟨rfl, rfl, rfl, rfl, rfl, rfl, trivial⟩ ?_
    refine WP_region ?_
    refine O_add rfl rfl rfl rfl (wrap_i64_id (by omega) (by omega)) ?_
    refine O_move rfl rfl rfl ?_
    refine WL_end [(0, _), (1, _), (6, _), (7, _), (18, _), (19, _)] ⟨rfl, rfl, rfl, rfl, rfl, rfl, trivial⟩ ?_
    refine ⟨(k + 1, (if la.getD k 0 < lb.getD k 0 + c then 1 else 0), lo.set k ((la.getD k 0 + 8589934592 - lb.getD k 0 - c) % 4294967296)), ⟨rfl, rfl, rfl, rfl, rfl, rfl, trivial⟩, ⟨e5, by assumption, by simp [hlo], by omega, by split <;> omega, ?_⟩, by dsimp only; omega⟩
    rw [val_take_set (by omega), val_take_succ', val_take_succ']
    exact borrow_step hv (by split <;> omega)
  · --
   refine WP_exit ?_
   refine inBlk_hit ?_
   refine WP_seq ?_
   refine WP_region ?_
   refine O_move rfl rfl rfl ?_
   refine O_move rfl rfl rfl ?_
   refine O_call enters99 rfl rfl rfl (size_c ho.nl) (fun v6 w6 e6 h6 => ?_)
   have z6 := e6.size
   obtain rfl := h6
   refine N_sliceTo T22 rfl rfl rfl rfl (ho.ext e6).nl (sz lo) rfl (sz_le ho.d) ?_
   have hu := (ho.ext e6).take (sz lo) (sz_le ho.d)
   generalize slTake _ _ = u at hu ⊢
   refine O_assign rfl rfl rfl ?_
   refine O_assign rfl rfl rfl ?_
   refine WL_end [(4, _), (5, _)] ⟨rfl, rfl, trivial⟩ ?_
   refine WP_ret ?_
   refine ret2 Tryd.results88 rfl rfl ?_
   have hk2 : k = sz la := by omega
   rw [hk2, List.take_of_length_le (l := lo) (by omega)] at hv
   have hu2 := val_take_sz ho.d
   rw [hu2, no_borrow ha.d hb.d ho.d (by omega) (Nat.le_refl _) (cmpv_nlt c13) hc hv] at hu
   exact ⟨_, rfl, (hE.trans e6), _, by rw [decide_eq_true (cmpv_nlt c13)], hu⟩
theorem subT_c {w : World} {va vb : Value} {la lb : List Nat} (ha : Nl w va la) (hb : Nl w vb lb) (hla : la.length ≤ 100000000) (h : val lb ≤ val la) :
    Calls Tryd.prog 88 #[va, vb] w (Ret w fun r w' => ∃ q, r = .tuple #[q, .bool true] ∧ No w.heap.size 89 w' q (dig (val la - val lb))) :=
  (sub_c ha hb hla).mono fun e w' ⟨r, he, hx, q, hr, hq⟩ => ⟨r, he, hx, q, by rw [hr, decide_eq_true h], hq⟩

theorem rsub_c {w : World} {va vb : Value} {la lb : List Nat} (ha : Nl w va la) (hb : Nl w vb lb) (hla : la.length ≤ 100000000) (hlb : lb.length ≤ 100000000) :
    Calls Tryd.prog 112 #[va, vb] w (Ret w fun r w' => ∃ q, r = .tuple #[q, .bool (decide (val lb ≤ val la))] ∧ No w.heap.size 89 w' q (dig (val la - val lb))) := by
 refine enter (args := [va, vb]) Tryd.func112 rfl Tryd.ntmps112 rfl ?_
 refine WP_seq ?_
 refine WP_region ?_
 refine O_assign rfl rfl rfl ?_
 refine O_assign rfl rfl rfl ?_
 refine WL_end [(0, _), (1, _)] ⟨rfl, rfl, trivial⟩ ?_
 refine WP_seq ?_
 refine WP_seq ?_
 refine WP_region ?_
 refine O_move rfl rfl rfl ?_
 refine O_move rfl rfl rfl ?_
 refine O_call enters90 rfl rfl rfl (rcmp_c ha hb (by (try simp only [lens]); omega) (by (try simp only [lens]); omega)) (fun v1 w1 e1 h1 => ?_)
 have z1 := e1.size
 obtain rfl := h1
 refine O_lss rfl rfl rfl rfl rfl ?_
 refine WL_end [(0, _), (1, _), (14, _)] ⟨rfl, rfl, rfl, trivial⟩ ?_
 refine WP_condD rfl (fun c14 => ?_) (fun c14 => ?_)
 · --
  refine WP_seq ?_
  refine WP_region ?_
  refine O_assign rfl rfl rfl ?_
  refine O_assign rfl rfl rfl ?_
  refine WL_end [(4, _), (5, _)] ⟨rfl, rfl, trivial⟩ ?_
  refine WP_ret ?_
  refine ret2 Tryd.results112 rfl rfl ?_
  have hlt := cmpv_lt_zero.1 c14
  exact ⟨_, rfl, e1, _, by rw [decide_eq_false (by omega : ¬ val lb ≤ val la)], by rw [show val la - val lb = 0 from by omega, dig_zero]; exact No.nil _ _ _⟩
 · --
  refine WP_skip ?_
  refine WP_seq ?_
  refine WP_region ?_
  refine O_assign rfl rfl rfl ?_
  refine WL_end [(0, _), (1, _), (6, _)] ⟨rfl, rfl, rfl, trivial⟩ ?_
  refine WP_seq ?_
  refine WP_region ?_
  refine O_assign rfl rfl rfl ?_
  refine WL_end [(0, _), (1, _), (6, _), (7, _)] ⟨rfl, rfl, rfl, rfl, trivial⟩ ?_
  refine WP_seq ?_
  refine WP_seq ?_
  refine WP_region ?_
  refine O_assign rfl rfl rfl ?_
  refine WL_end [(0, _), (1, _), (6, _), (7, _), (8, _)] ⟨rfl, rfl, rfl, rfl, rfl, trivial⟩ ?_
  refine WP_block ?_
  refine WP_loop (S := Nat × Nat × List Nat × Value) (fun (k, c, lo, out) => [(0, va), (1, vb), (6, out), (7, .int .u64 (c : Nat)), (8, .int .i64 (k : Nat))]) (fun (k, c, lo, out) w' => Ext w w' ∧ No w.heap.size 89 w' out lo ∧ lo.length = k ∧ k ≤ la.length ∧ c ≤ 1 ∧ val (la.take k) + 4294967296 ^ k * c = val lo + val (lb.take k)) (fun (k, c, lo, out) => la.length - k) (0, 0, [], .slice none 0 0) ⟨rfl, rfl, rfl, rfl, rfl, trivial⟩ ⟨e1, No.nil _ _ _, rfl, by omega, by omega, by simp [val]⟩ ?_
  rintro ⟨k, c, lo, out⟩ w1 ⟨hE, ho, hlo, hk, hc, hv⟩
  show WP _ _ _ _ _ [(0, va), (1, vb), (6, out), (7, .int .u64 (c : Nat)), (8, .int .i64 (k : Nat))] _
  have hz := hE.size
  have hda := ha.d.getD k
  have hdb := hb.d.getD k
  refine WP_seq ?_
  refine WP_seq ?_
  refine WP_region ?_
  refine O_move rfl rfl rfl ?_
  refine O_move rfl rfl rfl ?_
  refine N_len T22 rfl rfl rfl (ha.ext hE) ?_
  refine O_lss rfl rfl rfl rfl rfl ?_
  refine WL_end [(0, _), (1, _), (6, _), (7, _), (8, _), (18, _)] ⟨rfl, rfl, rfl, rfl, rfl, rfl, trivial⟩ ?_
  refine WP_condD rfl (fun c18 => ?_) (fun c18 => ?_)
  · --
   refine WP_skip ?_
   refine WP_seq ?_
   refine WP_block ?_
   refine WP_seq ?_
   refine WP_region ?_
   refine O_move rfl rfl rfl ?_
   refine O_move rfl rfl rfl ?_
   refine O_call enters86 rfl rfl rfl (at_c (ha.ext hE) k rfl) (fun v2 w2 e2 h2 => ?_)
   have z2 := e2.size
   obtain rfl := h2
   refine O_move rfl rfl rfl ?_
   refine O_move rfl rfl rfl ?_
   refine O_call enters86 rfl rfl rfl (at_c (hb.ext (hE.trans e2)) k rfl) (fun v3 w3 e3 h3 => ?_)
   have z3 := e3.size
   obtain rfl := h3
   refine O_move rfl rfl rfl ?_
   refine O_add rfl rfl rfl rfl (wrap_u64_id (by omega) (by omega)) ?_
   refine O_assign rfl rfl rfl ?_
   refine O_assign rfl rfl rfl ?_
   refine WL_end [(0, _), (1, _), (6, _), (8, _), (9, _), (10, _)] ⟨rfl, rfl, rfl, rfl, rfl, rfl, trivial⟩ ?_
   refine WP_seq ?_
   refine WP_region ?_
   refine O_assign rfl rfl rfl ?_
   refine WL_end [(0, _), (1, _), (6, _), (7, _), (8, _), (9, _), (10, _)] ⟨rfl, rfl, rfl, rfl, rfl, rfl, rfl, trivial⟩ ?_
   refine WP_seq ?_
   refine WP_seq ?_
   refine WP_region ?_
   refine O_move rfl rfl rfl ?_
   refine O_move rfl rfl rfl ?_
   refine O_lss rfl rfl rfl rfl rfl ?_
   refine WL_end [(0, _), (1, _), (6, _), (7, _), (8, _), (9, _), (10, _), (31, _)] ⟨rfl, rfl, rfl, rfl, rfl, rfl, rfl, rfl, trivial⟩ ?_
   refine WP_condD rfl (fun c31 => ?_) (fun c31 => ?_)
   · --
    refine WP_seq ?_
    refine WP_region ?_
    refine O_move rfl rfl rfl ?_
    refine O_add rfl rfl rfl rfl (wrap_u64_id (by omega) (by omega)) ?_
    refine O_assign rfl rfl rfl ?_
    refine WL_end [(0, _), (1, _), (6, _), (8, _), (9, _), (10, _)] ⟨rfl, rfl, rfl, rfl, rfl, rfl, trivial⟩ ?_
    refine WP_region ?_
    refine O_assign rfl rfl rfl ?_
    refine WL_end [(0, _), (1, _), (6, _), (7, _), (8, _), (9, _), (10, _)] ⟨rfl, rfl, rfl, rfl, rfl, rfl, rfl, trivial⟩ ?_
    refine WP_region ?_
    refine O_move rfl rfl rfl ?_
    refine O_move rfl rfl rfl ?_
    refine O_move rfl rfl rfl ?_
    refine O_sub rfl rfl rfl rfl (wrap_u64_id (by omega) (by omega)) ?_
    refine O_conv Tryd.underlying82 Tryd.underlying89 (r := ((((la.getD k 0 + 8589934592 - lb.getD k 0 - c) % 4294967296) : Nat) : Int)) rfl rfl rfl (by rw [wrap_u32]; omega) ?_
    refine N_lit T22 rfl rfl [((la.getD k 0 + 8589934592 - lb.getD k 0 - c) % 4294967296)] (D.cons (by omega) D.nil) rfl (by decide) rfl rfl (fun v4 w4 o4 e4 => ?_)
    have z4 := e4.size
    refine N_append T22 rfl (by decide) rfl rfl rfl rfl (((ho.ext e2).ext e3).ext e4) o4.nl (by (try simp only [lens]); omega) (by omega) (fun v5 w5 o5 r5 => ?_)
    have e5 : Ext w w5 := (((ho.ext e2).ext e3).ext e4).ext_grown r5 (((hE.trans e2).trans e3).trans e4) (by omega)
    have z5 := r5.size
    refine O_assign rfl rfl rfl ?_
    refine WL_end [(0, _), (1, _), (6, _), (7, _), (8, _)] ⟨rfl, rfl, rfl, rfl, rfl, trivial⟩ ?_
    refine WP_region ?_
    refine O_move rfl rfl rfl ?_
    refine O_add rfl rfl rfl rfl (wrap_i64_id (by omega) (by omega)) ?_
    refine O_assign rfl rfl rfl ?_
    refine WL_end [(0, _), (1, _), (6, _), (7, _), (8, _)] ⟨rfl, rfl, rfl, rfl, rfl, trivial⟩ ?_
    refine ⟨(k + 1, 1, lo ++ [((la.getD k 0 + 8589934592 - lb.getD k 0 - c) % 4294967296)], _), ⟨rfl, rfl, rfl, rfl, rfl, trivial⟩, ⟨by assumption, by assumption, by simp [hlo], by omega, by omega, ?_⟩, by dsimp only; omega⟩
    rw [val_snoc, hlo, val_take_succ', val_take_succ']
    exact borrow_step hv (by omega)
   · --
    refine WP_skip ?_
    refine WP_region ?_
    refine O_move rfl rfl rfl ?_
    refine O_move rfl rfl rfl ?_
    refine O_move rfl rfl rfl ?_
    refine O_sub rfl rfl rfl rfl (wrap_u64_id (by omega) (by omega)) ?_
    refine O_conv Tryd.underlying82 Tryd.underlying89 (r := ((((la.getD k 0 + 8589934592 - lb.getD k 0 - c) % 4294967296) : Nat) : Int)) rfl rfl rfl (by rw [wrap_u32]; omega) ?_
    refine N_lit T22 rfl rfl [((la.getD k 0 + 8589934592 - lb.getD k 0 - c) % 4294967296)] (D.cons (by omega) D.nil) rfl (by decide) rfl rfl (fun v6 w6 o6 e6 => ?_)
    have z6 := e6.size
    refine N_append T22 rfl (by decide) rfl rfl rfl rfl (((ho.ext e2).ext e3).ext e6) o6.nl (by (try simp only [lens]); omega) (by omega) (fun v7 w7 o7 r7 => ?_)
    have e7 : Ext w w7 := (((ho.ext e2).ext e3).ext e6).ext_grown r7 (((hE.trans e2).trans e3).trans e6) (by omega)
    have z7 := r7.size
    refine O_assign rfl rfl rfl ?_
    refine WL_end [(0, _), (1, _), (6, _), (7, _), (8, _)] ⟨rfl, rfl, rfl, rfl, rfl, trivial⟩ ?_
    refine WP_region ?_
    refine O_move rfl rfl rfl ?_
    refine O_add rfl rfl rfl rfl (wrap_i64_id (by omega) (by omega)) ?_
    refine O_assign rfl rfl rfl ?_
    refine WL_end [(0, _), (1, _), (6, _), (7, _), (8, _)] ⟨rfl, rfl, rfl, rfl, rfl, trivial⟩ ?_
    refine ⟨(k + 1, 0, lo ++ [((la.getD k 0 + 8589934592 - lb.getD k 0 - c) % 4294967296)], _), ⟨rfl, rfl, rfl, rfl, rfl, trivial⟩, ⟨by assumption, by assumption, by simp [hlo], by omega, by omega, ?_⟩, by dsimp only; omega⟩
    rw [val_snoc, hlo, val_take_succ', val_take_succ']
    exact borrow_step hv (by omega)
  · --
   refine WP_exit ?_
   refine inBlk_hit ?_
   refine WP_seq ?_
   refine WP_region ?_
   refine O_move rfl rfl rfl ?_
   refine O_call enters85 rfl rfl rfl (rtrim_c ho.nl (by (try simp only [lens]); omega)) (fun v8 w8 e8 h8 => ?_)
   have z8 := e8.size
   try simp only [val_dig] at h8
   refine O_assign rfl rfl rfl ?_
   refine O_assign rfl rfl rfl ?_
   refine WL_end [(4, _), (5, _)] ⟨rfl, rfl, trivial⟩ ?_
   refine WP_ret ?_
   refine ret2 Tryd.results112 rfl rfl ?_
   have hk2 : k = la.length := by omega
   rw [hk2] at hv
   have hr := no_borrow ha.d hb.d ho.d (by omega) (sz_le ha.d) (cmpv_nlt c14) hc hv
   have hq := h8
   rw [hr] at hq
   exact ⟨_, rfl, (hE.trans e8), _, by rw [decide_eq_true (cmpv_nlt c14)], hq.mono (by omega)⟩

theorem less_c {w : World} {va vb : Value} {la lb : List Nat} (ha : Nl w va la) (hb : Nl w vb lb) (hla : la.length ≤ 100000000) (hlb : lb.length ≤ 100000000) :
    Calls Tryd.prog 91 #[va, vb] w (Ret w fun r w' => No w.heap.size 89 w' r (dig (val la - val lb))) := by
 refine enter (args := [va, vb]) Tryd.func91 rfl Tryd.ntmps91 rfl ?_
 refine WP_seq ?_
 refine WP_region ?_
 refine O_assign rfl rfl rfl ?_
 refine WL_end [(0, _), (1, _)] ⟨rfl, rfl, trivial⟩ ?_
 refine WP_seq ?_
 refine WP_region ?_
 refine O_move rfl rfl rfl ?_
 refine O_move rfl rfl rfl ?_
 refine O_call enters112 rfl rfl rfl (rsub_c ha hb (by (try simp only [lens]); omega) (by (try simp only [lens]); omega)) (fun v1 w1 e1 h1 => ?_)
 have z1 := e1.size
 obtain ⟨q1, rfl, hq1⟩ := h1
 refine O_move rfl rfl rfl ?_
 refine O_extract rfl rfl rfl rfl ?_
 refine O_extract rfl rfl rfl rfl ?_
 refine O_assign rfl rfl rfl ?_
 refine O_assign rfl rfl rfl ?_
 refine WL_end [(5, _)] ⟨rfl, trivial⟩ ?_
 refine WP_seq ?_
 refine WP_region ?_
 refine O_move rfl rfl rfl ?_
 refine O_assign rfl rfl rfl ?_
 refine WL_end [(4, _)] ⟨rfl, trivial⟩ ?_
 refine WP_ret ?_
 refine ret1 Tryd.results91 rfl ?_
 exact ⟨_, rfl, e1, hq1⟩

end Go.Proofs.YtnfnadhbjdcbnaaDoor
