/-
  Walks.
-/
import Derived.Test.YtijnlfhaepcldaaDoorD4
set_option linter.unusedVariables false
set_option linter.unusedSimpArgs false
set_option maxRecDepth 100000
namespace Go.Proofs.YtijnlfhaepcldaaDoor
open Go Go.RowKit
theorem val_drop_sz {l : List Nat} (hd : D l) {k : Nat} (h : sz l ≤ k) : val (l.drop k) = 0 := by
  have h0 : val (l.drop (sz l)) = 0 := by
    have h1 := val_split l (sz l)
    rw [val_take_sz hd, val_dig] at h1
    have h2 : 0 = 4294967296 ^ sz l * val (l.drop (sz l)) := Nat.add_left_cancel (n := val l) (by rw [Nat.add_zero]; exact h1)
    rcases Nat.mul_eq_zero.1 h2.symm with h3 | h3
    · exact absurd h3 (Nat.ne_of_gt (Nat.pow_pos (by decide)))
    · exact h3
  have h1 : ∀ m, val (l.drop (sz l + m)) = 0 := by
    intro m
    induction m with
    | zero => exact h0
    | succ m ih => rw [val_drop] at ih; rw [← Nat.add_assoc]; omega
  have h2 := h1 (k - sz l)
  rwa [show sz l + (k - sz l) = k from by omega] at h2
theorem val_le2 {l : List Nat} (hd : D l) (h : sz l ≤ 2) : val l = l.getD 0 0 + 4294967296 * l.getD 1 0 := by
  have h1 := val_drop l 0
  have h2 := val_drop l 1
  rw [val_drop_sz hd h] at h2
  rw [List.drop_zero] at h1
  rw [h1, h2]; omega
theorem val_ge3 {l : List Nat} (h : 2 < sz l) : 18446744073709551616 ≤ val l := by
  rcases Nat.lt_or_ge (val l) (4294967296 ^ 2) with h1 | h1
  · have := dig_len_of_lt h1
    unfold sz at h
    omega
  · exact h1
theorem val_sz_le1 {l : List Nat} (hd : D l) (h : sz l ≤ 1) : val l = l.getD 0 0 := by
  rw [val_le2 hd (by omega), getD_sz hd h]; omega
def uv (n : Nat) : Nat := if n < 18446744073709551616 then n else 0
theorem uv_lt {n : Nat} (h : n < 18446744073709551616) : uv n = n := if_pos h
theorem uv_ge {n : Nat} (h : 18446744073709551616 ≤ n) : uv n = 0 := if_neg (by omega)
theorem shl32 {x : Nat} (hx : x < 4294967296) : IntKind.u64.wrap ((x : Int) * 2 ^ (min (Int.toNat 32) IntKind.u64.bits)) = ((x * 4294967296 : Nat) : Int) := by
  rw [wrap_u64, show min (Int.toNat 32) IntKind.u64.bits = 32 from rfl]; omega
theorem or_add {x y : Nat} (hy : y < 4294967296) : x * 4294967296 ||| y = x * 4294967296 + y := by
  have h := Nat.shiftLeft_add_eq_or_of_lt (a := x) (b := y) (i := 32) (by omega)
  rw [Nat.shiftLeft_eq] at h
  exact h.symm
theorem shlB {k x : Nat} (hk : k ≤ 1) (hx : x < 4294967296) : IntKind.u64.wrap ((x : Int) * 2 ^ (min (Int.toNat (32 * (k : Int))) IntKind.u64.bits)) = ((4294967296 ^ k * x : Nat) : Int) := by
  rcases Nat.lt_or_ge k 1 with h | h
  · obtain rfl : k = 0 := by omega
    rw [wrap_u64, show min (Int.toNat (32 * ((0 : Nat) : Int))) IntKind.u64.bits = 0 from rfl]; omega
  · obtain rfl : k = 1 := by omega
    rw [wrap_u64, show min (Int.toNat (32 * ((1 : Nat) : Int))) IntKind.u64.bits = 32 from rfl]; omega
theorem add_take {l : List Nat} {k : Nat} (hd : D l) (hk : k ≤ 1) : IntKind.u64.wrap ((val (l.take k) : Int) + ((4294967296 ^ k * l.getD k 0 : Nat) : Int)) = ((val (l.take (k + 1)) : Nat) : Int) := by
  have h0 := hd.getD 0
  have h1 := hd.getD 1
  have e1 : val (l.take 1) = l.getD 0 0 := by rw [val_take_succ']; simp [val]
  rcases Nat.lt_or_ge k 1 with h | h
  · obtain rfl : k = 0 := by omega
    rw [wrap_u64, e1, show val (l.take 0) = 0 from by simp [val]]; omega
  · obtain rfl : k = 1 := by omega
    rw [wrap_u64, show val (l.take (1 + 1)) = val (l.take 1) + 4294967296 ^ 1 * l.getD 1 0 from val_take_succ' l 1, e1]; omega
def validv (l : List Nat) : Bool := decide (sz l = l.length)
theorem validv_dig (n : Nat) : validv (dig n) = true := decide_eq_true (sz_dig n)
theorem validv_nil : validv [] = true := by rw [← dig_zero]; exact validv_dig 0
theorem validv_top {l : List Nat} (hd : D l) (h : l ≠ []) : validv l = decide (l.getD (l.length - 1) 0 ≠ 0) := by
  have hp : 0 < l.length := List.length_pos_iff.2 h
  apply decide_eq_decide.2
  constructor
  · intro h1 h2
    have h3 := top_ne_zero hd (by omega)
    rw [h1] at h3
    exact h3 h2
  · intro h1
    have h3 := sz_take_pos hd (k := l.length - 1) (by omega) h1
    rw [show l.length - 1 + 1 = l.length from by omega, List.take_length] at h3
    exact h3
theorem valid_c {w : World} {v : Value} {l : List Nat} (hs : Nl w v l) :
    Calls Tryd.prog 22 #[v] w (Ret w fun r _ => r = .bool (validv l)) := by
  refine enter (args := [v]) Tryd.func22 rfl Tryd.ntmps22 rfl ?_
  refine WP_seq ?_
  refine WP_region ?_
  refine O_assign rfl rfl rfl ?_
  refine WL_end [(0, _)] ⟨rfl, trivial⟩ ?_
  refine WP_seq ?_
  refine WP_region ?_
  refine O_move rfl rfl rfl ?_
  refine O_call enters39 rfl rfl rfl (size_c hs) (fun v1 w1 e1 h1 => ?_)
  have z1 := e1.size
  obtain rfl := h1
  refine O_move rfl rfl rfl ?_
  refine N_len T22 rfl rfl rfl (hs.ext e1) ?_
  refine O_eql rfl rfl rfl rfl rfl ?_
  refine O_assign rfl rfl rfl ?_
  refine WL_end [(2, _)] ⟨rfl, trivial⟩ ?_
  refine WP_ret ?_
  refine ret1 Tryd.results22 rfl ?_
  exact ⟨_, rfl, e1, congrArg Value.bool (decide_eq_decide.2 (by omega))⟩
theorem validT_c {w : World} {v : Value} {l : List Nat} (hs : Nl w v l) (h : validv l = true) : Calls Tryd.prog 22 #[v] w (Ret w fun r _ => r = .bool true) :=
  (valid_c hs).mono fun e w' ⟨r, he, hx, hr⟩ => ⟨r, he, hx, by rw [hr, h]⟩

theorem rvalid_c {w : World} {v : Value} {l : List Nat} (hs : Nl w v l) :
    Calls Tryd.prog 23 #[v] w (Ret w fun r _ => r = .bool (validv l)) := by
  have hmx := hs.len_le
  refine enter (args := [v]) Tryd.func23 rfl Tryd.ntmps23 rfl ?_
  refine WP_seq ?_
  refine WP_region ?_
  refine O_assign rfl rfl rfl ?_
  refine WL_end [(0, _)] ⟨rfl, trivial⟩ ?_
  refine WP_seq ?_
  refine WP_region ?_
  refine O_move rfl rfl rfl ?_
  refine N_len T22 rfl rfl rfl hs ?_
  refine O_eql rfl rfl rfl rfl rfl ?_
  refine O_move rfl rfl rfl ?_
  refine WL_dec 6 rfl (fun g6 => ?_) (fun g6 => ?_)
  · --
    refine O_skip rfl rfl ?_
    refine O_skip rfl rfl ?_
    refine O_skip rfl rfl ?_
    refine O_skip rfl rfl ?_
    refine O_skip rfl rfl ?_
    refine O_skip rfl rfl ?_
    refine O_skip rfl rfl ?_
    refine O_pickT rfl rfl rfl rfl ?_
    refine O_assign rfl rfl rfl ?_
    refine WL_end [(2, _)] ⟨rfl, trivial⟩ ?_
    refine WP_ret ?_
    refine ret1 Tryd.results23 rfl ?_
    exact ⟨_, rfl, (Ext.refl _), by rw [List.eq_nil_of_length_eq_zero (by omega : l.length = 0), validv_nil]⟩
  · --
    refine O_move rfl rfl rfl ?_
    refine O_move rfl rfl rfl ?_
    refine N_len T22 rfl rfl rfl hs ?_
    refine O_sub rfl rfl rfl rfl (wrap_i64_id (by omega) (by omega)) ?_
    refine N_index T22 rfl rfl rfl rfl hs (l.length - 1) (by omega) (by omega) ?_
    refine N_load Tryd.underlying44 rfl rfl rfl hs (by omega) (fun d12 => ?_)
    refine O_neq rfl rfl rfl rfl rfl ?_
    refine O_pickF rfl rfl rfl rfl ?_
    refine O_assign rfl rfl rfl ?_
    refine WL_end [(2, _)] ⟨rfl, trivial⟩ ?_
    refine WP_ret ?_
    refine ret1 Tryd.results23 rfl ?_
    exact ⟨_, rfl, (Ext.refl _), by rw [validv_top hs.d (fun h => by rw [h] at g6; simp at g6)]; exact congrArg Value.bool (decide_eq_decide.2 (by omega))⟩

theorem uint_c {w : World} {v : Value} {l : List Nat} (hs : Nl w v l) (n : Nat) (hn : val l = n) :
    Calls Tryd.prog 19 #[v] w (Ret w fun r _ => r = .tuple #[.int .u64 (uv n : Nat), .bool (decide (n < 18446744073709551616))]) := by
  subst hn
  have hd0 := hs.d.getD 0
  have hd1 := hs.d.getD 1
  have hsl := sz_le hs.d
  refine enter (args := [v]) Tryd.func19 rfl Tryd.ntmps19 rfl ?_
  refine WP_seq ?_
  refine WP_region ?_
  refine O_assign rfl rfl rfl ?_
  refine O_assign rfl rfl rfl ?_
  refine WL_end [(0, _)] ⟨rfl, trivial⟩ ?_
  refine WP_seq ?_
  refine WP_seq ?_
  refine WP_region ?_
  refine O_move rfl rfl rfl ?_
  refine O_call enters39 rfl rfl rfl (size_c hs) (fun v1 w1 e1 h1 => ?_)
  have z1 := e1.size
  obtain rfl := h1
  refine O_assign rfl rfl rfl ?_
  refine WL_end [(0, _), (4, _)] ⟨rfl, rfl, trivial⟩ ?_
  refine WP_seq ?_
  refine WP_region ?_
  refine O_move rfl rfl rfl ?_
  refine WL_end [(0, _), (7, _)] ⟨rfl, rfl, trivial⟩ ?_
  refine WP_block ?_
  refine WP_seq ?_
  refine WP_region ?_
  refine O_eql rfl rfl rfl rfl rfl ?_
  refine O_assign rfl rfl rfl ?_
  refine WL_end [(0, _), (7, _), (8, _)] ⟨rfl, rfl, rfl, trivial⟩ ?_
  refine WP_condD rfl (fun c8 => ?_) (fun c8 => ?_)
  · --
    refine WP_seq ?_
    refine WP_region ?_
    refine O_assign rfl rfl rfl ?_
    refine O_assign rfl rfl rfl ?_
    refine WL_end [(2, _), (3, _)] ⟨rfl, rfl, trivial⟩ ?_
    refine WP_ret ?_
    refine inBlk_ret ?_
    refine ret2 Tryd.results19 rfl rfl ?_
    have h0 := sz_zero hs.d (by omega)
    exact ⟨_, rfl, e1, by rw [h0]; rfl⟩
  · --
    refine WP_seq ?_
    refine WP_region ?_
    refine O_eql rfl rfl rfl rfl rfl ?_
    refine O_assign rfl rfl rfl ?_
    refine WL_end [(0, _), (7, _), (10, _)] ⟨rfl, rfl, rfl, trivial⟩ ?_
    refine WP_condD rfl (fun c10 => ?_) (fun c10 => ?_)
    · --
      refine WP_seq ?_
      refine WP_region ?_
      refine O_move rfl rfl rfl ?_
      refine N_index T22 rfl rfl rfl rfl (hs.ext e1) 0 rfl (by omega) ?_
      refine N_load Tryd.underlying44 rfl rfl rfl (hs.ext e1) (by omega) (fun d14 => ?_)
      refine O_conv Tryd.underlying44 Tryd.underlying30 rfl rfl rfl (wrap_u64_id (by omega) (by omega)) ?_
      refine O_assign rfl rfl rfl ?_
      refine O_assign rfl rfl rfl ?_
      refine WL_end [(2, _), (3, _)] ⟨rfl, rfl, trivial⟩ ?_
      refine WP_ret ?_
      refine inBlk_ret ?_
      refine ret2 Tryd.results19 rfl rfl ?_
      have h0 := val_sz_le1 hs.d (by omega)
      exact ⟨_, rfl, e1, by rw [uv_lt (by omega), decide_eq_true (by omega), h0]⟩
    · --
      refine WP_seq ?_
      refine WP_region ?_
      refine O_eql rfl rfl rfl rfl rfl ?_
      refine O_assign rfl rfl rfl ?_
      refine WL_end [(0, _), (16, _)] ⟨rfl, rfl, trivial⟩ ?_
      refine WP_condD rfl (fun c16 => ?_) (fun c16 => ?_)
      · --
        refine WP_seq ?_
        refine WP_sub [(0, _)] ⟨rfl, trivial⟩ ?_
        refine WP_any 10 [0] mixed rfl (by kernel_rfl) ?_
        apply Any_val rfl
        · --
          intro y2 hy2
          have zy2 := hy2.size
          refine AllV_nil ?_
          refine O_move rfl rfl rfl ?_
          exact WL_nil ⟨(Ext.refl _), rfl⟩
        apply Any_val rfl
        · --
          intro y3 hy3
          have zy3 := hy3.size
          refine AllV_v ?_
          refine AllV_nil ?_
          refine N_index T22 rfl rfl rfl rfl (hs.ext (e1.trans hy3)) 1 rfl (by omega) ?_
          exact WL_nil ⟨(Ext.refl _), rfl⟩
        apply Any_val rfl
        · --
          intro y4 hy4
          have zy4 := hy4.size
          refine AllV_v ?_
          refine AllV_nil ?_
          refine N_load Tryd.underlying44 rfl rfl rfl (hs.ext (e1.trans hy4)) (by omega) (fun d20 => ?_)
          exact WL_nil ⟨(Ext.refl _), rfl⟩
        apply Any_val rfl
        · --
          intro y5 hy5
          have zy5 := hy5.size
          refine AllV_v ?_
          refine AllV_nil ?_
          refine O_conv Tryd.underlying44 Tryd.underlying30 rfl rfl rfl (wrap_u64_id (by omega) (by omega)) ?_
          exact WL_nil ⟨(Ext.refl _), rfl⟩
        apply Any_val rfl
        · --
          intro y6 hy6
          have zy6 := hy6.size
          refine AllV_v ?_
          refine AllV_nil ?_
          refine O_shl (r := ((l.getD 1 0 * 4294967296 : Nat) : Int)) rfl rfl rfl rfl (by decide) (shl32 hd1) ?_
          exact WL_nil ⟨(Ext.refl _), rfl⟩
        apply Any_val rfl
        · --
          intro y7 hy7
          have zy7 := hy7.size
          refine AllV_nil ?_
          refine O_move rfl rfl rfl ?_
          exact WL_nil ⟨(Ext.refl _), rfl⟩
        apply Any_val rfl
        · --
          intro y8 hy8
          have zy8 := hy8.size
          refine AllV_v ?_
          refine AllV_nil ?_
          refine N_index T22 rfl rfl rfl rfl (hs.ext (e1.trans hy8)) 0 rfl (by omega) ?_
          exact WL_nil ⟨(Ext.refl _), rfl⟩
        apply Any_val rfl
        · --
          intro y9 hy9
          have zy9 := hy9.size
          refine AllV_v ?_
          refine AllV_nil ?_
          refine N_load Tryd.underlying44 rfl rfl rfl (hs.ext (e1.trans hy9)) (by omega) (fun d25 => ?_)
          exact WL_nil ⟨(Ext.refl _), rfl⟩
        apply Any_val rfl
        · --
          intro y10 hy10
          have zy10 := hy10.size
          refine AllV_v ?_
          refine AllV_nil ?_
          refine O_conv Tryd.underlying44 Tryd.underlying30 rfl rfl rfl (wrap_u64_id (by omega) (by omega)) ?_
          exact WL_nil ⟨(Ext.refl _), rfl⟩
        apply Any_val rfl
        · --
          intro y11 hy11
          have zy11 := hy11.size
          refine AllV_v ?_
          refine AllV_v ?_
          refine AllV_nil ?_
          refine O_or rfl rfl rfl rfl (u64_or_nat _ _ (by omega) (by omega)) ?_
          rw [or_add hd0]
          exact WL_nil ⟨(Ext.refl _), rfl⟩
        refine Any_nil fun y12 hy12 => ?_
        have zy12 := hy12.size
        refine AllV_v ?_
        refine AllV_v ?_
        refine AllV_v ?_
        refine AllV_v ?_
        refine AllV_v ?_
        refine AllV_v ?_
        refine AllV_v ?_
        refine AllV_v ?_
        refine AllV_v ?_
        refine AllV_v ?_
        refine AllV_nil ?_
        refine O_assign rfl rfl rfl ?_
        refine O_assign rfl rfl rfl ?_
        refine WL_end [(2, _), (3, _)] ⟨rfl, rfl, trivial⟩ ?_
        refine WP_ret ?_
        refine inBlk_ret ?_
        refine ret2 Tryd.results19 rfl rfl ?_
        have h0 := val_le2 hs.d (by omega)
        exact ⟨_, rfl, (e1.trans hy12), by rw [uv_lt (by omega), decide_eq_true (by omega), h0]; congr 4; omega⟩
      · --
        refine WP_skip ?_
        refine WP_seq ?_
        refine WP_region ?_
        refine O_assign rfl rfl rfl ?_
        refine O_assign rfl rfl rfl ?_
        refine WL_end [(2, _), (3, _)] ⟨rfl, rfl, trivial⟩ ?_
        refine WP_ret ?_
        refine ret2 Tryd.results19 rfl rfl ?_
        have h0 := val_ge3 (l := l) (by omega)
        exact ⟨_, rfl, e1, by rw [uv_ge h0, decide_eq_false (by omega)]; rfl⟩
theorem uintT_c {w : World} {v : Value} {l : List Nat} (hs : Nl w v l) (n : Nat) (hn : val l = n) (h : n < 18446744073709551616) : Calls Tryd.prog 19 #[v] w (Ret w fun r _ => r = .tuple #[.int .u64 (n : Nat), .bool true]) :=
  (uint_c hs n hn).mono fun e w' ⟨r, he, hx, hr⟩ => ⟨r, he, hx, by rw [hr, uv_lt h, decide_eq_true h]⟩

theorem ruint_c {w : World} {v : Value} {l : List Nat} (hs : Nl w v l) (hv : validv l = true) (hl : l.length ≤ 100000000) (n : Nat) (hn : val l = n) :
    Calls Tryd.prog 20 #[v] w (Ret w fun r _ => r = .tuple #[.int .u64 (uv n : Nat), .bool (decide (n < 18446744073709551616))]) := by
  subst hn
  have hsz : sz l = l.length := of_decide_eq_true hv
  refine enter (args := [v]) Tryd.func20 rfl Tryd.ntmps20 rfl ?_
  refine WP_seq ?_
  refine WP_region ?_
  refine O_assign rfl rfl rfl ?_
  refine O_assign rfl rfl rfl ?_
  refine WL_end [(0, _)] ⟨rfl, trivial⟩ ?_
  refine WP_seq ?_
  refine WP_region ?_
  refine O_assign rfl rfl rfl ?_
  refine WL_end [(0, _), (4, _)] ⟨rfl, rfl, trivial⟩ ?_
  refine WP_seq ?_
  refine WP_seq ?_
  refine WP_region ?_
  refine O_move rfl rfl rfl ?_
  refine N_len T22 rfl rfl rfl hs ?_
  refine O_move rfl rfl rfl ?_
  refine WL_end [(4, _), (7, _), (8, _), (9, _)] ⟨rfl, rfl, rfl, rfl, trivial⟩ ?_
  refine WP_block ?_
  refine WP_loop (S := Nat) (fun k => [(4, .int .u64 (val (l.take k) : Nat)), (7, v), (8, .int .i64 (l.length : Nat)), (9, .int .i64 (k : Nat))]) (fun k w' => w = w' ∧ k ≤ l.length ∧ k ≤ 2) (fun k => l.length - k) 0 ⟨rfl, rfl, rfl, rfl, trivial⟩ ⟨rfl, Nat.zero_le _, Nat.zero_le _⟩ ?_
  rintro k w1 ⟨rfl, hk, hk2⟩
  have hdk := hs.d.getD k
  refine WP_seq ?_
  refine WP_region ?_
  refine O_lss rfl rfl rfl rfl rfl ?_
  refine WL_end [(4, _), (7, _), (8, _), (9, _), (10, _)] ⟨rfl, rfl, rfl, rfl, rfl, trivial⟩ ?_
  refine WP_seq ?_
  refine WP_condD rfl (fun c10 => ?_) (fun c10 => ?_)
  · --
    refine WP_skip ?_
    refine WP_seq ?_
    refine WP_block ?_
    refine WP_seq ?_
    refine WP_region ?_
    refine O_move rfl rfl rfl ?_
    refine N_index T22 rfl rfl rfl rfl hs k rfl (by omega) ?_
    refine N_load Tryd.underlying44 rfl rfl rfl hs (by omega) (fun d13 => ?_)
    refine O_assign rfl rfl rfl ?_
    refine O_assign rfl rfl rfl ?_
    refine WL_end [(4, _), (5, _), (6, _), (7, _), (8, _), (9, _)] ⟨rfl, rfl, rfl, rfl, rfl, rfl, trivial⟩ ?_
    refine WP_seq ?_
    refine WP_seq ?_
    refine WP_region ?_
    refine O_move rfl rfl rfl ?_
    refine O_gtr rfl rfl rfl rfl rfl ?_
    refine WL_end [(4, _), (5, _), (6, _), (7, _), (8, _), (9, _), (15, _)] ⟨rfl, rfl, rfl, rfl, rfl, rfl, rfl, trivial⟩ ?_
    refine WP_condD rfl (fun c15 => ?_) (fun c15 => ?_)
    · --
      refine WP_seq ?_
      refine WP_region ?_
      refine O_assign rfl rfl rfl ?_
      refine O_assign rfl rfl rfl ?_
      refine WL_end [(2, _), (3, _)] ⟨rfl, rfl, trivial⟩ ?_
      refine WP_ret ?_
      refine inBlk_ret ?_
      refine inBlk_ret ?_
      refine ret2 Tryd.results20 rfl rfl ?_
      have h0 := val_ge3 (l := l) (by omega)
      exact ⟨_, rfl, (Ext.refl _), by rw [uv_ge h0, decide_eq_false (by omega)]; rfl⟩
    · --
      refine WP_skip ?_
      refine WP_region ?_
      refine O_move rfl rfl rfl ?_
      refine O_move rfl rfl rfl ?_
      refine O_conv Tryd.underlying44 Tryd.underlying30 rfl rfl rfl (wrap_u64_id (by omega) (by omega)) ?_
      refine O_move rfl rfl rfl ?_
      refine O_mul rfl rfl rfl rfl (wrap_i64_id (by omega) (by omega)) ?_
      refine O_conv Tryd.underlying3 Tryd.underlying48 rfl rfl rfl (wrap_u64_id (by omega) (by omega)) ?_
      refine O_shl (r := ((4294967296 ^ k * l.getD k 0 : Nat) : Int)) rfl rfl rfl rfl (by omega) (shlB (by omega) (hs.d.getD k)) ?_
      refine O_add (r := ((val (l.take (k + 1)) : Nat) : Int)) rfl rfl rfl rfl (add_take hs.d (by omega)) ?_
      refine O_assign rfl rfl rfl ?_
      refine WL_end [(4, _), (7, _), (8, _), (9, _)] ⟨rfl, rfl, rfl, rfl, trivial⟩ ?_
      refine WP_region ?_
      refine O_add rfl rfl rfl rfl (wrap_i64_id (by omega) (by omega)) ?_
      refine O_move rfl rfl rfl ?_
      refine WL_end [(4, _), (7, _), (8, _), (9, _)] ⟨rfl, rfl, rfl, rfl, trivial⟩ ?_
      exact ⟨k + 1, ⟨rfl, rfl, rfl, rfl, trivial⟩, ⟨rfl, by omega, by omega⟩, by omega⟩
  · --
    refine WP_exit ?_
    refine inBlk_hit ?_
    refine WP_seq ?_
    refine WP_region ?_
    refine O_move rfl rfl rfl ?_
    refine O_assign rfl rfl rfl ?_
    refine O_assign rfl rfl rfl ?_
    refine WL_end [(2, _), (3, _)] ⟨rfl, rfl, trivial⟩ ?_
    refine WP_ret ?_
    refine ret2 Tryd.results20 rfl rfl ?_
    have hk3 : k = l.length := by omega
    have h0 := val_take_lt hs.d 2
    rw [List.take_of_length_le (by omega)] at h0
    have h1 : val l < 18446744073709551616 := h0
    exact ⟨_, rfl, (Ext.refl _), by rw [hk3, List.take_length, uv_lt h1, decide_eq_true h1]⟩

end Go.Proofs.YtijnlfhaepcldaaDoor
