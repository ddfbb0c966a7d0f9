/-
  Walks.
-/
import Derived.Test.YtnfnadhbjdcbnaaDoorS1
set_option linter.unusedVariables false
set_option linter.unusedSimpArgs false
set_option maxRecDepth 100000
namespace Go.Proofs.YtnfnadhbjdcbnaaDoor
open Go Go.RowKit
/-- The order of the integers. -/
def icmp (x y : Int) : Int := if x < y then -1 else if y < x then 1 else 0
theorem icmp_sign (x y : Int) : (x - y).sign = icmp x y := by
  unfold icmp
  by_cases h1 : x < y
  · rw [if_pos h1]; exact Int.sign_eq_neg_one_of_neg (by omega)
  · by_cases h2 : y < x
    · rw [if_neg h1, if_pos h2]; exact Int.sign_eq_one_of_pos (by omega)
    · rw [if_neg h1, if_neg h2]
      obtain rfl : x = y := by omega
      rw [Int.sub_self]; rfl
theorem icmp_self (x : Int) : icmp x x = 0 := by unfold icmp; simp
theorem icmp_neg (x y : Int) : icmp y x = -icmp x y := by unfold icmp; split <;> split <;> (try split) <;> omega
theorem icmp_nn {x y : Int} (hx : x < 0) (hy : y < 0) : cmpv y.natAbs x.natAbs = icmp x y := by unfold icmp cmpv; split <;> split <;> (try split) <;> (try split) <;> omega
theorem icmp_pp {x y : Int} (hx : ¬ x < 0) (hy : ¬ y < 0) : cmpv x.natAbs y.natAbs = icmp x y := by unfold icmp cmpv; split <;> split <;> (try split) <;> (try split) <;> omega
theorem icmp_np {x y : Int} (hx : x < 0) (hy : ¬ y < 0) : -1 = icmp x y := by unfold icmp; rw [if_pos (by omega)]
theorem icmp_pn {x y : Int} (hx : ¬ x < 0) (hy : y < 0) : 1 = icmp x y := by unfold icmp; rw [if_neg (by omega), if_pos (by omega)]
theorem sign_z {x : Int} (h : x = 0) : x.sign = 0 := by subst h; rfl
theorem sign_n {x : Int} (h : x < 0) : x.sign = -1 := Int.sign_eq_neg_one_of_neg h
theorem sign_p {x : Int} (h : ¬ x < 0) (h0 : x ≠ 0) : x.sign = 1 := Int.sign_eq_one_of_pos (by omega)
theorem shl_sign (x : Int) (k : Nat) : mk (decide (x < 0)) (x.natAbs * 2 ^ k) = x * 2 ^ k := by
  have h := mk_self x
  unfold mk at *
  by_cases hx : x < 0
  · simp only [hx, decide_true, if_true] at h ⊢
    rw [Int.natCast_mul, ← Int.neg_mul, h]; simp
  · simp only [hx, decide_false, Bool.false_eq_true, if_false] at h ⊢
    rw [Int.natCast_mul, h]; simp
theorem shr_pos {x : Int} (k : Nat) (h : ¬ x < 0) : mk (decide (x < 0)) (x.natAbs / 2 ^ k) = x / 2 ^ k := by
  obtain ⟨n, rfl⟩ := Int.eq_ofNat_of_zero_le (show 0 ≤ x by omega)
  unfold mk; rw [if_neg (by simp)]; simp
theorem shr_neg0 {x : Int} (k : Nat) (h : x < 0) (h0 : x.natAbs % 2 ^ k = 0) : mk (decide (x < 0)) (x.natAbs / 2 ^ k) = x / 2 ^ k := by
  obtain ⟨n, rfl⟩ : ∃ n : Nat, x = -(n : Int) := ⟨x.natAbs, by omega⟩
  have hp : 0 < 2 ^ k := Nat.two_pow_pos k
  rw [Int.natAbs_neg, Int.natAbs_natCast] at *
  have h1 : n = 2 ^ k * (n / 2 ^ k) := by have := Nat.div_add_mod n (2 ^ k); omega
  unfold mk
  simp only [h, decide_true, if_true]
  generalize n / 2 ^ k = q at *
  subst h1
  have : (2 : Int) ^ k ≠ 0 := by have := hp; exact_mod_cast Nat.ne_of_gt this
  rw [Int.natCast_mul, ← Int.mul_neg]
  simp only [Int.natCast_pow]
  exact (Int.mul_ediv_cancel_left _ this).symm
theorem shr_neg1 {x : Int} (k : Nat) (h : x < 0) (h0 : x.natAbs % 2 ^ k ≠ 0) : mk (decide (x < 0)) (x.natAbs / 2 ^ k + 1) = x / 2 ^ k := by
  obtain ⟨n, rfl⟩ : ∃ n : Nat, x = -(n : Int) := ⟨x.natAbs, by omega⟩
  have hp : 0 < 2 ^ k := Nat.two_pow_pos k
  rw [Int.natAbs_neg, Int.natAbs_natCast] at *
  have h1 := Nat.div_add_mod n (2 ^ k)
  have h2 := Nat.mod_lt n hp
  unfold mk
  simp only [h, decide_true, if_true]
  generalize n / 2 ^ k = q at *
  generalize n % 2 ^ k = r at *
  have hc : ((2 ^ k : Nat) : Int) = (2 : Int) ^ k := by simp
  rw [← hc]
  generalize 2 ^ k = P at *
  symm
  rw [Int.ediv_eq_iff_of_pos (by omega)]
  subst h1
  simp only [Int.natCast_add, Int.natCast_mul]
  have e1 : -((q : Int) + 1) * P = -(q * P) - P := by grind
  have e2 : (q : Int) * P = P * q := Int.mul_comm _ _
  have e3 : ((1 : Nat) : Int) = 1 := rfl
  rw [e3, e1]
  constructor <;> omega

theorem icmp_c {w : World} {vx vy : Value} {x y : Int} {bx by_ : Bool} (hbx : bx = decide (x < 0)) (hx : Nl w vx (dig x.natAbs)) (hby : by_ = decide (y < 0)) (hy : Nl w vy (dig y.natAbs)) (hlx : (dig x.natAbs).length ≤ 1000000) (hly : (dig y.natAbs).length ≤ 1000000) :
    Calls Tryd.prog 55 #[.agg #[.bool bx, vx], .agg #[.bool by_, vy]] w (Ret w fun r _ => r = .int .i64 (icmp x y)) := by
 subst hbx
 subst hby
 refine enter (args := [_, _]) Tryd.func55 rfl Tryd.ntmps55 rfl ?_
 refine WP_seq ?_
 refine WP_region ?_
 refine O_box _ rfl rfl rfl rfl (fun g1 w1 b1 e1 gl1 gh1 => ?_)
 have z1 := e1.size
 refine O_box _ rfl rfl rfl rfl (fun g2 w2 b2 e2 gl2 gh2 => ?_)
 have z2 := e2.size
 refine O_assign rfl rfl rfl ?_
 refine WL_end [(2, _), (3, _)] ⟨rfl, rfl, trivial⟩ ?_
 refine WP_seq ?_
 refine WP_block ?_
 refine WP_seq ?_
 refine WP_region ?_
 refine O_field F24_0 rfl rfl rfl ?_
 refine O_loadC Tryd.underlying4 rfl rfl rfl rfl (b1.ext e2) rfl ?_
 refine O_move rfl rfl rfl ?_
 refine WL_dec 8 rfl (fun g8 => ?_) (fun g8 => ?_)
 · --
  refine O_field F24_0 rfl rfl rfl ?_
  refine O_loadC Tryd.underlying4 rfl rfl rfl rfl b2 rfl ?_
  refine O_pickT rfl rfl rfl rfl ?_
  refine O_assign rfl rfl rfl ?_
  refine WL_end [(2, _), (3, _), (5, _)] ⟨rfl, rfl, rfl, trivial⟩ ?_
  refine WP_condD rfl (fun c5 => ?_) (fun c5 => ?_)
  · --
   refine WP_seq ?_
   refine WP_region ?_
   refine O_field F24_1 rfl rfl rfl ?_
   refine O_loadC Tryd.underlying22 rfl rfl rfl rfl b2 rfl ?_
   refine O_field F24_1 rfl rfl rfl ?_
   refine O_loadC Tryd.underlying22 rfl rfl rfl rfl (b1.ext e2) rfl ?_
   refine O_call enters94 rfl rfl rfl (cmp_c (hy.ext (e1.trans e2)) (hx.ext (e1.trans e2))) (fun v3 w3 e3 h3 => ?_)
   have z3 := e3.size
   obtain rfl := h3
   simp only [val_dig]
   refine O_assign rfl rfl rfl ?_
   refine WL_end [(4, _)] ⟨rfl, trivial⟩ ?_
   refine WP_ret ?_
   refine inBlk_ret ?_
   refine ret1 Tryd.results55 rfl ?_
   exact ⟨_, rfl, ((e1.trans e2).trans e3), by show Value.int _ _ = Value.int _ _; congr 1; simp only [icmp, cmpv]; (repeat' split) <;> omega⟩
  · --
   refine WP_seq ?_
   refine WP_region ?_
   refine O_field F24_0 rfl rfl rfl ?_
   refine O_loadC Tryd.underlying4 rfl rfl rfl rfl (b1.ext e2) rfl ?_
   refine O_assign rfl rfl rfl ?_
   refine WL_end [(2, _), (3, _), (17, _)] ⟨rfl, rfl, rfl, trivial⟩ ?_
   refine WP_condD rfl (fun c17 => ?_) (fun c17 => ?_)
   · --
    refine WP_seq ?_
    refine WP_region ?_
    refine O_assign rfl rfl rfl ?_
    refine WL_end [(4, _)] ⟨rfl, trivial⟩ ?_
    refine WP_ret ?_
    refine inBlk_ret ?_
    refine ret1 Tryd.results55 rfl ?_
    exact ⟨_, rfl, (e1.trans e2), by show Value.int _ _ = Value.int _ _; congr 1; simp only [icmp, cmpv]; (repeat' split) <;> omega⟩
   · --
    refine WP_seq ?_
    refine WP_region ?_
    refine O_field F24_0 rfl rfl rfl ?_
    refine O_loadC Tryd.underlying4 rfl rfl rfl rfl b2 rfl ?_
    refine O_assign rfl rfl rfl ?_
    refine WL_end [(2, _), (3, _), (20, _)] ⟨rfl, rfl, rfl, trivial⟩ ?_
    refine WP_condD rfl (fun c20 => ?_) (fun c20 => ?_)
    · --
     refine WP_seq ?_
     refine WP_region ?_
     refine O_assign rfl rfl rfl ?_
     refine WL_end [(4, _)] ⟨rfl, trivial⟩ ?_
     refine WP_ret ?_
     refine inBlk_ret ?_
     refine ret1 Tryd.results55 rfl ?_
     exact ⟨_, rfl, (e1.trans e2), by show Value.int _ _ = Value.int _ _; congr 1; simp only [icmp, cmpv]; (repeat' split) <;> omega⟩
    · --
     refine WP_skip ?_
     refine WP_seq ?_
     refine WP_region ?_
     refine O_field F24_1 rfl rfl rfl ?_
     refine O_loadC Tryd.underlying22 rfl rfl rfl rfl (b1.ext e2) rfl ?_
     refine O_field F24_1 rfl rfl rfl ?_
     refine O_loadC Tryd.underlying22 rfl rfl rfl rfl b2 rfl ?_
     refine O_call enters94 rfl rfl rfl (cmp_c (hx.ext (e1.trans e2)) (hy.ext (e1.trans e2))) (fun v4 w4 e4 h4 => ?_)
     have z4 := e4.size
     obtain rfl := h4
     simp only [val_dig]
     refine O_assign rfl rfl rfl ?_
     refine WL_end [(4, _)] ⟨rfl, trivial⟩ ?_
     refine WP_ret ?_
     refine ret1 Tryd.results55 rfl ?_
     exact ⟨_, rfl, ((e1.trans e2).trans e4), by show Value.int _ _ = Value.int _ _; congr 1; simp only [icmp, cmpv]; (repeat' split) <;> omega⟩
 · --
  refine O_skip rfl rfl ?_
  refine O_skip rfl rfl ?_
  refine O_pickF rfl rfl rfl rfl ?_
  refine O_assign rfl rfl rfl ?_
  refine WL_end [(2, _), (3, _), (5, _)] ⟨rfl, rfl, rfl, trivial⟩ ?_
  refine WP_condF rfl ?_
  refine WP_seq ?_
  refine WP_region ?_
  refine O_field F24_0 rfl rfl rfl ?_
  refine O_loadC Tryd.underlying4 rfl rfl rfl rfl (b1.ext e2) rfl ?_
  refine O_assign rfl rfl rfl ?_
  refine WL_end [(2, _), (3, _), (17, _)] ⟨rfl, rfl, rfl, trivial⟩ ?_
  refine WP_condD rfl (fun c17 => ?_) (fun c17 => ?_)
  · --
   refine WP_seq ?_
   refine WP_region ?_
   refine O_assign rfl rfl rfl ?_
   refine WL_end [(4, _)] ⟨rfl, trivial⟩ ?_
   refine WP_ret ?_
   refine inBlk_ret ?_
   refine ret1 Tryd.results55 rfl ?_
   exact ⟨_, rfl, (e1.trans e2), by show Value.int _ _ = Value.int _ _; congr 1; simp only [icmp, cmpv]; (repeat' split) <;> omega⟩
  · --
   refine WP_seq ?_
   refine WP_region ?_
   refine O_field F24_0 rfl rfl rfl ?_
   refine O_loadC Tryd.underlying4 rfl rfl rfl rfl b2 rfl ?_
   refine O_assign rfl rfl rfl ?_
   refine WL_end [(2, _), (3, _), (20, _)] ⟨rfl, rfl, rfl, trivial⟩ ?_
   refine WP_condD rfl (fun c20 => ?_) (fun c20 => ?_)
   · --
    refine WP_seq ?_
    refine WP_region ?_
    refine O_assign rfl rfl rfl ?_
    refine WL_end [(4, _)] ⟨rfl, trivial⟩ ?_
    refine WP_ret ?_
    refine inBlk_ret ?_
    refine ret1 Tryd.results55 rfl ?_
    exact ⟨_, rfl, (e1.trans e2), by show Value.int _ _ = Value.int _ _; congr 1; simp only [icmp, cmpv]; (repeat' split) <;> omega⟩
   · --
    refine WP_skip ?_
    refine WP_seq ?_
    refine WP_region ?_
    refine O_field F24_1 rfl rfl rfl ?_
    refine O_loadC Tryd.underlying22 rfl rfl rfl rfl (b1.ext e2) rfl ?_
    refine O_field F24_1 rfl rfl rfl ?_
    refine O_loadC Tryd.underlying22 rfl rfl rfl rfl b2 rfl ?_
    refine O_call enters94 rfl rfl rfl (cmp_c (hx.ext (e1.trans e2)) (hy.ext (e1.trans e2))) (fun v5 w5 e5 h5 => ?_)
    have z5 := e5.size
    obtain rfl := h5
    simp only [val_dig]
    refine O_assign rfl rfl rfl ?_
    refine WL_end [(4, _)] ⟨rfl, trivial⟩ ?_
    refine WP_ret ?_
    refine ret1 Tryd.results55 rfl ?_
    exact ⟨_, rfl, ((e1.trans e2).trans e5), by show Value.int _ _ = Value.int _ _; congr 1; simp only [icmp, cmpv]; (repeat' split) <;> omega⟩

theorem isign_c {w : World} {vx : Value} {x : Int} {bx : Bool} (hbx : bx = decide (x < 0)) (hx : Nl w vx (dig x.natAbs)) (hlx : (dig x.natAbs).length ≤ 1000000) :
    Calls Tryd.prog 58 #[.agg #[.bool bx, vx]] w (Ret w fun r _ => r = .int .i64 x.sign) := by
 subst hbx
 refine enter (args := [_]) Tryd.func58 rfl Tryd.ntmps58 rfl ?_
 refine WP_seq ?_
 refine WP_region ?_
 refine O_box _ rfl rfl rfl rfl (fun g1 w1 b1 e1 gl1 gh1 => ?_)
 have z1 := e1.size
 refine O_assign rfl rfl rfl ?_
 refine WL_end [(1, _)] ⟨rfl, trivial⟩ ?_
 refine WP_seq ?_
 refine WP_block ?_
 refine WP_seq ?_
 refine WP_region ?_
 refine O_field F24_1 rfl rfl rfl ?_
 refine O_loadC Tryd.underlying22 rfl rfl rfl rfl b1 rfl ?_
 refine O_call enters63 rfl rfl rfl (bits_c (hx.ext e1) (by (try simp only [lens]); omega)) (fun v2 w2 e2 h2 => ?_)
 have z2 := e2.size
 obtain rfl := h2
 simp only [val_dig]
 refine O_eql rfl rfl rfl rfl rfl ?_
 refine O_assign rfl rfl rfl ?_
 refine WL_end [(1, _), (3, _)] ⟨rfl, rfl, trivial⟩ ?_
 refine WP_condD rfl (fun c3 => ?_) (fun c3 => ?_)
 · --
  refine WP_seq ?_
  refine WP_region ?_
  refine O_assign rfl rfl rfl ?_
  refine WL_end [(2, _)] ⟨rfl, trivial⟩ ?_
  refine WP_ret ?_
  refine inBlk_ret ?_
  refine ret1 Tryd.results58 rfl ?_
  have h0 : x = 0 := by have := bl_zero_iff (n := x.natAbs); omega
  exact ⟨_, rfl, (e1.trans e2), by rw [sign_z h0]⟩
 · --
  refine WP_seq ?_
  refine WP_region ?_
  refine O_field F24_0 rfl rfl rfl ?_
  refine O_loadC Tryd.underlying4 rfl rfl rfl rfl (b1.ext e2) rfl ?_
  refine O_assign rfl rfl rfl ?_
  refine WL_end [(8, _)] ⟨rfl, trivial⟩ ?_
  refine WP_condD rfl (fun c8 => ?_) (fun c8 => ?_)
  · --
   refine WP_seq ?_
   refine WP_region ?_
   refine O_assign rfl rfl rfl ?_
   refine WL_end [(2, _)] ⟨rfl, trivial⟩ ?_
   refine WP_ret ?_
   refine inBlk_ret ?_
   refine ret1 Tryd.results58 rfl ?_
   exact ⟨_, rfl, (e1.trans e2), by rw [sign_n c8]⟩
  · --
   refine WP_skip ?_
   refine WP_seq ?_
   refine WP_region ?_
   refine O_assign rfl rfl rfl ?_
   refine WL_end [(2, _)] ⟨rfl, trivial⟩ ?_
   refine WP_ret ?_
   refine ret1 Tryd.results58 rfl ?_
   have h0 : x ≠ 0 := fun e => c3 (by subst e; rfl)
   exact ⟨_, rfl, (e1.trans e2), by rw [sign_p c8 h0]⟩

theorem risign_c {w : World} {vx : Value} {x : Int} {bx : Bool} (hbx : bx = decide (x < 0)) (hx : Nl w vx (dig x.natAbs)) (hlx : (dig x.natAbs).length ≤ 1000000) :
    Calls Tryd.prog 84 #[.agg #[.bool bx, vx]] w (Ret w fun r _ => r = .int .i64 x.sign) := by
 subst hbx
 refine enter (args := [_]) Tryd.func84 rfl Tryd.ntmps84 rfl ?_
 refine WP_seq ?_
 refine WP_region ?_
 refine O_box _ rfl rfl rfl rfl (fun g1 w1 b1 e1 gl1 gh1 => ?_)
 have z1 := e1.size
 refine O_assign rfl rfl rfl ?_
 refine WL_end [(1, _)] ⟨rfl, trivial⟩ ?_
 refine WP_seq ?_
 refine WP_block ?_
 refine WP_seq ?_
 refine WP_region ?_
 refine O_field F24_1 rfl rfl rfl ?_
 refine O_loadC Tryd.underlying22 rfl rfl rfl rfl b1 rfl ?_
 refine N_len T22 rfl rfl rfl (hx.ext e1) ?_
 refine O_eql rfl rfl rfl rfl rfl ?_
 refine O_assign rfl rfl rfl ?_
 refine WL_end [(1, _), (3, _)] ⟨rfl, rfl, trivial⟩ ?_
 refine WP_condD rfl (fun c3 => ?_) (fun c3 => ?_)
 · --
  refine WP_seq ?_
  refine WP_region ?_
  refine O_assign rfl rfl rfl ?_
  refine WL_end [(2, _)] ⟨rfl, trivial⟩ ?_
  refine WP_ret ?_
  refine inBlk_ret ?_
  refine ret1 Tryd.results84 rfl ?_
  have h0 : x = 0 := by have := dig_len_zero (n := x.natAbs); omega
  exact ⟨_, rfl, e1, by rw [sign_z h0]⟩
 · --
  refine WP_seq ?_
  refine WP_region ?_
  refine O_field F24_0 rfl rfl rfl ?_
  refine O_loadC Tryd.underlying4 rfl rfl rfl rfl b1 rfl ?_
  refine O_assign rfl rfl rfl ?_
  refine WL_end [(8, _)] ⟨rfl, trivial⟩ ?_
  refine WP_condD rfl (fun c8 => ?_) (fun c8 => ?_)
  · --
   refine WP_seq ?_
   refine WP_region ?_
   refine O_assign rfl rfl rfl ?_
   refine WL_end [(2, _)] ⟨rfl, trivial⟩ ?_
   refine WP_ret ?_
   refine inBlk_ret ?_
   refine ret1 Tryd.results84 rfl ?_
   exact ⟨_, rfl, e1, by rw [sign_n c8]⟩
  · --
   refine WP_skip ?_
   refine WP_seq ?_
   refine WP_region ?_
   refine O_assign rfl rfl rfl ?_
   refine WL_end [(2, _)] ⟨rfl, trivial⟩ ?_
   refine WP_ret ?_
   refine ret1 Tryd.results84 rfl ?_
   have h0 : x ≠ 0 := fun e => c3 (by subst e; simp [dig_zero])
   exact ⟨_, rfl, e1, by rw [sign_p c8 h0]⟩

theorem riadd_c {w : World} {vx vy : Value} {x y : Int} {bx by_ : Bool} (hbx : bx = decide (x < 0)) (hx : Nl w vx (dig x.natAbs)) (hby : by_ = decide (y < 0)) (hy : Nl w vy (dig y.natAbs)) (hlx : (dig x.natAbs).length ≤ 1000000) (hly : (dig y.natAbs).length ≤ 1000000) :
    Calls Tryd.prog 52 #[.agg #[.bool bx, vx], .agg #[.bool by_, vy]] w (Ret w fun r w' => ∃ q, r = .agg #[.bool (decide ((x + y) < 0)), q] ∧ No w.heap.size 89 w' q (dig (x + y).natAbs)) := by
 subst hbx
 subst hby
 have hLa := dig_len_add x.natAbs y.natAbs
 have hLs := dig_len_mono (Nat.sub_le x.natAbs y.natAbs)
 have hLt := dig_len_mono (Nat.sub_le y.natAbs x.natAbs)
 refine enter (args := [_, _]) Tryd.func52 rfl Tryd.ntmps52 rfl ?_
 refine WP_seq ?_
 refine WP_region ?_
 refine O_box _ rfl rfl rfl rfl (fun g1 w1 b1 e1 gl1 gh1 => ?_)
 have z1 := e1.size
 refine O_box _ rfl rfl rfl rfl (fun g2 w2 b2 e2 gl2 gh2 => ?_)
 have z2 := e2.size
 refine O_alloc S24 rfl rfl (fun g3 w3 b3 e3 gl3 gh3 => ?_)
 have z3 := e3.size
 refine WL_end [(2, _), (3, _), (4, _)] ⟨rfl, rfl, rfl, trivial⟩ ?_
 refine WP_seq ?_
 refine WP_seq ?_
 refine WP_region ?_
 refine O_field F24_0 rfl rfl rfl ?_
 refine O_loadC Tryd.underlying4 rfl rfl rfl rfl ((b1.ext e2).ext e3) rfl ?_
 refine O_field F24_0 rfl rfl rfl ?_
 refine O_loadC Tryd.underlying4 rfl rfl rfl rfl (b2.ext e3) rfl ?_
 refine O_beql Tryd.underlying4 rfl rfl rfl rfl rfl ?_
 refine WL_end [(2, _), (3, _), (4, _), (9, _)] ⟨rfl, rfl, rfl, rfl, trivial⟩ ?_
 refine WP_cond rfl (fun c9 => ?_) (fun c9 => ?_)
 · --
  refine WP_seq ?_
  refine WP_sub [(2, _), (3, _), (4, _)] ⟨rfl, rfl, rfl, trivial⟩ ?_
  refine WP_anyR 7 [2, 3, 4] mixed rfl (by kernel_rfl) ?_
  apply AnyR_val [2] rfl (by kernel_rfl)
  · --
   intro y4 hy4
   have zy4 := hy4.size
   refine AllV_nil ?_
   refine O_field F24_0 rfl rfl rfl ?_
   exact WL_nil ⟨(Ext.refl _), rfl⟩
  apply AnyR_val [10] rfl (by kernel_rfl)
  · --
   intro y5 hy5
   have zy5 := hy5.size
   refine AllV_v ?_
   refine AllV_nil ?_
   refine O_loadC Tryd.underlying4 rfl rfl rfl rfl (((b1.ext e2).ext e3).ext hy5) rfl ?_
   exact WL_nil ⟨(Ext.refl _), rfl⟩
  apply AnyR_val [2] rfl (by kernel_rfl)
  · --
   intro y6 hy6
   have zy6 := hy6.size
   refine AllV_nil ?_
   refine O_field F24_1 rfl rfl rfl ?_
   exact WL_nil ⟨(Ext.refl _), rfl⟩
  apply AnyR_val [12] rfl (by kernel_rfl)
  · --
   intro y7 hy7
   have zy7 := hy7.size
   refine AllV_v ?_
   refine AllV_nil ?_
   refine O_loadC Tryd.underlying22 rfl rfl rfl rfl (((b1.ext e2).ext e3).ext hy7) rfl ?_
   exact WL_nil ⟨(Ext.refl _), rfl⟩
  apply AnyR_val [3] rfl (by kernel_rfl)
  · --
   intro y8 hy8
   have zy8 := hy8.size
   refine AllV_nil ?_
   refine O_field F24_1 rfl rfl rfl ?_
   exact WL_nil ⟨(Ext.refl _), rfl⟩
  apply AnyR_val [14] rfl (by kernel_rfl)
  · --
   intro y9 hy9
   have zy9 := hy9.size
   refine AllV_v ?_
   refine AllV_nil ?_
   refine O_loadC Tryd.underlying22 rfl rfl rfl rfl ((b2.ext e3).ext hy9) rfl ?_
   exact WL_nil ⟨(Ext.refl _), rfl⟩
  apply AnyR_no [13, 15] rfl (by kernel_rfl)
  · --
   intro y10 hy10
   have zy10 := hy10.size
   refine AllV_v ?_
   refine AllV_v ?_
   refine AllV_nil ?_
   refine O_call enters89 rfl rfl rfl (radd_c (hx.ext (((e1.trans e2).trans e3).trans hy10)) (hy.ext (((e1.trans e2).trans e3).trans hy10)) (by (try simp only [lens]); omega) (by (try simp only [lens]); omega)) (fun v11 w11 e11 h11 => ?_)
   have z11 := e11.size
   try simp only [val_dig] at h11
   exact WL_nil ⟨e11, _, rfl, NoR.mk' h11⟩
  refine AnyR_nil fun y12 hy12 => ?_
  have zy12 := hy12.size
  refine AllV_v ?_
  refine AllV_v ?_
  refine AllV_v ?_
  refine AllV_v ?_
  refine AllV_v ?_
  refine AllV_v ?_
  refine AllV_r fun a13 b13 v13 la13 lb13 lc13 h13 ap13 => ?_
  clear ap13
  refine AllV_nil ?_
  refine O_call enters47 rfl rfl rfl (rinat_c h13.1.nl (by (try simp only [lens]); omega)) (fun v14 w14 e14 h14 => ?_)
  have z14 := e14.size
  try simp only [val_dig] at h14
  obtain ⟨q14, rfl, hq14⟩ := h14
  refine O_storeA (cs' := [_, _]) S24 rfl rfl rfl ((b3.ext hy12).ext e14) rfl rfl (one_cons rfl (one_cons (hq14.nl).one one_nil)) rfl (fun w15 b15 q15 => ?_)
  have z15 := Nat.le_of_eq q15.size.symm
  have e15 : Ext w w15 := q15.ext ((((e1.trans e2).trans e3).trans hy12).trans e14) (by omega)
  refine WL_end [(4, _)] ⟨rfl, trivial⟩ ?_
  refine WP_ret ?_
  refine retL Tryd.results52 (.cell rfl S24 b15 rfl .nil) ?_
  have hz : mk (decide (x < 0)) (x.natAbs + y.natAbs) = x + y := add_same c9
  rw [← hz]
  exact ⟨_, rfl, e15, _, rfl, (hq14.chgBk ((b3.ext hy12).ext e14) (by decide) q15).mono (by omega)⟩
 · --
  refine WP_skip ?_
  refine WP_seq ?_
  refine WP_seq ?_
  refine WP_region ?_
  refine O_field F24_1 rfl rfl rfl ?_
  refine O_loadC Tryd.underlying22 rfl rfl rfl rfl ((b1.ext e2).ext e3) rfl ?_
  refine O_field F24_1 rfl rfl rfl ?_
  refine O_loadC Tryd.underlying22 rfl rfl rfl rfl (b2.ext e3) rfl ?_
  refine O_call enters90 rfl rfl rfl (rcmp_c (hx.ext ((e1.trans e2).trans e3)) (hy.ext ((e1.trans e2).trans e3)) (by (try simp only [lens]); omega) (by (try simp only [lens]); omega)) (fun v16 w16 e16 h16 => ?_)
  have z16 := e16.size
  obtain rfl := h16
  simp only [val_dig]
  refine O_lss rfl rfl rfl rfl rfl ?_
  refine WL_end [(2, _), (3, _), (4, _), (23, _)] ⟨rfl, rfl, rfl, rfl, trivial⟩ ?_
  refine WP_condD rfl (fun c23 => ?_) (fun c23 => ?_)
  · --
   refine WP_seq ?_
   refine WP_sub [(2, _), (3, _), (4, _)] ⟨rfl, rfl, rfl, trivial⟩ ?_
   refine WP_anyR 7 [2, 3, 4] mixed rfl (by kernel_rfl) ?_
   apply AnyR_val [3] rfl (by kernel_rfl)
   · --
    intro y17 hy17
    have zy17 := hy17.size
    refine AllV_nil ?_
    refine O_field F24_0 rfl rfl rfl ?_
    exact WL_nil ⟨(Ext.refl _), rfl⟩
   apply AnyR_val [24] rfl (by kernel_rfl)
   · --
    intro y18 hy18
    have zy18 := hy18.size
    refine AllV_v ?_
    refine AllV_nil ?_
    refine O_loadC Tryd.underlying4 rfl rfl rfl rfl (((b2.ext e3).ext e16).ext hy18) rfl ?_
    exact WL_nil ⟨(Ext.refl _), rfl⟩
   apply AnyR_val [3] rfl (by kernel_rfl)
   · --
    intro y19 hy19
    have zy19 := hy19.size
    refine AllV_nil ?_
    refine O_field F24_1 rfl rfl rfl ?_
    exact WL_nil ⟨(Ext.refl _), rfl⟩
   apply AnyR_val [26] rfl (by kernel_rfl)
   · --
    intro y20 hy20
    have zy20 := hy20.size
    refine AllV_v ?_
    refine AllV_nil ?_
    refine O_loadC Tryd.underlying22 rfl rfl rfl rfl (((b2.ext e3).ext e16).ext hy20) rfl ?_
    exact WL_nil ⟨(Ext.refl _), rfl⟩
   apply AnyR_val [2] rfl (by kernel_rfl)
   · --
    intro y21 hy21
    have zy21 := hy21.size
    refine AllV_nil ?_
    refine O_field F24_1 rfl rfl rfl ?_
    exact WL_nil ⟨(Ext.refl _), rfl⟩
   apply AnyR_val [28] rfl (by kernel_rfl)
   · --
    intro y22 hy22
    have zy22 := hy22.size
    refine AllV_v ?_
    refine AllV_nil ?_
    refine O_loadC Tryd.underlying22 rfl rfl rfl rfl ((((b1.ext e2).ext e3).ext e16).ext hy22) rfl ?_
    exact WL_nil ⟨(Ext.refl _), rfl⟩
   apply AnyR_no [27, 29] rfl (by kernel_rfl)
   · --
    intro y23 hy23
    have zy23 := hy23.size
    refine AllV_v ?_
    refine AllV_v ?_
    refine AllV_nil ?_
    refine O_call enters91 rfl rfl rfl (less_c (hy.ext ((((e1.trans e2).trans e3).trans e16).trans hy23)) (hx.ext ((((e1.trans e2).trans e3).trans e16).trans hy23)) (by (try simp only [lens]); omega) (by (try simp only [lens]); omega)) (fun v24 w24 e24 h24 => ?_)
    have z24 := e24.size
    try simp only [val_dig] at h24
    exact WL_nil ⟨e24, _, rfl, NoR.mk' h24⟩
   refine AnyR_nil fun y25 hy25 => ?_
   have zy25 := hy25.size
   refine AllV_v ?_
   refine AllV_v ?_
   refine AllV_v ?_
   refine AllV_v ?_
   refine AllV_v ?_
   refine AllV_v ?_
   refine AllV_r fun a26 b26 v26 la26 lb26 lc26 h26 ap26 => ?_
   clear ap26
   refine AllV_nil ?_
   refine O_call enters47 rfl rfl rfl (rinat_c h26.1.nl (by (try simp only [lens]); omega)) (fun v27 w27 e27 h27 => ?_)
   have z27 := e27.size
   try simp only [val_dig] at h27
   obtain ⟨q27, rfl, hq27⟩ := h27
   refine O_storeA (cs' := [_, _]) S24 rfl rfl rfl (((b3.ext e16).ext hy25).ext e27) rfl rfl (one_cons rfl (one_cons (hq27.nl).one one_nil)) rfl (fun w28 b28 q28 => ?_)
   have z28 := Nat.le_of_eq q28.size.symm
   have e28 : Ext w w28 := q28.ext (((((e1.trans e2).trans e3).trans e16).trans hy25).trans e27) (by omega)
   refine WL_end [(4, _)] ⟨rfl, trivial⟩ ?_
   refine WP_ret ?_
   refine retL Tryd.results52 (.cell rfl S24 b28 rfl .nil) ?_
   have hz : mk (decide (y < 0)) (y.natAbs - x.natAbs) = x + y := add_rsub (by rw [c9]; decide) (Nat.le_of_lt (cmpv_lt_zero.1 c23))
   rw [← hz]
   exact ⟨_, rfl, e28, _, rfl, (hq27.chgBk (((b3.ext e16).ext hy25).ext e27) (by decide) q28).mono (by omega)⟩
  · --
   refine WP_skip ?_
   refine WP_seq ?_
   refine WP_sub [(2, _), (3, _), (4, _)] ⟨rfl, rfl, rfl, trivial⟩ ?_
   refine WP_anyR 7 [2, 3, 4] mixed rfl (by kernel_rfl) ?_
   apply AnyR_val [2] rfl (by kernel_rfl)
   · --
    intro y29 hy29
    have zy29 := hy29.size
    refine AllV_nil ?_
    refine O_field F24_0 rfl rfl rfl ?_
    exact WL_nil ⟨(Ext.refl _), rfl⟩
   apply AnyR_val [32] rfl (by kernel_rfl)
   · --
    intro y30 hy30
    have zy30 := hy30.size
    refine AllV_v ?_
    refine AllV_nil ?_
    refine O_loadC Tryd.underlying4 rfl rfl rfl rfl ((((b1.ext e2).ext e3).ext e16).ext hy30) rfl ?_
    exact WL_nil ⟨(Ext.refl _), rfl⟩
   apply AnyR_val [2] rfl (by kernel_rfl)
   · --
    intro y31 hy31
    have zy31 := hy31.size
    refine AllV_nil ?_
    refine O_field F24_1 rfl rfl rfl ?_
    exact WL_nil ⟨(Ext.refl _), rfl⟩
   apply AnyR_val [34] rfl (by kernel_rfl)
   · --
    intro y32 hy32
    have zy32 := hy32.size
    refine AllV_v ?_
    refine AllV_nil ?_
    refine O_loadC Tryd.underlying22 rfl rfl rfl rfl ((((b1.ext e2).ext e3).ext e16).ext hy32) rfl ?_
    exact WL_nil ⟨(Ext.refl _), rfl⟩
   apply AnyR_val [3] rfl (by kernel_rfl)
   · --
    intro y33 hy33
    have zy33 := hy33.size
    refine AllV_nil ?_
    refine O_field F24_1 rfl rfl rfl ?_
    exact WL_nil ⟨(Ext.refl _), rfl⟩
   apply AnyR_val [36] rfl (by kernel_rfl)
   · --
    intro y34 hy34
    have zy34 := hy34.size
    refine AllV_v ?_
    refine AllV_nil ?_
    refine O_loadC Tryd.underlying22 rfl rfl rfl rfl (((b2.ext e3).ext e16).ext hy34) rfl ?_
    exact WL_nil ⟨(Ext.refl _), rfl⟩
   apply AnyR_no [35, 37] rfl (by kernel_rfl)
   · --
    intro y35 hy35
    have zy35 := hy35.size
    refine AllV_v ?_
    refine AllV_v ?_
    refine AllV_nil ?_
    refine O_call enters91 rfl rfl rfl (less_c (hx.ext ((((e1.trans e2).trans e3).trans e16).trans hy35)) (hy.ext ((((e1.trans e2).trans e3).trans e16).trans hy35)) (by (try simp only [lens]); omega) (by (try simp only [lens]); omega)) (fun v36 w36 e36 h36 => ?_)
    have z36 := e36.size
    try simp only [val_dig] at h36
    exact WL_nil ⟨e36, _, rfl, NoR.mk' h36⟩
   refine AnyR_nil fun y37 hy37 => ?_
   have zy37 := hy37.size
   refine AllV_v ?_
   refine AllV_v ?_
   refine AllV_v ?_
   refine AllV_v ?_
   refine AllV_v ?_
   refine AllV_v ?_
   refine AllV_r fun a38 b38 v38 la38 lb38 lc38 h38 ap38 => ?_
   clear ap38
   refine AllV_nil ?_
   refine O_call enters47 rfl rfl rfl (rinat_c h38.1.nl (by (try simp only [lens]); omega)) (fun v39 w39 e39 h39 => ?_)
   have z39 := e39.size
   try simp only [val_dig] at h39
   obtain ⟨q39, rfl, hq39⟩ := h39
   refine O_storeA (cs' := [_, _]) S24 rfl rfl rfl (((b3.ext e16).ext hy37).ext e39) rfl rfl (one_cons rfl (one_cons (hq39.nl).one one_nil)) rfl (fun w40 b40 q40 => ?_)
   have z40 := Nat.le_of_eq q40.size.symm
   have e40 : Ext w w40 := q40.ext (((((e1.trans e2).trans e3).trans e16).trans hy37).trans e39) (by omega)
   refine WL_end [(4, _)] ⟨rfl, trivial⟩ ?_
   refine WP_ret ?_
   refine retL Tryd.results52 (.cell rfl S24 b40 rfl .nil) ?_
   have hz : mk (decide (x < 0)) (x.natAbs - y.natAbs) = x + y := add_sub (by rw [c9]; decide) (Nat.not_lt.1 fun h => c23 (cmpv_lt_zero.2 h))
   rw [← hz]
   exact ⟨_, rfl, e40, _, rfl, (hq39.chgBk (((b3.ext e16).ext hy37).ext e39) (by decide) q40).mono (by omega)⟩

theorem risub_c {w : World} {vx vy : Value} {x y : Int} {bx by_ : Bool} (hbx : bx = decide (x < 0)) (hx : Nl w vx (dig x.natAbs)) (hby : by_ = decide (y < 0)) (hy : Nl w vy (dig y.natAbs)) (hlx : (dig x.natAbs).length ≤ 1000000) (hly : (dig y.natAbs).length ≤ 1000000) :
    Calls Tryd.prog 95 #[.agg #[.bool bx, vx], .agg #[.bool by_, vy]] w (Ret w fun r w' => ∃ q, r = .agg #[.bool (decide ((x - y) < 0)), q] ∧ No w.heap.size 89 w' q (dig (x - y).natAbs)) := by
 subst hbx
 subst hby
 have hLn : (dig (-y).natAbs).length ≤ 1000000 := by rw [Int.natAbs_neg]; exact hly
 refine enter (args := [_, _]) Tryd.func95 rfl Tryd.ntmps95 rfl ?_
 refine WP_seq ?_
 refine WP_region ?_
 refine O_box _ rfl rfl rfl rfl (fun g1 w1 b1 e1 gl1 gh1 => ?_)
 have z1 := e1.size
 refine O_box _ rfl rfl rfl rfl (fun g2 w2 b2 e2 gl2 gh2 => ?_)
 have z2 := e2.size
 refine O_alloc S24 rfl rfl (fun g3 w3 b3 e3 gl3 gh3 => ?_)
 have z3 := e3.size
 refine WL_end [(2, _), (3, _), (4, _)] ⟨rfl, rfl, rfl, trivial⟩ ?_
 refine WP_seq ?_
 refine WP_sub [(2, _), (3, _), (4, _)] ⟨rfl, rfl, rfl, trivial⟩ ?_
 refine WP_anyR 3 [2, 3, 4] mixed rfl (by kernel_rfl) ?_
 apply AnyR_val [2] rfl (by kernel_rfl)
 · --
  intro y4 hy4
  have zy4 := hy4.size
  refine AllV_nil ?_
  refine O_loadA (vs := [_, _]) S24 rfl rfl rfl (((b1.ext e2).ext e3).ext hy4) rfl rfl ?_
  exact WL_nil ⟨(Ext.refl _), rfl⟩
 apply AnyR_val [3] rfl (by kernel_rfl)
 · --
  intro y5 hy5
  have zy5 := hy5.size
  refine AllV_nil ?_
  refine O_loadA (vs := [_, _]) S24 rfl rfl rfl ((b2.ext e3).ext hy5) rfl rfl ?_
  exact WL_nil ⟨(Ext.refl _), rfl⟩
 apply AnyR_rel (RelP (pAgg [pEq _, pNo w3.heap.size 89 _])) [6] rfl (RelP.mono (pAgg_mono (PsM.cons pEq_mono (PsM.cons pNo_mono PsM.nil)))) (by kernel_rfl)
 · --
  intro y6 hy6
  have zy6 := hy6.size
  refine AllV_v ?_
  refine AllV_nil ?_
  refine O_call enters113 rfl rfl rfl (rineg_c rfl (hy.ext (((e1.trans e2).trans e3).trans hy6)) (by (try simp only [lens]); omega)) (fun v7 w7 e7 h7 => ?_)
  have z7 := e7.size
  try simp only [val_dig] at h7
  obtain ⟨q7, rfl, hq7⟩ := h7
  exact WL_nil ⟨e7, _, rfl, ⟨_, rfl, (AllP.cons rfl (AllP.cons (hq7.mono (by omega)) AllP.nil))⟩⟩
 refine AnyR_nil fun y8 hy8 => ?_
 have zy8 := hy8.size
 refine AllV_v ?_
 refine AllV_v ?_
 refine AllV_r fun a9 b9 v9 la9 lb9 lc9 h9 ap9 => ?_
 clear ap9
 obtain ⟨_, rfl, v9_0, _, rfl, rfl, v9_1, _, rfl, h9_1, rfl⟩ := h9
 refine AllV_nil ?_
 refine O_call enters52 rfl rfl rfl (riadd_c rfl (hx.ext (((e1.trans e2).trans e3).trans hy8)) rfl h9_1.nl (by (try simp only [lens]); omega) (by (try simp only [lens]); omega)) (fun v10 w10 e10 h10 => ?_)
 have z10 := e10.size
 try simp only [val_dig] at h10
 obtain ⟨q10, rfl, hq10⟩ := h10
 refine O_storeA (cs' := [_, _]) S24 rfl rfl rfl ((b3.ext hy8).ext e10) rfl rfl (one_cons rfl (one_cons (hq10.nl).one one_nil)) rfl (fun w11 b11 q11 => ?_)
 have z11 := Nat.le_of_eq q11.size.symm
 have e11 : Ext w w11 := q11.ext ((((e1.trans e2).trans e3).trans hy8).trans e10) (by omega)
 refine WL_end [(4, _)] ⟨rfl, trivial⟩ ?_
 refine WP_ret ?_
 refine retL Tryd.results95 (.cell rfl S24 b11 rfl .nil) ?_
 have hz : x + -y = x - y := Int.sub_eq_add_neg.symm
 rw [← hz]
 exact ⟨_, rfl, e11, _, rfl, (hq10.chgBk ((b3.ext hy8).ext e10) (by decide) q11).mono (by omega)⟩

theorem ricmp_c {w : World} {vx vy : Value} {x y : Int} {bx by_ : Bool} (hbx : bx = decide (x < 0)) (hx : Nl w vx (dig x.natAbs)) (hby : by_ = decide (y < 0)) (hy : Nl w vy (dig y.natAbs)) (hlx : (dig x.natAbs).length ≤ 900000) (hly : (dig y.natAbs).length ≤ 900000) :
    Calls Tryd.prog 56 #[.agg #[.bool bx, vx], .agg #[.bool by_, vy]] w (Ret w fun r _ => r = .int .i64 (icmp x y)) := by
 subst hbx
 subst hby
 have hLa := dig_len_add x.natAbs y.natAbs
 have hLb : (dig (x - y).natAbs).length ≤ (dig (x.natAbs + y.natAbs)).length := dig_len_mono (by omega)
 refine enter (args := [_, _]) Tryd.func56 rfl Tryd.ntmps56 rfl ?_
 refine WP_seq ?_
 refine WP_region ?_
 refine O_box _ rfl rfl rfl rfl (fun g1 w1 b1 e1 gl1 gh1 => ?_)
 have z1 := e1.size
 refine O_box _ rfl rfl rfl rfl (fun g2 w2 b2 e2 gl2 gh2 => ?_)
 have z2 := e2.size
 refine O_assign rfl rfl rfl ?_
 refine WL_end [(2, _), (3, _)] ⟨rfl, rfl, trivial⟩ ?_
 refine WP_seq ?_
 refine WP_region ?_
 refine O_loadA (vs := [_, _]) S24 rfl rfl rfl (b1.ext e2) rfl rfl ?_
 refine O_loadA (vs := [_, _]) S24 rfl rfl rfl b2 rfl rfl ?_
 refine O_call enters95 rfl rfl rfl (risub_c rfl (hx.ext (e1.trans e2)) rfl (hy.ext (e1.trans e2)) (by (try simp only [lens]); omega) (by (try simp only [lens]); omega)) (fun v3 w3 e3 h3 => ?_)
 have z3 := e3.size
 try simp only [val_dig] at h3
 obtain ⟨q3, rfl, hq3⟩ := h3
 refine O_call enters84 rfl rfl rfl (risign_c rfl hq3.nl (by (try simp only [lens]); omega)) (fun v4 w4 e4 h4 => ?_)
 have z4 := e4.size
 obtain rfl := h4
 rw [icmp_sign]
 refine O_assign rfl rfl rfl ?_
 refine WL_end [(4, _)] ⟨rfl, trivial⟩ ?_
 refine WP_ret ?_
 refine ret1 Tryd.results56 rfl ?_
 exact ⟨_, rfl, (((e1.trans e2).trans e3).trans e4), rfl⟩

theorem isame_c {w : World} {vx vy : Value} {lx ly : List Nat} {bx by_ : Bool} (hb : bx = by_) (hx : Nl w vx lx) (hy : Nl w vy ly) (hlx : lx.length ≤ 100000000) (hly : ly.length ≤ 100000000) (hl : lx = ly) :
    Calls Tryd.prog 44 #[.agg #[.bool bx, vx], .agg #[.bool by_, vy]] w (Ret w fun r _ => r = .bool true) := by
 refine enter (args := [_, _]) Tryd.func44 rfl Tryd.ntmps44 rfl ?_
 refine WP_seq ?_
 refine WP_region ?_
 refine O_box _ rfl rfl rfl rfl (fun g1 w1 b1 e1 gl1 gh1 => ?_)
 have z1 := e1.size
 refine O_box _ rfl rfl rfl rfl (fun g2 w2 b2 e2 gl2 gh2 => ?_)
 have z2 := e2.size
 refine O_assign rfl rfl rfl ?_
 refine WL_end [(2, _), (3, _)] ⟨rfl, rfl, trivial⟩ ?_
 refine WP_seq ?_
 refine WP_region ?_
 refine O_field F24_0 rfl rfl rfl ?_
 refine O_loadC Tryd.underlying4 rfl rfl rfl rfl (b1.ext e2) rfl ?_
 refine O_field F24_0 rfl rfl rfl ?_
 refine O_loadC Tryd.underlying4 rfl rfl rfl rfl b2 rfl ?_
 refine O_beql Tryd.underlying4 (t := true) rfl rfl rfl rfl (by subst hb; exact beq_self_eq_true _) ?_
 refine O_move rfl rfl rfl ?_
 refine O_field F24_1 rfl rfl rfl ?_
 refine O_loadC Tryd.underlying22 rfl rfl rfl rfl (b1.ext e2) rfl ?_
 refine O_field F24_1 rfl rfl rfl ?_
 refine O_loadC Tryd.underlying22 rfl rfl rfl rfl b2 rfl ?_
 refine O_call enters81 rfl rfl rfl (rsame_c (hx.ext (e1.trans e2)) (hy.ext (e1.trans e2)) (by (try simp only [lens]); omega) (by (try simp only [lens]); omega) hl) (fun v3 w3 e3 h3 => ?_)
 have z3 := e3.size
 obtain rfl := h3
 refine O_pickT rfl rfl rfl rfl ?_
 refine O_assign rfl rfl rfl ?_
 refine WL_end [(4, _)] ⟨rfl, trivial⟩ ?_
 refine WP_ret ?_
 refine ret1 Tryd.results44 rfl ?_
 exact ⟨_, rfl, ((e1.trans e2).trans e3), rfl⟩

theorem ishl_c {w : World} {vx : Value} {x : Int} {bx : Bool} {k : Nat} (hbx : bx = decide (x < 0)) (hx : Nl w vx (dig x.natAbs)) (hlx : (dig x.natAbs).length ≤ 1000000) (hk : k ≤ 1048576) :
    Calls Tryd.prog 78 #[.agg #[.bool bx, vx], .int .i64 (k : Nat)] w (Ret w fun r w' => ∃ q, r = .agg #[.bool (decide ((x * 2 ^ k) < 0)), q] ∧ No w.heap.size 89 w' q (dig (x * 2 ^ k).natAbs)) := by
 subst hbx
 have hLa := dig_len_mul x.natAbs (2 ^ k)
 have hLb := dig_len_two k
 refine enter (args := [_, _]) Tryd.func78 rfl Tryd.ntmps78 rfl ?_
 refine WP_seq ?_
 refine WP_region ?_
 refine O_box _ rfl rfl rfl rfl (fun g1 w1 b1 e1 gl1 gh1 => ?_)
 have z1 := e1.size
 refine O_alloc S24 rfl rfl (fun g2 w2 b2 e2 gl2 gh2 => ?_)
 have z2 := e2.size
 refine WL_end [(1, _), (2, _), (4, _)] ⟨rfl, rfl, rfl, trivial⟩ ?_
 refine WP_seq ?_
 refine WP_sub [(1, _), (2, _), (4, _)] ⟨rfl, rfl, rfl, trivial⟩ ?_
 refine WP_anyR 6 [1, 2, 4] mixed rfl (by kernel_rfl) ?_
 apply AnyR_val [2] rfl (by kernel_rfl)
 · --
  intro y3 hy3
  have zy3 := hy3.size
  refine AllV_nil ?_
  refine O_field F24_0 rfl rfl rfl ?_
  exact WL_nil ⟨(Ext.refl _), rfl⟩
 apply AnyR_val [5] rfl (by kernel_rfl)
 · --
  intro y4 hy4
  have zy4 := hy4.size
  refine AllV_v ?_
  refine AllV_nil ?_
  refine O_loadC Tryd.underlying4 rfl rfl rfl rfl ((b1.ext e2).ext hy4) rfl ?_
  exact WL_nil ⟨(Ext.refl _), rfl⟩
 apply AnyR_val [2] rfl (by kernel_rfl)
 · --
  intro y5 hy5
  have zy5 := hy5.size
  refine AllV_nil ?_
  refine O_field F24_1 rfl rfl rfl ?_
  exact WL_nil ⟨(Ext.refl _), rfl⟩
 apply AnyR_val [7] rfl (by kernel_rfl)
 · --
  intro y6 hy6
  have zy6 := hy6.size
  refine AllV_v ?_
  refine AllV_nil ?_
  refine O_loadC Tryd.underlying22 rfl rfl rfl rfl ((b1.ext e2).ext hy6) rfl ?_
  exact WL_nil ⟨(Ext.refl _), rfl⟩
 apply AnyR_val [1] rfl (by kernel_rfl)
 · --
  intro y7 hy7
  have zy7 := hy7.size
  refine AllV_nil ?_
  refine O_move rfl rfl rfl ?_
  exact WL_nil ⟨(Ext.refl _), rfl⟩
 apply AnyR_no [8, 9] rfl (by kernel_rfl)
 · --
  intro y8 hy8
  have zy8 := hy8.size
  refine AllV_v ?_
  refine AllV_v ?_
  refine AllV_nil ?_
  refine O_call enters80 rfl rfl rfl (shl_c (hx.ext ((e1.trans e2).trans hy8)) (by (try simp only [lens]); omega) (by (try simp only [lens]); omega)) (fun v9 w9 e9 h9 => ?_)
  have z9 := e9.size
  try simp only [val_dig] at h9
  exact WL_nil ⟨e9, _, rfl, NoR.mk' h9⟩
 refine AnyR_nil fun y10 hy10 => ?_
 have zy10 := hy10.size
 refine AllV_v ?_
 refine AllV_v ?_
 refine AllV_v ?_
 refine AllV_v ?_
 refine AllV_v ?_
 refine AllV_r fun a11 b11 v11 la11 lb11 lc11 h11 ap11 => ?_
 clear ap11
 refine AllV_nil ?_
 refine O_call enters60 rfl rfl rfl (inat_c h11.1.nl (by (try simp only [lens]); omega)) (fun v12 w12 e12 h12 => ?_)
 have z12 := e12.size
 try simp only [val_dig] at h12
 obtain ⟨q12, rfl, hq12⟩ := h12
 refine O_storeA (cs' := [_, _]) S24 rfl rfl rfl ((b2.ext hy10).ext e12) rfl rfl (one_cons rfl (one_cons (hq12.nl).one one_nil)) rfl (fun w13 b13 q13 => ?_)
 have z13 := Nat.le_of_eq q13.size.symm
 have e13 : Ext w w13 := q13.ext (((e1.trans e2).trans hy10).trans e12) (by omega)
 refine WL_end [(4, _)] ⟨rfl, trivial⟩ ?_
 refine WP_ret ?_
 refine retL Tryd.results78 (.cell rfl S24 b13 rfl .nil) ?_
 have hz : mk (decide (x < 0)) (x.natAbs * 2 ^ k) = x * 2 ^ k := shl_sign x k
 rw [← hz]
 exact ⟨_, rfl, e13, _, rfl, (hq12.chgBk ((b2.ext hy10).ext e12) (by decide) q13).mono (by omega)⟩

theorem rishl_c {w : World} {vx : Value} {x : Int} {bx : Bool} {k : Nat} (hbx : bx = decide (x < 0)) (hx : Nl w vx (dig x.natAbs)) (hlx : (dig x.natAbs).length ≤ 1000000) (hk : k ≤ 1048576) :
    Calls Tryd.prog 21 #[.agg #[.bool bx, vx], .int .i64 (k : Nat)] w (Ret w fun r w' => ∃ q, r = .agg #[.bool (decide ((x * 2 ^ k) < 0)), q] ∧ No w.heap.size 89 w' q (dig (x * 2 ^ k).natAbs)) := by
 subst hbx
 have hLa := dig_len_mul x.natAbs (2 ^ k)
 have hLb := dig_len_two k
 refine enter (args := [_, _]) Tryd.func21 rfl Tryd.ntmps21 rfl ?_
 refine WP_seq ?_
 refine WP_region ?_
 refine O_box _ rfl rfl rfl rfl (fun g1 w1 b1 e1 gl1 gh1 => ?_)
 have z1 := e1.size
 refine O_alloc S24 rfl rfl (fun g2 w2 b2 e2 gl2 gh2 => ?_)
 have z2 := e2.size
 refine WL_end [(1, _), (2, _), (4, _)] ⟨rfl, rfl, rfl, trivial⟩ ?_
 refine WP_seq ?_
 refine WP_sub [(1, _), (2, _), (4, _)] ⟨rfl, rfl, rfl, trivial⟩ ?_
 refine WP_anyR 6 [1, 2, 4] mixed rfl (by kernel_rfl) ?_
 apply AnyR_val [2] rfl (by kernel_rfl)
 · --
  intro y3 hy3
  have zy3 := hy3.size
  refine AllV_nil ?_
  refine O_field F24_0 rfl rfl rfl ?_
  exact WL_nil ⟨(Ext.refl _), rfl⟩
 apply AnyR_val [5] rfl (by kernel_rfl)
 · --
  intro y4 hy4
  have zy4 := hy4.size
  refine AllV_v ?_
  refine AllV_nil ?_
  refine O_loadC Tryd.underlying4 rfl rfl rfl rfl ((b1.ext e2).ext hy4) rfl ?_
  exact WL_nil ⟨(Ext.refl _), rfl⟩
 apply AnyR_val [2] rfl (by kernel_rfl)
 · --
  intro y5 hy5
  have zy5 := hy5.size
  refine AllV_nil ?_
  refine O_field F24_1 rfl rfl rfl ?_
  exact WL_nil ⟨(Ext.refl _), rfl⟩
 apply AnyR_val [7] rfl (by kernel_rfl)
 · --
  intro y6 hy6
  have zy6 := hy6.size
  refine AllV_v ?_
  refine AllV_nil ?_
  refine O_loadC Tryd.underlying22 rfl rfl rfl rfl ((b1.ext e2).ext hy6) rfl ?_
  exact WL_nil ⟨(Ext.refl _), rfl⟩
 apply AnyR_val [1] rfl (by kernel_rfl)
 · --
  intro y7 hy7
  have zy7 := hy7.size
  refine AllV_nil ?_
  refine O_move rfl rfl rfl ?_
  exact WL_nil ⟨(Ext.refl _), rfl⟩
 apply AnyR_no [8, 9] rfl (by kernel_rfl)
 · --
  intro y8 hy8
  have zy8 := hy8.size
  refine AllV_v ?_
  refine AllV_v ?_
  refine AllV_nil ?_
  refine O_call enters57 rfl rfl rfl (rshl_c (hx.ext ((e1.trans e2).trans hy8)) (by (try simp only [lens]); omega) (by (try simp only [lens]); omega)) (fun v9 w9 e9 h9 => ?_)
  have z9 := e9.size
  try simp only [val_dig] at h9
  exact WL_nil ⟨e9, _, rfl, NoR.mk' h9⟩
 refine AnyR_nil fun y10 hy10 => ?_
 have zy10 := hy10.size
 refine AllV_v ?_
 refine AllV_v ?_
 refine AllV_v ?_
 refine AllV_v ?_
 refine AllV_v ?_
 refine AllV_r fun a11 b11 v11 la11 lb11 lc11 h11 ap11 => ?_
 clear ap11
 refine AllV_nil ?_
 refine O_call enters47 rfl rfl rfl (rinat_c h11.1.nl (by (try simp only [lens]); omega)) (fun v12 w12 e12 h12 => ?_)
 have z12 := e12.size
 try simp only [val_dig] at h12
 obtain ⟨q12, rfl, hq12⟩ := h12
 refine O_storeA (cs' := [_, _]) S24 rfl rfl rfl ((b2.ext hy10).ext e12) rfl rfl (one_cons rfl (one_cons (hq12.nl).one one_nil)) rfl (fun w13 b13 q13 => ?_)
 have z13 := Nat.le_of_eq q13.size.symm
 have e13 : Ext w w13 := q13.ext (((e1.trans e2).trans hy10).trans e12) (by omega)
 refine WL_end [(4, _)] ⟨rfl, trivial⟩ ?_
 refine WP_ret ?_
 refine retL Tryd.results21 (.cell rfl S24 b13 rfl .nil) ?_
 have hz : mk (decide (x < 0)) (x.natAbs * 2 ^ k) = x * 2 ^ k := shl_sign x k
 rw [← hz]
 exact ⟨_, rfl, e13, _, rfl, (hq12.chgBk ((b2.ext hy10).ext e12) (by decide) q13).mono (by omega)⟩

end Go.Proofs.YtnfnadhbjdcbnaaDoor
