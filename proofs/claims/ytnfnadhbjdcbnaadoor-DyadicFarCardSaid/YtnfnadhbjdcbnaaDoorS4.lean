/-
  Walks.
-/
import Derived.Test.YtnfnadhbjdcbnaaDoorS3
import Derived.Test.YtnfnadhbjdcbnaaDoorAnyS
set_option linter.unusedVariables false
set_option linter.unusedSimpArgs false
set_option maxRecDepth 100000
namespace Go.Proofs.YtnfnadhbjdcbnaaDoor
open Go Go.RowKit
/-- A list and a sign that are an integer. -/
def ival (b : Bool) (l : List Nat) : Bool := validv l && (decide (0 < l.length) || !b)
theorem ival_dig (x : Int) : ival (decide (x < 0)) (dig x.natAbs) = true := by
  unfold ival
  rw [validv_dig, Bool.true_and]
  by_cases h : x < 0
  · rw [decide_eq_true (by have := dig_len_zero (n := x.natAbs); omega)]; rfl
  · rw [decide_eq_false h]; simp
theorem ival_t {b : Bool} {l : List Nat} (h : validv l = true) (h2 : 0 < l.length) : ival b l = true := by unfold ival; rw [h, decide_eq_true h2]; rfl
theorem ival_b {b : Bool} {l : List Nat} (h : validv l = true) (h2 : ¬ 0 < l.length) : ival b l = !b := by unfold ival; rw [h, decide_eq_false h2]; rfl
theorem ival_f {b : Bool} {l : List Nat} (h : validv l = false) : ival b l = false := by unfold ival; rw [h]; rfl
theorem icmp_bd (x y : Int) : -1 ≤ icmp x y ∧ icmp x y ≤ 1 := by unfold icmp; split <;> (try split) <;> omega
theorem icmp_negneg (x y : Int) : icmp (-x) (-y) = icmp y x := by unfold icmp; split <;> split <;> (try split) <;> (try split) <;> omega
theorem sub_len {x y : Int} {a b : Nat} (hx : (dig x.natAbs).length ≤ a) (hy : (dig y.natAbs).length ≤ b) : (dig (x - y).natAbs).length ≤ max a b + 1 := by
  have h1 := dig_len_add x.natAbs y.natAbs
  have h2 : (dig (x - y).natAbs).length ≤ (dig (x.natAbs + y.natAbs)).length := dig_len_mono (by omega)
  omega
theorem add_len {x y : Int} {a b : Nat} (hx : (dig x.natAbs).length ≤ a) (hy : (dig y.natAbs).length ≤ b) : (dig (x + y).natAbs).length ≤ max a b + 1 := by
  have h1 := dig_len_add x.natAbs y.natAbs
  have h2 : (dig (x + y).natAbs).length ≤ (dig (x.natAbs + y.natAbs)).length := dig_len_mono (by omega)
  omega
theorem mul_len {x y : Int} {a b : Nat} (hx : (dig x.natAbs).length ≤ a) (hy : (dig y.natAbs).length ≤ b) : (dig (x * y).natAbs).length ≤ a + b := by
  have h1 := dig_len_mul x.natAbs y.natAbs
  rw [Int.natAbs_mul]; omega
theorem neg_len {x : Int} {a : Nat} (hx : (dig x.natAbs).length ≤ a) : (dig (-x).natAbs).length ≤ a := by rw [Int.natAbs_neg]; exact hx
theorem ml {n a : Nat} (h : n ≤ a) (h2 : a ≤ 1000000) : n ≤ 1000000 := Nat.le_trans h h2
theorem mk_len {w : World} {v : Value} {l : List Nat} (neg : Bool) (h : Nl w v l) {a : Nat} (hl : l.length ≤ a) : (dig (mk neg (val l)).natAbs).length ≤ a := by
  rw [mk_abs]; exact Nat.le_trans (dig_len_le h.d) hl

theorem mint_T {w : World} {vx : Value} {lx : List Nat} {bx : Bool} {n : Int} (hx : Nl w vx lx) (hn : n ≤ 1000000) (hl : (lx.length : Int) ≤ n) :
    Calls Tryd.prog 20 #[.agg #[.bool bx, vx], .int .i64 n] w (Ret w fun r w' => ∃ q, r = .tuple #[.agg #[.bool (decide (mk bx (val lx) < 0)), q], .bool true] ∧ No w.heap.size 89 w' q (dig (mk bx (val lx)).natAbs)) := by
 refine enter (args := [_, _]) Tryd.func20 rfl Tryd.ntmps20 rfl ?_
 refine WP_seq ?_
 refine WP_region ?_
 refine O_box _ rfl rfl rfl rfl (fun g1 w1 b1 e1 gl1 gh1 => ?_)
 have z1 := e1.size
 refine O_alloc S24 rfl rfl (fun g2 w2 b2 e2 gl2 gh2 => ?_)
 have z2 := e2.size
 refine O_assign rfl rfl rfl ?_
 refine WL_end [(1, _), (2, _), (4, _)] ⟨rfl, rfl, rfl, trivial⟩ ?_
 refine WP_seq ?_
 refine WP_seq ?_
 refine WP_region ?_
 refine O_field F24_1 rfl rfl rfl ?_
 refine O_loadC Tryd.underlying22 rfl rfl rfl rfl (b1.ext e2) rfl ?_
 refine N_len T22 rfl rfl rfl (hx.ext (e1.trans e2)) ?_
 refine O_move rfl rfl rfl ?_
 refine O_gtr (t := false) rfl rfl rfl rfl (decide_eq_false (by omega)) ?_
 refine WL_end [(2, _), (4, _), (10, _)] ⟨rfl, rfl, rfl, trivial⟩ ?_
 refine WP_condF rfl ?_
 refine WP_skip ?_
 refine WP_seq ?_
 refine WP_region ?_
 refine O_field F24_0 rfl rfl rfl ?_
 refine O_loadC Tryd.underlying4 rfl rfl rfl rfl (b1.ext e2) rfl ?_
 refine O_field F24_1 rfl rfl rfl ?_
 refine O_loadC Tryd.underlying22 rfl rfl rfl rfl (b1.ext e2) rfl ?_
 refine O_call enters47 rfl rfl rfl (rinat_c (hx.ext (e1.trans e2)) (by (try simp only [lens]); omega)) (fun v3 w3 e3 h3 => ?_)
 have z3 := e3.size
 try simp only [val_dig] at h3
 obtain ⟨q3, rfl, hq3⟩ := h3
 refine O_storeA (cs' := [_, _]) S24 rfl rfl rfl (b2.ext e3) rfl rfl (one_cons rfl (one_cons (hq3.nl).one one_nil)) rfl (fun w4 b4 q4 => ?_)
 have z4 := Nat.le_of_eq q4.size.symm
 have e4 : Ext w w4 := q4.ext ((e1.trans e2).trans e3) (by omega)
 refine O_assign rfl rfl rfl ?_
 refine WL_end [(4, _), (5, _)] ⟨rfl, rfl, trivial⟩ ?_
 refine WP_ret ?_
 refine retL Tryd.results20 (.cell rfl S24 b4 rfl (.tmp rfl .nil)) ?_
 exact ⟨_, rfl, e4, _, rfl, (hq3.chgBk (b2.ext e3) (by decide) q4).mono (by omega)⟩

theorem mint_F {w : World} {vx : Value} {lx : List Nat} {bx : Bool} {n : Int} (hx : Nl w vx lx) (hn : n ≤ 1000000) (hl : n < (lx.length : Int)) :
    Calls Tryd.prog 20 #[.agg #[.bool bx, vx], .int .i64 n] w (Ret w fun r w' => r = .tuple #[.agg #[.bool false, .slice none 0 0], .bool false]) := by
 refine enter (args := [_, _]) Tryd.func20 rfl Tryd.ntmps20 rfl ?_
 refine WP_seq ?_
 refine WP_region ?_
 refine O_box _ rfl rfl rfl rfl (fun g1 w1 b1 e1 gl1 gh1 => ?_)
 have z1 := e1.size
 refine O_alloc S24 rfl rfl (fun g2 w2 b2 e2 gl2 gh2 => ?_)
 have z2 := e2.size
 refine O_assign rfl rfl rfl ?_
 refine WL_end [(1, _), (2, _), (4, _)] ⟨rfl, rfl, rfl, trivial⟩ ?_
 refine WP_seq ?_
 refine WP_seq ?_
 refine WP_region ?_
 refine O_field F24_1 rfl rfl rfl ?_
 refine O_loadC Tryd.underlying22 rfl rfl rfl rfl (b1.ext e2) rfl ?_
 refine N_len T22 rfl rfl rfl (hx.ext (e1.trans e2)) ?_
 refine O_move rfl rfl rfl ?_
 refine O_gtr (t := true) rfl rfl rfl rfl (decide_eq_true (by omega)) ?_
 refine WL_end [(2, _), (4, _), (10, _)] ⟨rfl, rfl, rfl, trivial⟩ ?_
 refine WP_condT rfl ?_
 refine WP_seq ?_
 refine WP_region ?_
 refine O_build (cs := [_, _]) B24 rfl rfl rfl cells_nil rfl ?_
 refine O_storeA (cs' := [_, _]) S24 rfl rfl rfl b2 rfl rfl (one_cons rfl (one_cons rfl one_nil)) rfl (fun w3 b3 q3 => ?_)
 have z3 := Nat.le_of_eq q3.size.symm
 have e3 : Ext w w3 := q3.ext (e1.trans e2) (by omega)
 refine O_assign rfl rfl rfl ?_
 refine WL_end [(4, _), (5, _)] ⟨rfl, rfl, trivial⟩ ?_
 refine WP_ret ?_
 refine retL Tryd.results20 (.cell rfl S24 b3 rfl (.tmp rfl .nil)) ?_
 exact ⟨_, rfl, e3, rfl⟩

theorem ivalid_c {w : World} {vx : Value} {lx : List Nat} {bx : Bool} (hx : Nl w vx lx) :
    Calls Tryd.prog 62 #[.agg #[.bool bx, vx]] w (Ret w fun r _ => r = .bool (ival bx lx)) := by
 refine enter (args := [_]) Tryd.func62 rfl Tryd.ntmps62 rfl ?_
 refine WP_seq ?_
 refine WP_region ?_
 refine O_box _ rfl rfl rfl rfl (fun g1 w1 b1 e1 gl1 gh1 => ?_)
 have z1 := e1.size
 refine O_assign rfl rfl rfl ?_
 refine WL_end [(1, _)] ⟨rfl, trivial⟩ ?_
 refine WP_seq ?_
 refine WP_region ?_
 refine O_field F24_1 rfl rfl rfl ?_
 refine O_loadC Tryd.underlying22 rfl rfl rfl rfl b1 rfl ?_
 refine O_call enters100 rfl rfl rfl (valid_c (hx.ext e1)) (fun v2 w2 e2 h2 => ?_)
 have z2 := e2.size
 obtain rfl := h2
 refine O_move rfl rfl rfl ?_
 refine WL_bool 6 rfl (fun g6 => ?_) (fun g6 => ?_)
 · --
  refine O_field F24_1 rfl rfl rfl ?_
  refine O_loadC Tryd.underlying22 rfl rfl rfl rfl (b1.ext e2) rfl ?_
  refine N_len T22 rfl rfl rfl (hx.ext (e1.trans e2)) ?_
  refine O_gtr rfl rfl rfl rfl rfl ?_
  refine O_move rfl rfl rfl ?_
  refine WL_dec 11 rfl (fun g11 => ?_) (fun g11 => ?_)
  · --
   refine O_skip rfl rfl ?_
   refine O_skip rfl rfl ?_
   refine O_skip rfl rfl ?_
   refine O_pickT rfl rfl rfl rfl ?_
   refine O_pickT rfl rfl rfl rfl ?_
   refine O_assign rfl rfl rfl ?_
   refine WL_end [(2, _)] ⟨rfl, trivial⟩ ?_
   refine WP_ret ?_
   refine ret1 Tryd.results62 rfl ?_
   exact ⟨_, rfl, (e1.trans e2), by rw [ival_t g6 (by omega)]⟩
  · --
   refine O_field F24_0 rfl rfl rfl ?_
   refine O_loadC Tryd.underlying4 rfl rfl rfl rfl (b1.ext e2) rfl ?_
   refine O_not rfl rfl rfl rfl ?_
   refine O_pickF rfl rfl rfl rfl ?_
   refine O_pickT rfl rfl rfl rfl ?_
   refine O_assign rfl rfl rfl ?_
   refine WL_end [(2, _)] ⟨rfl, trivial⟩ ?_
   refine WP_ret ?_
   refine ret1 Tryd.results62 rfl ?_
   exact ⟨_, rfl, (e1.trans e2), by rw [ival_b g6 (by omega)]⟩
 · --
  refine O_skip rfl rfl ?_
  refine O_skip rfl rfl ?_
  refine O_skip rfl rfl ?_
  refine O_skip rfl rfl ?_
  refine O_skip rfl rfl ?_
  refine O_skipU rfl rfl rfl ?_
  refine O_skipU rfl rfl rfl ?_
  refine O_skipU rfl rfl rfl ?_
  refine O_skip rfl rfl ?_
  refine O_pickF rfl rfl rfl rfl ?_
  refine O_assign rfl rfl rfl ?_
  refine WL_end [(2, _)] ⟨rfl, trivial⟩ ?_
  refine WP_ret ?_
  refine ret1 Tryd.results62 rfl ?_
  exact ⟨_, rfl, (e1.trans e2), by rw [ival_f g6]⟩

theorem ivalidT_c {w : World} {vx : Value} {x : Int} {bx : Bool} (hbx : bx = decide (x < 0)) (hx : Nl w vx (dig x.natAbs)) (hlx : (dig x.natAbs).length ≤ 1000000) : Calls Tryd.prog 62 #[.agg #[.bool bx, vx]] w (Ret w fun r _ => r = .bool true) :=
  (ivalid_c hx).mono fun e w' ⟨r, he, hx', hr⟩ => ⟨r, he, hx', by rw [hr, hbx, ival_dig]⟩

end Go.Proofs.YtnfnadhbjdcbnaaDoor
