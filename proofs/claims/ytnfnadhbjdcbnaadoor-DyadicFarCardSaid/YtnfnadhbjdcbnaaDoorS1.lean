/-
  Walks.
-/
import Derived.Test.YtnfnadhbjdcbnaaDoorQ7
import Derived.Test.YtnfnadhbjdcbnaaDoorBox
set_option linter.unusedVariables false
set_option linter.unusedSimpArgs false
set_option maxRecDepth 100000
namespace Go.Proofs.YtnfnadhbjdcbnaaDoor
open Go Go.RowKit
theorem S24 : StT Tryd.prog 24 2 [.bool false, .slice none 0 0] := StT.mk' (by kernel_rfl)
theorem F24_0 : FdT Tryd.prog 24 0 0 := FdT.mk' (by kernel_rfl)
theorem F24_1 : FdT Tryd.prog 24 1 1 := FdT.mk' (by kernel_rfl)
theorem B24 : BdT Tryd.prog 24 [.bool false, .slice none 0 0] [(0, 1), (1, 1)] := BdT.mk' (by kernel_rfl)
theorem S51 : StT Tryd.prog 51 3 [.bool false, .slice none 0 0, .slice none 0 0] := StT.mk' (by kernel_rfl)
theorem F51_0 : FdT Tryd.prog 51 0 0 := FdT.mk' (by kernel_rfl)
theorem F51_1 : FdT Tryd.prog 51 1 2 := FdT.mk' (by kernel_rfl)
theorem B51 : BdT Tryd.prog 51 [.bool false, .slice none 0 0, .slice none 0 0] [(0, 2), (2, 1)] := BdT.mk' (by kernel_rfl)
theorem S26 : StT Tryd.prog 26 3 [.bool false, .slice none 0 0, .int .i64 0] := StT.mk' (by kernel_rfl)
theorem F26_0 : FdT Tryd.prog 26 0 0 := FdT.mk' (by kernel_rfl)
theorem F26_1 : FdT Tryd.prog 26 1 2 := FdT.mk' (by kernel_rfl)
theorem B26 : BdT Tryd.prog 26 [.bool false, .slice none 0 0, .int .i64 0] [(0, 2), (2, 1)] := BdT.mk' (by kernel_rfl)

/-- An integer of a sign and a natural. -/
def mk (neg : Bool) (n : Nat) : Int := if neg then -(n : Int) else (n : Int)
theorem mk_neg (neg : Bool) (n : Nat) : decide (mk neg n < 0) = (neg && decide (n ≠ 0)) := by
  unfold mk
  rcases Nat.eq_zero_or_pos n with h | h
  · subst h; cases neg <;> rfl
  · cases neg
    · simp
    · rw [if_pos rfl, Bool.true_and]; apply decide_eq_decide.2; omega
theorem mk_abs (neg : Bool) (n : Nat) : (mk neg n).natAbs = n := by unfold mk; cases neg <;> simp
theorem mk_self (z : Int) : mk (decide (z < 0)) z.natAbs = z := by
  unfold mk; by_cases h : z < 0 <;> simp [h] <;> omega
theorem mk_not (z : Int) : mk (!decide (z < 0)) z.natAbs = -z := by
  unfold mk; by_cases h : z < 0 <;> simp [h] <;> omega
theorem len_dec (n : Nat) : decide ((0 : Int) < ((dig n).length : Nat)) = decide (n ≠ 0) := by
  apply decide_eq_decide.2
  have := dig_len_zero (n := n)
  omega
theorem add_same {x y : Int} (h : (decide (x < 0) == decide (y < 0)) = true) : mk (decide (x < 0)) (x.natAbs + y.natAbs) = x + y := by
  unfold mk
  by_cases hx : x < 0 <;> by_cases hy : y < 0 <;> simp [hx, hy] at h ⊢ <;> omega
theorem add_sub {x y : Int} (h : ¬ (decide (x < 0) == decide (y < 0)) = true) (h1 : y.natAbs ≤ x.natAbs) : mk (decide (x < 0)) (x.natAbs - y.natAbs) = x + y := by
  unfold mk
  by_cases hx : x < 0 <;> by_cases hy : y < 0 <;> simp [hx, hy] at h ⊢ <;> omega
theorem add_rsub {x y : Int} (h : ¬ (decide (x < 0) == decide (y < 0)) = true) (h1 : x.natAbs ≤ y.natAbs) : mk (decide (y < 0)) (y.natAbs - x.natAbs) = x + y := by
  unfold mk
  by_cases hx : x < 0 <;> by_cases hy : y < 0 <;> simp [hx, hy] at h ⊢ <;> omega
theorem mk_not' (z : Int) : mk (decide ¬ z < 0) z.natAbs = -z := by
  unfold mk; by_cases h : z < 0 <;> simp [h] <;> omega
theorem mul_sign (x y : Int) : mk (!(decide (x < 0) == decide (y < 0))) (x.natAbs * y.natAbs) = x * y := by
  have hx := mk_self x
  have hy := mk_self y
  unfold mk at *
  generalize x.natAbs = a at *
  generalize y.natAbs = b at *
  by_cases h1 : x < 0 <;> by_cases h2 : y < 0 <;> simp [h1, h2] at hx hy ⊢ <;> rw [← hx, ← hy] <;> (try simp [Int.neg_mul, Int.mul_neg])

theorem inat_c {w : World} {va : Value} {la : List Nat} {neg : Bool} (ha : Nl w va la) (hla : la.length ≤ 100000000) :
    Calls Tryd.prog 60 #[.bool neg, va] w (Ret w fun r w' => ∃ q, r = .agg #[.bool (decide ((mk neg (val la)) < 0)), q] ∧ No w.heap.size 89 w' q (dig (mk neg (val la)).natAbs)) := by
 refine enter (args := [_, va]) Tryd.func60 rfl Tryd.ntmps60 rfl ?_
 refine WP_seq ?_
 refine WP_region ?_
 refine O_alloc S24 rfl rfl (fun g1 w1 b1 e1 gl1 gh1 => ?_)
 have z1 := e1.size
 refine WL_end [(0, _), (1, _), (4, _)] ⟨rfl, rfl, rfl, trivial⟩ ?_
 refine WP_seq ?_
 refine WP_region ?_
 refine O_move rfl rfl rfl ?_
 refine O_call enters97 rfl rfl rfl (trim_c (ha.ext e1) (by (try simp only [lens]); omega)) (fun v2 w2 e2 h2 => ?_)
 have z2 := e2.size
 try simp only [val_dig] at h2
 refine O_assign rfl rfl rfl ?_
 refine WL_end [(0, _), (1, _), (4, _)] ⟨rfl, rfl, rfl, trivial⟩ ?_
 refine WP_seq ?_
 refine WP_region ?_
 refine O_move rfl rfl rfl ?_
 refine O_move rfl rfl rfl ?_
 refine WL_bool 8 rfl (fun g8 => ?_) (fun g8 => ?_)
 · --
  refine O_move rfl rfl rfl ?_
  refine N_len T22 rfl rfl rfl h2.nl ?_
  refine O_gtr rfl rfl rfl rfl rfl ?_
  refine O_pickT rfl rfl rfl rfl ?_
  refine O_move rfl rfl rfl ?_
  refine O_build (cs := [_, _]) B24 rfl rfl rfl (cells_cons rfl (cells_cons (h2.nl).cells1 cells_nil)) rfl ?_
  refine O_storeA (cs' := [_, _]) S24 rfl rfl rfl (b1.ext e2) rfl rfl (one_cons rfl (one_cons (h2.nl).one one_nil)) rfl (fun w3 b3 q3 => ?_)
  have z3 := Nat.le_of_eq q3.size.symm
  have e3 : Ext w w3 := q3.ext (e1.trans e2) (by omega)
  refine WL_end [(4, _)] ⟨rfl, trivial⟩ ?_
  refine WP_ret ?_
  refine retL Tryd.results60 (.cell rfl S24 b3 rfl .nil) ?_
  subst g8
  exact ⟨_, rfl, e3, v2, by rw [mk_neg, ← len_dec]; rfl, by rw [mk_abs]; exact (h2.chgBk (b1.ext e2) (by decide) q3).mono (by omega)⟩
 · --
  refine O_skip rfl rfl ?_
  refine O_skip rfl rfl ?_
  refine O_skip rfl rfl ?_
  refine O_pickF rfl rfl rfl rfl ?_
  refine O_move rfl rfl rfl ?_
  refine O_build (cs := [_, _]) B24 rfl rfl rfl (cells_cons rfl (cells_cons (h2.nl).cells1 cells_nil)) rfl ?_
  refine O_storeA (cs' := [_, _]) S24 rfl rfl rfl (b1.ext e2) rfl rfl (one_cons rfl (one_cons (h2.nl).one one_nil)) rfl (fun w4 b4 q4 => ?_)
  have z4 := Nat.le_of_eq q4.size.symm
  have e4 : Ext w w4 := q4.ext (e1.trans e2) (by omega)
  refine WL_end [(4, _)] ⟨rfl, trivial⟩ ?_
  refine WP_ret ?_
  refine retL Tryd.results60 (.cell rfl S24 b4 rfl .nil) ?_
  subst g8
  exact ⟨_, rfl, e4, v2, by rw [mk_neg]; rfl, by rw [mk_abs]; exact (h2.chgBk (b1.ext e2) (by decide) q4).mono (by omega)⟩

theorem rinat_c {w : World} {va : Value} {la : List Nat} {neg : Bool} (ha : Nl w va la) (hla : la.length ≤ 100000000) :
    Calls Tryd.prog 47 #[.bool neg, va] w (Ret w fun r w' => ∃ q, r = .agg #[.bool (decide ((mk neg (val la)) < 0)), q] ∧ No w.heap.size 89 w' q (dig (mk neg (val la)).natAbs)) := by
 refine enter (args := [_, va]) Tryd.func47 rfl Tryd.ntmps47 rfl ?_
 refine WP_seq ?_
 refine WP_region ?_
 refine O_alloc S24 rfl rfl (fun g1 w1 b1 e1 gl1 gh1 => ?_)
 have z1 := e1.size
 refine WL_end [(0, _), (1, _), (4, _)] ⟨rfl, rfl, rfl, trivial⟩ ?_
 refine WP_seq ?_
 refine WP_region ?_
 refine O_move rfl rfl rfl ?_
 refine O_call enters85 rfl rfl rfl (rtrim_c (ha.ext e1) (by (try simp only [lens]); omega)) (fun v2 w2 e2 h2 => ?_)
 have z2 := e2.size
 try simp only [val_dig] at h2
 refine O_assign rfl rfl rfl ?_
 refine WL_end [(0, _), (4, _), (5, _)] ⟨rfl, rfl, rfl, trivial⟩ ?_
 refine WP_seq ?_
 refine WP_region ?_
 refine O_move rfl rfl rfl ?_
 refine O_move rfl rfl rfl ?_
 refine WL_bool 9 rfl (fun g9 => ?_) (fun g9 => ?_)
 · --
  refine O_move rfl rfl rfl ?_
  refine N_len T22 rfl rfl rfl h2.nl ?_
  refine O_gtr rfl rfl rfl rfl rfl ?_
  refine O_pickT rfl rfl rfl rfl ?_
  refine O_move rfl rfl rfl ?_
  refine O_build (cs := [_, _]) B24 rfl rfl rfl (cells_cons rfl (cells_cons (h2.nl).cells1 cells_nil)) rfl ?_
  refine O_storeA (cs' := [_, _]) S24 rfl rfl rfl (b1.ext e2) rfl rfl (one_cons rfl (one_cons (h2.nl).one one_nil)) rfl (fun w3 b3 q3 => ?_)
  have z3 := Nat.le_of_eq q3.size.symm
  have e3 : Ext w w3 := q3.ext (e1.trans e2) (by omega)
  refine WL_end [(4, _)] ⟨rfl, trivial⟩ ?_
  refine WP_ret ?_
  refine retL Tryd.results47 (.cell rfl S24 b3 rfl .nil) ?_
  subst g9
  exact ⟨_, rfl, e3, v2, by rw [mk_neg, ← len_dec]; rfl, by rw [mk_abs]; exact (h2.chgBk (b1.ext e2) (by decide) q3).mono (by omega)⟩
 · --
  refine O_skip rfl rfl ?_
  refine O_skip rfl rfl ?_
  refine O_skip rfl rfl ?_
  refine O_pickF rfl rfl rfl rfl ?_
  refine O_move rfl rfl rfl ?_
  refine O_build (cs := [_, _]) B24 rfl rfl rfl (cells_cons rfl (cells_cons (h2.nl).cells1 cells_nil)) rfl ?_
  refine O_storeA (cs' := [_, _]) S24 rfl rfl rfl (b1.ext e2) rfl rfl (one_cons rfl (one_cons (h2.nl).one one_nil)) rfl (fun w4 b4 q4 => ?_)
  have z4 := Nat.le_of_eq q4.size.symm
  have e4 : Ext w w4 := q4.ext (e1.trans e2) (by omega)
  refine WL_end [(4, _)] ⟨rfl, trivial⟩ ?_
  refine WP_ret ?_
  refine retL Tryd.results47 (.cell rfl S24 b4 rfl .nil) ?_
  subst g9
  exact ⟨_, rfl, e4, v2, by rw [mk_neg]; rfl, by rw [mk_abs]; exact (h2.chgBk (b1.ext e2) (by decide) q4).mono (by omega)⟩

theorem rineg_c {w : World} {vx : Value} {x : Int} {bx : Bool} (hbx : bx = decide (x < 0)) (hx : Nl w vx (dig x.natAbs)) (hlx : (dig x.natAbs).length ≤ 1000000) :
    Calls Tryd.prog 113 #[.agg #[.bool bx, vx]] w (Ret w fun r w' => ∃ q, r = .agg #[.bool (decide ((-x) < 0)), q] ∧ No w.heap.size 89 w' q (dig (-x).natAbs)) := by
 subst hbx
 refine enter (args := [_]) Tryd.func113 rfl Tryd.ntmps113 rfl ?_
 refine WP_seq ?_
 refine WP_region ?_
 refine O_box _ rfl rfl rfl rfl (fun g1 w1 b1 e1 gl1 gh1 => ?_)
 have z1 := e1.size
 refine O_alloc S24 rfl rfl (fun g2 w2 b2 e2 gl2 gh2 => ?_)
 have z2 := e2.size
 refine WL_end [(1, _), (2, _)] ⟨rfl, rfl, trivial⟩ ?_
 refine WP_seq ?_
 refine WP_region ?_
 refine O_field F24_0 rfl rfl rfl ?_
 refine O_loadC Tryd.underlying4 rfl rfl rfl rfl (b1.ext e2) rfl ?_
 refine O_not rfl rfl rfl (decide_not).symm ?_
 refine O_field F24_1 rfl rfl rfl ?_
 refine O_loadC Tryd.underlying22 rfl rfl rfl rfl (b1.ext e2) rfl ?_
 refine O_call enters47 rfl rfl rfl (rinat_c (hx.ext (e1.trans e2)) (by (try simp only [lens]); omega)) (fun v3 w3 e3 h3 => ?_)
 have z3 := e3.size
 try simp only [val_dig] at h3
 obtain ⟨q3, rfl, hq3⟩ := h3
 refine O_storeA (cs' := [_, _]) S24 rfl rfl rfl (b2.ext e3) rfl rfl (one_cons rfl (one_cons (hq3.nl).one one_nil)) rfl (fun w4 b4 q4 => ?_)
 have z4 := Nat.le_of_eq q4.size.symm
 have e4 : Ext w w4 := q4.ext ((e1.trans e2).trans e3) (by omega)
 refine WL_end [(2, _)] ⟨rfl, trivial⟩ ?_
 refine WP_ret ?_
 refine retL Tryd.results113 (.cell rfl S24 b4 rfl .nil) ?_
 have hz : mk (decide ¬ x < 0) x.natAbs = -x := mk_not' x
 rw [← hz]
 exact ⟨_, rfl, e4, _, rfl, (hq3.chgBk (b2.ext e3) (by decide) q4).mono (by omega)⟩

theorem iadd_c {w : World} {vx vy : Value} {x y : Int} {bx by_ : Bool} (hbx : bx = decide (x < 0)) (hx : Nl w vx (dig x.natAbs)) (hby : by_ = decide (y < 0)) (hy : Nl w vy (dig y.natAbs)) (hlx : (dig x.natAbs).length ≤ 1000000) (hly : (dig y.natAbs).length ≤ 1000000) :
    Calls Tryd.prog 51 #[.agg #[.bool bx, vx], .agg #[.bool by_, vy]] w (Ret w fun r w' => ∃ q, r = .agg #[.bool (decide ((x + y) < 0)), q] ∧ No w.heap.size 89 w' q (dig (x + y).natAbs)) := by
 subst hbx
 subst hby
 have hLa := dig_len_add x.natAbs y.natAbs
 have hLs := dig_len_mono (Nat.sub_le x.natAbs y.natAbs)
 have hLt := dig_len_mono (Nat.sub_le y.natAbs x.natAbs)
 refine enter (args := [_, _]) Tryd.func51 rfl Tryd.ntmps51 rfl ?_
 refine WP_seq ?_
 refine WP_region ?_
 refine O_box _ rfl rfl rfl rfl (fun g1 w1 b1 e1 gl1 gh1 => ?_)
 have z1 := e1.size
 refine O_box _ rfl rfl rfl rfl (fun g2 w2 b2 e2 gl2 gh2 => ?_)
 have z2 := e2.size
 refine O_alloc S24 rfl rfl (fun g3 w3 b3 e3 gl3 gh3 => ?_)
 have z3 := e3.size
 refine WL_end [(2, _), (3, _), (4, _)] ⟨rfl, rfl, rfl, trivial⟩ ?_
 refine WP_seq ?_
 refine WP_seq ?_
 refine WP_region ?_
 refine O_field F24_0 rfl rfl rfl ?_
 refine O_loadC Tryd.underlying4 rfl rfl rfl rfl ((b1.ext e2).ext e3) rfl ?_
 refine O_field F24_0 rfl rfl rfl ?_
 refine O_loadC Tryd.underlying4 rfl rfl rfl rfl (b2.ext e3) rfl ?_
 refine O_beql Tryd.underlying4 rfl rfl rfl rfl rfl ?_
 refine WL_end [(2, _), (3, _), (4, _), (13, _)] ⟨rfl, rfl, rfl, rfl, trivial⟩ ?_
 refine WP_cond rfl (fun c13 => ?_) (fun c13 => ?_)
 · --
  refine WP_seq ?_
  refine WP_sub [(2, _), (3, _), (4, _)] ⟨rfl, rfl, rfl, trivial⟩ ?_
  refine WP_anyR 7 [2, 3, 4] mixed rfl (by kernel_rfl) ?_
  apply AnyR_val [2] rfl (by kernel_rfl)
  · --
   intro y4 hy4
   have zy4 := hy4.size
   refine AllV_nil ?_
   refine O_field F24_0 rfl rfl rfl ?_
   exact WL_nil ⟨(Ext.refl _), rfl⟩
  apply AnyR_val [14] rfl (by kernel_rfl)
  · --
   intro y5 hy5
   have zy5 := hy5.size
   refine AllV_v ?_
   refine AllV_nil ?_
   refine O_loadC Tryd.underlying4 rfl rfl rfl rfl (((b1.ext e2).ext e3).ext hy5) rfl ?_
   exact WL_nil ⟨(Ext.refl _), rfl⟩
  apply AnyR_val [2] rfl (by kernel_rfl)
  · --
   intro y6 hy6
   have zy6 := hy6.size
   refine AllV_nil ?_
   refine O_field F24_1 rfl rfl rfl ?_
   exact WL_nil ⟨(Ext.refl _), rfl⟩
  apply AnyR_val [16] rfl (by kernel_rfl)
  · --
   intro y7 hy7
   have zy7 := hy7.size
   refine AllV_v ?_
   refine AllV_nil ?_
   refine O_loadC Tryd.underlying22 rfl rfl rfl rfl (((b1.ext e2).ext e3).ext hy7) rfl ?_
   exact WL_nil ⟨(Ext.refl _), rfl⟩
  apply AnyR_val [3] rfl (by kernel_rfl)
  · --
   intro y8 hy8
   have zy8 := hy8.size
   refine AllV_nil ?_
   refine O_field F24_1 rfl rfl rfl ?_
   exact WL_nil ⟨(Ext.refl _), rfl⟩
  apply AnyR_val [18] rfl (by kernel_rfl)
  · --
   intro y9 hy9
   have zy9 := hy9.size
   refine AllV_v ?_
   refine AllV_nil ?_
   refine O_loadC Tryd.underlying22 rfl rfl rfl rfl ((b2.ext e3).ext hy9) rfl ?_
   exact WL_nil ⟨(Ext.refl _), rfl⟩
  apply AnyR_no [17, 19] rfl (by kernel_rfl)
  · --
   intro y10 hy10
   have zy10 := hy10.size
   refine AllV_v ?_
   refine AllV_v ?_
   refine AllV_nil ?_
   refine O_call enters87 rfl rfl rfl (add_c (hx.ext (((e1.trans e2).trans e3).trans hy10)) (hy.ext (((e1.trans e2).trans e3).trans hy10)) (by (try simp only [lens]); omega) (by (try simp only [lens]); omega)) (fun v11 w11 e11 h11 => ?_)
   have z11 := e11.size
   try simp only [val_dig] at h11
   exact WL_nil ⟨e11, _, rfl, NoR.mk' h11⟩
  refine AnyR_nil fun y12 hy12 => ?_
  have zy12 := hy12.size
  refine AllV_v ?_
  refine AllV_v ?_
  refine AllV_v ?_
  refine AllV_v ?_
  refine AllV_v ?_
  refine AllV_v ?_
  refine AllV_r fun a13 b13 v13 la13 lb13 lc13 h13 ap13 => ?_
  clear ap13
  refine AllV_nil ?_
  refine O_call enters60 rfl rfl rfl (inat_c h13.1.nl (by (try simp only [lens]); omega)) (fun v14 w14 e14 h14 => ?_)
  have z14 := e14.size
  try simp only [val_dig] at h14
  obtain ⟨q14, rfl, hq14⟩ := h14
  refine O_storeA (cs' := [_, _]) S24 rfl rfl rfl ((b3.ext hy12).ext e14) rfl rfl (one_cons rfl (one_cons (hq14.nl).one one_nil)) rfl (fun w15 b15 q15 => ?_)
  have z15 := Nat.le_of_eq q15.size.symm
  have e15 : Ext w w15 := q15.ext ((((e1.trans e2).trans e3).trans hy12).trans e14) (by omega)
  refine WL_end [(4, _)] ⟨rfl, trivial⟩ ?_
  refine WP_ret ?_
  refine retL Tryd.results51 (.cell rfl S24 b15 rfl .nil) ?_
  have hz : mk (decide (x < 0)) (x.natAbs + y.natAbs) = x + y := add_same c13
  rw [← hz]
  exact ⟨_, rfl, e15, _, rfl, (hq14.chgBk ((b3.ext hy12).ext e14) (by decide) q15).mono (by omega)⟩
 · --
  refine WP_skip ?_
  refine WP_seq ?_
  refine WP_seq ?_
  refine WP_region ?_
  refine O_field F24_1 rfl rfl rfl ?_
  refine O_loadC Tryd.underlying22 rfl rfl rfl rfl ((b1.ext e2).ext e3) rfl ?_
  refine O_field F24_1 rfl rfl rfl ?_
  refine O_loadC Tryd.underlying22 rfl rfl rfl rfl (b2.ext e3) rfl ?_
  refine O_call enters88 rfl rfl rfl (sub_c (hx.ext ((e1.trans e2).trans e3)) (hy.ext ((e1.trans e2).trans e3)) (by (try simp only [lens]); omega)) (fun v16 w16 e16 h16 => ?_)
  have z16 := e16.size
  try simp only [val_dig] at h16
  obtain ⟨q16, rfl, hq16⟩ := h16
  refine O_move rfl rfl rfl ?_
  refine O_extract rfl rfl rfl rfl ?_
  refine O_extract rfl rfl rfl rfl ?_
  refine O_assign rfl rfl rfl ?_
  refine O_assign rfl rfl rfl ?_
  refine WL_end [(2, _), (3, _), (4, _), (5, _), (6, _)] ⟨rfl, rfl, rfl, rfl, rfl, trivial⟩ ?_
  refine WP_seq ?_
  refine WP_region ?_
  refine O_move rfl rfl rfl ?_
  refine WL_end [(2, _), (3, _), (4, _), (5, _), (30, _)] ⟨rfl, rfl, rfl, rfl, rfl, trivial⟩ ?_
  refine WP_condD rfl (fun c30 => ?_) (fun c30 => ?_)
  · --
   refine WP_seq ?_
   refine WP_region ?_
   refine O_field F24_0 rfl rfl rfl ?_
   refine O_loadC Tryd.underlying4 rfl rfl rfl rfl (((b1.ext e2).ext e3).ext e16) rfl ?_
   refine O_move rfl rfl rfl ?_
   refine O_call enters60 rfl rfl rfl (inat_c hq16.nl (by (try simp only [lens]); omega)) (fun v17 w17 e17 h17 => ?_)
   have z17 := e17.size
   try simp only [val_dig] at h17
   obtain ⟨q17, rfl, hq17⟩ := h17
   refine O_storeA (cs' := [_, _]) S24 rfl rfl rfl ((b3.ext e16).ext e17) rfl rfl (one_cons rfl (one_cons (hq17.nl).one one_nil)) rfl (fun w18 b18 q18 => ?_)
   have z18 := Nat.le_of_eq q18.size.symm
   have e18 : Ext w w18 := q18.ext ((((e1.trans e2).trans e3).trans e16).trans e17) (by omega)
   refine WL_end [(4, _)] ⟨rfl, trivial⟩ ?_
   refine WP_ret ?_
   refine retL Tryd.results51 (.cell rfl S24 b18 rfl .nil) ?_
   have hz : mk (decide (x < 0)) (x.natAbs - y.natAbs) = x + y := add_sub (by rw [c13]; decide) c30
   rw [← hz]
   exact ⟨_, rfl, e18, _, rfl, (hq17.chgBk ((b3.ext e16).ext e17) (by decide) q18).mono (by omega)⟩
  · --
   refine WP_skip ?_
   refine WP_seq ?_
   refine WP_region ?_
   refine O_field F24_1 rfl rfl rfl ?_
   refine O_loadC Tryd.underlying22 rfl rfl rfl rfl ((b2.ext e3).ext e16) rfl ?_
   refine O_field F24_1 rfl rfl rfl ?_
   refine O_loadC Tryd.underlying22 rfl rfl rfl rfl (((b1.ext e2).ext e3).ext e16) rfl ?_
   refine O_call enters88 rfl rfl rfl (sub_c (hy.ext (((e1.trans e2).trans e3).trans e16)) (hx.ext (((e1.trans e2).trans e3).trans e16)) (by (try simp only [lens]); omega)) (fun v19 w19 e19 h19 => ?_)
   have z19 := e19.size
   try simp only [val_dig] at h19
   obtain ⟨q19, rfl, hq19⟩ := h19
   refine O_move rfl rfl rfl ?_
   refine O_extract rfl rfl rfl rfl ?_
   refine O_extract rfl rfl rfl rfl ?_
   refine O_assign rfl rfl rfl ?_
   refine O_assign rfl rfl rfl ?_
   refine WL_end [(3, _), (4, _), (7, _)] ⟨rfl, rfl, rfl, trivial⟩ ?_
   refine WP_seq ?_
   refine WP_region ?_
   refine O_field F24_0 rfl rfl rfl ?_
   refine O_loadC Tryd.underlying4 rfl rfl rfl rfl (((b2.ext e3).ext e16).ext e19) rfl ?_
   refine O_move rfl rfl rfl ?_
   refine O_call enters60 rfl rfl rfl (inat_c hq19.nl (by (try simp only [lens]); omega)) (fun v20 w20 e20 h20 => ?_)
   have z20 := e20.size
   try simp only [val_dig] at h20
   obtain ⟨q20, rfl, hq20⟩ := h20
   refine O_storeA (cs' := [_, _]) S24 rfl rfl rfl (((b3.ext e16).ext e19).ext e20) rfl rfl (one_cons rfl (one_cons (hq20.nl).one one_nil)) rfl (fun w21 b21 q21 => ?_)
   have z21 := Nat.le_of_eq q21.size.symm
   have e21 : Ext w w21 := q21.ext (((((e1.trans e2).trans e3).trans e16).trans e19).trans e20) (by omega)
   refine WL_end [(4, _)] ⟨rfl, trivial⟩ ?_
   refine WP_ret ?_
   refine retL Tryd.results51 (.cell rfl S24 b21 rfl .nil) ?_
   have hz : mk (decide (y < 0)) (y.natAbs - x.natAbs) = x + y := add_rsub (by rw [c13]; decide) (by omega)
   rw [← hz]
   exact ⟨_, rfl, e21, _, rfl, (hq20.chgBk (((b3.ext e16).ext e19).ext e20) (by decide) q21).mono (by omega)⟩

theorem imul_c {w : World} {vx vy : Value} {x y : Int} {bx by_ : Bool} (hbx : bx = decide (x < 0)) (hx : Nl w vx (dig x.natAbs)) (hby : by_ = decide (y < 0)) (hy : Nl w vy (dig y.natAbs)) (hlx : (dig x.natAbs).length ≤ 1000000) (hly : (dig y.natAbs).length ≤ 1000000) :
    Calls Tryd.prog 53 #[.agg #[.bool bx, vx], .agg #[.bool by_, vy]] w (Ret w fun r w' => ∃ q, r = .agg #[.bool (decide ((x * y) < 0)), q] ∧ No w.heap.size 89 w' q (dig (x * y).natAbs)) := by
 subst hbx
 subst hby
 have hLm := dig_len_mul x.natAbs y.natAbs
 refine enter (args := [_, _]) Tryd.func53 rfl Tryd.ntmps53 rfl ?_
 refine WP_seq ?_
 refine WP_region ?_
 refine O_box _ rfl rfl rfl rfl (fun g1 w1 b1 e1 gl1 gh1 => ?_)
 have z1 := e1.size
 refine O_box _ rfl rfl rfl rfl (fun g2 w2 b2 e2 gl2 gh2 => ?_)
 have z2 := e2.size
 refine O_alloc S24 rfl rfl (fun g3 w3 b3 e3 gl3 gh3 => ?_)
 have z3 := e3.size
 refine WL_end [(2, _), (3, _), (4, _)] ⟨rfl, rfl, rfl, trivial⟩ ?_
 refine WP_seq ?_
 refine WP_sub [(2, _), (3, _), (4, _)] ⟨rfl, rfl, rfl, trivial⟩ ?_
 refine WP_anyR 10 [2, 3, 4] mixed rfl (by kernel_rfl) ?_
 apply AnyR_val [2] rfl (by kernel_rfl)
 · --
  intro y4 hy4
  have zy4 := hy4.size
  refine AllV_nil ?_
  refine O_field F24_0 rfl rfl rfl ?_
  exact WL_nil ⟨(Ext.refl _), rfl⟩
 apply AnyR_val [5] rfl (by kernel_rfl)
 · --
  intro y5 hy5
  have zy5 := hy5.size
  refine AllV_v ?_
  refine AllV_nil ?_
  refine O_loadC Tryd.underlying4 rfl rfl rfl rfl (((b1.ext e2).ext e3).ext hy5) rfl ?_
  exact WL_nil ⟨(Ext.refl _), rfl⟩
 apply AnyR_val [3] rfl (by kernel_rfl)
 · --
  intro y6 hy6
  have zy6 := hy6.size
  refine AllV_nil ?_
  refine O_field F24_0 rfl rfl rfl ?_
  exact WL_nil ⟨(Ext.refl _), rfl⟩
 apply AnyR_val [7] rfl (by kernel_rfl)
 · --
  intro y7 hy7
  have zy7 := hy7.size
  refine AllV_v ?_
  refine AllV_nil ?_
  refine O_loadC Tryd.underlying4 rfl rfl rfl rfl ((b2.ext e3).ext hy7) rfl ?_
  exact WL_nil ⟨(Ext.refl _), rfl⟩
 apply AnyR_val [6, 8] rfl (by kernel_rfl)
 · --
  intro y8 hy8
  have zy8 := hy8.size
  refine AllV_v ?_
  refine AllV_v ?_
  refine AllV_nil ?_
  refine O_bneq Tryd.underlying4 rfl rfl rfl rfl rfl ?_
  exact WL_nil ⟨(Ext.refl _), rfl⟩
 apply AnyR_val [2] rfl (by kernel_rfl)
 · --
  intro y9 hy9
  have zy9 := hy9.size
  refine AllV_nil ?_
  refine O_field F24_1 rfl rfl rfl ?_
  exact WL_nil ⟨(Ext.refl _), rfl⟩
 apply AnyR_val [10] rfl (by kernel_rfl)
 · --
  intro y10 hy10
  have zy10 := hy10.size
  refine AllV_v ?_
  refine AllV_nil ?_
  refine O_loadC Tryd.underlying22 rfl rfl rfl rfl (((b1.ext e2).ext e3).ext hy10) rfl ?_
  exact WL_nil ⟨(Ext.refl _), rfl⟩
 apply AnyR_val [3] rfl (by kernel_rfl)
 · --
  intro y11 hy11
  have zy11 := hy11.size
  refine AllV_nil ?_
  refine O_field F24_1 rfl rfl rfl ?_
  exact WL_nil ⟨(Ext.refl _), rfl⟩
 apply AnyR_val [12] rfl (by kernel_rfl)
 · --
  intro y12 hy12
  have zy12 := hy12.size
  refine AllV_v ?_
  refine AllV_nil ?_
  refine O_loadC Tryd.underlying22 rfl rfl rfl rfl ((b2.ext e3).ext hy12) rfl ?_
  exact WL_nil ⟨(Ext.refl _), rfl⟩
 apply AnyR_no [11, 13] rfl (by kernel_rfl)
 · --
  intro y13 hy13
  have zy13 := hy13.size
  refine AllV_v ?_
  refine AllV_v ?_
  refine AllV_nil ?_
  refine O_call enters92 rfl rfl rfl (mul_c (hx.ext (((e1.trans e2).trans e3).trans hy13)) (hy.ext (((e1.trans e2).trans e3).trans hy13)) (by (try simp only [lens]); omega) (by (try simp only [lens]); omega)) (fun v14 w14 e14 h14 => ?_)
  have z14 := e14.size
  try simp only [val_dig] at h14
  exact WL_nil ⟨e14, _, rfl, NoR.mk' h14⟩
 refine AnyR_nil fun y15 hy15 => ?_
 have zy15 := hy15.size
 refine AllV_v ?_
 refine AllV_v ?_
 refine AllV_v ?_
 refine AllV_v ?_
 refine AllV_v ?_
 refine AllV_v ?_
 refine AllV_v ?_
 refine AllV_v ?_
 refine AllV_v ?_
 refine AllV_r fun a16 b16 v16 la16 lb16 lc16 h16 ap16 => ?_
 clear ap16
 refine AllV_nil ?_
 refine O_call enters60 rfl rfl rfl (inat_c h16.1.nl (by (try simp only [lens]); omega)) (fun v17 w17 e17 h17 => ?_)
 have z17 := e17.size
 try simp only [val_dig] at h17
 obtain ⟨q17, rfl, hq17⟩ := h17
 refine O_storeA (cs' := [_, _]) S24 rfl rfl rfl ((b3.ext hy15).ext e17) rfl rfl (one_cons rfl (one_cons (hq17.nl).one one_nil)) rfl (fun w18 b18 q18 => ?_)
 have z18 := Nat.le_of_eq q18.size.symm
 have e18 : Ext w w18 := q18.ext ((((e1.trans e2).trans e3).trans hy15).trans e17) (by omega)
 refine WL_end [(4, _)] ⟨rfl, trivial⟩ ?_
 refine WP_ret ?_
 refine retL Tryd.results53 (.cell rfl S24 b18 rfl .nil) ?_
 have hz : mk (!(decide (x < 0) == decide (y < 0))) (x.natAbs * y.natAbs) = x * y := mul_sign x y
 rw [← hz]
 exact ⟨_, rfl, e18, _, rfl, (hq17.chgBk ((b3.ext hy15).ext e17) (by decide) q18).mono (by omega)⟩

theorem rimul_c {w : World} {vx vy : Value} {x y : Int} {bx by_ : Bool} (hbx : bx = decide (x < 0)) (hx : Nl w vx (dig x.natAbs)) (hby : by_ = decide (y < 0)) (hy : Nl w vy (dig y.natAbs)) (hlx : (dig x.natAbs).length ≤ 1000000) (hly : (dig y.natAbs).length ≤ 1000000) :
    Calls Tryd.prog 54 #[.agg #[.bool bx, vx], .agg #[.bool by_, vy]] w (Ret w fun r w' => ∃ q, r = .agg #[.bool (decide ((x * y) < 0)), q] ∧ No w.heap.size 89 w' q (dig (x * y).natAbs)) := by
 subst hbx
 subst hby
 have hLm := dig_len_mul x.natAbs y.natAbs
 refine enter (args := [_, _]) Tryd.func54 rfl Tryd.ntmps54 rfl ?_
 refine WP_seq ?_
 refine WP_region ?_
 refine O_box _ rfl rfl rfl rfl (fun g1 w1 b1 e1 gl1 gh1 => ?_)
 have z1 := e1.size
 refine O_box _ rfl rfl rfl rfl (fun g2 w2 b2 e2 gl2 gh2 => ?_)
 have z2 := e2.size
 refine O_alloc S24 rfl rfl (fun g3 w3 b3 e3 gl3 gh3 => ?_)
 have z3 := e3.size
 refine WL_end [(2, _), (3, _), (4, _)] ⟨rfl, rfl, rfl, trivial⟩ ?_
 refine WP_seq ?_
 refine WP_sub [(2, _), (3, _), (4, _)] ⟨rfl, rfl, rfl, trivial⟩ ?_
 refine WP_anyR 10 [2, 3, 4] mixed rfl (by kernel_rfl) ?_
 apply AnyR_val [2] rfl (by kernel_rfl)
 · --
  intro y4 hy4
  have zy4 := hy4.size
  refine AllV_nil ?_
  refine O_field F24_0 rfl rfl rfl ?_
  exact WL_nil ⟨(Ext.refl _), rfl⟩
 apply AnyR_val [5] rfl (by kernel_rfl)
 · --
  intro y5 hy5
  have zy5 := hy5.size
  refine AllV_v ?_
  refine AllV_nil ?_
  refine O_loadC Tryd.underlying4 rfl rfl rfl rfl (((b1.ext e2).ext e3).ext hy5) rfl ?_
  exact WL_nil ⟨(Ext.refl _), rfl⟩
 apply AnyR_val [3] rfl (by kernel_rfl)
 · --
  intro y6 hy6
  have zy6 := hy6.size
  refine AllV_nil ?_
  refine O_field F24_0 rfl rfl rfl ?_
  exact WL_nil ⟨(Ext.refl _), rfl⟩
 apply AnyR_val [7] rfl (by kernel_rfl)
 · --
  intro y7 hy7
  have zy7 := hy7.size
  refine AllV_v ?_
  refine AllV_nil ?_
  refine O_loadC Tryd.underlying4 rfl rfl rfl rfl ((b2.ext e3).ext hy7) rfl ?_
  exact WL_nil ⟨(Ext.refl _), rfl⟩
 apply AnyR_val [6, 8] rfl (by kernel_rfl)
 · --
  intro y8 hy8
  have zy8 := hy8.size
  refine AllV_v ?_
  refine AllV_v ?_
  refine AllV_nil ?_
  refine O_bneq Tryd.underlying4 rfl rfl rfl rfl rfl ?_
  exact WL_nil ⟨(Ext.refl _), rfl⟩
 apply AnyR_val [2] rfl (by kernel_rfl)
 · --
  intro y9 hy9
  have zy9 := hy9.size
  refine AllV_nil ?_
  refine O_field F24_1 rfl rfl rfl ?_
  exact WL_nil ⟨(Ext.refl _), rfl⟩
 apply AnyR_val [10] rfl (by kernel_rfl)
 · --
  intro y10 hy10
  have zy10 := hy10.size
  refine AllV_v ?_
  refine AllV_nil ?_
  refine O_loadC Tryd.underlying22 rfl rfl rfl rfl (((b1.ext e2).ext e3).ext hy10) rfl ?_
  exact WL_nil ⟨(Ext.refl _), rfl⟩
 apply AnyR_val [3] rfl (by kernel_rfl)
 · --
  intro y11 hy11
  have zy11 := hy11.size
  refine AllV_nil ?_
  refine O_field F24_1 rfl rfl rfl ?_
  exact WL_nil ⟨(Ext.refl _), rfl⟩
 apply AnyR_val [12] rfl (by kernel_rfl)
 · --
  intro y12 hy12
  have zy12 := hy12.size
  refine AllV_v ?_
  refine AllV_nil ?_
  refine O_loadC Tryd.underlying22 rfl rfl rfl rfl ((b2.ext e3).ext hy12) rfl ?_
  exact WL_nil ⟨(Ext.refl _), rfl⟩
 apply AnyR_no [11, 13] rfl (by kernel_rfl)
 · --
  intro y13 hy13
  have zy13 := hy13.size
  refine AllV_v ?_
  refine AllV_v ?_
  refine AllV_nil ?_
  refine O_call enters93 rfl rfl rfl (rmul_c (hx.ext (((e1.trans e2).trans e3).trans hy13)) (hy.ext (((e1.trans e2).trans e3).trans hy13)) (by (try simp only [lens]); omega) (by (try simp only [lens]); omega)) (fun v14 w14 e14 h14 => ?_)
  have z14 := e14.size
  try simp only [val_dig] at h14
  exact WL_nil ⟨e14, _, rfl, NoR.mk' h14⟩
 refine AnyR_nil fun y15 hy15 => ?_
 have zy15 := hy15.size
 refine AllV_v ?_
 refine AllV_v ?_
 refine AllV_v ?_
 refine AllV_v ?_
 refine AllV_v ?_
 refine AllV_v ?_
 refine AllV_v ?_
 refine AllV_v ?_
 refine AllV_v ?_
 refine AllV_r fun a16 b16 v16 la16 lb16 lc16 h16 ap16 => ?_
 clear ap16
 refine AllV_nil ?_
 refine O_call enters47 rfl rfl rfl (rinat_c h16.1.nl (by (try simp only [lens]); omega)) (fun v17 w17 e17 h17 => ?_)
 have z17 := e17.size
 try simp only [val_dig] at h17
 obtain ⟨q17, rfl, hq17⟩ := h17
 refine O_storeA (cs' := [_, _]) S24 rfl rfl rfl ((b3.ext hy15).ext e17) rfl rfl (one_cons rfl (one_cons (hq17.nl).one one_nil)) rfl (fun w18 b18 q18 => ?_)
 have z18 := Nat.le_of_eq q18.size.symm
 have e18 : Ext w w18 := q18.ext ((((e1.trans e2).trans e3).trans hy15).trans e17) (by omega)
 refine WL_end [(4, _)] ⟨rfl, trivial⟩ ?_
 refine WP_ret ?_
 refine retL Tryd.results54 (.cell rfl S24 b18 rfl .nil) ?_
 have hz : mk (!(decide (x < 0) == decide (y < 0))) (x.natAbs * y.natAbs) = x * y := mul_sign x y
 rw [← hz]
 exact ⟨_, rfl, e18, _, rfl, (hq17.chgBk ((b3.ext hy15).ext e17) (by decide) q18).mono (by omega)⟩

end Go.Proofs.YtnfnadhbjdcbnaaDoor
