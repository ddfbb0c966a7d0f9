/-
  Walks.
-/
import Derived.Test.YthbfhljpfkicpaaDoorV2
set_option linter.unusedVariables false
set_option linter.unusedSimpArgs false
set_option maxRecDepth 100000
namespace Go.Proofs.YthbfhljpfkicpaaDoor
open Go Go.RowKit
theorem rnum_sign (x e : Int) : decide (rnum x e < 0) = decide (x < 0) := by unfold rnum; split; exact mul_two_neg _ _; rfl
theorem mkf (n : Nat) : mk false n = (n : Int) := rfl
theorem rnum_len {x e : Int} {a : Nat} (h : (dig x.natAbs).length ≤ a) (he : e ≤ 200000) : (dig (rnum x e).natAbs).length ≤ a + 6251 := by
  unfold rnum; split
  · have := shl_len' (k := e.toNat) h; omega
  · omega
theorem rden_len {e : Int} (he : -200000 ≤ e) : (dig (rden e)).length ≤ 6252 := by
  unfold rden; split
  · exact Nat.le_trans (dig_len_of_lt (show 1 < 4294967296 ^ 1 by decide)) (by decide)
  · have := dig_len_two (-e).toNat; omega
theorem cross_len {p : Int} {q a b : Nat} (hp : (dig p.natAbs).length ≤ a) (hq : (dig q).length ≤ b) : (dig (p * (q : Int)).natAbs).length ≤ a + b := by
  have := dig_len_mul p.natAbs q
  rw [Int.natAbs_mul, Int.natAbs_natCast]; omega
/-- Whether an interval holds a fraction. -/
def hasv (x e y f p : Int) (q : Nat) : Bool := decide (icmp (rnum x e * (q : Int)) (p * (rden e : Nat)) ≤ 0) && decide (icmp (p * (rden f : Nat)) (rnum y f * (q : Int)) ≤ 0)
def withinv (x e y f z g u h : Int) : Bool := decide (dcmp z g x e ≤ 0) && decide (dcmp y f u h ≤ 0)
def samev (x e y f z g u h : Int) : Bool := decide (x = z ∧ e = g) && decide (y = u ∧ f = h)
theorem dcmp_same {x e z g : Int} (hx : dval x e = true) (hz : dval z g = true) : dcmp x e z g = 0 ↔ (x = z ∧ e = g) := by
  rw [sw_dcmp hx hz, icmp_zero]
  exact ⟨fun h => dval_same hx hz (dval_K hx) (dval_K hz) h, fun ⟨a, b⟩ => by rw [a, b]⟩
theorem abs_sign_inj {x z : Int} (h : decide (x < 0) = decide (z < 0)) (h2 : x.natAbs = z.natAbs) : x = z := by
  have := mk_self x; rw [h, h2, mk_self] at this; exact this.symm
theorem hasv_eq {x e y f p : Int} {q : Nat} (hx : dval x e = true) (hy : dval y f = true) : hasv x e y f p q = (decide (sw x e * q ≤ p * 2 ^ 70000) && decide (p * 2 ^ 70000 ≤ sw y f * q)) := by
  unfold hasv
  have h1 : icmp (rnum x e * (q : Int)) (p * (rden e : Nat)) ≤ 0 ↔ sw x e * q ≤ p * 2 ^ 70000 := by rw [rat_le (dval_K hx), icmp_pos]; rfl
  have h2 : icmp (p * (rden f : Nat)) (rnum y f * (q : Int)) ≤ 0 ↔ p * 2 ^ 70000 ≤ sw y f * q := by
    have h3 := rat_le (x := y) (p := p) (q := q) (dval_K hy)
    rw [icmp_neg, h3]
    have h4 := icmp_ge (a := sv 70000 y f * q) (b := p * 2 ^ 70000)
    exact ⟨fun h => h4.1 (by omega), fun h => by have := h4.2 h; omega⟩
  rw [decide_eq_decide.2 h1, decide_eq_decide.2 h2]

theorem one08_c {w : World} {k : Nat} (hk : k ≤ 200000) :
    Calls Tryd.prog 76 #[.int .i64 (k : Nat)] w (Ret w fun r w' => No w.heap.size 111 w' r (dig (2 ^ k))) := by
 have hd1 : (dig 1).length ≤ 1 := dig_len_of_lt (by decide)
 have hd2 := dig_len_two k
 refine enter (args := [_]) Tryd.func76 rfl Tryd.ntmps76 rfl ?_
 refine WP_seq ?_
 refine WP_region ?_
 refine O_assign rfl rfl rfl ?_
 refine WL_end [(0, _)] ⟨rfl, trivial⟩ ?_
 refine WP_seq ?_
 refine WP_region ?_
 refine O_call enters75 rfl rfl rfl (rof_c 1 (by decide)) (fun v1 w1 e1 h1 => ?_)
 have z1 := e1.size
 try simp only [val_dig] at h1
 refine O_move rfl rfl rfl ?_
 refine O_call enters123 rfl rfl rfl (rshl_c h1.nl (by (try simp only [lens]); omega) (by (try simp only [lens]); omega)) (fun v2 w2 e2 h2 => ?_)
 have z2 := e2.size
 try simp only [val_dig] at h2
 rw [Nat.one_mul] at h2
 refine O_assign rfl rfl rfl ?_
 refine WL_end [(2, _)] ⟨rfl, trivial⟩ ?_
 refine WP_ret ?_
 refine ret1 Tryd.results76 rfl ?_
 exact ⟨_, rfl, (e1.trans e2), h2.mono (by omega)⟩

theorem drat_p {w : World} {vx : Value} {x : Int} {bx : Bool} (hbx : bx = decide (x < 0)) (hx : Nl w vx (dig x.natAbs)) (hlx : (dig x.natAbs).length ≤ 30000) {k : Nat} (hk : k ≤ 200000) :
    Calls Tryd.prog 104 #[.agg #[.bool bx, vx, .int .i64 (k : Nat)]] w (Ret w fun r w' => ∃ q s, r = .agg #[.bool (decide (rnum x (k : Int) < 0)), q, s] ∧ Nl w' q (dig (rnum x (k : Int)).natAbs) ∧ Nl w' s (dig (rden (k : Int)))) := by
 subst hbx
 refine enter (args := [_]) Tryd.func104 rfl Tryd.ntmps104 rfl ?_
 refine WP_seq ?_
 refine WP_region ?_
 refine O_box _ rfl rfl rfl rfl (fun g1 w1 b1 e1 gl1 gh1 => ?_)
 have z1 := e1.size
 refine O_alloc S40 rfl rfl (fun g2 w2 b2 e2 gl2 gh2 => ?_)
 have z2 := e2.size
 refine WL_end [(1, _), (2, _)] ⟨rfl, rfl, trivial⟩ ?_
 refine WP_seq ?_
 refine WP_seq ?_
 refine WP_region ?_
 refine O_field F26_1 rfl rfl rfl ?_
 refine O_loadC Tryd.underlying3 rfl rfl rfl rfl (b1.ext e2) rfl ?_
 refine O_geq (t := true) rfl rfl rfl rfl (decide_eq_true (Int.natCast_nonneg k)) ?_
 refine WL_end [(1, _), (2, _), (5, _)] ⟨rfl, rfl, rfl, trivial⟩ ?_
 refine WP_condT rfl ?_
 refine WP_seq ?_
 refine WP_region ?_
 refine O_field F26_0 rfl rfl rfl ?_
 refine O_loadA (vs := [_, _]) S24 rfl rfl rfl (b1.ext e2) rfl rfl ?_
 refine O_field F26_1 rfl rfl rfl ?_
 refine O_loadC Tryd.underlying3 rfl rfl rfl rfl (b1.ext e2) rfl ?_
 refine O_call enters88 rfl rfl rfl (ishl_c rfl (hx.ext (e1.trans e2)) (by (try simp only [lens]); omega) (by (try simp only [lens]); omega)) (fun v3 w3 e3 h3 => ?_)
 have z3 := e3.size
 try simp only [val_dig] at h3
 obtain ⟨q3, rfl, hq3⟩ := h3
 refine O_call enters118 rfl rfl rfl (of_c 1 (by decide)) (fun v4 w4 e4 h4 => ?_)
 have z4 := e4.size
 try simp only [val_dig] at h4
 refine O_build (cs := [_, _, _]) B40 rfl rfl rfl (cells_cons rfl (cells_cons (h4.nl).cells1 cells_nil)) rfl ?_
 refine O_storeA (cs' := [_, _, _]) S40 rfl rfl rfl ((b2.ext e3).ext e4) rfl rfl (one_cons rfl (one_cons ((hq3.ext e4).nl).one (one_cons (h4.nl).one one_nil))) rfl (fun w5 b5 q5 => ?_)
 have z5 := Nat.le_of_eq q5.size.symm
 have e5 : Ext w w5 := q5.ext (((e1.trans e2).trans e3).trans e4) (by omega)
 refine WL_end [(2, _)] ⟨rfl, trivial⟩ ?_
 refine WP_ret ?_
 refine retL Tryd.results104 (.cell rfl S40 b5 rfl .nil) ?_
 have h1 : rnum x (k : Int) = x * 2 ^ k := by unfold rnum; rw [if_pos (Int.natCast_nonneg k), Int.toNat_natCast]
 have h2 : rden (k : Int) = 1 := if_pos (Int.natCast_nonneg k)
 rw [h1, h2]
 exact ⟨_, rfl, e5, _, _, rfl, ((hq3.ext e4).chgBk ((b2.ext e3).ext e4) (by decide) q5).nl, (h4.chgBk ((b2.ext e3).ext e4) (by decide) q5).nl⟩

theorem drat_n {w : World} {vx : Value} {x : Int} {bx : Bool} (hbx : bx = decide (x < 0)) (hx : Nl w vx (dig x.natAbs)) (hlx : (dig x.natAbs).length ≤ 30000) {k : Nat} (hk : k ≤ 200000) (hk0 : 0 < k) :
    Calls Tryd.prog 104 #[.agg #[.bool bx, vx, .int .i64 (-((k : Nat) : Int))]] w (Ret w fun r w' => ∃ q s, r = .agg #[.bool (decide (rnum x (-((k : Nat) : Int)) < 0)), q, s] ∧ Nl w' q (dig (rnum x (-((k : Nat) : Int))).natAbs) ∧ Nl w' s (dig (rden (-((k : Nat) : Int))))) := by
 subst hbx
 have hd1 : (dig 1).length ≤ 1 := dig_len_of_lt (by decide)
 have hd2 := dig_len_two k
 refine enter (args := [_]) Tryd.func104 rfl Tryd.ntmps104 rfl ?_
 refine WP_seq ?_
 refine WP_region ?_
 refine O_box _ rfl rfl rfl rfl (fun g1 w1 b1 e1 gl1 gh1 => ?_)
 have z1 := e1.size
 refine O_alloc S40 rfl rfl (fun g2 w2 b2 e2 gl2 gh2 => ?_)
 have z2 := e2.size
 refine WL_end [(1, _), (2, _)] ⟨rfl, rfl, trivial⟩ ?_
 refine WP_seq ?_
 refine WP_seq ?_
 refine WP_region ?_
 refine O_field F26_1 rfl rfl rfl ?_
 refine O_loadC Tryd.underlying3 rfl rfl rfl rfl (b1.ext e2) rfl ?_
 refine O_geq (t := false) rfl rfl rfl rfl (decide_eq_false (by omega)) ?_
 refine WL_end [(1, _), (2, _), (5, _)] ⟨rfl, rfl, rfl, trivial⟩ ?_
 refine WP_condF rfl ?_
 refine WP_skip ?_
 refine WP_seq ?_
 refine WP_sub [(1, _), (2, _)] ⟨rfl, rfl, trivial⟩ ?_
 refine WP_anyR 11 [1, 2] mixed rfl (by kernel_rfl) ?_
 apply AnyR_val [1] rfl (by kernel_rfl)
 · --
  intro y3 hy3
  have zy3 := hy3.size
  refine AllV_nil ?_
  refine O_field F26_0 rfl rfl rfl ?_
  exact WL_nil ⟨(Ext.refl _), rfl⟩
 apply AnyR_val [13] rfl (by kernel_rfl)
 · --
  intro y4 hy4
  have zy4 := hy4.size
  refine AllV_v ?_
  refine AllV_nil ?_
  refine O_field F24_0 rfl rfl rfl ?_
  exact WL_nil ⟨(Ext.refl _), rfl⟩
 apply AnyR_val [14] rfl (by kernel_rfl)
 · --
  intro y5 hy5
  have zy5 := hy5.size
  refine AllV_v ?_
  refine AllV_nil ?_
  refine O_loadC Tryd.underlying4 rfl rfl rfl rfl ((b1.ext e2).ext hy5) rfl ?_
  exact WL_nil ⟨(Ext.refl _), rfl⟩
 apply AnyR_val [1] rfl (by kernel_rfl)
 · --
  intro y6 hy6
  have zy6 := hy6.size
  refine AllV_nil ?_
  refine O_field F26_0 rfl rfl rfl ?_
  exact WL_nil ⟨(Ext.refl _), rfl⟩
 apply AnyR_val [16] rfl (by kernel_rfl)
 · --
  intro y7 hy7
  have zy7 := hy7.size
  refine AllV_v ?_
  refine AllV_nil ?_
  refine O_field F24_1 rfl rfl rfl ?_
  exact WL_nil ⟨(Ext.refl _), rfl⟩
 apply AnyR_val [17] rfl (by kernel_rfl)
 · --
  intro y8 hy8
  have zy8 := hy8.size
  refine AllV_v ?_
  refine AllV_nil ?_
  refine O_loadC Tryd.underlying22 rfl rfl rfl rfl ((b1.ext e2).ext hy8) rfl ?_
  exact WL_nil ⟨(Ext.refl _), rfl⟩
 apply AnyR_rel (RelP (pAgg [pEq _, pNo w2.heap.size 111 _])) [15, 18] rfl (RelP.mono (pAgg_mono (PsM.cons pEq_mono (PsM.cons pNo_mono PsM.nil)))) (by kernel_rfl)
 · --
  intro y9 hy9
  have zy9 := hy9.size
  refine AllV_v ?_
  refine AllV_v ?_
  refine AllV_nil ?_
  refine O_call enters87 rfl rfl rfl (inat_c (hx.ext ((e1.trans e2).trans hy9)) (by (try simp only [lens]); omega)) (fun v10 w10 e10 h10 => ?_)
  have z10 := e10.size
  try simp only [val_dig] at h10
  obtain ⟨q10, rfl, hq10⟩ := h10
  simp only [mk_self] at hq10 ⊢
  exact WL_nil ⟨e10, _, rfl, ⟨_, rfl, (AllP.cons rfl (AllP.cons (hq10.mono (by omega)) AllP.nil))⟩⟩
 apply AnyR_no [] rfl (by kernel_rfl)
 · --
  intro y11 hy11
  have zy11 := hy11.size
  refine AllV_nil ?_
  refine O_call enters118 rfl rfl rfl (of_c 1 (by decide)) (fun v12 w12 e12 h12 => ?_)
  have z12 := e12.size
  try simp only [val_dig] at h12
  exact WL_nil ⟨e12, _, rfl, NoR.mk' h12⟩
 apply AnyR_val [1] rfl (by kernel_rfl)
 · --
  intro y13 hy13
  have zy13 := hy13.size
  refine AllV_nil ?_
  refine O_field F26_1 rfl rfl rfl ?_
  exact WL_nil ⟨(Ext.refl _), rfl⟩
 apply AnyR_val [21] rfl (by kernel_rfl)
 · --
  intro y14 hy14
  have zy14 := hy14.size
  refine AllV_v ?_
  refine AllV_nil ?_
  refine O_loadC Tryd.underlying3 rfl rfl rfl rfl ((b1.ext e2).ext hy14) rfl ?_
  exact WL_nil ⟨(Ext.refl _), rfl⟩
 apply AnyR_val [22] rfl (by kernel_rfl)
 · --
  intro y15 hy15
  have zy15 := hy15.size
  refine AllV_v ?_
  refine AllV_nil ?_
  refine O_neg (r := ((k : Nat) : Int)) rfl rfl rfl (by rw [IntKind.wrap_i64]; omega) ?_
  exact WL_nil ⟨(Ext.refl _), rfl⟩
 refine AnyR_nil fun y16 hy16 => ?_
 have zy16 := hy16.size
 refine AllV_v ?_
 refine AllV_v ?_
 refine AllV_v ?_
 refine AllV_v ?_
 refine AllV_v ?_
 refine AllV_v ?_
 refine AllV_r fun a17 b17 v17 la17 lb17 lc17 h17 ap17 => ?_
 clear ap17
 obtain ⟨_, rfl, v17_0, _, rfl, rfl, v17_1, _, rfl, h17_1, rfl⟩ := h17
 refine AllV_r fun a18 b18 v18 la18 lb18 lc18 h18 ap18 => ?_
 clear ap18
 refine AllV_v ?_
 refine AllV_v ?_
 refine AllV_v ?_
 refine AllV_nil ?_
 refine O_call enters89 rfl rfl rfl (shl_c h18.1.nl (by (try simp only [lens]); omega) (by (try simp only [lens]); omega)) (fun v19 w19 e19 h19 => ?_)
 have z19 := e19.size
 try simp only [val_dig] at h19
 rw [Nat.one_mul] at h19
 refine O_build (cs := [_, _, _]) B40 rfl rfl rfl (cells_cons rfl (cells_cons (h19.nl).cells1 cells_nil)) rfl ?_
 refine O_storeA (cs' := [_, _, _]) S40 rfl rfl rfl ((b2.ext hy16).ext e19) rfl rfl (one_cons rfl (one_cons ((h17_1.ext e19).nl).one (one_cons (h19.nl).one one_nil))) rfl (fun w20 b20 q20 => ?_)
 have z20 := Nat.le_of_eq q20.size.symm
 have e20 : Ext w w20 := q20.ext (((e1.trans e2).trans hy16).trans e19) (by omega)
 refine WL_end [(2, _)] ⟨rfl, trivial⟩ ?_
 refine WP_ret ?_
 refine retL Tryd.results104 (.cell rfl S40 b20 rfl .nil) ?_
 have h1 : rnum x (-((k : Nat) : Int)) = x := if_neg (by omega)
 have h2 : rden (-((k : Nat) : Int)) = 2 ^ k := by unfold rden; rw [if_neg (by omega), Int.neg_neg, Int.toNat_natCast]
 rw [h1, h2]
 exact ⟨_, rfl, e20, _, _, rfl, ((h17_1.ext e19).chgBk ((b2.ext hy16).ext e19) (by decide) q20).nl, (h19.chgBk ((b2.ext hy16).ext e19) (by decide) q20).nl⟩

theorem drat_c {w : World} {vx : Value} {x e : Int} {bx : Bool} (hbx : bx = decide (x < 0)) (hx : Nl w vx (dig x.natAbs)) (hlx : (dig x.natAbs).length ≤ 30000) (he1 : -200000 ≤ e) (he2 : e ≤ 200000) : Calls Tryd.prog 104 #[.agg #[.bool bx, vx, .int .i64 e]] w (Ret w fun r w' => ∃ q s, r = .agg #[.bool (decide (rnum x e < 0)), q, s] ∧ Nl w' q (dig (rnum x e).natAbs) ∧ Nl w' s (dig (rden e))) := by
  by_cases h0 : 0 ≤ e
  · obtain ⟨k, rfl⟩ : ∃ k : Nat, e = (k : Int) := ⟨e.toNat, by omega⟩
    exact drat_p hbx hx hlx (by omega)
  · obtain ⟨k, rfl⟩ : ∃ k : Nat, e = -(k : Int) := ⟨(-e).toNat, by omega⟩
    exact drat_n hbx hx hlx (by omega) (by omega)

theorem rdrat_p {w : World} {vx : Value} {x : Int} {bx : Bool} (hbx : bx = decide (x < 0)) (hx : Nl w vx (dig x.natAbs)) (hlx : (dig x.natAbs).length ≤ 30000) {k : Nat} (hk : k ≤ 200000) :
    Calls Tryd.prog 24 #[.agg #[.bool bx, vx, .int .i64 (k : Nat)]] w (Ret w fun r w' => ∃ q s, r = .agg #[.bool (decide (rnum x (k : Int) < 0)), q, s] ∧ Nl w' q (dig (rnum x (k : Int)).natAbs) ∧ Nl w' s (dig (rden (k : Int)))) := by
 subst hbx
 refine enter (args := [_]) Tryd.func24 rfl Tryd.ntmps24 rfl ?_
 refine WP_seq ?_
 refine WP_region ?_
 refine O_box _ rfl rfl rfl rfl (fun g1 w1 b1 e1 gl1 gh1 => ?_)
 have z1 := e1.size
 refine O_alloc S40 rfl rfl (fun g2 w2 b2 e2 gl2 gh2 => ?_)
 have z2 := e2.size
 refine WL_end [(1, _), (2, _)] ⟨rfl, rfl, trivial⟩ ?_
 refine WP_seq ?_
 refine WP_seq ?_
 refine WP_region ?_
 refine O_field F26_1 rfl rfl rfl ?_
 refine O_loadC Tryd.underlying3 rfl rfl rfl rfl (b1.ext e2) rfl ?_
 refine O_geq (t := true) rfl rfl rfl rfl (decide_eq_true (Int.natCast_nonneg k)) ?_
 refine WL_end [(1, _), (2, _), (5, _)] ⟨rfl, rfl, rfl, trivial⟩ ?_
 refine WP_condT rfl ?_
 refine WP_seq ?_
 refine WP_region ?_
 refine O_field F26_0 rfl rfl rfl ?_
 refine O_loadA (vs := [_, _]) S24 rfl rfl rfl (b1.ext e2) rfl rfl ?_
 refine O_field F26_1 rfl rfl rfl ?_
 refine O_loadC Tryd.underlying3 rfl rfl rfl rfl (b1.ext e2) rfl ?_
 refine O_call enters74 rfl rfl rfl (rishl_c rfl (hx.ext (e1.trans e2)) (by (try simp only [lens]); omega) (by (try simp only [lens]); omega)) (fun v3 w3 e3 h3 => ?_)
 have z3 := e3.size
 try simp only [val_dig] at h3
 obtain ⟨q3, rfl, hq3⟩ := h3
 refine O_call enters75 rfl rfl rfl (rof_c 1 (by decide)) (fun v4 w4 e4 h4 => ?_)
 have z4 := e4.size
 try simp only [val_dig] at h4
 refine O_build (cs := [_, _, _]) B40 rfl rfl rfl (cells_cons rfl (cells_cons (h4.nl).cells1 cells_nil)) rfl ?_
 refine O_storeA (cs' := [_, _, _]) S40 rfl rfl rfl ((b2.ext e3).ext e4) rfl rfl (one_cons rfl (one_cons ((hq3.ext e4).nl).one (one_cons (h4.nl).one one_nil))) rfl (fun w5 b5 q5 => ?_)
 have z5 := Nat.le_of_eq q5.size.symm
 have e5 : Ext w w5 := q5.ext (((e1.trans e2).trans e3).trans e4) (by omega)
 refine WL_end [(2, _)] ⟨rfl, trivial⟩ ?_
 refine WP_ret ?_
 refine retL Tryd.results24 (.cell rfl S40 b5 rfl .nil) ?_
 have h1 : rnum x (k : Int) = x * 2 ^ k := by unfold rnum; rw [if_pos (Int.natCast_nonneg k), Int.toNat_natCast]
 have h2 : rden (k : Int) = 1 := if_pos (Int.natCast_nonneg k)
 rw [h1, h2]
 exact ⟨_, rfl, e5, _, _, rfl, ((hq3.ext e4).chgBk ((b2.ext e3).ext e4) (by decide) q5).nl, (h4.chgBk ((b2.ext e3).ext e4) (by decide) q5).nl⟩

theorem rdrat_n {w : World} {vx : Value} {x : Int} {bx : Bool} (hbx : bx = decide (x < 0)) (hx : Nl w vx (dig x.natAbs)) (hlx : (dig x.natAbs).length ≤ 30000) {k : Nat} (hk : k ≤ 200000) (hk0 : 0 < k) :
    Calls Tryd.prog 24 #[.agg #[.bool bx, vx, .int .i64 (-((k : Nat) : Int))]] w (Ret w fun r w' => ∃ q s, r = .agg #[.bool (decide (rnum x (-((k : Nat) : Int)) < 0)), q, s] ∧ Nl w' q (dig (rnum x (-((k : Nat) : Int))).natAbs) ∧ Nl w' s (dig (rden (-((k : Nat) : Int))))) := by
 subst hbx
 have hd1 : (dig 1).length ≤ 1 := dig_len_of_lt (by decide)
 have hd2 := dig_len_two k
 refine enter (args := [_]) Tryd.func24 rfl Tryd.ntmps24 rfl ?_
 refine WP_seq ?_
 refine WP_region ?_
 refine O_box _ rfl rfl rfl rfl (fun g1 w1 b1 e1 gl1 gh1 => ?_)
 have z1 := e1.size
 refine O_alloc S40 rfl rfl (fun g2 w2 b2 e2 gl2 gh2 => ?_)
 have z2 := e2.size
 refine WL_end [(1, _), (2, _)] ⟨rfl, rfl, trivial⟩ ?_
 refine WP_seq ?_
 refine WP_seq ?_
 refine WP_region ?_
 refine O_field F26_1 rfl rfl rfl ?_
 refine O_loadC Tryd.underlying3 rfl rfl rfl rfl (b1.ext e2) rfl ?_
 refine O_geq (t := false) rfl rfl rfl rfl (decide_eq_false (by omega)) ?_
 refine WL_end [(1, _), (2, _), (5, _)] ⟨rfl, rfl, rfl, trivial⟩ ?_
 refine WP_condF rfl ?_
 refine WP_skip ?_
 refine WP_seq ?_
 refine WP_sub [(1, _), (2, _)] ⟨rfl, rfl, trivial⟩ ?_
 refine WP_anyR 6 [1, 2] mixed rfl (by kernel_rfl) ?_
 apply AnyR_val [1] rfl (by kernel_rfl)
 · --
  intro y3 hy3
  have zy3 := hy3.size
  refine AllV_nil ?_
  refine O_field F26_0 rfl rfl rfl ?_
  exact WL_nil ⟨(Ext.refl _), rfl⟩
 apply AnyR_val [13] rfl (by kernel_rfl)
 · --
  intro y4 hy4
  have zy4 := hy4.size
  refine AllV_v ?_
  refine AllV_nil ?_
  refine O_loadA (vs := [_, _]) S24 rfl rfl rfl ((b1.ext e2).ext hy4) rfl rfl ?_
  exact WL_nil ⟨(Ext.refl _), rfl⟩
 apply AnyR_val [1] rfl (by kernel_rfl)
 · --
  intro y5 hy5
  have zy5 := hy5.size
  refine AllV_nil ?_
  refine O_field F26_1 rfl rfl rfl ?_
  exact WL_nil ⟨(Ext.refl _), rfl⟩
 apply AnyR_val [15] rfl (by kernel_rfl)
 · --
  intro y6 hy6
  have zy6 := hy6.size
  refine AllV_v ?_
  refine AllV_nil ?_
  refine O_loadC Tryd.underlying3 rfl rfl rfl rfl ((b1.ext e2).ext hy6) rfl ?_
  exact WL_nil ⟨(Ext.refl _), rfl⟩
 apply AnyR_val [16] rfl (by kernel_rfl)
 · --
  intro y7 hy7
  have zy7 := hy7.size
  refine AllV_v ?_
  refine AllV_nil ?_
  refine O_neg (r := ((k : Nat) : Int)) rfl rfl rfl (by rw [IntKind.wrap_i64]; omega) ?_
  exact WL_nil ⟨(Ext.refl _), rfl⟩
 apply AnyR_no [17] rfl (by kernel_rfl)
 · --
  intro y8 hy8
  have zy8 := hy8.size
  refine AllV_v ?_
  refine AllV_nil ?_
  refine O_call enters76 rfl rfl rfl (one08_c (by (try simp only [lens]); omega)) (fun v9 w9 e9 h9 => ?_)
  have z9 := e9.size
  try simp only [val_dig] at h9
  exact WL_nil ⟨e9, _, rfl, NoR.mk' h9⟩
 refine AnyR_nil fun y10 hy10 => ?_
 have zy10 := hy10.size
 refine AllV_v ?_
 refine AllV_v ?_
 refine AllV_v ?_
 refine AllV_v ?_
 refine AllV_v ?_
 refine AllV_r fun a11 b11 v11 la11 lb11 lc11 h11 ap11 => ?_
 clear ap11
 refine AllV_nil ?_
 refine O_build (cs := [_, _, _]) B40 rfl rfl rfl (cells_cons rfl (cells_cons (h11.1.nl).cells1 cells_nil)) rfl ?_
 refine O_storeA (cs' := [_, _, _]) S40 rfl rfl rfl (b2.ext hy10) rfl rfl (one_cons rfl (one_cons ((hx.ext ((e1.trans e2).trans hy10))).one (one_cons (h11.1.nl).one one_nil))) rfl (fun w12 b12 q12 => ?_)
 have z12 := Nat.le_of_eq q12.size.symm
 have e12 : Ext w w12 := q12.ext ((e1.trans e2).trans hy10) (by omega)
 refine WL_end [(2, _)] ⟨rfl, trivial⟩ ?_
 refine WP_ret ?_
 refine retL Tryd.results24 (.cell rfl S40 b12 rfl .nil) ?_
 have h1 : rnum x (-((k : Nat) : Int)) = x := if_neg (by omega)
 have h2 : rden (-((k : Nat) : Int)) = 2 ^ k := by unfold rden; rw [if_neg (by omega), Int.neg_neg, Int.toNat_natCast]
 rw [h1, h2]
 exact ⟨_, rfl, e12, _, _, rfl, (hx.ext e12), (h11.1.chgBk (b2.ext hy10) (by decide) q12).nl⟩

theorem rdrat_c {w : World} {vx : Value} {x e : Int} {bx : Bool} (hbx : bx = decide (x < 0)) (hx : Nl w vx (dig x.natAbs)) (hlx : (dig x.natAbs).length ≤ 30000) (he1 : -200000 ≤ e) (he2 : e ≤ 200000) : Calls Tryd.prog 24 #[.agg #[.bool bx, vx, .int .i64 e]] w (Ret w fun r w' => ∃ q s, r = .agg #[.bool (decide (rnum x e < 0)), q, s] ∧ Nl w' q (dig (rnum x e).natAbs) ∧ Nl w' s (dig (rden e))) := by
  by_cases h0 : 0 ≤ e
  · obtain ⟨k, rfl⟩ : ∃ k : Nat, e = (k : Int) := ⟨e.toNat, by omega⟩
    exact rdrat_p hbx hx hlx (by omega)
  · obtain ⟨k, rfl⟩ : ∃ k : Nat, e = -(k : Int) := ⟨(-e).toNat, by omega⟩
    exact rdrat_n hbx hx hlx (by omega) (by omega)

theorem cross_c {w : World} {vp vq : Value} {p : Int} {q : Nat} {bp : Bool} (hbp : bp = decide (p < 0)) (hp : Nl w vp (dig p.natAbs)) (hq : Nl w vq (dig q)) (hlp : (dig p.natAbs).length ≤ 30000) (hlq : (dig q).length ≤ 30000) {vs vt : Value} {s : Int} {t : Nat} {bs : Bool} (hbs : bs = decide (s < 0)) (hs : Nl w vs (dig s.natAbs)) (ht : Nl w vt (dig t)) (hls : (dig s.natAbs).length ≤ 30000) (hlt : (dig t).length ≤ 30000) :
    Calls Tryd.prog 141 #[.agg #[.bool bp, vp, vq], .agg #[.bool bs, vs, vt]] w (Ret w fun r w' => ∃ a b, r = .tuple #[.agg #[.bool (decide (p * (t : Int) < 0)), a], .agg #[.bool (decide (s * (q : Int) < 0)), b]] ∧ No w.heap.size 111 w' a (dig (p * (t : Int)).natAbs) ∧ No w.heap.size 111 w' b (dig (s * (q : Int)).natAbs)) := by
 subst hbp
 subst hbs
 have hc1 := cross_len hlp hlt
 have hc2 := cross_len hls hlq
 have hq9 : (dig (q : Int).natAbs).length ≤ 30000 := by rw [Int.natAbs_natCast]; exact hlq
 have ht9 : (dig (t : Int).natAbs).length ≤ 30000 := by rw [Int.natAbs_natCast]; exact hlt
 refine enter (args := [_, _]) Tryd.func141 rfl Tryd.ntmps141 rfl ?_
 refine WP_seq ?_
 refine WP_region ?_
 refine O_box _ rfl rfl rfl rfl (fun g1 w1 b1 e1 gl1 gh1 => ?_)
 have z1 := e1.size
 refine O_box _ rfl rfl rfl rfl (fun g2 w2 b2 e2 gl2 gh2 => ?_)
 have z2 := e2.size
 refine O_alloc S24 rfl rfl (fun g3 w3 b3 e3 gl3 gh3 => ?_)
 have z3 := e3.size
 refine O_alloc S24 rfl rfl (fun g4 w4 b4 e4 gl4 gh4 => ?_)
 have z4 := e4.size
 refine WL_end [(2, _), (3, _), (4, _), (5, _)] ⟨rfl, rfl, rfl, rfl, trivial⟩ ?_
 refine WP_seq ?_
 refine WP_sub [(2, _), (3, _), (4, _), (5, _)] ⟨rfl, rfl, rfl, rfl, trivial⟩ ?_
 refine WP_anyR 11 [2, 3, 4, 5] mixed rfl (by kernel_rfl) ?_
 apply AnyR_val [2] rfl (by kernel_rfl)
 · --
  intro y5 hy5
  have zy5 := hy5.size
  refine AllV_nil ?_
  refine O_field F40_0 rfl rfl rfl ?_
  exact WL_nil ⟨(Ext.refl _), rfl⟩
 apply AnyR_val [6] rfl (by kernel_rfl)
 · --
  intro y6 hy6
  have zy6 := hy6.size
  refine AllV_v ?_
  refine AllV_nil ?_
  refine O_loadA (vs := [_, _]) S24 rfl rfl rfl ((((b1.ext e2).ext e3).ext e4).ext hy6) rfl rfl ?_
  exact WL_nil ⟨(Ext.refl _), rfl⟩
 apply AnyR_val [3] rfl (by kernel_rfl)
 · --
  intro y7 hy7
  have zy7 := hy7.size
  refine AllV_nil ?_
  refine O_field F40_1 rfl rfl rfl ?_
  exact WL_nil ⟨(Ext.refl _), rfl⟩
 apply AnyR_val [8] rfl (by kernel_rfl)
 · --
  intro y8 hy8
  have zy8 := hy8.size
  refine AllV_v ?_
  refine AllV_nil ?_
  refine O_loadC Tryd.underlying22 rfl rfl rfl rfl (((b2.ext e3).ext e4).ext hy8) rfl ?_
  exact WL_nil ⟨(Ext.refl _), rfl⟩
 apply AnyR_rel (RelP (pAgg [pEq _, pNo w4.heap.size 111 _])) [9] rfl (RelP.mono (pAgg_mono (PsM.cons pEq_mono (PsM.cons pNo_mono PsM.nil)))) (by kernel_rfl)
 · --
  intro y9 hy9
  have zy9 := hy9.size
  refine AllV_v ?_
  refine AllV_nil ?_
  refine O_call enters87 rfl rfl rfl (inat_c (ht.ext ((((e1.trans e2).trans e3).trans e4).trans hy9)) (by (try simp only [lens]); omega)) (fun v10 w10 e10 h10 => ?_)
  have z10 := e10.size
  try simp only [val_dig] at h10
  obtain ⟨q10, rfl, hq10⟩ := h10
  simp only [mkf] at hq10 ⊢
  exact WL_nil ⟨e10, _, rfl, ⟨_, rfl, (AllP.cons rfl (AllP.cons (hq10.mono (by omega)) AllP.nil))⟩⟩
 apply AnyR_rel (RelP (pAgg [pEq _, pNo w4.heap.size 111 _])) [7, 10] rfl (RelP.mono (pAgg_mono (PsM.cons pEq_mono (PsM.cons pNo_mono PsM.nil)))) (by kernel_rfl)
 · --
  intro y11 hy11
  have zy11 := hy11.size
  refine AllV_v ?_
  refine AllV_r fun a12 b12 v12 la12 lb12 lc12 h12 ap12 => ?_
  clear ap12
  obtain ⟨_, rfl, v12_0, _, rfl, rfl, v12_1, _, rfl, h12_1, rfl⟩ := h12
  refine AllV_nil ?_
  refine O_call enters160 rfl rfl rfl (imul_c rfl (hp.ext ((((e1.trans e2).trans e3).trans e4).trans hy11)) rfl h12_1.nl (by (try simp only [lens]); omega) (by (try simp only [lens]); omega)) (fun v13 w13 e13 h13 => ?_)
  have z13 := e13.size
  try simp only [val_dig] at h13
  obtain ⟨q13, rfl, hq13⟩ := h13
  exact WL_nil ⟨e13, _, rfl, ⟨_, rfl, (AllP.cons rfl (AllP.cons (hq13.mono (by omega)) AllP.nil))⟩⟩
 apply AnyR_val [3] rfl (by kernel_rfl)
 · --
  intro y14 hy14
  have zy14 := hy14.size
  refine AllV_nil ?_
  refine O_field F40_0 rfl rfl rfl ?_
  exact WL_nil ⟨(Ext.refl _), rfl⟩
 apply AnyR_val [12] rfl (by kernel_rfl)
 · --
  intro y15 hy15
  have zy15 := hy15.size
  refine AllV_v ?_
  refine AllV_nil ?_
  refine O_loadA (vs := [_, _]) S24 rfl rfl rfl (((b2.ext e3).ext e4).ext hy15) rfl rfl ?_
  exact WL_nil ⟨(Ext.refl _), rfl⟩
 apply AnyR_val [2] rfl (by kernel_rfl)
 · --
  intro y16 hy16
  have zy16 := hy16.size
  refine AllV_nil ?_
  refine O_field F40_1 rfl rfl rfl ?_
  exact WL_nil ⟨(Ext.refl _), rfl⟩
 apply AnyR_val [14] rfl (by kernel_rfl)
 · --
  intro y17 hy17
  have zy17 := hy17.size
  refine AllV_v ?_
  refine AllV_nil ?_
  refine O_loadC Tryd.underlying22 rfl rfl rfl rfl ((((b1.ext e2).ext e3).ext e4).ext hy17) rfl ?_
  exact WL_nil ⟨(Ext.refl _), rfl⟩
 apply AnyR_rel (RelP (pAgg [pEq _, pNo w4.heap.size 111 _])) [15] rfl (RelP.mono (pAgg_mono (PsM.cons pEq_mono (PsM.cons pNo_mono PsM.nil)))) (by kernel_rfl)
 · --
  intro y18 hy18
  have zy18 := hy18.size
  refine AllV_v ?_
  refine AllV_nil ?_
  refine O_call enters87 rfl rfl rfl (inat_c (hq.ext ((((e1.trans e2).trans e3).trans e4).trans hy18)) (by (try simp only [lens]); omega)) (fun v19 w19 e19 h19 => ?_)
  have z19 := e19.size
  try simp only [val_dig] at h19
  obtain ⟨q19, rfl, hq19⟩ := h19
  simp only [mkf] at hq19 ⊢
  exact WL_nil ⟨e19, _, rfl, ⟨_, rfl, (AllP.cons rfl (AllP.cons (hq19.mono (by omega)) AllP.nil))⟩⟩
 refine AnyR_nil fun y20 hy20 => ?_
 have zy20 := hy20.size
 refine AllV_v ?_
 refine AllV_v ?_
 refine AllV_v ?_
 refine AllV_v ?_
 refine AllV_r fun a21 b21 v21 la21 lb21 lc21 h21 ap21 => ?_
 clear ap21
 obtain ⟨_, rfl, v21_0, _, rfl, rfl, v21_1, _, rfl, h21_1, rfl⟩ := h21
 refine AllV_r fun a22 b22 v22 la22 lb22 lc22 h22 ap22 => ?_
 clear ap22
 obtain ⟨_, rfl, v22_0, _, rfl, rfl, v22_1, _, rfl, h22_1, rfl⟩ := h22
 refine AllV_v ?_
 refine AllV_v ?_
 refine AllV_v ?_
 refine AllV_v ?_
 refine AllV_r fun a23 b23 v23 la23 lb23 lc23 h23 ap23 => ?_
 clear ap23
 obtain ⟨_, rfl, v23_0, _, rfl, rfl, v23_1, _, rfl, h23_1, rfl⟩ := h23
 refine AllV_nil ?_
 refine O_call enters160 rfl rfl rfl (imul_c rfl (hs.ext ((((e1.trans e2).trans e3).trans e4).trans hy20)) rfl h23_1.nl (by (try simp only [lens]); omega) (by (try simp only [lens]); omega)) (fun v24 w24 e24 h24 => ?_)
 have z24 := e24.size
 try simp only [val_dig] at h24
 obtain ⟨q24, rfl, hq24⟩ := h24
 refine O_storeA (cs' := [_, _]) S24 rfl rfl rfl (((b3.ext e4).ext hy20).ext e24) rfl rfl (one_cons rfl (one_cons ((h22_1.ext e24).nl).one one_nil)) rfl (fun w25 b25 q25 => ?_)
 have z25 := Nat.le_of_eq q25.size.symm
 have e25 : Ext w w25 := q25.ext (((((e1.trans e2).trans e3).trans e4).trans hy20).trans e24) (by omega)
 refine O_storeA (cs' := [_, _]) S24 rfl rfl rfl (((b4.ext hy20).ext e24).chg q25 (by first | assumption | omega)) rfl rfl (one_cons rfl (one_cons ((hq24.chgBk (((b3.ext e4).ext hy20).ext e24) (by decide) q25).nl).one one_nil)) rfl (fun w26 b26 q26 => ?_)
 have z26 := Nat.le_of_eq q26.size.symm
 have e26 : Ext w w26 := q26.ext e25 (by omega)
 refine WL_end [(4, _), (5, _)] ⟨rfl, rfl, trivial⟩ ?_
 refine WP_ret ?_
 refine retL Tryd.results141 (.cell rfl S24 (b25.chg q26 (by first | assumption | omega)) rfl (.cell rfl S24 b26 rfl .nil)) ?_
 exact ⟨_, rfl, e26, _, _, rfl, (((h22_1.ext e24).chgBk (((b3.ext e4).ext hy20).ext e24) (by decide) q25).chgBk (((b4.ext hy20).ext e24).chg q25 (by first | assumption | omega)) (by decide) q26).mono (by omega), ((hq24.chgBk (((b3.ext e4).ext hy20).ext e24) (by decide) q25).chgBk (((b4.ext hy20).ext e24).chg q25 (by first | assumption | omega)) (by decide) q26).mono (by omega)⟩

theorem den07_c {w : World} {vp vq : Value} {p : Int} {q : Nat} {bp : Bool} (hbp : bp = decide (p < 0)) (hp : Nl w vp (dig p.natAbs)) (hq : Nl w vq (dig q)) (hlp : (dig p.natAbs).length ≤ 30000) (hlq : (dig q).length ≤ 30000) :
    Calls Tryd.prog 81 #[.agg #[.bool bp, vp, vq]] w (Ret w fun r w' => ∃ a, r = .agg #[.bool (decide ((q : Int) < 0)), a] ∧ No w.heap.size 111 w' a (dig (q : Int).natAbs)) := by
 subst hbp
 refine enter (args := [_]) Tryd.func81 rfl Tryd.ntmps81 rfl ?_
 refine WP_seq ?_
 refine WP_region ?_
 refine O_box _ rfl rfl rfl rfl (fun g1 w1 b1 e1 gl1 gh1 => ?_)
 have z1 := e1.size
 refine O_alloc S24 rfl rfl (fun g2 w2 b2 e2 gl2 gh2 => ?_)
 have z2 := e2.size
 refine WL_end [(1, _), (2, _)] ⟨rfl, rfl, trivial⟩ ?_
 refine WP_seq ?_
 refine WP_region ?_
 refine O_field F40_1 rfl rfl rfl ?_
 refine O_loadC Tryd.underlying22 rfl rfl rfl rfl (b1.ext e2) rfl ?_
 refine O_call enters85 rfl rfl rfl (rinat_c (hq.ext (e1.trans e2)) (by (try simp only [lens]); omega)) (fun v3 w3 e3 h3 => ?_)
 have z3 := e3.size
 try simp only [val_dig] at h3
 obtain ⟨q3, rfl, hq3⟩ := h3
 simp only [mkf] at hq3 ⊢
 refine O_storeA (cs' := [_, _]) S24 rfl rfl rfl (b2.ext e3) rfl rfl (one_cons rfl (one_cons (hq3.nl).one one_nil)) rfl (fun w4 b4 q4 => ?_)
 have z4 := Nat.le_of_eq q4.size.symm
 have e4 : Ext w w4 := q4.ext ((e1.trans e2).trans e3) (by omega)
 refine WL_end [(2, _)] ⟨rfl, trivial⟩ ?_
 refine WP_ret ?_
 refine retL Tryd.results81 (.cell rfl S24 b4 rfl .nil) ?_
 exact ⟨_, rfl, e4, _, rfl, (hq3.chgBk (b2.ext e3) (by decide) q4).mono (by omega)⟩

theorem ratcmp_c {w : World} {vp vq : Value} {p : Int} {q : Nat} {bp : Bool} (hbp : bp = decide (p < 0)) (hp : Nl w vp (dig p.natAbs)) (hq : Nl w vq (dig q)) (hlp : (dig p.natAbs).length ≤ 30000) (hlq : (dig q).length ≤ 30000) {vs vt : Value} {s : Int} {t : Nat} {bs : Bool} (hbs : bs = decide (s < 0)) (hs : Nl w vs (dig s.natAbs)) (ht : Nl w vt (dig t)) (hls : (dig s.natAbs).length ≤ 30000) (hlt : (dig t).length ≤ 30000) :
    Calls Tryd.prog 103 #[.agg #[.bool bp, vp, vq], .agg #[.bool bs, vs, vt]] w (Ret w fun r _ => r = .int .i64 (icmp (p * (t : Int)) (s * (q : Int)))) := by
 subst hbp
 subst hbs
 have hc1 := cross_len hlp hlt
 have hc2 := cross_len hls hlq
 have hq9 : (dig (q : Int).natAbs).length ≤ 30000 := by rw [Int.natAbs_natCast]; exact hlq
 have ht9 : (dig (t : Int).natAbs).length ≤ 30000 := by rw [Int.natAbs_natCast]; exact hlt
 refine enter (args := [_, _]) Tryd.func103 rfl Tryd.ntmps103 rfl ?_
 refine WP_seq ?_
 refine WP_region ?_
 refine O_box _ rfl rfl rfl rfl (fun g1 w1 b1 e1 gl1 gh1 => ?_)
 have z1 := e1.size
 refine O_box _ rfl rfl rfl rfl (fun g2 w2 b2 e2 gl2 gh2 => ?_)
 have z2 := e2.size
 refine O_assign rfl rfl rfl ?_
 refine WL_end [(2, _), (3, _)] ⟨rfl, rfl, trivial⟩ ?_
 refine WP_seq ?_
 refine WP_region ?_
 refine O_loadA (vs := [_, _, _]) S40 rfl rfl rfl (b1.ext e2) rfl rfl ?_
 refine O_loadA (vs := [_, _, _]) S40 rfl rfl rfl b2 rfl rfl ?_
 refine O_call enters141 rfl rfl rfl (cross_c rfl (hp.ext (e1.trans e2)) (hq.ext (e1.trans e2)) (by first | with_reducible assumption | omega) (by first | with_reducible assumption | omega) rfl (hs.ext (e1.trans e2)) (ht.ext (e1.trans e2)) (by first | with_reducible assumption | omega) (by first | with_reducible assumption | omega)) (fun v3 w3 e3 h3 => ?_)
 have z3 := e3.size
 try simp only [val_dig] at h3
 obtain ⟨q3, s3, rfl, hq3, hs3⟩ := h3
 refine O_move rfl rfl rfl ?_
 refine O_extract rfl rfl rfl rfl ?_
 refine O_extract rfl rfl rfl rfl ?_
 refine O_alloc S24 rfl rfl (fun g4 w4 b4 e4 gl4 gh4 => ?_)
 have z4 := e4.size
 refine O_alloc S24 rfl rfl (fun g5 w5 b5 e5 gl5 gh5 => ?_)
 have z5 := e5.size
 refine O_storeA (cs' := [_, _]) S24 rfl rfl rfl (b4.ext e5) rfl rfl (one_cons rfl (one_cons (((hq3.ext e4).ext e5).nl).one one_nil)) rfl (fun w6 b6 q6 => ?_)
 have z6 := Nat.le_of_eq q6.size.symm
 have e6 : Ext w w6 := q6.ext ((((e1.trans e2).trans e3).trans e4).trans e5) (by omega)
 refine O_storeA (cs' := [_, _]) S24 rfl rfl rfl (b5.chg q6 (by first | assumption | omega)) rfl rfl (one_cons rfl (one_cons ((((hs3.ext e4).ext e5).chgBk (b4.ext e5) (by decide) q6).nl).one one_nil)) rfl (fun w7 b7 q7 => ?_)
 have z7 := Nat.le_of_eq q7.size.symm
 have e7 : Ext w w7 := q7.ext e6 (by omega)
 refine WL_end [(5, _), (6, _)] ⟨rfl, rfl, trivial⟩ ?_
 refine WP_seq ?_
 refine WP_region ?_
 refine O_loadA (vs := [_, _]) S24 rfl rfl rfl (b6.chg q7 (by first | assumption | omega)) rfl rfl ?_
 refine O_loadA (vs := [_, _]) S24 rfl rfl rfl b7 rfl rfl ?_
 refine O_call enters138 rfl rfl rfl (icmp_c rfl ((((hq3.ext e4).ext e5).chgBk (b4.ext e5) (by decide) q6).chgBk (b5.chg q6 (by first | assumption | omega)) (by decide) q7).nl rfl ((((hs3.ext e4).ext e5).chgBk (b4.ext e5) (by decide) q6).chgBk (b5.chg q6 (by first | assumption | omega)) (by decide) q7).nl (by (try simp only [lens]); omega) (by (try simp only [lens]); omega)) (fun v8 w8 e8 h8 => ?_)
 have z8 := e8.size
 obtain rfl := h8
 refine O_assign rfl rfl rfl ?_
 refine WL_end [(4, _)] ⟨rfl, trivial⟩ ?_
 refine WP_ret ?_
 refine ret1 Tryd.results103 rfl ?_
 exact ⟨_, rfl, (e7.trans e8), rfl⟩

theorem rratcmp_c {w : World} {vp vq : Value} {p : Int} {q : Nat} {bp : Bool} (hbp : bp = decide (p < 0)) (hp : Nl w vp (dig p.natAbs)) (hq : Nl w vq (dig q)) (hlp : (dig p.natAbs).length ≤ 30000) (hlq : (dig q).length ≤ 30000) {vs vt : Value} {s : Int} {t : Nat} {bs : Bool} (hbs : bs = decide (s < 0)) (hs : Nl w vs (dig s.natAbs)) (ht : Nl w vt (dig t)) (hls : (dig s.natAbs).length ≤ 30000) (hlt : (dig t).length ≤ 30000) :
    Calls Tryd.prog 27 #[.agg #[.bool bp, vp, vq], .agg #[.bool bs, vs, vt]] w (Ret w fun r _ => r = .int .i64 (icmp (p * (t : Int)) (s * (q : Int)))) := by
 subst hbp
 subst hbs
 have hc1 := cross_len hlp hlt
 have hc2 := cross_len hls hlq
 have hq9 : (dig (q : Int).natAbs).length ≤ 30000 := by rw [Int.natAbs_natCast]; exact hlq
 have ht9 : (dig (t : Int).natAbs).length ≤ 30000 := by rw [Int.natAbs_natCast]; exact hlt
 refine enter (args := [_, _]) Tryd.func27 rfl Tryd.ntmps27 rfl ?_
 refine WP_seq ?_
 refine WP_region ?_
 refine O_box _ rfl rfl rfl rfl (fun g1 w1 b1 e1 gl1 gh1 => ?_)
 have z1 := e1.size
 refine O_box _ rfl rfl rfl rfl (fun g2 w2 b2 e2 gl2 gh2 => ?_)
 have z2 := e2.size
 refine O_assign rfl rfl rfl ?_
 refine WL_end [(2, _), (3, _)] ⟨rfl, rfl, trivial⟩ ?_
 refine WP_seq ?_
 refine WP_sub [(2, _), (3, _)] ⟨rfl, rfl, trivial⟩ ?_
 refine WP_anyR 9 [2, 3] mixed rfl (by kernel_rfl) ?_
 apply AnyR_val [2] rfl (by kernel_rfl)
 · --
  intro y3 hy3
  have zy3 := hy3.size
  refine AllV_nil ?_
  refine O_field F40_0 rfl rfl rfl ?_
  exact WL_nil ⟨(Ext.refl _), rfl⟩
 apply AnyR_val [5] rfl (by kernel_rfl)
 · --
  intro y4 hy4
  have zy4 := hy4.size
  refine AllV_v ?_
  refine AllV_nil ?_
  refine O_loadA (vs := [_, _]) S24 rfl rfl rfl ((b1.ext e2).ext hy4) rfl rfl ?_
  exact WL_nil ⟨(Ext.refl _), rfl⟩
 apply AnyR_val [3] rfl (by kernel_rfl)
 · --
  intro y5 hy5
  have zy5 := hy5.size
  refine AllV_nil ?_
  refine O_loadA (vs := [_, _, _]) S40 rfl rfl rfl (b2.ext hy5) rfl rfl ?_
  exact WL_nil ⟨(Ext.refl _), rfl⟩
 apply AnyR_rel (RelP (pAgg [pEq _, pNo w2.heap.size 111 _])) [7] rfl (RelP.mono (pAgg_mono (PsM.cons pEq_mono (PsM.cons pNo_mono PsM.nil)))) (by kernel_rfl)
 · --
  intro y6 hy6
  have zy6 := hy6.size
  refine AllV_v ?_
  refine AllV_nil ?_
  refine O_call enters81 rfl rfl rfl (den07_c rfl (hs.ext ((e1.trans e2).trans hy6)) (ht.ext ((e1.trans e2).trans hy6)) (by first | with_reducible assumption | omega) (by first | with_reducible assumption | omega)) (fun v7 w7 e7 h7 => ?_)
  have z7 := e7.size
  try simp only [val_dig] at h7
  obtain ⟨q7, rfl, hq7⟩ := h7
  exact WL_nil ⟨e7, _, rfl, ⟨_, rfl, (AllP.cons rfl (AllP.cons (hq7.mono (by omega)) AllP.nil))⟩⟩
 apply AnyR_rel (RelP (pAgg [pEq _, pNo w2.heap.size 111 _])) [6, 8] rfl (RelP.mono (pAgg_mono (PsM.cons pEq_mono (PsM.cons pNo_mono PsM.nil)))) (by kernel_rfl)
 · --
  intro y8 hy8
  have zy8 := hy8.size
  refine AllV_v ?_
  refine AllV_r fun a9 b9 v9 la9 lb9 lc9 h9 ap9 => ?_
  clear ap9
  obtain ⟨_, rfl, v9_0, _, rfl, rfl, v9_1, _, rfl, h9_1, rfl⟩ := h9
  refine AllV_nil ?_
  refine O_call enters80 rfl rfl rfl (rimul_c rfl (hp.ext ((e1.trans e2).trans hy8)) rfl h9_1.nl (by (try simp only [lens]); omega) (by (try simp only [lens]); omega)) (fun v10 w10 e10 h10 => ?_)
  have z10 := e10.size
  try simp only [val_dig] at h10
  obtain ⟨q10, rfl, hq10⟩ := h10
  exact WL_nil ⟨e10, _, rfl, ⟨_, rfl, (AllP.cons rfl (AllP.cons (hq10.mono (by omega)) AllP.nil))⟩⟩
 apply AnyR_val [3] rfl (by kernel_rfl)
 · --
  intro y11 hy11
  have zy11 := hy11.size
  refine AllV_nil ?_
  refine O_field F40_0 rfl rfl rfl ?_
  exact WL_nil ⟨(Ext.refl _), rfl⟩
 apply AnyR_val [10] rfl (by kernel_rfl)
 · --
  intro y12 hy12
  have zy12 := hy12.size
  refine AllV_v ?_
  refine AllV_nil ?_
  refine O_loadA (vs := [_, _]) S24 rfl rfl rfl (b2.ext hy12) rfl rfl ?_
  exact WL_nil ⟨(Ext.refl _), rfl⟩
 apply AnyR_val [2] rfl (by kernel_rfl)
 · --
  intro y13 hy13
  have zy13 := hy13.size
  refine AllV_nil ?_
  refine O_loadA (vs := [_, _, _]) S40 rfl rfl rfl ((b1.ext e2).ext hy13) rfl rfl ?_
  exact WL_nil ⟨(Ext.refl _), rfl⟩
 apply AnyR_rel (RelP (pAgg [pEq _, pNo w2.heap.size 111 _])) [12] rfl (RelP.mono (pAgg_mono (PsM.cons pEq_mono (PsM.cons pNo_mono PsM.nil)))) (by kernel_rfl)
 · --
  intro y14 hy14
  have zy14 := hy14.size
  refine AllV_v ?_
  refine AllV_nil ?_
  refine O_call enters81 rfl rfl rfl (den07_c rfl (hp.ext ((e1.trans e2).trans hy14)) (hq.ext ((e1.trans e2).trans hy14)) (by first | with_reducible assumption | omega) (by first | with_reducible assumption | omega)) (fun v15 w15 e15 h15 => ?_)
  have z15 := e15.size
  try simp only [val_dig] at h15
  obtain ⟨q15, rfl, hq15⟩ := h15
  exact WL_nil ⟨e15, _, rfl, ⟨_, rfl, (AllP.cons rfl (AllP.cons (hq15.mono (by omega)) AllP.nil))⟩⟩
 refine AnyR_nil fun y16 hy16 => ?_
 have zy16 := hy16.size
 refine AllV_v ?_
 refine AllV_v ?_
 refine AllV_v ?_
 refine AllV_r fun a17 b17 v17 la17 lb17 lc17 h17 ap17 => ?_
 clear ap17
 obtain ⟨_, rfl, v17_0, _, rfl, rfl, v17_1, _, rfl, h17_1, rfl⟩ := h17
 refine AllV_r fun a18 b18 v18 la18 lb18 lc18 h18 ap18 => ?_
 clear ap18
 obtain ⟨_, rfl, v18_0, _, rfl, rfl, v18_1, _, rfl, h18_1, rfl⟩ := h18
 refine AllV_v ?_
 refine AllV_v ?_
 refine AllV_v ?_
 refine AllV_r fun a19 b19 v19 la19 lb19 lc19 h19 ap19 => ?_
 clear ap19
 obtain ⟨_, rfl, v19_0, _, rfl, rfl, v19_1, _, rfl, h19_1, rfl⟩ := h19
 refine AllV_nil ?_
 refine O_call enters80 rfl rfl rfl (rimul_c rfl (hs.ext ((e1.trans e2).trans hy16)) rfl h19_1.nl (by (try simp only [lens]); omega) (by (try simp only [lens]); omega)) (fun v20 w20 e20 h20 => ?_)
 have z20 := e20.size
 try simp only [val_dig] at h20
 obtain ⟨q20, rfl, hq20⟩ := h20
 refine O_call enters79 rfl rfl rfl (ricmp_c rfl (h18_1.ext e20).nl rfl hq20.nl (by (try simp only [lens]); omega) (by (try simp only [lens]); omega)) (fun v21 w21 e21 h21 => ?_)
 have z21 := e21.size
 obtain rfl := h21
 refine O_assign rfl rfl rfl ?_
 refine WL_end [(4, _)] ⟨rfl, trivial⟩ ?_
 refine WP_ret ?_
 refine ret1 Tryd.results27 rfl ?_
 exact ⟨_, rfl, ((((e1.trans e2).trans hy16).trans e20).trans e21), rfl⟩

theorem ivhas_c {w : World} {vx vy : Value} {x y e f : Int} {bx by_ : Bool} (hbx : bx = decide (x < 0)) (hx : Nl w vx (dig x.natAbs)) (hby : by_ = decide (y < 0)) (hy : Nl w vy (dig y.natAbs)) (hvx : dval x e = true) (hvy : dval y f = true) {vp vq : Value} {p : Int} {q : Nat} {bp : Bool} (hbp : bp = decide (p < 0)) (hp : Nl w vp (dig p.natAbs)) (hq : Nl w vq (dig q)) (hlp : (dig p.natAbs).length ≤ 20000) (hlq : (dig q).length ≤ 20000) :
    Calls Tryd.prog 47 #[.agg #[.bool bx, vx, .int .i64 e, .bool by_, vy, .int .i64 f], .agg #[.bool bp, vp, vq]] w (Ret w fun r _ => r = .bool (hasv x e y f p q)) := by
 subst hbx
 subst hby
 have hRx := dval_range hvx
 have hlx : (dig x.natAbs).length ≤ 2049 := dval_len hvx
 have hRy := dval_range hvy
 have hly : (dig y.natAbs).length ≤ 2049 := dval_len hvy
 subst hbp
 have hn1 := rnum_len (e := e) hlx (by omega)
 have hn2 := rnum_len (e := f) hly (by omega)
 have hm1 := rden_len (e := e) (by omega)
 have hm2 := rden_len (e := f) (by omega)
 refine enter (args := [_, _]) Tryd.func47 rfl Tryd.ntmps47 rfl ?_
 refine WP_seq ?_
 refine WP_region ?_
 refine O_box _ rfl rfl rfl rfl (fun g1 w1 b1 e1 gl1 gh1 => ?_)
 have z1 := e1.size
 refine O_box _ rfl rfl rfl rfl (fun g2 w2 b2 e2 gl2 gh2 => ?_)
 have z2 := e2.size
 refine O_assign rfl rfl rfl ?_
 refine WL_end [(2, _), (3, _)] ⟨rfl, rfl, trivial⟩ ?_
 refine WP_seq ?_
 by_cases hA : icmp (rnum x e * (q : Int)) (p * (rden e : Nat)) ≤ 0
 · --
  skip
  refine WP_sub [(2, _), (3, _)] ⟨rfl, rfl, trivial⟩ ?_
  refine WP_anyR 11 [2, 3] mixed rfl (by kernel_rfl) ?_
  apply AnyR_val [2] rfl (by kernel_rfl)
  · --
   intro y3 hy3
   have zy3 := hy3.size
   refine AllV_nil ?_
   refine O_field F53_0 rfl rfl rfl ?_
   exact WL_nil ⟨(Ext.refl _), rfl⟩
  apply AnyR_val [5] rfl (by kernel_rfl)
  · --
   intro y4 hy4
   have zy4 := hy4.size
   refine AllV_v ?_
   refine AllV_nil ?_
   refine O_loadA (vs := [_, _, _]) S26 rfl rfl rfl ((b1.ext e2).ext hy4) rfl rfl ?_
   exact WL_nil ⟨(Ext.refl _), rfl⟩
  apply AnyR_rel (RelP (pAgg [pEq _, pNl _, pNl _])) [6] rfl (RelP.mono (pAgg_mono (PsM.cons pEq_mono (PsM.cons pNl_mono (PsM.cons pNl_mono PsM.nil))))) (by kernel_rfl)
  · --
   intro y5 hy5
   have zy5 := hy5.size
   refine AllV_v ?_
   refine AllV_nil ?_
   refine O_call enters104 rfl rfl rfl (drat_c rfl (hx.ext ((e1.trans e2).trans hy5)) (by (try simp only [lens]); omega) (by (try simp only [lens]); omega) (by (try simp only [lens]); omega)) (fun v6 w6 e6 h6 => ?_)
   have z6 := e6.size
   try simp only [val_dig] at h6
   obtain ⟨rq6, rs6, rfl, hrq6, hrs6⟩ := h6
   exact WL_nil ⟨e6, _, rfl, ⟨_, rfl, (AllP.cons rfl (AllP.cons hrq6 (AllP.cons hrs6 AllP.nil)))⟩⟩
  apply AnyR_val [3] rfl (by kernel_rfl)
  · --
   intro y7 hy7
   have zy7 := hy7.size
   refine AllV_nil ?_
   refine O_loadA (vs := [_, _, _]) S40 rfl rfl rfl (b2.ext hy7) rfl rfl ?_
   exact WL_nil ⟨(Ext.refl _), rfl⟩
  apply AnyR_val [7, 8] rfl (by kernel_rfl)
  · --
   intro y8 hy8
   have zy8 := hy8.size
   refine AllV_r fun a9 b9 v9 la9 lb9 lc9 h9 ap9 => ?_
   clear ap9
   obtain ⟨_, rfl, v9_0, _, rfl, rfl, v9_1, _, rfl, h9_1, v9_2, _, rfl, h9_2, rfl⟩ := h9
   refine AllV_v ?_
   refine AllV_nil ?_
   refine O_call enters103 rfl rfl rfl (ratcmp_c rfl h9_1 h9_2 (by first | with_reducible assumption | omega) (by first | with_reducible assumption | omega) rfl (hp.ext ((e1.trans e2).trans hy8)) (hq.ext ((e1.trans e2).trans hy8)) (by first | with_reducible assumption | omega) (by first | with_reducible assumption | omega)) (fun v10 w10 e10 h10 => ?_)
   have z10 := e10.size
   obtain rfl := h10
   exact WL_nil ⟨e10, rfl⟩
  apply AnyR_val [9] rfl (by kernel_rfl)
  · --
   intro y11 hy11
   have zy11 := hy11.size
   refine AllV_v ?_
   refine AllV_nil ?_
   refine O_leq (t := true) rfl rfl rfl rfl (decide_eq_true hA) ?_
   exact WL_nil ⟨(Ext.refl _), rfl⟩
  apply AnyR_val [10] rfl (by kernel_rfl)
  · --
   intro y12 hy12
   have zy12 := hy12.size
   refine AllV_v ?_
   refine AllV_nil ?_
   refine O_move rfl rfl rfl ?_
   exact WL_nil ⟨(Ext.refl _), rfl⟩
  apply AnyR_val [11, 3] rfl (by kernel_rfl)
  · --
   intro y13 hy13
   have zy13 := hy13.size
   refine AllV_v ?_
   refine AllV_nil ?_
   refine O_loadA (vs := [_, _, _]) S40 rfl rfl rfl (b2.ext hy13) rfl rfl ?_
   exact WL_nil ⟨(Ext.refl _), rfl⟩
  apply AnyR_val [11, 2] rfl (by kernel_rfl)
  · --
   intro y14 hy14
   have zy14 := hy14.size
   refine AllV_v ?_
   refine AllV_nil ?_
   refine O_field F53_1 rfl rfl rfl ?_
   exact WL_nil ⟨(Ext.refl _), rfl⟩
  apply AnyR_val [11, 13] rfl (by kernel_rfl)
  · --
   intro y15 hy15
   have zy15 := hy15.size
   refine AllV_v ?_
   refine AllV_v ?_
   refine AllV_nil ?_
   refine O_loadA (vs := [_, _, _]) S26 rfl rfl rfl ((b1.ext e2).ext hy15) rfl rfl ?_
   exact WL_nil ⟨(Ext.refl _), rfl⟩
  apply AnyR_rel (RelP (pAgg [pEq _, pNl _, pNl _])) [11, 14] rfl (RelP.mono (pAgg_mono (PsM.cons pEq_mono (PsM.cons pNl_mono (PsM.cons pNl_mono PsM.nil))))) (by kernel_rfl)
  · --
   intro y16 hy16
   have zy16 := hy16.size
   refine AllV_v ?_
   refine AllV_v ?_
   refine AllV_nil ?_
   refine O_call enters104 rfl rfl rfl (drat_c rfl (hy.ext ((e1.trans e2).trans hy16)) (by (try simp only [lens]); omega) (by (try simp only [lens]); omega) (by (try simp only [lens]); omega)) (fun v17 w17 e17 h17 => ?_)
   have z17 := e17.size
   try simp only [val_dig] at h17
   obtain ⟨rq17, rs17, rfl, hrq17, hrs17⟩ := h17
   exact WL_nil ⟨e17, _, rfl, ⟨_, rfl, (AllP.cons rfl (AllP.cons hrq17 (AllP.cons hrs17 AllP.nil)))⟩⟩
  refine AnyR_nil fun y18 hy18 => ?_
  have zy18 := hy18.size
  refine AllV_v ?_
  refine AllV_v ?_
  refine AllV_r fun a19 b19 v19 la19 lb19 lc19 h19 ap19 => ?_
  clear ap19
  obtain ⟨_, rfl, v19_0, _, rfl, rfl, v19_1, _, rfl, h19_1, v19_2, _, rfl, h19_2, rfl⟩ := h19
  refine AllV_v ?_
  refine AllV_v ?_
  refine AllV_v ?_
  refine AllV_v ?_
  refine AllV_v ?_
  refine AllV_v ?_
  refine AllV_v ?_
  refine AllV_r fun a20 b20 v20 la20 lb20 lc20 h20 ap20 => ?_
  clear ap20
  obtain ⟨_, rfl, v20_0, _, rfl, rfl, v20_1, _, rfl, h20_1, v20_2, _, rfl, h20_2, rfl⟩ := h20
  refine AllV_nil ?_
  refine O_call enters103 rfl rfl rfl (ratcmp_c rfl (hp.ext ((e1.trans e2).trans hy18)) (hq.ext ((e1.trans e2).trans hy18)) (by first | with_reducible assumption | omega) (by first | with_reducible assumption | omega) rfl h20_1 h20_2 (by first | with_reducible assumption | omega) (by first | with_reducible assumption | omega)) (fun v21 w21 e21 h21 => ?_)
  have z21 := e21.size
  obtain rfl := h21
  refine O_leq rfl rfl rfl rfl rfl ?_
  refine O_pickT rfl rfl rfl rfl ?_
  refine O_assign rfl rfl rfl ?_
  refine WL_end [(4, _)] ⟨rfl, trivial⟩ ?_
  refine WP_ret ?_
  refine ret1 Tryd.results47 rfl ?_
  exact ⟨_, rfl, (((e1.trans e2).trans hy18).trans e21), by unfold hasv; rw [decide_eq_true hA]; rfl⟩
 · --
  skip
  refine WP_sub [(2, _), (3, _)] ⟨rfl, rfl, trivial⟩ ?_
  refine WP_anyR 11 [2, 3] mixed rfl (by kernel_rfl) ?_
  apply AnyR_val [2] rfl (by kernel_rfl)
  · --
   intro y22 hy22
   have zy22 := hy22.size
   refine AllV_nil ?_
   refine O_field F53_0 rfl rfl rfl ?_
   exact WL_nil ⟨(Ext.refl _), rfl⟩
  apply AnyR_val [5] rfl (by kernel_rfl)
  · --
   intro y23 hy23
   have zy23 := hy23.size
   refine AllV_v ?_
   refine AllV_nil ?_
   refine O_loadA (vs := [_, _, _]) S26 rfl rfl rfl ((b1.ext e2).ext hy23) rfl rfl ?_
   exact WL_nil ⟨(Ext.refl _), rfl⟩
  apply AnyR_rel (RelP (pAgg [pEq _, pNl _, pNl _])) [6] rfl (RelP.mono (pAgg_mono (PsM.cons pEq_mono (PsM.cons pNl_mono (PsM.cons pNl_mono PsM.nil))))) (by kernel_rfl)
  · --
   intro y24 hy24
   have zy24 := hy24.size
   refine AllV_v ?_
   refine AllV_nil ?_
   refine O_call enters104 rfl rfl rfl (drat_c rfl (hx.ext ((e1.trans e2).trans hy24)) (by (try simp only [lens]); omega) (by (try simp only [lens]); omega) (by (try simp only [lens]); omega)) (fun v25 w25 e25 h25 => ?_)
   have z25 := e25.size
   try simp only [val_dig] at h25
   obtain ⟨rq25, rs25, rfl, hrq25, hrs25⟩ := h25
   exact WL_nil ⟨e25, _, rfl, ⟨_, rfl, (AllP.cons rfl (AllP.cons hrq25 (AllP.cons hrs25 AllP.nil)))⟩⟩
  apply AnyR_val [3] rfl (by kernel_rfl)
  · --
   intro y26 hy26
   have zy26 := hy26.size
   refine AllV_nil ?_
   refine O_loadA (vs := [_, _, _]) S40 rfl rfl rfl (b2.ext hy26) rfl rfl ?_
   exact WL_nil ⟨(Ext.refl _), rfl⟩
  apply AnyR_val [7, 8] rfl (by kernel_rfl)
  · --
   intro y27 hy27
   have zy27 := hy27.size
   refine AllV_r fun a28 b28 v28 la28 lb28 lc28 h28 ap28 => ?_
   clear ap28
   obtain ⟨_, rfl, v28_0, _, rfl, rfl, v28_1, _, rfl, h28_1, v28_2, _, rfl, h28_2, rfl⟩ := h28
   refine AllV_v ?_
   refine AllV_nil ?_
   refine O_call enters103 rfl rfl rfl (ratcmp_c rfl h28_1 h28_2 (by first | with_reducible assumption | omega) (by first | with_reducible assumption | omega) rfl (hp.ext ((e1.trans e2).trans hy27)) (hq.ext ((e1.trans e2).trans hy27)) (by first | with_reducible assumption | omega) (by first | with_reducible assumption | omega)) (fun v29 w29 e29 h29 => ?_)
   have z29 := e29.size
   obtain rfl := h29
   exact WL_nil ⟨e29, rfl⟩
  apply AnyR_val [9] rfl (by kernel_rfl)
  · --
   intro y30 hy30
   have zy30 := hy30.size
   refine AllV_v ?_
   refine AllV_nil ?_
   refine O_leq (t := false) rfl rfl rfl rfl (decide_eq_false hA) ?_
   exact WL_nil ⟨(Ext.refl _), rfl⟩
  apply AnyR_val [10] rfl (by kernel_rfl)
  · --
   intro y31 hy31
   have zy31 := hy31.size
   refine AllV_v ?_
   refine AllV_nil ?_
   refine O_move rfl rfl rfl ?_
   exact WL_nil ⟨(Ext.refl _), rfl⟩
  apply AnyR_val [11, 3] rfl (by kernel_rfl)
  · --
   intro y32 hy32
   have zy32 := hy32.size
   refine AllV_v ?_
   refine AllV_nil ?_
   refine O_skip rfl rfl ?_
   exact WL_nil ⟨(Ext.refl _), rfl⟩
  apply AnyR_val [11, 2] rfl (by kernel_rfl)
  · --
   intro y33 hy33
   have zy33 := hy33.size
   refine AllV_v ?_
   refine AllV_nil ?_
   refine O_skip rfl rfl ?_
   exact WL_nil ⟨(Ext.refl _), rfl⟩
  apply AnyR_val [11, 13] rfl (by kernel_rfl)
  · --
   intro y34 hy34
   have zy34 := hy34.size
   refine AllV_v ?_
   refine AllV_v ?_
   refine AllV_nil ?_
   refine O_skip rfl rfl ?_
   exact WL_nil ⟨(Ext.refl _), rfl⟩
  apply AnyR_val [11, 14] rfl (by kernel_rfl)
  · --
   intro y35 hy35
   have zy35 := hy35.size
   refine AllV_v ?_
   refine AllV_v ?_
   refine AllV_nil ?_
   refine O_skip rfl rfl ?_
   exact WL_nil ⟨(Ext.refl _), rfl⟩
  refine AnyR_nil fun y36 hy36 => ?_
  have zy36 := hy36.size
  refine AllV_v ?_
  refine AllV_v ?_
  refine AllV_r fun a37 b37 v37 la37 lb37 lc37 h37 ap37 => ?_
  clear ap37
  obtain ⟨_, rfl, v37_0, _, rfl, rfl, v37_1, _, rfl, h37_1, v37_2, _, rfl, h37_2, rfl⟩ := h37
  refine AllV_v ?_
  refine AllV_v ?_
  refine AllV_v ?_
  refine AllV_v ?_
  refine AllV_v ?_
  refine AllV_v ?_
  refine AllV_v ?_
  refine AllV_v ?_
  refine AllV_nil ?_
  refine O_skip rfl rfl ?_
  refine O_skip rfl rfl ?_
  refine O_pickF rfl rfl rfl rfl ?_
  refine O_assign rfl rfl rfl ?_
  refine WL_end [(4, _)] ⟨rfl, trivial⟩ ?_
  refine WP_ret ?_
  refine ret1 Tryd.results47 rfl ?_
  exact ⟨_, rfl, ((e1.trans e2).trans hy36), by unfold hasv; rw [decide_eq_false hA]; rfl⟩

theorem ivwithin_c {w : World} {vx vy : Value} {x y e f : Int} {bx by_ : Bool} (hbx : bx = decide (x < 0)) (hx : Nl w vx (dig x.natAbs)) (hby : by_ = decide (y < 0)) (hy : Nl w vy (dig y.natAbs)) (hvx : dval x e = true) (hvy : dval y f = true) {vz vu : Value} {z u g h : Int} {bz bu : Bool} (hbz : bz = decide (z < 0)) (hz : Nl w vz (dig z.natAbs)) (hbu : bu = decide (u < 0)) (hu : Nl w vu (dig u.natAbs)) (hvz : dval z g = true) (hvu : dval u h = true) :
    Calls Tryd.prog 42 #[.agg #[.bool bx, vx, .int .i64 e, .bool by_, vy, .int .i64 f], .agg #[.bool bz, vz, .int .i64 g, .bool bu, vu, .int .i64 h]] w (Ret w fun r _ => r = .bool (withinv x e y f z g u h)) := by
 subst hbx
 subst hby
 subst hbz
 subst hbu
 have hRx := dval_range hvx
 have hlx : (dig x.natAbs).length ≤ 2049 := dval_len hvx
 have hRy := dval_range hvy
 have hly : (dig y.natAbs).length ≤ 2049 := dval_len hvy
 have hRz := dval_range hvz
 have hlz : (dig z.natAbs).length ≤ 2049 := dval_len hvz
 have hRu := dval_range hvu
 have hlu : (dig u.natAbs).length ≤ 2049 := dval_len hvu
 refine enter (args := [_, _]) Tryd.func42 rfl Tryd.ntmps42 rfl ?_
 refine WP_seq ?_
 refine WP_region ?_
 refine O_box _ rfl rfl rfl rfl (fun g1 w1 b1 e1 gl1 gh1 => ?_)
 have z1 := e1.size
 refine O_box _ rfl rfl rfl rfl (fun g2 w2 b2 e2 gl2 gh2 => ?_)
 have z2 := e2.size
 refine O_assign rfl rfl rfl ?_
 refine WL_end [(2, _), (3, _)] ⟨rfl, rfl, trivial⟩ ?_
 refine WP_seq ?_
 refine WP_region ?_
 refine O_field F53_0 rfl rfl rfl ?_
 refine O_loadA (vs := [_, _, _]) S26 rfl rfl rfl b2 rfl rfl ?_
 refine O_field F53_0 rfl rfl rfl ?_
 refine O_loadA (vs := [_, _, _]) S26 rfl rfl rfl (b1.ext e2) rfl rfl ?_
 refine O_call enters96 rfl rfl rfl (dcmp_c rfl (hz.ext (e1.trans e2)) rfl (hx.ext (e1.trans e2)) (by (try simp only [lens]); omega) (by (try simp only [lens]); omega) (by (try simp only [lens]); omega) (by (try simp only [lens]); omega) (by (try simp only [lens]); omega) (by (try simp only [lens]); omega)) (fun v3 w3 e3 h3 => ?_)
 have z3 := e3.size
 obtain rfl := h3
 refine O_leq rfl rfl rfl rfl rfl ?_
 refine O_move rfl rfl rfl ?_
 refine WL_dec 11 rfl (fun g11 => ?_) (fun g11 => ?_)
 · --
  refine O_field F53_1 rfl rfl rfl ?_
  refine O_loadA (vs := [_, _, _]) S26 rfl rfl rfl ((b1.ext e2).ext e3) rfl rfl ?_
  refine O_field F53_1 rfl rfl rfl ?_
  refine O_loadA (vs := [_, _, _]) S26 rfl rfl rfl (b2.ext e3) rfl rfl ?_
  refine O_call enters96 rfl rfl rfl (dcmp_c rfl (hy.ext ((e1.trans e2).trans e3)) rfl (hu.ext ((e1.trans e2).trans e3)) (by (try simp only [lens]); omega) (by (try simp only [lens]); omega) (by (try simp only [lens]); omega) (by (try simp only [lens]); omega) (by (try simp only [lens]); omega) (by (try simp only [lens]); omega)) (fun v4 w4 e4 h4 => ?_)
  have z4 := e4.size
  obtain rfl := h4
  refine O_leq rfl rfl rfl rfl rfl ?_
  refine O_pickT rfl rfl rfl rfl ?_
  refine O_assign rfl rfl rfl ?_
  refine WL_end [(4, _)] ⟨rfl, trivial⟩ ?_
  refine WP_ret ?_
  refine ret1 Tryd.results42 rfl ?_
  exact ⟨_, rfl, (((e1.trans e2).trans e3).trans e4), by unfold withinv; rw [decide_eq_true g11]; rfl⟩
 · --
  refine O_skip rfl rfl ?_
  refine O_skip rfl rfl ?_
  refine O_skip rfl rfl ?_
  refine O_skip rfl rfl ?_
  refine O_skip rfl rfl ?_
  refine O_skip rfl rfl ?_
  refine O_pickF rfl rfl rfl rfl ?_
  refine O_assign rfl rfl rfl ?_
  refine WL_end [(4, _)] ⟨rfl, trivial⟩ ?_
  refine WP_ret ?_
  refine ret1 Tryd.results42 rfl ?_
  exact ⟨_, rfl, ((e1.trans e2).trans e3), by unfold withinv; rw [decide_eq_false g11]; rfl⟩

theorem ivsame_c {w : World} {vx vy : Value} {x y e f : Int} {bx by_ : Bool} (hbx : bx = decide (x < 0)) (hx : Nl w vx (dig x.natAbs)) (hby : by_ = decide (y < 0)) (hy : Nl w vy (dig y.natAbs)) (hvx : dval x e = true) (hvy : dval y f = true) {vz vu : Value} {z u g h : Int} {bz bu : Bool} (hbz : bz = decide (z < 0)) (hz : Nl w vz (dig z.natAbs)) (hbu : bu = decide (u < 0)) (hu : Nl w vu (dig u.natAbs)) (hvz : dval z g = true) (hvu : dval u h = true) :
    Calls Tryd.prog 50 #[.agg #[.bool bx, vx, .int .i64 e, .bool by_, vy, .int .i64 f], .agg #[.bool bz, vz, .int .i64 g, .bool bu, vu, .int .i64 h]] w (Ret w fun r _ => r = .bool (samev x e y f z g u h)) := by
 subst hbx
 subst hby
 subst hbz
 subst hbu
 have hRx := dval_range hvx
 have hlx : (dig x.natAbs).length ≤ 2049 := dval_len hvx
 have hRy := dval_range hvy
 have hly : (dig y.natAbs).length ≤ 2049 := dval_len hvy
 have hRz := dval_range hvz
 have hlz : (dig z.natAbs).length ≤ 2049 := dval_len hvz
 have hRu := dval_range hvu
 have hlu : (dig u.natAbs).length ≤ 2049 := dval_len hvu
 have hs1 := dcmp_same hvx hvz
 have hs2 := dcmp_same hvy hvu
 refine enter (args := [_, _]) Tryd.func50 rfl Tryd.ntmps50 rfl ?_
 refine WP_seq ?_
 refine WP_region ?_
 refine O_box _ rfl rfl rfl rfl (fun g1 w1 b1 e1 gl1 gh1 => ?_)
 have z1 := e1.size
 refine O_box _ rfl rfl rfl rfl (fun g2 w2 b2 e2 gl2 gh2 => ?_)
 have z2 := e2.size
 refine O_assign rfl rfl rfl ?_
 refine WL_end [(2, _), (3, _)] ⟨rfl, rfl, trivial⟩ ?_
 refine WP_seq ?_
 refine WP_region ?_
 refine O_field F53_0 rfl rfl rfl ?_
 refine O_loadA (vs := [_, _, _]) S26 rfl rfl rfl (b1.ext e2) rfl rfl ?_
 refine O_field F53_0 rfl rfl rfl ?_
 refine O_loadA (vs := [_, _, _]) S26 rfl rfl rfl b2 rfl rfl ?_
 refine O_call enters96 rfl rfl rfl (dcmp_c rfl (hx.ext (e1.trans e2)) rfl (hz.ext (e1.trans e2)) (by (try simp only [lens]); omega) (by (try simp only [lens]); omega) (by (try simp only [lens]); omega) (by (try simp only [lens]); omega) (by (try simp only [lens]); omega) (by (try simp only [lens]); omega)) (fun v3 w3 e3 h3 => ?_)
 have z3 := e3.size
 obtain rfl := h3
 refine O_eql rfl rfl rfl rfl rfl ?_
 refine O_move rfl rfl rfl ?_
 refine WL_dec 11 rfl (fun g11 => ?_) (fun g11 => ?_)
 · --
  refine O_field F53_1 rfl rfl rfl ?_
  refine O_loadA (vs := [_, _, _]) S26 rfl rfl rfl ((b1.ext e2).ext e3) rfl rfl ?_
  refine O_field F53_1 rfl rfl rfl ?_
  refine O_loadA (vs := [_, _, _]) S26 rfl rfl rfl (b2.ext e3) rfl rfl ?_
  refine O_call enters96 rfl rfl rfl (dcmp_c rfl (hy.ext ((e1.trans e2).trans e3)) rfl (hu.ext ((e1.trans e2).trans e3)) (by (try simp only [lens]); omega) (by (try simp only [lens]); omega) (by (try simp only [lens]); omega) (by (try simp only [lens]); omega) (by (try simp only [lens]); omega) (by (try simp only [lens]); omega)) (fun v4 w4 e4 h4 => ?_)
  have z4 := e4.size
  obtain rfl := h4
  refine O_eql rfl rfl rfl rfl rfl ?_
  refine O_pickT rfl rfl rfl rfl ?_
  refine O_assign rfl rfl rfl ?_
  refine WL_end [(4, _)] ⟨rfl, trivial⟩ ?_
  refine WP_ret ?_
  refine ret1 Tryd.results50 rfl ?_
  exact ⟨_, rfl, (((e1.trans e2).trans e3).trans e4), by unfold samev; rw [decide_eq_true (hs1.1 g11), Bool.true_and]; exact congrArg Value.bool (decide_eq_decide.2 hs2)⟩
 · --
  refine O_skip rfl rfl ?_
  refine O_skip rfl rfl ?_
  refine O_skip rfl rfl ?_
  refine O_skip rfl rfl ?_
  refine O_skip rfl rfl ?_
  refine O_skip rfl rfl ?_
  refine O_pickF rfl rfl rfl rfl ?_
  refine O_assign rfl rfl rfl ?_
  refine WL_end [(4, _)] ⟨rfl, trivial⟩ ?_
  refine WP_ret ?_
  refine ret1 Tryd.results50 rfl ?_
  exact ⟨_, rfl, ((e1.trans e2).trans e3), by unfold samev; rw [decide_eq_false (fun k => g11 (hs1.2 k)), Bool.false_and]⟩

theorem rsameB_c {w : World} {va vb : Value} {m n : Nat} (ha : Nl w va (dig m)) (hb : Nl w vb (dig n)) (hla : (dig m).length ≤ 100000000) (hlb : (dig n).length ≤ 100000000) :
    Calls Tryd.prog 108 #[va, vb] w (Ret w fun r _ => r = .bool (decide (m = n))) := by
 refine enter (args := [va, vb]) Tryd.func108 rfl Tryd.ntmps108 rfl ?_
 refine WP_seq ?_
 refine WP_region ?_
 refine O_assign rfl rfl rfl ?_
 refine WL_end [(0, _), (1, _)] ⟨rfl, rfl, trivial⟩ ?_
 refine WP_seq ?_
 refine WP_region ?_
 refine O_move rfl rfl rfl ?_
 refine N_len T22 rfl rfl rfl ha ?_
 refine O_move rfl rfl rfl ?_
 refine N_len T22 rfl rfl rfl hb ?_
 refine O_eql rfl rfl rfl rfl rfl ?_
 refine O_move rfl rfl rfl ?_
 refine WL_dec 10 rfl (fun g10 => ?_) (fun g10 => ?_)
 · --
  refine O_move rfl rfl rfl ?_
  refine O_move rfl rfl rfl ?_
  refine O_call enters122 rfl rfl rfl (rcmp_c ha hb (by (try simp only [lens]); omega) (by (try simp only [lens]); omega)) (fun v1 w1 e1 h1 => ?_)
  have z1 := e1.size
  obtain rfl := h1
  simp only [val_dig]
  refine O_eql rfl rfl rfl rfl rfl ?_
  refine O_pickT rfl rfl rfl rfl ?_
  refine O_assign rfl rfl rfl ?_
  refine WL_end [(4, _)] ⟨rfl, trivial⟩ ?_
  refine WP_ret ?_
  refine ret1 Tryd.results108 rfl ?_
  exact ⟨_, rfl, e1, congrArg Value.bool (decide_eq_decide.2 cmpv_zero)⟩
 · --
  refine O_skip rfl rfl ?_
  refine O_skip rfl rfl ?_
  refine O_skip rfl rfl ?_
  refine O_skip rfl rfl ?_
  refine O_pickF rfl rfl rfl rfl ?_
  refine O_assign rfl rfl rfl ?_
  refine WL_end [(4, _)] ⟨rfl, trivial⟩ ?_
  refine WP_ret ?_
  refine ret1 Tryd.results108 rfl ?_
  exact ⟨_, rfl, (Ext.refl _), by rw [decide_eq_false (fun h => g10 (by rw [h]))]⟩

theorem isameB_c {w : World} {vx vy : Value} {x y : Int} {bx by_ : Bool} (hbx : bx = decide (x < 0)) (hx : Nl w vx (dig x.natAbs)) (hby : by_ = decide (y < 0)) (hy : Nl w vy (dig y.natAbs)) (hlx : (dig x.natAbs).length ≤ 1000000) (hly : (dig y.natAbs).length ≤ 1000000) :
    Calls Tryd.prog 71 #[.agg #[.bool bx, vx], .agg #[.bool by_, vy]] w (Ret w fun r _ => r = .bool (decide (x = y))) := by
 subst hbx
 subst hby
 refine enter (args := [_, _]) Tryd.func71 rfl Tryd.ntmps71 rfl ?_
 refine WP_seq ?_
 refine WP_region ?_
 refine O_box _ rfl rfl rfl rfl (fun g1 w1 b1 e1 gl1 gh1 => ?_)
 have z1 := e1.size
 refine O_box _ rfl rfl rfl rfl (fun g2 w2 b2 e2 gl2 gh2 => ?_)
 have z2 := e2.size
 refine O_assign rfl rfl rfl ?_
 refine WL_end [(2, _), (3, _)] ⟨rfl, rfl, trivial⟩ ?_
 refine WP_seq ?_
 refine WP_region ?_
 refine O_field F24_0 rfl rfl rfl ?_
 refine O_loadC Tryd.underlying4 rfl rfl rfl rfl (b1.ext e2) rfl ?_
 refine O_field F24_0 rfl rfl rfl ?_
 refine O_loadC Tryd.underlying4 rfl rfl rfl rfl b2 rfl ?_
 refine O_beql Tryd.underlying4 rfl rfl rfl rfl rfl ?_
 refine O_move rfl rfl rfl ?_
 refine WL_bool 10 rfl (fun g10 => ?_) (fun g10 => ?_)
 · --
  refine O_field F24_1 rfl rfl rfl ?_
  refine O_loadC Tryd.underlying22 rfl rfl rfl rfl (b1.ext e2) rfl ?_
  refine O_field F24_1 rfl rfl rfl ?_
  refine O_loadC Tryd.underlying22 rfl rfl rfl rfl b2 rfl ?_
  refine O_call enters108 rfl rfl rfl (rsameB_c (hx.ext (e1.trans e2)) (hy.ext (e1.trans e2)) (by (try simp only [lens]); omega) (by (try simp only [lens]); omega)) (fun v3 w3 e3 h3 => ?_)
  have z3 := e3.size
  obtain rfl := h3
  refine O_pickT rfl rfl rfl rfl ?_
  refine O_assign rfl rfl rfl ?_
  refine WL_end [(4, _)] ⟨rfl, trivial⟩ ?_
  refine WP_ret ?_
  refine ret1 Tryd.results71 rfl ?_
  exact ⟨_, rfl, ((e1.trans e2).trans e3), congrArg Value.bool (decide_eq_decide.2 ⟨fun h => abs_sign_inj (by simpa using g10) h, fun h => by rw [h]⟩)⟩
 · --
  refine O_skip rfl rfl ?_
  refine O_skip rfl rfl ?_
  refine O_skip rfl rfl ?_
  refine O_skip rfl rfl ?_
  refine O_skip rfl rfl ?_
  refine O_pickF rfl rfl rfl rfl ?_
  refine O_assign rfl rfl rfl ?_
  refine WL_end [(4, _)] ⟨rfl, trivial⟩ ?_
  refine WP_ret ?_
  refine ret1 Tryd.results71 rfl ?_
  exact ⟨_, rfl, (e1.trans e2), by rw [decide_eq_false (fun h => by rw [h] at g10; simp at g10)]⟩

theorem dsameB_c {w : World} {vx vy : Value} {x y e f : Int} {bx by_ : Bool} (hbx : bx = decide (x < 0)) (hx : Nl w vx (dig x.natAbs)) (hby : by_ = decide (y < 0)) (hy : Nl w vy (dig y.natAbs)) (hlx : (dig x.natAbs).length ≤ 30000) (hly : (dig y.natAbs).length ≤ 30000) :
    Calls Tryd.prog 20 #[.agg #[.bool bx, vx, .int .i64 e], .agg #[.bool by_, vy, .int .i64 f]] w (Ret w fun r _ => r = .bool (decide (x = y ∧ e = f))) := by
 subst hbx
 subst hby
 refine enter (args := [_, _]) Tryd.func20 rfl Tryd.ntmps20 rfl ?_
 refine WP_seq ?_
 refine WP_region ?_
 refine O_box _ rfl rfl rfl rfl (fun g1 w1 b1 e1 gl1 gh1 => ?_)
 have z1 := e1.size
 refine O_box _ rfl rfl rfl rfl (fun g2 w2 b2 e2 gl2 gh2 => ?_)
 have z2 := e2.size
 refine O_assign rfl rfl rfl ?_
 refine WL_end [(2, _), (3, _)] ⟨rfl, rfl, trivial⟩ ?_
 refine WP_seq ?_
 refine WP_region ?_
 refine O_field F26_1 rfl rfl rfl ?_
 refine O_loadC Tryd.underlying3 rfl rfl rfl rfl (b1.ext e2) rfl ?_
 refine O_field F26_1 rfl rfl rfl ?_
 refine O_loadC Tryd.underlying3 rfl rfl rfl rfl b2 rfl ?_
 refine O_eql rfl rfl rfl rfl rfl ?_
 refine O_move rfl rfl rfl ?_
 refine WL_dec 10 rfl (fun g10 => ?_) (fun g10 => ?_)
 · --
  refine O_field F26_0 rfl rfl rfl ?_
  refine O_loadA (vs := [_, _]) S24 rfl rfl rfl (b1.ext e2) rfl rfl ?_
  refine O_field F26_0 rfl rfl rfl ?_
  refine O_loadA (vs := [_, _]) S24 rfl rfl rfl b2 rfl rfl ?_
  refine O_call enters71 rfl rfl rfl (isameB_c rfl (hx.ext (e1.trans e2)) rfl (hy.ext (e1.trans e2)) (by (try simp only [lens]); omega) (by (try simp only [lens]); omega)) (fun v3 w3 e3 h3 => ?_)
  have z3 := e3.size
  obtain rfl := h3
  refine O_pickT rfl rfl rfl rfl ?_
  refine O_assign rfl rfl rfl ?_
  refine WL_end [(4, _)] ⟨rfl, trivial⟩ ?_
  refine WP_ret ?_
  refine ret1 Tryd.results20 rfl ?_
  exact ⟨_, rfl, ((e1.trans e2).trans e3), congrArg Value.bool (decide_eq_decide.2 ⟨fun h => ⟨h, g10⟩, fun h => h.1⟩)⟩
 · --
  refine O_skip rfl rfl ?_
  refine O_skip rfl rfl ?_
  refine O_skip rfl rfl ?_
  refine O_skip rfl rfl ?_
  refine O_skip rfl rfl ?_
  refine O_pickF rfl rfl rfl rfl ?_
  refine O_assign rfl rfl rfl ?_
  refine WL_end [(4, _)] ⟨rfl, trivial⟩ ?_
  refine WP_ret ?_
  refine ret1 Tryd.results20 rfl ?_
  exact ⟨_, rfl, (e1.trans e2), by rw [decide_eq_false (fun h => g10 h.2)]⟩

theorem rivsame_c {w : World} {vx vy : Value} {x y e f : Int} {bx by_ : Bool} (hbx : bx = decide (x < 0)) (hx : Nl w vx (dig x.natAbs)) (hby : by_ = decide (y < 0)) (hy : Nl w vy (dig y.natAbs)) (hvx : dval x e = true) (hvy : dval y f = true) {vz vu : Value} {z u g h : Int} {bz bu : Bool} (hbz : bz = decide (z < 0)) (hz : Nl w vz (dig z.natAbs)) (hbu : bu = decide (u < 0)) (hu : Nl w vu (dig u.natAbs)) (hvz : dval z g = true) (hvu : dval u h = true) :
    Calls Tryd.prog 41 #[.agg #[.bool bx, vx, .int .i64 e, .bool by_, vy, .int .i64 f], .agg #[.bool bz, vz, .int .i64 g, .bool bu, vu, .int .i64 h]] w (Ret w fun r _ => r = .bool (samev x e y f z g u h)) := by
 subst hbx
 subst hby
 subst hbz
 subst hbu
 have hRx := dval_range hvx
 have hlx : (dig x.natAbs).length ≤ 2049 := dval_len hvx
 have hRy := dval_range hvy
 have hly : (dig y.natAbs).length ≤ 2049 := dval_len hvy
 have hRz := dval_range hvz
 have hlz : (dig z.natAbs).length ≤ 2049 := dval_len hvz
 have hRu := dval_range hvu
 have hlu : (dig u.natAbs).length ≤ 2049 := dval_len hvu
 refine enter (args := [_, _]) Tryd.func41 rfl Tryd.ntmps41 rfl ?_
 refine WP_seq ?_
 refine WP_region ?_
 refine O_box _ rfl rfl rfl rfl (fun g1 w1 b1 e1 gl1 gh1 => ?_)
 have z1 := e1.size
 refine O_box _ rfl rfl rfl rfl (fun g2 w2 b2 e2 gl2 gh2 => ?_)
 have z2 := e2.size
 refine O_assign rfl rfl rfl ?_
 refine WL_end [(2, _), (3, _)] ⟨rfl, rfl, trivial⟩ ?_
 refine WP_seq ?_
 refine WP_region ?_
 refine O_field F53_0 rfl rfl rfl ?_
 refine O_loadA (vs := [_, _, _]) S26 rfl rfl rfl (b1.ext e2) rfl rfl ?_
 refine O_field F53_0 rfl rfl rfl ?_
 refine O_loadA (vs := [_, _, _]) S26 rfl rfl rfl b2 rfl rfl ?_
 refine O_call enters20 rfl rfl rfl (dsameB_c rfl (hx.ext (e1.trans e2)) rfl (hz.ext (e1.trans e2)) (by (try simp only [lens]); omega) (by (try simp only [lens]); omega)) (fun v3 w3 e3 h3 => ?_)
 have z3 := e3.size
 obtain rfl := h3
 refine O_move rfl rfl rfl ?_
 refine WL_dec 10 rfl (fun g10 => ?_) (fun g10 => ?_)
 · --
  refine O_field F53_1 rfl rfl rfl ?_
  refine O_loadA (vs := [_, _, _]) S26 rfl rfl rfl ((b1.ext e2).ext e3) rfl rfl ?_
  refine O_field F53_1 rfl rfl rfl ?_
  refine O_loadA (vs := [_, _, _]) S26 rfl rfl rfl (b2.ext e3) rfl rfl ?_
  refine O_call enters20 rfl rfl rfl (dsameB_c rfl (hy.ext ((e1.trans e2).trans e3)) rfl (hu.ext ((e1.trans e2).trans e3)) (by (try simp only [lens]); omega) (by (try simp only [lens]); omega)) (fun v4 w4 e4 h4 => ?_)
  have z4 := e4.size
  obtain rfl := h4
  refine O_pickT rfl rfl rfl rfl ?_
  refine O_assign rfl rfl rfl ?_
  refine WL_end [(4, _)] ⟨rfl, trivial⟩ ?_
  refine WP_ret ?_
  refine ret1 Tryd.results41 rfl ?_
  exact ⟨_, rfl, (((e1.trans e2).trans e3).trans e4), by unfold samev; rw [decide_eq_true g10]; rfl⟩
 · --
  refine O_skip rfl rfl ?_
  refine O_skip rfl rfl ?_
  refine O_skip rfl rfl ?_
  refine O_skip rfl rfl ?_
  refine O_skip rfl rfl ?_
  refine O_pickF rfl rfl rfl rfl ?_
  refine O_assign rfl rfl rfl ?_
  refine WL_end [(4, _)] ⟨rfl, trivial⟩ ?_
  refine WP_ret ?_
  refine ret1 Tryd.results41 rfl ?_
  exact ⟨_, rfl, ((e1.trans e2).trans e3), by unfold samev; rw [decide_eq_false g10]; rfl⟩

end Go.Proofs.YthbfhljpfkicpaaDoor
