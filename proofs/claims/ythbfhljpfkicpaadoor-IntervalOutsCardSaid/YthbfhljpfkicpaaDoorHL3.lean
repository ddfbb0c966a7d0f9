/-
  Walks.
-/
import Derived.Test.YthbfhljpfkicpaaDoorG5
import Derived.Test.YthbfhljpfkicpaaDoorV7
set_option linter.unusedVariables false
set_option linter.unusedSimpArgs false
set_option maxRecDepth 100000
namespace Go.Proofs.YthbfhljpfkicpaaDoor
open Go Go.RowKit
/-- Floor, ceiling and nearest number on the common scale; U is the unit. -/
theorem sw_made {c f : Int} (hc : dcode c f = 0) (h : -70000 ≤ f) : sw (dman c f) (dexp c f) = c * 2 ^ (f + ((70000 : Nat) : Int)).toNat := sv_made hc (by omega)
theorem unit_split {k : Int} (hk : -2048 ≤ k ∧ k ≤ 8191) : (2 : Int) ^ (-k + ((70000 : Nat) : Int)).toNat = 2 ^ (-(k + 1) + ((70000 : Nat) : Int)).toNat * 2 := by
  rw [show (-k + ((70000 : Nat) : Int)).toNat = (-(k + 1) + ((70000 : Nat) : Int)).toNat + 1 from by omega, ipow_add, Int.pow_one]
theorem sc_bounds {x e k : Int} (hk : -2048 ≤ k ∧ k ≤ 8192) (he : -65536 ≤ e) : scl x (e + k) * 2 ^ (-k + ((70000 : Nat) : Int)).toNat ≤ sw x e ∧ sw x e < (scl x (e + k) + 1) * 2 ^ (-k + ((70000 : Nat) : Int)).toNat := by
  have h := scl_spec (K := (-k + ((70000 : Nat) : Int)).toNat) (x := x) (n := e + k) (by omega)
  rw [show (e + k + (((-k + ((70000 : Nat) : Int)).toNat : Nat) : Int)).toNat = (e + ((70000 : Nat) : Int)).toNat from by omega] at h
  exact h
theorem ongrid_iff {x e k : Int} (hv : dval x e = true) (hk : perm k) : ongrid x e k ↔ scl x (e + k) = -(scl (-x) (e + k)) := by
  have hr := dval_range hv
  obtain ⟨k1, k2⟩ := hk
  constructor
  · rintro ⟨_, h⟩
    rcases h with h | h
    · subst h; rw [show (-0 : Int) = 0 from rfl, scl_zero]; rfl
    · rw [scl_pos (by omega), scl_pos (by omega), Int.neg_mul, Int.neg_neg]
  · intro h
    refine ⟨⟨k1, k2⟩, ?_⟩
    by_cases h0 : x = 0
    · exact .inl h0
    · refine .inr ?_
      rcases Int.lt_or_le e (-k) with h1 | h1
      · exfalso
        have ho := dval_odd hv h0
        obtain ⟨m, hm⟩ : ∃ m : Nat, (-(e + k)).toNat = m + 1 := ⟨(-(e + k)).toNat - 1, by omega⟩
        rw [scl_neg (by omega), scl_neg (by omega), hm] at h
        have hp := ipow_pos (m + 1)
        have h2 := Int.ediv_mul_le x (show (2 : Int) ^ (m + 1) ≠ 0 by omega)
        have h3 := Int.ediv_mul_le (-x) (show (2 : Int) ^ (m + 1) ≠ 0 by omega)
        have h4 : x = x / 2 ^ (m + 1) * 2 ^ (m + 1) := by
          have h5 : -x / 2 ^ (m + 1) * 2 ^ (m + 1) = -(x / 2 ^ (m + 1) * 2 ^ (m + 1)) := by rw [← Int.neg_mul, h, Int.neg_neg]
          omega
        rw [ipow_add, Int.pow_one] at h4
        generalize x / (2 ^ m * 2) = z at *
        have h6 : x = z * 2 ^ m * 2 := by rw [Int.mul_assoc]; exact h4
        generalize z * 2 ^ m = y at *
        omega
      · exact h1
theorem near_bounds {x e k : Int} (hk : -2048 ≤ k ∧ k ≤ 8191) (he : -65536 ≤ e) : ner x (e + k) * 2 ^ (-k + ((70000 : Nat) : Int)).toNat - sw x e ≤ 2 ^ (-(k + 1) + ((70000 : Nat) : Int)).toNat ∧ -(ner x (e + k) * 2 ^ (-k + ((70000 : Nat) : Int)).toNat - sw x e) < 2 ^ (-(k + 1) + ((70000 : Nat) : Int)).toNat := by
  have h := sc_bounds (x := x) (e := e) (k := k + 1) (by omega) he
  rw [unit_split hk]
  have hp := ipow_pos (-(k + 1) + ((70000 : Nat) : Int)).toNat
  unfold ner
  rw [show e + k + 1 = e + (k + 1) from by omega]
  generalize (2 : Int) ^ (-(k + 1) + ((70000 : Nat) : Int)).toNat = H at *
  generalize sw x e = V at *
  generalize scl x (e + (k + 1)) = T at *
  have h1 : (T + 1) / 2 * 2 ≤ T + 1 := by omega
  have h2 : T ≤ (T + 1) / 2 * 2 := by omega
  generalize (T + 1) / 2 = N at *
  have e1 : N * (H * 2) = (N * 2) * H := by grind
  have e2 : (T + 1) * H = T * H + H := by grind
  have a1 := Int.mul_le_mul_of_nonneg_right h1 (Int.le_of_lt hp)
  have a2 := Int.mul_le_mul_of_nonneg_right h2 (Int.le_of_lt hp)
  rw [e1]
  constructor <;> omega

theorem sw_neg (x e : Int) : sw (-x) e = -sw x e := sv_neg _ _ _
theorem dcmp_le_iff {x e z g : Int} (hx : dval x e = true) (hz : dval z g = true) : dcmp x e z g ≤ 0 ↔ sw x e ≤ sw z g := by rw [sw_dcmp hx hz, icmp_pos]

theorem out_within {x e y f k : Int} (hx : dval x e = true) (hy : dval y f = true) (hk : perm k) (c1 : dcode (scl x (e + k)) (-k) = 0) (c2 : dcode (-(scl (-y) (f + k))) (-k) = 0) :
    withinv x e y f (dman (scl x (e + k)) (-k)) (dexp (scl x (e + k)) (-k)) (dman (-(scl (-y) (f + k))) (-k)) (dexp (-(scl (-y) (f + k))) (-k)) = true := by
  have h1 := dval_range hx
  have h2 := dval_range hy
  unfold perm at hk
  have b1 := sc_bounds (x := x) (e := e) (k := k) (by omega) (by omega)
  have b2 := sc_bounds (x := -y) (e := f) (k := k) (by omega) (by omega)
  unfold withinv
  rw [decide_eq_true ((dcmp_le_iff (dval_dman _ _) hx).2 ?_), decide_eq_true ((dcmp_le_iff hy (dval_dman _ _)).2 ?_)]
  · rfl
  · rw [sw_made c2 (by omega), Int.neg_mul]
    rw [sw_neg] at b2
    omega
  · rw [sw_made c1 (by omega)]
    exact b1.1

theorem out_T {w : World} {vx vy : Value} {x y e f k : Int} {bx by_ : Bool} (hbx : bx = decide (x < 0)) (hx : Nl w vx (dig x.natAbs)) (hby : by_ = decide (y < 0)) (hy : Nl w vy (dig y.natAbs)) (hvx : dval x e = true) (hvy : dval y f = true) (hpm : perm k) (c1 : dcode (scl x (e + k)) (-k) = 0) (c2 : dcode (-(scl (-y) (f + k))) (-k) = 0) (hT : Tab w) :
    Calls Tryd.prog 39 #[.agg #[.bool bx, vx, .int .i64 e, .bool by_, vy, .int .i64 f], .int .i64 k] w (Ret w fun r w' => ∃ q s, r = .tuple #[.agg #[.bool (decide ((dman (scl x (e + k)) (-k)) < 0)), q, .int .i64 (dexp (scl x (e + k)) (-k)), .bool (decide ((dman (-(scl (-y) (f + k))) (-k)) < 0)), s, .int .i64 (dexp (-(scl (-y) (f + k))) (-k))], .int .i64 0] ∧ No w.heap.size 111 w' q (dig (dman (scl x (e + k)) (-k)).natAbs) ∧ No w.heap.size 111 w' s (dig (dman (-(scl (-y) (f + k))) (-k)).natAbs)) := by
 subst hbx
 subst hby
 have hRx := dval_range hvx
 have hlx : (dig x.natAbs).length ≤ 2049 := dval_len hvx
 have hRy := dval_range hvy
 have hly : (dig y.natAbs).length ≤ 2049 := dval_len hvy
 refine enter (args := [_, _]) Tryd.func39 rfl Tryd.ntmps39 rfl ?_
 refine WP_seq ?_
 refine WP_region ?_
 refine O_box _ rfl rfl rfl rfl (fun g1 w1 b1 e1 gl1 gh1 => ?_)
 have z1 := e1.size
 refine O_alloc S53 rfl rfl (fun g2 w2 b2 e2 gl2 gh2 => ?_)
 have z2 := e2.size
 refine O_assign rfl rfl rfl ?_
 refine WL_end [(1, _), (2, _), (4, _)] ⟨rfl, rfl, rfl, trivial⟩ ?_
 refine WP_seq ?_
 refine WP_region ?_
 refine O_field F53_0 rfl rfl rfl ?_
 refine O_loadA (vs := [_, _, _]) S26 rfl rfl rfl (b1.ext e2) rfl rfl ?_
 refine O_move rfl rfl rfl ?_
 refine O_call enters14 rfl rfl rfl (gfloor_T rfl (hx.ext (e1.trans e2)) (by first | with_reducible assumption | exact dval_dman _ _ | exact dval_zero | exact (dval_neg _ _).trans (by assumption) | exact dval_dg (by assumption) (by assumption) | exact dval_dl (by assumption) (by assumption)) hpm (hT.ext (e1.trans e2))) (fun v3 w3 e3 h3 => ?_)
 have z3 := e3.size
 try simp only [val_dig] at h3
 obtain ⟨q3, rfl, hq3⟩ := h3
 rw [c1]
 refine O_move rfl rfl rfl ?_
 refine O_extract rfl rfl rfl rfl ?_
 refine O_extract rfl rfl rfl rfl ?_
 refine O_alloc S26 rfl rfl (fun g4 w4 b4 e4 gl4 gh4 => ?_)
 have z4 := e4.size
 refine O_storeA (cs' := [_, _, _]) S26 rfl rfl rfl b4 rfl rfl (one_cons rfl (one_cons ((hq3.ext e4).nl).one (one_cons rfl one_nil))) rfl (fun w5 b5 q5 => ?_)
 have z5 := Nat.le_of_eq q5.size.symm
 have e5 : Ext w w5 := q5.ext (((e1.trans e2).trans e3).trans e4) (by omega)
 refine O_assign rfl rfl rfl ?_
 refine WL_end [(1, _), (2, _), (4, _), (6, _), (7, _)] ⟨rfl, rfl, rfl, rfl, rfl, trivial⟩ ?_
 refine WP_seq ?_
 refine WP_seq ?_
 refine WP_region ?_
 refine O_move rfl rfl rfl ?_
 refine O_neq (t := false) rfl rfl rfl rfl (decide_eq_false (by decide)) ?_
 refine WL_end [(1, _), (2, _), (4, _), (6, _), (7, _), (17, _)] ⟨rfl, rfl, rfl, rfl, rfl, rfl, trivial⟩ ?_
 refine WP_condF rfl ?_
 refine WP_skip ?_
 refine WP_seq ?_
 refine WP_region ?_
 refine O_field F53_1 rfl rfl rfl ?_
 refine O_loadA (vs := [_, _, _]) S26 rfl rfl rfl ((((b1.ext e2).ext e3).ext e4).chg q5 (by first | assumption | omega)) rfl rfl ?_
 refine O_move rfl rfl rfl ?_
 refine O_call enters15 rfl rfl rfl (gceil_T rfl (hy.ext e5) (by first | with_reducible assumption | exact dval_dman _ _ | exact dval_zero | exact (dval_neg _ _).trans (by assumption) | exact dval_dg (by assumption) (by assumption) | exact dval_dl (by assumption) (by assumption)) hpm (hT.ext e5)) (fun v6 w6 e6 h6 => ?_)
 have z6 := e6.size
 try simp only [val_dig] at h6
 obtain ⟨q6, rfl, hq6⟩ := h6
 rw [c2]
 refine O_move rfl rfl rfl ?_
 refine O_extract rfl rfl rfl rfl ?_
 refine O_extract rfl rfl rfl rfl ?_
 refine O_alloc S26 rfl rfl (fun g7 w7 b7 e7 gl7 gh7 => ?_)
 have z7 := e7.size
 refine O_storeA (cs' := [_, _, _]) S26 rfl rfl rfl b7 rfl rfl (one_cons rfl (one_cons ((hq6.ext e7).nl).one (one_cons rfl one_nil))) rfl (fun w8 b8 q8 => ?_)
 have z8 := Nat.le_of_eq q8.size.symm
 have e8 : Ext w w8 := q8.ext ((e5.trans e6).trans e7) (by omega)
 refine O_assign rfl rfl rfl ?_
 refine WL_end [(4, _), (6, _), (7, _), (8, _)] ⟨rfl, rfl, rfl, rfl, trivial⟩ ?_
 refine WP_seq ?_
 refine WP_seq ?_
 refine WP_region ?_
 refine O_move rfl rfl rfl ?_
 refine O_neq (t := false) rfl rfl rfl rfl (decide_eq_false (by decide)) ?_
 refine WL_end [(4, _), (6, _), (7, _), (8, _), (28, _)] ⟨rfl, rfl, rfl, rfl, rfl, trivial⟩ ?_
 refine WP_condF rfl ?_
 refine WP_skip ?_
 refine WP_seq ?_
 refine WP_region ?_
 refine O_loadA (vs := [_, _, _]) S26 rfl rfl rfl (((b5.ext e6).ext e7).chg q8 (by first | assumption | omega)) rfl rfl ?_
 refine O_loadA (vs := [_, _, _]) S26 rfl rfl rfl b8 rfl rfl ?_
 refine O_build (cs := [_, _, _, _, _, _]) B53 rfl rfl rfl (cells_cons rfl (cells_cons rfl cells_nil)) rfl ?_
 refine O_storeA (cs' := [_, _, _, _, _, _]) S53 rfl rfl rfl ((((((b2.ext e3).ext e4).chg q5 (by first | assumption | omega)).ext e6).ext e7).chg q8 (by first | assumption | omega)) rfl rfl (one_cons rfl (one_cons ((((((hq3.ext e4).chgBk b4 (by decide) q5).ext e6).ext e7).chgBk b7 (by decide) q8).nl).one (one_cons rfl (one_cons rfl (one_cons (((hq6.ext e7).chgBk b7 (by decide) q8).nl).one (one_cons rfl one_nil)))))) rfl (fun w9 b9 q9 => ?_)
 have z9 := Nat.le_of_eq q9.size.symm
 have e9 : Ext w w9 := q9.ext e8 (by omega)
 refine O_assign rfl rfl rfl ?_
 refine WL_end [(4, _), (5, _)] ⟨rfl, rfl, trivial⟩ ?_
 refine WP_ret ?_
 refine retL Tryd.results39 (.cell rfl S53 b9 rfl (.tmp rfl .nil)) ?_
 exact ⟨_, rfl, e9, _, _, rfl, ((((((hq3.ext e4).chgBk b4 (by decide) q5).ext e6).ext e7).chgBk b7 (by decide) q8).chgBk ((((((b2.ext e3).ext e4).chg q5 (by first | assumption | omega)).ext e6).ext e7).chg q8 (by first | assumption | omega)) (by decide) q9).mono (by omega), (((hq6.ext e7).chgBk b7 (by decide) q8).chgBk ((((((b2.ext e3).ext e4).chg q5 (by first | assumption | omega)).ext e6).ext e7).chg q8 (by first | assumption | omega)) (by decide) q9).mono (by omega)⟩
theorem out_F {w : World} {vx vy : Value} {x y e f k : Int} {bx by_ : Bool} (hbx : bx = decide (x < 0)) (hx : Nl w vx (dig x.natAbs)) (hby : by_ = decide (y < 0)) (hy : Nl w vy (dig y.natAbs)) (hvx : dval x e = true) (hvy : dval y f = true) (hpm : ¬ perm k) :
    Calls Tryd.prog 39 #[.agg #[.bool bx, vx, .int .i64 e, .bool by_, vy, .int .i64 f], .int .i64 k] w (Ret w fun r _ => r = .tuple #[.agg #[.bool (decide ((0) < 0)), .slice none 0 0, .int .i64 (0), .bool (decide ((0) < 0)), .slice none 0 0, .int .i64 (0)], .int .i64 1]) := by
 subst hbx
 subst hby
 have hRx := dval_range hvx
 have hlx : (dig x.natAbs).length ≤ 2049 := dval_len hvx
 have hRy := dval_range hvy
 have hly : (dig y.natAbs).length ≤ 2049 := dval_len hvy
 refine enter (args := [_, _]) Tryd.func39 rfl Tryd.ntmps39 rfl ?_
 refine WP_seq ?_
 refine WP_region ?_
 refine O_box _ rfl rfl rfl rfl (fun g1 w1 b1 e1 gl1 gh1 => ?_)
 have z1 := e1.size
 refine O_alloc S53 rfl rfl (fun g2 w2 b2 e2 gl2 gh2 => ?_)
 have z2 := e2.size
 refine O_assign rfl rfl rfl ?_
 refine WL_end [(1, _), (2, _), (4, _)] ⟨rfl, rfl, rfl, trivial⟩ ?_
 refine WP_seq ?_
 refine WP_region ?_
 refine O_field F53_0 rfl rfl rfl ?_
 refine O_loadA (vs := [_, _, _]) S26 rfl rfl rfl (b1.ext e2) rfl rfl ?_
 refine O_move rfl rfl rfl ?_
 refine O_call enters14 rfl rfl rfl (gfloor_F rfl (hx.ext (e1.trans e2)) (by first | with_reducible assumption | exact dval_dman _ _ | exact dval_zero | exact (dval_neg _ _).trans (by assumption) | exact dval_dg (by assumption) (by assumption) | exact dval_dl (by assumption) (by assumption)) hpm) (fun v3 w3 e3 h3 => ?_)
 have z3 := e3.size
 try simp only [val_dig] at h3
 obtain rfl := h3
 refine O_move rfl rfl rfl ?_
 refine O_extract rfl rfl rfl rfl ?_
 refine O_extract rfl rfl rfl rfl ?_
 refine O_alloc S26 rfl rfl (fun g4 w4 b4 e4 gl4 gh4 => ?_)
 have z4 := e4.size
 refine O_storeA (cs' := [_, _, _]) S26 rfl rfl rfl b4 rfl rfl (one_cons rfl (one_cons rfl (one_cons rfl one_nil))) rfl (fun w5 b5 q5 => ?_)
 have z5 := Nat.le_of_eq q5.size.symm
 have e5 : Ext w w5 := q5.ext (((e1.trans e2).trans e3).trans e4) (by omega)
 refine O_assign rfl rfl rfl ?_
 refine WL_end [(1, _), (2, _), (4, _), (6, _), (7, _)] ⟨rfl, rfl, rfl, rfl, rfl, trivial⟩ ?_
 refine WP_seq ?_
 refine WP_seq ?_
 refine WP_region ?_
 refine O_move rfl rfl rfl ?_
 refine O_neq (t := true) rfl rfl rfl rfl (decide_eq_true (by decide)) ?_
 refine WL_end [(1, _), (2, _), (4, _), (6, _), (7, _), (17, _)] ⟨rfl, rfl, rfl, rfl, rfl, rfl, trivial⟩ ?_
 refine WP_condT rfl ?_
 refine WP_seq ?_
 refine WP_region ?_
 refine O_build (cs := [_, _, _, _, _, _]) B53 rfl rfl rfl cells_nil rfl ?_
 refine O_move rfl rfl rfl ?_
 refine O_storeA (cs' := [_, _, _, _, _, _]) S53 rfl rfl rfl (((b2.ext e3).ext e4).chg q5 (by first | assumption | omega)) rfl rfl (one_cons rfl (one_cons rfl (one_cons rfl (one_cons rfl (one_cons rfl (one_cons rfl one_nil)))))) rfl (fun w6 b6 q6 => ?_)
 have z6 := Nat.le_of_eq q6.size.symm
 have e6 : Ext w w6 := q6.ext e5 (by omega)
 refine O_assign rfl rfl rfl ?_
 refine WL_end [(4, _), (5, _)] ⟨rfl, rfl, trivial⟩ ?_
 refine WP_ret ?_
 refine retL Tryd.results39 (.cell rfl S53 b6 rfl (.tmp rfl .nil)) ?_
 exact ⟨_, rfl, e6, rfl⟩

theorem rout_T {w : World} {vx vy : Value} {x y e f k : Int} {bx by_ : Bool} (hbx : bx = decide (x < 0)) (hx : Nl w vx (dig x.natAbs)) (hby : by_ = decide (y < 0)) (hy : Nl w vy (dig y.natAbs)) (hvx : dval x e = true) (hvy : dval y f = true) (hpm : perm k) (c1 : dcode (scl x (e + k)) (-k) = 0) (c2 : dcode (-(scl (-y) (f + k))) (-k) = 0) :
    Calls Tryd.prog 40 #[.agg #[.bool bx, vx, .int .i64 e, .bool by_, vy, .int .i64 f], .int .i64 k] w (Ret w fun r w' => ∃ q s, r = .tuple #[.agg #[.bool (decide ((dman (scl x (e + k)) (-k)) < 0)), q, .int .i64 (dexp (scl x (e + k)) (-k)), .bool (decide ((dman (-(scl (-y) (f + k))) (-k)) < 0)), s, .int .i64 (dexp (-(scl (-y) (f + k))) (-k))], .int .i64 0] ∧ No w.heap.size 111 w' q (dig (dman (scl x (e + k)) (-k)).natAbs) ∧ No w.heap.size 111 w' s (dig (dman (-(scl (-y) (f + k))) (-k)).natAbs)) := by
 subst hbx
 subst hby
 have hRx := dval_range hvx
 have hlx : (dig x.natAbs).length ≤ 2049 := dval_len hvx
 have hRy := dval_range hvy
 have hly : (dig y.natAbs).length ≤ 2049 := dval_len hvy
 refine enter (args := [_, _]) Tryd.func40 rfl Tryd.ntmps40 rfl ?_
 refine WP_seq ?_
 refine WP_region ?_
 refine O_box _ rfl rfl rfl rfl (fun g1 w1 b1 e1 gl1 gh1 => ?_)
 have z1 := e1.size
 refine O_alloc S53 rfl rfl (fun g2 w2 b2 e2 gl2 gh2 => ?_)
 have z2 := e2.size
 refine O_assign rfl rfl rfl ?_
 refine WL_end [(1, _), (2, _), (4, _)] ⟨rfl, rfl, rfl, trivial⟩ ?_
 refine WP_seq ?_
 refine WP_region ?_
 refine O_field F53_0 rfl rfl rfl ?_
 refine O_loadA (vs := [_, _, _]) S26 rfl rfl rfl (b1.ext e2) rfl rfl ?_
 refine O_move rfl rfl rfl ?_
 refine O_call enters17 rfl rfl rfl (rfloor_T rfl (hx.ext (e1.trans e2)) (by first | with_reducible assumption | exact dval_dman _ _ | exact dval_zero | exact (dval_neg _ _).trans (by assumption) | exact dval_dg (by assumption) (by assumption) | exact dval_dl (by assumption) (by assumption)) hpm) (fun v3 w3 e3 h3 => ?_)
 have z3 := e3.size
 try simp only [val_dig] at h3
 obtain ⟨q3, rfl, hq3⟩ := h3
 rw [c1]
 refine O_move rfl rfl rfl ?_
 refine O_extract rfl rfl rfl rfl ?_
 refine O_extract rfl rfl rfl rfl ?_
 refine O_alloc S26 rfl rfl (fun g4 w4 b4 e4 gl4 gh4 => ?_)
 have z4 := e4.size
 refine O_storeA (cs' := [_, _, _]) S26 rfl rfl rfl b4 rfl rfl (one_cons rfl (one_cons ((hq3.ext e4).nl).one (one_cons rfl one_nil))) rfl (fun w5 b5 q5 => ?_)
 have z5 := Nat.le_of_eq q5.size.symm
 have e5 : Ext w w5 := q5.ext (((e1.trans e2).trans e3).trans e4) (by omega)
 refine O_assign rfl rfl rfl ?_
 refine WL_end [(1, _), (2, _), (4, _), (6, _), (7, _)] ⟨rfl, rfl, rfl, rfl, rfl, trivial⟩ ?_
 refine WP_seq ?_
 refine WP_region ?_
 refine O_field F53_1 rfl rfl rfl ?_
 refine O_loadA (vs := [_, _, _]) S26 rfl rfl rfl ((((b1.ext e2).ext e3).ext e4).chg q5 (by first | assumption | omega)) rfl rfl ?_
 refine O_move rfl rfl rfl ?_
 refine O_call enters18 rfl rfl rfl (rceil_T rfl (hy.ext e5) (by first | with_reducible assumption | exact dval_dman _ _ | exact dval_zero | exact (dval_neg _ _).trans (by assumption) | exact dval_dg (by assumption) (by assumption) | exact dval_dl (by assumption) (by assumption)) hpm) (fun v6 w6 e6 h6 => ?_)
 have z6 := e6.size
 try simp only [val_dig] at h6
 obtain ⟨q6, rfl, hq6⟩ := h6
 rw [c2]
 refine O_move rfl rfl rfl ?_
 refine O_extract rfl rfl rfl rfl ?_
 refine O_extract rfl rfl rfl rfl ?_
 refine O_alloc S26 rfl rfl (fun g7 w7 b7 e7 gl7 gh7 => ?_)
 have z7 := e7.size
 refine O_storeA (cs' := [_, _, _]) S26 rfl rfl rfl b7 rfl rfl (one_cons rfl (one_cons ((hq6.ext e7).nl).one (one_cons rfl one_nil))) rfl (fun w8 b8 q8 => ?_)
 have z8 := Nat.le_of_eq q8.size.symm
 have e8 : Ext w w8 := q8.ext ((e5.trans e6).trans e7) (by omega)
 refine O_assign rfl rfl rfl ?_
 refine WL_end [(4, _), (6, _), (7, _), (8, _), (9, _)] ⟨rfl, rfl, rfl, rfl, rfl, trivial⟩ ?_
 refine WP_seq ?_
 refine WP_seq ?_
 refine WP_region ?_
 refine O_move rfl rfl rfl ?_
 refine O_neq (t := false) rfl rfl rfl rfl (decide_eq_false (by decide)) ?_
 refine O_move rfl rfl rfl ?_
 refine O_move rfl rfl rfl ?_
 refine O_neq (t := false) rfl rfl rfl rfl (decide_eq_false (by decide)) ?_
 refine O_pickF rfl rfl rfl rfl ?_
 refine WL_end [(4, _), (6, _), (7, _), (8, _), (9, _), (29, _)] ⟨rfl, rfl, rfl, rfl, rfl, rfl, trivial⟩ ?_
 refine WP_condF rfl ?_
 refine WP_skip ?_
 refine WP_seq ?_
 refine WP_region ?_
 refine O_loadA (vs := [_, _, _]) S26 rfl rfl rfl (((b5.ext e6).ext e7).chg q8 (by first | assumption | omega)) rfl rfl ?_
 refine O_loadA (vs := [_, _, _]) S26 rfl rfl rfl b8 rfl rfl ?_
 refine O_build (cs := [_, _, _, _, _, _]) B53 rfl rfl rfl (cells_cons rfl (cells_cons rfl cells_nil)) rfl ?_
 refine O_storeA (cs' := [_, _, _, _, _, _]) S53 rfl rfl rfl ((((((b2.ext e3).ext e4).chg q5 (by first | assumption | omega)).ext e6).ext e7).chg q8 (by first | assumption | omega)) rfl rfl (one_cons rfl (one_cons ((((((hq3.ext e4).chgBk b4 (by decide) q5).ext e6).ext e7).chgBk b7 (by decide) q8).nl).one (one_cons rfl (one_cons rfl (one_cons (((hq6.ext e7).chgBk b7 (by decide) q8).nl).one (one_cons rfl one_nil)))))) rfl (fun w9 b9 q9 => ?_)
 have z9 := Nat.le_of_eq q9.size.symm
 have e9 : Ext w w9 := q9.ext e8 (by omega)
 refine O_assign rfl rfl rfl ?_
 refine WL_end [(4, _), (5, _)] ⟨rfl, rfl, trivial⟩ ?_
 refine WP_ret ?_
 refine retL Tryd.results40 (.cell rfl S53 b9 rfl (.tmp rfl .nil)) ?_
 exact ⟨_, rfl, e9, _, _, rfl, ((((((hq3.ext e4).chgBk b4 (by decide) q5).ext e6).ext e7).chgBk b7 (by decide) q8).chgBk ((((((b2.ext e3).ext e4).chg q5 (by first | assumption | omega)).ext e6).ext e7).chg q8 (by first | assumption | omega)) (by decide) q9).mono (by omega), (((hq6.ext e7).chgBk b7 (by decide) q8).chgBk ((((((b2.ext e3).ext e4).chg q5 (by first | assumption | omega)).ext e6).ext e7).chg q8 (by first | assumption | omega)) (by decide) q9).mono (by omega)⟩
theorem rout_F {w : World} {vx vy : Value} {x y e f k : Int} {bx by_ : Bool} (hbx : bx = decide (x < 0)) (hx : Nl w vx (dig x.natAbs)) (hby : by_ = decide (y < 0)) (hy : Nl w vy (dig y.natAbs)) (hvx : dval x e = true) (hvy : dval y f = true) (hpm : ¬ perm k) :
    Calls Tryd.prog 40 #[.agg #[.bool bx, vx, .int .i64 e, .bool by_, vy, .int .i64 f], .int .i64 k] w (Ret w fun r _ => r = .tuple #[.agg #[.bool (decide ((0) < 0)), .slice none 0 0, .int .i64 (0), .bool (decide ((0) < 0)), .slice none 0 0, .int .i64 (0)], .int .i64 1]) := by
 subst hbx
 subst hby
 have hRx := dval_range hvx
 have hlx : (dig x.natAbs).length ≤ 2049 := dval_len hvx
 have hRy := dval_range hvy
 have hly : (dig y.natAbs).length ≤ 2049 := dval_len hvy
 refine enter (args := [_, _]) Tryd.func40 rfl Tryd.ntmps40 rfl ?_
 refine WP_seq ?_
 refine WP_region ?_
 refine O_box _ rfl rfl rfl rfl (fun g1 w1 b1 e1 gl1 gh1 => ?_)
 have z1 := e1.size
 refine O_alloc S53 rfl rfl (fun g2 w2 b2 e2 gl2 gh2 => ?_)
 have z2 := e2.size
 refine O_assign rfl rfl rfl ?_
 refine WL_end [(1, _), (2, _), (4, _)] ⟨rfl, rfl, rfl, trivial⟩ ?_
 refine WP_seq ?_
 refine WP_region ?_
 refine O_field F53_0 rfl rfl rfl ?_
 refine O_loadA (vs := [_, _, _]) S26 rfl rfl rfl (b1.ext e2) rfl rfl ?_
 refine O_move rfl rfl rfl ?_
 refine O_call enters17 rfl rfl rfl (rfloor_F rfl (hx.ext (e1.trans e2)) (by first | with_reducible assumption | exact dval_dman _ _ | exact dval_zero | exact (dval_neg _ _).trans (by assumption) | exact dval_dg (by assumption) (by assumption) | exact dval_dl (by assumption) (by assumption)) hpm) (fun v3 w3 e3 h3 => ?_)
 have z3 := e3.size
 try simp only [val_dig] at h3
 obtain rfl := h3
 refine O_move rfl rfl rfl ?_
 refine O_extract rfl rfl rfl rfl ?_
 refine O_extract rfl rfl rfl rfl ?_
 refine O_alloc S26 rfl rfl (fun g4 w4 b4 e4 gl4 gh4 => ?_)
 have z4 := e4.size
 refine O_storeA (cs' := [_, _, _]) S26 rfl rfl rfl b4 rfl rfl (one_cons rfl (one_cons rfl (one_cons rfl one_nil))) rfl (fun w5 b5 q5 => ?_)
 have z5 := Nat.le_of_eq q5.size.symm
 have e5 : Ext w w5 := q5.ext (((e1.trans e2).trans e3).trans e4) (by omega)
 refine O_assign rfl rfl rfl ?_
 refine WL_end [(1, _), (2, _), (4, _), (6, _), (7, _)] ⟨rfl, rfl, rfl, rfl, rfl, trivial⟩ ?_
 refine WP_seq ?_
 refine WP_region ?_
 refine O_field F53_1 rfl rfl rfl ?_
 refine O_loadA (vs := [_, _, _]) S26 rfl rfl rfl ((((b1.ext e2).ext e3).ext e4).chg q5 (by first | assumption | omega)) rfl rfl ?_
 refine O_move rfl rfl rfl ?_
 refine O_call enters18 rfl rfl rfl (rceil_F rfl (hy.ext e5) (by first | with_reducible assumption | exact dval_dman _ _ | exact dval_zero | exact (dval_neg _ _).trans (by assumption) | exact dval_dg (by assumption) (by assumption) | exact dval_dl (by assumption) (by assumption)) hpm) (fun v6 w6 e6 h6 => ?_)
 have z6 := e6.size
 try simp only [val_dig] at h6
 obtain rfl := h6
 refine O_move rfl rfl rfl ?_
 refine O_extract rfl rfl rfl rfl ?_
 refine O_extract rfl rfl rfl rfl ?_
 refine O_alloc S26 rfl rfl (fun g7 w7 b7 e7 gl7 gh7 => ?_)
 have z7 := e7.size
 refine O_storeA (cs' := [_, _, _]) S26 rfl rfl rfl b7 rfl rfl (one_cons rfl (one_cons rfl (one_cons rfl one_nil))) rfl (fun w8 b8 q8 => ?_)
 have z8 := Nat.le_of_eq q8.size.symm
 have e8 : Ext w w8 := q8.ext ((e5.trans e6).trans e7) (by omega)
 refine O_assign rfl rfl rfl ?_
 refine WL_end [(4, _), (6, _), (7, _), (8, _), (9, _)] ⟨rfl, rfl, rfl, rfl, rfl, trivial⟩ ?_
 refine WP_seq ?_
 refine WP_seq ?_
 refine WP_region ?_
 refine O_move rfl rfl rfl ?_
 refine O_neq (t := true) rfl rfl rfl rfl (decide_eq_true (by decide)) ?_
 refine O_move rfl rfl rfl ?_
 refine O_skip rfl rfl ?_
 refine O_skip rfl rfl ?_
 refine O_pickT rfl rfl rfl rfl ?_
 refine WL_end [(4, _), (6, _), (7, _), (8, _), (9, _), (29, _)] ⟨rfl, rfl, rfl, rfl, rfl, rfl, trivial⟩ ?_
 refine WP_condT rfl ?_
 refine WP_seq ?_
 refine WP_region ?_
 refine O_build (cs := [_, _, _, _, _, _]) B53 rfl rfl rfl cells_nil rfl ?_
 refine O_move rfl rfl rfl ?_
 refine O_move rfl rfl rfl ?_
 refine O_max (r := 1) rfl rfl rfl rfl (by decide) ?_
 refine O_storeA (cs' := [_, _, _, _, _, _]) S53 rfl rfl rfl ((((((b2.ext e3).ext e4).chg q5 (by first | assumption | omega)).ext e6).ext e7).chg q8 (by first | assumption | omega)) rfl rfl (one_cons rfl (one_cons rfl (one_cons rfl (one_cons rfl (one_cons rfl (one_cons rfl one_nil)))))) rfl (fun w9 b9 q9 => ?_)
 have z9 := Nat.le_of_eq q9.size.symm
 have e9 : Ext w w9 := q9.ext e8 (by omega)
 refine O_assign rfl rfl rfl ?_
 refine WL_end [(4, _), (5, _)] ⟨rfl, rfl, trivial⟩ ?_
 refine WP_ret ?_
 refine retL Tryd.results40 (.cell rfl S53 b9 rfl (.tmp rfl .nil)) ?_
 exact ⟨_, rfl, e9, rfl⟩

set_option maxHeartbeats 4000000 in
theorem law_IntervalOuts {w : World} {vx vy : Value} {lx ly : List Nat} {bx by_ : Bool} {e f p : Int} (hx : Nl w vx lx) (hy : Nl w vy ly) (hT : Tab w) :
    Calls Tryd.prog 8 #[.agg #[.bool bx, vx, .int .i64 e, .bool by_, vy, .int .i64 f], .int .i64 p] w (Ret w fun r _ => r = .bool true) := by
 refine enter (args := [_, _]) Tryd.func8 rfl Tryd.ntmps8 rfl ?_
 refine WP_seq ?_
 refine WP_region ?_
 refine O_box _ rfl rfl rfl rfl (fun g1 w1 b1 e1 gl1 gh1 => ?_)
 have z1 := e1.size
 refine O_assign rfl rfl rfl ?_
 refine WL_end [(1, _), (2, _)] ⟨rfl, rfl, trivial⟩ ?_
 refine WP_seq ?_
 refine WP_seq ?_
 refine WP_region ?_
 refine O_call enters37 rfl rfl rfl (awake10_c) (fun v2 w2 e2 h2 => ?_)
 have z2 := e2.size
 obtain rfl := h2
 refine O_not rfl rfl rfl rfl ?_
 refine WL_end [(1, _), (2, _), (14, _)] ⟨rfl, rfl, rfl, trivial⟩ ?_
 refine WP_condF rfl ?_
 refine WP_skip ?_
 refine WP_seq ?_
 refine WP_region ?_
 refine O_loadA (vs := [_, _, _, _, _, _]) S53 rfl rfl rfl (b1.ext e2) rfl rfl ?_
 refine O_call enters38 rfl rfl rfl (mint10_c (n := 5) (m := 60) (hx.ext (e1.trans e2)) (hy.ext (e1.trans e2)) (by decide)) (fun v3 w3 e3 h3 => ?_)
 have z3 := e3.size
 try simp only [val_dig] at h3
 obtain ⟨xA, eA, yA, fA, qA, sA, bA, rfl, hqA, hsA, hvA, huA, hcA, hkA, hjA, hmA, hnA, hlA, hoA⟩ := h3
 refine O_move rfl rfl rfl ?_
 refine O_extract rfl rfl rfl rfl ?_
 refine O_extract rfl rfl rfl rfl ?_
 refine O_alloc S53 rfl rfl (fun g4 w4 b4 e4 gl4 gh4 => ?_)
 have z4 := e4.size
 refine O_storeA (cs' := [_, _, _, _, _, _]) S53 rfl rfl rfl b4 rfl rfl (one_cons rfl (one_cons ((hqA.ext e4).nl).one (one_cons rfl (one_cons rfl (one_cons ((hsA.ext e4).nl).one (one_cons rfl one_nil)))))) rfl (fun w5 b5 q5 => ?_)
 have z5 := Nat.le_of_eq q5.size.symm
 have e5 : Ext w w5 := q5.ext (((e1.trans e2).trans e3).trans e4) (by omega)
 refine O_assign rfl rfl rfl ?_
 refine WL_end [(1, _), (5, _), (6, _)] ⟨rfl, rfl, rfl, trivial⟩ ?_
 refine WP_seq ?_
 refine WP_seq ?_
 refine WP_region ?_
 refine O_move rfl rfl rfl ?_
 refine O_not rfl rfl rfl rfl ?_
 refine WL_end [(1, _), (5, _), (21, _)] ⟨rfl, rfl, rfl, trivial⟩ ?_
 refine WP_cond rfl (fun c21 => ?_) (fun c21 => ?_)
 · --
  refine WP_seq ?_
  refine WP_region ?_
  refine O_assign rfl rfl rfl ?_
  refine WL_end [(4, _)] ⟨rfl, trivial⟩ ?_
  refine WP_ret ?_
  refine ret1 Tryd.results8 rfl ?_
  exact ⟨_, rfl, e5, rfl⟩
 · --
  refine WP_skip ?_
  refine WP_seq ?_
  refine WP_seq ?_
  refine WP_region ?_
  refine O_move rfl rfl rfl ?_
  refine O_move rfl rfl rfl ?_
  refine O_call enters21 rfl rfl rfl (mod_c (by (try simp only [lens]); omega) (by (try simp only [lens]); omega)) (fun v6 w6 e6 h6 => ?_)
  have z6 := e6.size
  obtain rfl := h6
  refine O_sub rfl rfl rfl rfl (wrap_i64_id (by omega) (by omega)) ?_
  refine O_move rfl rfl rfl ?_
  refine O_call enters21 rfl rfl rfl (mod_c (by (try simp only [lens]); omega) (by (try simp only [lens]); omega)) (fun v7 w7 e7 h7 => ?_)
  have z7 := e7.size
  obtain rfl := h7
  refine O_add rfl rfl rfl rfl (wrap_i64_id (by omega) (by omega)) ?_
  refine V_lit TDint rfl rfl [Value.int .i64 p, Value.int .i64 (p % 100 - 30), Value.int .i64 (8191 + p % 3)] (by intro u hu; simp only [List.mem_cons, List.mem_nil_iff, or_false] at hu; rcases hu with rfl | rfl | rfl <;> rfl) rfl (by decide) (by decide) rfl rfl (fun vt wt ot et => ?_)
  have zt := et.size
  refine V_len TDint rfl rfl rfl ot.sl ?_
  refine O_move rfl rfl rfl ?_
  refine WL_end [(5, _), (29, _), (30, _), (31, _)] ⟨rfl, rfl, rfl, rfl, trivial⟩ ?_
  refine WP_block ?_
  have hX0 := (((((hqA.ext e4).chgBk b4 (by decide) q5).ext e6).ext e7).ext et)
  have hX1 := (((((hsA.ext e4).chgBk b4 (by decide) q5).ext e6).ext e7).ext et)
  have hG := (((b5.ext e6).ext e7).ext et)
  replace hT := hT.ext (((e5.trans e6).trans e7).trans et)
  have hall : ∀ (k : Nat) (u : Value), [Value.int .i64 p, Value.int .i64 (p % 100 - 30), Value.int .i64 (8191 + p % 3)][k]? = some u → ∃ z : Int, u = .int .i64 z := by
    intro k u hu
    match k with
    | 0 => simp at hu; subst hu; exact ⟨_, rfl⟩
    | 1 => simp at hu; subst hu; exact ⟨_, rfl⟩
    | 2 => simp at hu; subst hu; exact ⟨_, rfl⟩
    | k + 3 => simp at hu
  refine WP_loop (S := Nat) (fun j => [(5, .pointer (some ⟨g4, 0, none⟩)), (29, vt), (30, .int .i64 (3 : Nat)), (31, .int .i64 (j : Nat))]) (fun j w' => Ext wt w' ∧ j ≤ 3) (fun j => 3 - j) 0 ⟨rfl, rfl, rfl, rfl, trivial⟩ ⟨Ext.refl _, by omega⟩ ?_
  rintro j w9 ⟨hE, hj⟩
  have zE := hE.size
  refine WP_seq ?_
  refine WP_region ?_
  refine O_lss rfl rfl rfl rfl rfl ?_
  refine WL_end [(5, _), (29, _), (30, _), (31, _), (32, _)] ⟨rfl, rfl, rfl, rfl, rfl, trivial⟩ ?_
  refine WP_seq ?_
  refine WP_condD rfl (fun c32 => ?_) (fun c32 => ?_)
  · --
   refine WP_skip ?_
   refine WP_seq ?_
   refine WP_block ?_
   refine WP_seq ?_
   refine WP_region ?_
   refine V_index TDint rfl rfl rfl rfl (ot.sl.ext hE) _ rfl (by simp only [List.length_cons, List.length_nil]; omega) ?_
   obtain ⟨u, hu⟩ : ∃ u, [Value.int .i64 p, Value.int .i64 (p % 100 - 30), Value.int .i64 (8191 + p % 3)][j]? = some u := ⟨_, List.getElem?_eq_getElem (by simp only [List.length_cons, List.length_nil]; omega)⟩
   obtain ⟨z, rfl⟩ := hall j u hu
   refine O_load Tryd.underlying3 rfl rfl rfl rfl ((ot.sl.ext hE).cell hu) ?_
   refine O_assign rfl rfl rfl ?_
   refine WL_end [(5, _), (8, _), (29, _), (30, _), (31, _)] ⟨rfl, rfl, rfl, rfl, rfl, trivial⟩ ?_
   refine WP_seq ?_
   by_cases hpm : perm z
   · --
    have hpk := hpm
    unfold perm at hpk
    obtain ⟨c1, -, -, -, l1⟩ := dcode_small (x := scl xA (eA + z)) (e := -z) (a := 270) (m := 8192) (Nat.le_trans (scl_len (n := eA + z) (m := 8412) hlA (by omega)) (by decide)) (by omega) (by omega) (by decide)
    obtain ⟨c2, -, -, -, l2⟩ := dcode_small (x := -(scl (-yA) (fA + z))) (e := -z) (a := 270) (m := 8192) (Nat.le_trans (neg_len (scl_len (n := fA + z) (m := 8412) (neg_len hoA) (by omega))) (by decide)) (by omega) (by omega) (by decide)
    have hww := out_within hvA huA hpm c1 c2
    refine WP_region ?_
    refine O_loadA (vs := [_, _, _, _, _, _]) S53 rfl rfl rfl (hG.ext hE) rfl rfl ?_
    refine O_move rfl rfl rfl ?_
    refine O_call enters39 rfl rfl rfl (out_T rfl (hX0.ext hE).nl rfl (hX1.ext hE).nl (by first | with_reducible assumption | exact dval_dman _ _ | exact dval_zero | exact dval_dg (by assumption) (by assumption) | exact dval_dl (by assumption) (by assumption)) (by first | with_reducible assumption | exact dval_dman _ _ | exact dval_zero | exact dval_dg (by assumption) (by assumption) | exact dval_dl (by assumption) (by assumption)) hpm c1 c2 (hT.ext hE)) (fun v8 w8 e8 h8 => ?_)
    have z8 := e8.size
    try simp only [val_dig] at h8
    obtain ⟨mq8, ms8, rfl, hmq8, hms8⟩ := h8
    refine O_move rfl rfl rfl ?_
    refine O_extract rfl rfl rfl rfl ?_
    refine O_extract rfl rfl rfl rfl ?_
    refine O_alloc S53 rfl rfl (fun g9 w9 b9 e9 gl9 gh9 => ?_)
    have z9 := e9.size
    refine O_storeA (cs' := [_, _, _, _, _, _]) S53 rfl rfl rfl b9 rfl rfl (one_cons rfl (one_cons ((hmq8.ext e9).nl).one (one_cons rfl (one_cons rfl (one_cons ((hms8.ext e9).nl).one (one_cons rfl one_nil)))))) rfl (fun w10 b10 q10 => ?_)
    have z10 := Nat.le_of_eq q10.size.symm
    have e10 : Ext wt w10 := q10.ext ((hE.trans e8).trans e9) (by omega)
    refine O_assign rfl rfl rfl ?_
    refine WL_end [(5, _), (8, _), (9, _), (10, _), (29, _), (30, _), (31, _)] ⟨rfl, rfl, rfl, rfl, rfl, rfl, rfl, trivial⟩ ?_
    refine WP_seq ?_
    refine WP_region ?_
    refine O_loadA (vs := [_, _, _, _, _, _]) S53 rfl rfl rfl (hG.ext e10) rfl rfl ?_
    refine O_move rfl rfl rfl ?_
    refine O_call enters40 rfl rfl rfl (rout_T rfl (hX0.ext e10).nl rfl (hX1.ext e10).nl (by first | with_reducible assumption | exact dval_dman _ _ | exact dval_zero | exact dval_dg (by assumption) (by assumption) | exact dval_dl (by assumption) (by assumption)) (by first | with_reducible assumption | exact dval_dman _ _ | exact dval_zero | exact dval_dg (by assumption) (by assumption) | exact dval_dl (by assumption) (by assumption)) hpm c1 c2) (fun v11 w11 e11 h11 => ?_)
    have z11 := e11.size
    try simp only [val_dig] at h11
    obtain ⟨mq11, ms11, rfl, hmq11, hms11⟩ := h11
    refine O_move rfl rfl rfl ?_
    refine O_extract rfl rfl rfl rfl ?_
    refine O_extract rfl rfl rfl rfl ?_
    refine O_alloc S53 rfl rfl (fun g12 w12 b12 e12 gl12 gh12 => ?_)
    have z12 := e12.size
    refine O_storeA (cs' := [_, _, _, _, _, _]) S53 rfl rfl rfl b12 rfl rfl (one_cons rfl (one_cons ((hmq11.ext e12).nl).one (one_cons rfl (one_cons rfl (one_cons ((hms11.ext e12).nl).one (one_cons rfl one_nil)))))) rfl (fun w13 b13 q13 => ?_)
    have z13 := Nat.le_of_eq q13.size.symm
    have e13 : Ext wt w13 := q13.ext ((e10.trans e11).trans e12) (by omega)
    refine O_assign rfl rfl rfl ?_
    refine WL_end [(5, _), (9, _), (10, _), (11, _), (12, _), (29, _), (30, _), (31, _)] ⟨rfl, rfl, rfl, rfl, rfl, rfl, rfl, rfl, trivial⟩ ?_
    refine WP_seq ?_
    refine WP_region ?_
    refine O_move rfl rfl rfl ?_
    refine O_move rfl rfl rfl ?_
    refine O_neq (t := false) rfl rfl rfl rfl (decide_eq_false (by decide)) ?_
    refine O_move rfl rfl rfl ?_
    refine O_loadA (vs := [_, _, _, _, _, _]) S53 rfl rfl rfl (((b10.ext e11).ext e12).chg q13 (by first | assumption | omega)) rfl rfl ?_
    refine O_loadA (vs := [_, _, _, _, _, _]) S53 rfl rfl rfl b13 rfl rfl ?_
    refine O_call enters41 rfl rfl rfl (rivsameT_c rfl (((((hmq8.ext e9).chgBk b9 (by decide) q10).ext e11).ext e12).chgBk b12 (by decide) q13).nl rfl (((((hms8.ext e9).chgBk b9 (by decide) q10).ext e11).ext e12).chgBk b12 (by decide) q13).nl (by first | with_reducible assumption | exact dval_dman _ _ | exact dval_zero | exact dval_dg (by assumption) (by assumption) | exact dval_dl (by assumption) (by assumption)) (by first | with_reducible assumption | exact dval_dman _ _ | exact dval_zero | exact dval_dg (by assumption) (by assumption) | exact dval_dl (by assumption) (by assumption)) rfl ((hmq11.ext e12).chgBk b12 (by decide) q13).nl rfl ((hms11.ext e12).chgBk b12 (by decide) q13).nl (by first | with_reducible assumption | exact dval_dman _ _ | exact dval_zero | exact dval_dg (by assumption) (by assumption) | exact dval_dl (by assumption) (by assumption)) (by first | with_reducible assumption | exact dval_dman _ _ | exact dval_zero | exact dval_dg (by assumption) (by assumption) | exact dval_dl (by assumption) (by assumption)) samev_self) (fun v14 w14 e14 h14 => ?_)
    have z14 := e14.size
    obtain rfl := h14
    refine O_not rfl rfl rfl rfl ?_
    refine O_pickF rfl rfl rfl rfl ?_
    refine O_move rfl rfl rfl ?_
    refine O_move rfl rfl rfl ?_
    refine O_eql (t := true) rfl rfl rfl rfl (decide_eq_true rfl) ?_
    refine O_move rfl rfl rfl ?_
    refine O_loadA (vs := [_, _, _, _, _, _]) S53 rfl rfl rfl (hG.ext (e13.trans e14)) rfl rfl ?_
    refine O_loadA (vs := [_, _, _, _, _, _]) S53 rfl rfl rfl ((((b10.ext e11).ext e12).chg q13 (by first | assumption | omega)).ext e14) rfl rfl ?_
    refine O_call enters42 rfl rfl rfl (ivwithinT_c rfl (hX0.ext (e13.trans e14)).nl rfl (hX1.ext (e13.trans e14)).nl (by first | with_reducible assumption | exact dval_dman _ _ | exact dval_zero | exact dval_dg (by assumption) (by assumption) | exact dval_dl (by assumption) (by assumption)) (by first | with_reducible assumption | exact dval_dman _ _ | exact dval_zero | exact dval_dg (by assumption) (by assumption) | exact dval_dl (by assumption) (by assumption)) rfl ((((((hmq8.ext e9).chgBk b9 (by decide) q10).ext e11).ext e12).chgBk b12 (by decide) q13).ext e14).nl rfl ((((((hms8.ext e9).chgBk b9 (by decide) q10).ext e11).ext e12).chgBk b12 (by decide) q13).ext e14).nl (by first | with_reducible assumption | exact dval_dman _ _ | exact dval_zero | exact dval_dg (by assumption) (by assumption) | exact dval_dl (by assumption) (by assumption)) (by first | with_reducible assumption | exact dval_dman _ _ | exact dval_zero | exact dval_dg (by assumption) (by assumption) | exact dval_dl (by assumption) (by assumption)) hww) (fun v15 w15 e15 h15 => ?_)
    have z15 := e15.size
    obtain rfl := h15
    refine O_not rfl rfl rfl rfl ?_
    refine O_pickT rfl rfl rfl rfl ?_
    refine O_pickF rfl rfl rfl rfl ?_
    refine WL_end [(5, _), (29, _), (30, _), (31, _), (65, _)] ⟨rfl, rfl, rfl, rfl, rfl, trivial⟩ ?_
    refine WP_condF rfl ?_
    refine WP_skip ?_
    refine WP_region ?_
    refine O_add rfl rfl rfl rfl (wrap_i64_id (by omega) (by omega)) ?_
    refine O_move rfl rfl rfl ?_
    refine WL_end [(5, _), (29, _), (30, _), (31, _)] ⟨rfl, rfl, rfl, rfl, trivial⟩ ?_
    exact ⟨j + 1, ⟨rfl, rfl, rfl, rfl, trivial⟩, ⟨((e13.trans e14).trans e15), by omega⟩, by omega⟩
   · --
    skip
    refine WP_region ?_
    refine O_loadA (vs := [_, _, _, _, _, _]) S53 rfl rfl rfl (hG.ext hE) rfl rfl ?_
    refine O_move rfl rfl rfl ?_
    refine O_call enters39 rfl rfl rfl (out_F rfl (hX0.ext hE).nl rfl (hX1.ext hE).nl (by first | with_reducible assumption | exact dval_dman _ _ | exact dval_zero | exact dval_dg (by assumption) (by assumption) | exact dval_dl (by assumption) (by assumption)) (by first | with_reducible assumption | exact dval_dman _ _ | exact dval_zero | exact dval_dg (by assumption) (by assumption) | exact dval_dl (by assumption) (by assumption)) hpm) (fun v16 w16 e16 h16 => ?_)
    have z16 := e16.size
    try simp only [val_dig] at h16
    obtain rfl := h16
    refine O_move rfl rfl rfl ?_
    refine O_extract rfl rfl rfl rfl ?_
    refine O_extract rfl rfl rfl rfl ?_
    refine O_alloc S53 rfl rfl (fun g17 w17 b17 e17 gl17 gh17 => ?_)
    have z17 := e17.size
    refine O_storeA (cs' := [_, _, _, _, _, _]) S53 rfl rfl rfl b17 rfl rfl (one_cons rfl (one_cons rfl (one_cons rfl (one_cons rfl (one_cons rfl (one_cons rfl one_nil)))))) rfl (fun w18 b18 q18 => ?_)
    have z18 := Nat.le_of_eq q18.size.symm
    have e18 : Ext wt w18 := q18.ext ((hE.trans e16).trans e17) (by omega)
    refine O_assign rfl rfl rfl ?_
    refine WL_end [(5, _), (8, _), (9, _), (10, _), (29, _), (30, _), (31, _)] ⟨rfl, rfl, rfl, rfl, rfl, rfl, rfl, trivial⟩ ?_
    refine WP_seq ?_
    refine WP_region ?_
    refine O_loadA (vs := [_, _, _, _, _, _]) S53 rfl rfl rfl (hG.ext e18) rfl rfl ?_
    refine O_move rfl rfl rfl ?_
    refine O_call enters40 rfl rfl rfl (rout_F rfl (hX0.ext e18).nl rfl (hX1.ext e18).nl (by first | with_reducible assumption | exact dval_dman _ _ | exact dval_zero | exact dval_dg (by assumption) (by assumption) | exact dval_dl (by assumption) (by assumption)) (by first | with_reducible assumption | exact dval_dman _ _ | exact dval_zero | exact dval_dg (by assumption) (by assumption) | exact dval_dl (by assumption) (by assumption)) hpm) (fun v19 w19 e19 h19 => ?_)
    have z19 := e19.size
    try simp only [val_dig] at h19
    obtain rfl := h19
    refine O_move rfl rfl rfl ?_
    refine O_extract rfl rfl rfl rfl ?_
    refine O_extract rfl rfl rfl rfl ?_
    refine O_alloc S53 rfl rfl (fun g20 w20 b20 e20 gl20 gh20 => ?_)
    have z20 := e20.size
    refine O_storeA (cs' := [_, _, _, _, _, _]) S53 rfl rfl rfl b20 rfl rfl (one_cons rfl (one_cons rfl (one_cons rfl (one_cons rfl (one_cons rfl (one_cons rfl one_nil)))))) rfl (fun w21 b21 q21 => ?_)
    have z21 := Nat.le_of_eq q21.size.symm
    have e21 : Ext wt w21 := q21.ext ((e18.trans e19).trans e20) (by omega)
    refine O_assign rfl rfl rfl ?_
    refine WL_end [(5, _), (9, _), (10, _), (11, _), (12, _), (29, _), (30, _), (31, _)] ⟨rfl, rfl, rfl, rfl, rfl, rfl, rfl, rfl, trivial⟩ ?_
    refine WP_seq ?_
    refine WP_region ?_
    refine O_move rfl rfl rfl ?_
    refine O_move rfl rfl rfl ?_
    refine O_neq (t := false) rfl rfl rfl rfl (decide_eq_false (by decide)) ?_
    refine O_move rfl rfl rfl ?_
    refine O_loadA (vs := [_, _, _, _, _, _]) S53 rfl rfl rfl (((b18.ext e19).ext e20).chg q21 (by first | assumption | omega)) rfl rfl ?_
    refine O_loadA (vs := [_, _, _, _, _, _]) S53 rfl rfl rfl b21 rfl rfl ?_
    refine O_call enters41 rfl rfl rfl (rivsameT_z) (fun v22 w22 e22 h22 => ?_)
    have z22 := e22.size
    obtain rfl := h22
    refine O_not rfl rfl rfl rfl ?_
    refine O_pickF rfl rfl rfl rfl ?_
    refine O_move rfl rfl rfl ?_
    refine O_move rfl rfl rfl ?_
    refine O_eql (t := false) rfl rfl rfl rfl (decide_eq_false (by decide)) ?_
    refine O_move rfl rfl rfl ?_
    refine O_skip rfl rfl ?_
    refine O_skip rfl rfl ?_
    refine O_skip rfl rfl ?_
    refine O_skip rfl rfl ?_
    refine O_pickF rfl rfl rfl rfl ?_
    refine O_pickF rfl rfl rfl rfl ?_
    refine WL_end [(5, _), (29, _), (30, _), (31, _), (65, _)] ⟨rfl, rfl, rfl, rfl, rfl, trivial⟩ ?_
    refine WP_condF rfl ?_
    refine WP_skip ?_
    refine WP_region ?_
    refine O_add rfl rfl rfl rfl (wrap_i64_id (by omega) (by omega)) ?_
    refine O_move rfl rfl rfl ?_
    refine WL_end [(5, _), (29, _), (30, _), (31, _)] ⟨rfl, rfl, rfl, rfl, trivial⟩ ?_
    exact ⟨j + 1, ⟨rfl, rfl, rfl, rfl, trivial⟩, ⟨(e21.trans e22), by omega⟩, by omega⟩
  · --
   refine WP_exit ?_
   refine inBlk_hit ?_
   refine WP_seq ?_
   refine WP_region ?_
   refine O_assign rfl rfl rfl ?_
   refine WL_end [(4, _)] ⟨rfl, trivial⟩ ?_
   refine WP_ret ?_
   refine ret1 Tryd.results8 rfl ?_
   exact ⟨_, rfl, ((((e5.trans e6).trans e7).trans et)).trans hE, rfl⟩

end Go.Proofs.YthbfhljpfkicpaaDoor
