/-
  Walks.
-/
import Derived.Test.YthbfhljpfkicpaaDoorG2
import Derived.Test.YthbfhljpfkicpaaDoorG0
set_option linter.unusedVariables false
set_option linter.unusedSimpArgs false
set_option maxRecDepth 100000
namespace Go.Proofs.YthbfhljpfkicpaaDoor
open Go Go.RowKit
theorem rcut_two {w : World} {vp vq : Value} {p k : Int} {q : Nat} {bp : Bool} (hbp : bp = decide (p < 0)) (hp : Nl w vp (dig p.natAbs)) (hq : Nl w vq (dig q)) (hlp : (dig p.natAbs).length ≤ 9000) (hlq : (dig q).length ≤ 9000) (hq0 : q ≠ 0) (hk1 : -2048 ≤ k) (hk2 : k ≤ 8193) (htz : tz q = bl q - 1) :
    Calls Tryd.prog 67 #[.agg #[.bool bp, vp, vq], .int .i64 k] w (Ret w fun r w' => ∃ qv, r = .agg #[.bool (decide ((cutq p q k) < 0)), qv] ∧ No w.heap.size 111 w' qv (dig (cutq p q k).natAbs)) := by
 subst hbp
 have hqI : (dig (q : Int).natAbs).length ≤ 9000 := by rw [Int.natAbs_natCast]; exact hlq
 have hqp : (0 : Int) < (q : Nat) := by omega
 have hb1 : 1 ≤ bl q := by rcases Nat.eq_zero_or_pos (bl q) with e | e; rw [bl_zero_iff] at e; exact absurd e hq0; exact e
 have hbd := bl_dig q
 obtain ⟨n, hn⟩ : ∃ n, n = bl q - 1 := ⟨_, rfl⟩
 have hq2 : q = 2 ^ n := by rw [hn]; exact tz_top hq0 htz
 have hc : cutq p q k = scl p (k - (n : Int)) := by rw [hq2]; exact cutq_two p n k
 rw [hc]
 refine enter (args := [_, _]) Tryd.func67 rfl Tryd.ntmps67 rfl ?_
 refine WP_seq ?_
 refine WP_region ?_
 refine O_box _ rfl rfl rfl rfl (fun g1 w1 b1 e1 gl1 gh1 => ?_)
 have z1 := e1.size
 refine O_alloc S24 rfl rfl (fun g2 w2 b2 e2 gl2 gh2 => ?_)
 have z2 := e2.size
 refine WL_end [(1, _), (2, _), (4, _)] ⟨rfl, rfl, rfl, trivial⟩ ?_
 refine WP_seq ?_
 refine WP_region ?_
 refine O_field F40_1 rfl rfl rfl ?_
 refine O_loadC Tryd.underlying22 rfl rfl rfl rfl (b1.ext e2) rfl ?_
 refine O_call enters120 rfl rfl rfl (rbits_c (hq.ext (e1.trans e2)) (by (try simp only [lens]); omega)) (fun v3 w3 e3 h3 => ?_)
 have z3 := e3.size
 obtain rfl := h3
 simp only [val_dig]
 refine O_sub (r := ((n : Nat) : Int)) rfl rfl rfl rfl (by rw [IntKind.wrap_i64]; omega) ?_
 refine O_assign rfl rfl rfl ?_
 refine WL_end [(1, _), (2, _), (4, _), (5, _)] ⟨rfl, rfl, rfl, rfl, trivial⟩ ?_
 refine WP_seq ?_
 refine WP_seq ?_
 refine WP_region ?_
 refine O_field F40_1 rfl rfl rfl ?_
 refine O_loadC Tryd.underlying22 rfl rfl rfl rfl ((b1.ext e2).ext e3) rfl ?_
 refine O_call enters109 rfl rfl rfl (rzeros_c (hq.ext ((e1.trans e2).trans e3)) (by (try simp only [lens]); omega)) (fun v4 w4 e4 h4 => ?_)
 have z4 := e4.size
 obtain rfl := h4
 simp only [val_dig]
 refine O_move rfl rfl rfl ?_
 refine O_eql (t := true) rfl rfl rfl rfl (decide_eq_true (by omega)) ?_
 refine WL_end [(1, _), (2, _), (4, _), (5, _), (19, _)] ⟨rfl, rfl, rfl, rfl, rfl, trivial⟩ ?_
 refine WP_condT rfl ?_
 refine WP_seq ?_
 refine WP_seq ?_
 refine WP_region ?_
 refine O_move rfl rfl rfl ?_
 refine O_move rfl rfl rfl ?_
 refine O_geq rfl rfl rfl rfl rfl ?_
 refine WL_end [(1, _), (2, _), (4, _), (5, _), (22, _)] ⟨rfl, rfl, rfl, rfl, rfl, trivial⟩ ?_
 refine WP_condD rfl (fun c22 => ?_) (fun c22 => ?_)
 · --
  refine WP_seq ?_
  refine WP_region ?_
  refine O_field F40_0 rfl rfl rfl ?_
  refine O_loadA (vs := [_, _]) S24 rfl rfl rfl (((b1.ext e2).ext e3).ext e4) rfl rfl ?_
  refine O_move rfl rfl rfl ?_
  refine O_move rfl rfl rfl ?_
  refine O_sub (r := (((k - (n : Int)).toNat : Nat) : Int)) rfl rfl rfl rfl (by rw [IntKind.wrap_i64]; omega) ?_
  refine O_call enters74 rfl rfl rfl (rishl_c rfl (hp.ext (((e1.trans e2).trans e3).trans e4)) (by (try simp only [lens]); omega) (by (try simp only [lens]); omega)) (fun v5 w5 e5 h5 => ?_)
  have z5 := e5.size
  try simp only [val_dig] at h5
  obtain ⟨q5, rfl, hq5⟩ := h5
  refine O_storeA (cs' := [_, _]) S24 rfl rfl rfl (((b2.ext e3).ext e4).ext e5) rfl rfl (one_cons rfl (one_cons (hq5.nl).one one_nil)) rfl (fun w6 b6 q6 => ?_)
  have z6 := Nat.le_of_eq q6.size.symm
  have e6 : Ext w w6 := q6.ext ((((e1.trans e2).trans e3).trans e4).trans e5) (by omega)
  refine WL_end [(4, _)] ⟨rfl, trivial⟩ ?_
  refine WP_ret ?_
  refine retL Tryd.results67 (.cell rfl S24 b6 rfl .nil) ?_
  have hz : p * 2 ^ (k - (n : Int)).toNat = scl p (k - (n : Int)) := (scl_pos (by omega)).symm
  rw [← hz]
  exact ⟨_, rfl, e6, _, rfl, (hq5.chgBk (((b2.ext e3).ext e4).ext e5) (by decide) q6).mono (by omega)⟩
 · --
  refine WP_skip ?_
  refine WP_seq ?_
  refine WP_region ?_
  refine O_field F40_0 rfl rfl rfl ?_
  refine O_loadA (vs := [_, _]) S24 rfl rfl rfl (((b1.ext e2).ext e3).ext e4) rfl rfl ?_
  refine O_move rfl rfl rfl ?_
  refine O_move rfl rfl rfl ?_
  refine O_sub (r := (((-(k - (n : Int))).toNat : Nat) : Int)) rfl rfl rfl rfl (by rw [IntKind.wrap_i64]; omega) ?_
  refine O_call enters68 rfl rfl rfl (rishr_c rfl (hp.ext (((e1.trans e2).trans e3).trans e4)) (by (try simp only [lens]); omega) (by (try simp only [lens]); omega)) (fun v7 w7 e7 h7 => ?_)
  have z7 := e7.size
  try simp only [val_dig] at h7
  obtain ⟨q7, rfl, hq7⟩ := h7
  refine O_storeA (cs' := [_, _]) S24 rfl rfl rfl (((b2.ext e3).ext e4).ext e7) rfl rfl (one_cons rfl (one_cons (hq7.nl).one one_nil)) rfl (fun w8 b8 q8 => ?_)
  have z8 := Nat.le_of_eq q8.size.symm
  have e8 : Ext w w8 := q8.ext ((((e1.trans e2).trans e3).trans e4).trans e7) (by omega)
  refine WL_end [(4, _)] ⟨rfl, trivial⟩ ?_
  refine WP_ret ?_
  refine retL Tryd.results67 (.cell rfl S24 b8 rfl .nil) ?_
  have hz : p / 2 ^ (-(k - (n : Int))).toNat = scl p (k - (n : Int)) := (scl_neg (by omega)).symm
  rw [← hz]
  exact ⟨_, rfl, e8, _, rfl, (hq7.chgBk (((b2.ext e3).ext e4).ext e7) (by decide) q8).mono (by omega)⟩
theorem rcut_p {w : World} {vp vq : Value} {p : Int} {m : Nat} {q : Nat} {bp : Bool} (hbp : bp = decide (p < 0)) (hp : Nl w vp (dig p.natAbs)) (hq : Nl w vq (dig q)) (hlp : (dig p.natAbs).length ≤ 9000) (hlq : (dig q).length ≤ 9000) (hq0 : q ≠ 0) (hm : m ≤ 9000) (htz : tz q ≠ bl q - 1) :
    Calls Tryd.prog 67 #[.agg #[.bool bp, vp, vq], .int .i64 ((m : Nat) : Int)] w (Ret w fun r w' => ∃ qv, r = .agg #[.bool (decide ((cutq p q ((m : Nat) : Int)) < 0)), qv] ∧ No w.heap.size 111 w' qv (dig (cutq p q ((m : Nat) : Int)).natAbs)) := by
 subst hbp
 have hqI : (dig (q : Int).natAbs).length ≤ 9000 := by rw [Int.natAbs_natCast]; exact hlq
 have hqp : (0 : Int) < (q : Nat) := by omega
 have hb1 : 1 ≤ bl q := by rcases Nat.eq_zero_or_pos (bl q) with e | e; rw [bl_zero_iff] at e; exact absurd e hq0; exact e
 have hbd := bl_dig q
 have hS1 := shl_len' (k := m) hlp
 have hS2 := shl_len' (k := m) hqI
 have hp2 := ipow_pos m
 have hn0 : (q : Int) * 2 ^ m ≠ 0 := by have := Int.mul_pos hqp hp2; omega
 have hn1 : (q : Int) ≠ 0 := by omega
 refine enter (args := [_, _]) Tryd.func67 rfl Tryd.ntmps67 rfl ?_
 refine WP_seq ?_
 refine WP_region ?_
 refine O_box _ rfl rfl rfl rfl (fun g1 w1 b1 e1 gl1 gh1 => ?_)
 have z1 := e1.size
 refine O_alloc S24 rfl rfl (fun g2 w2 b2 e2 gl2 gh2 => ?_)
 have z2 := e2.size
 refine WL_end [(1, _), (2, _), (4, _)] ⟨rfl, rfl, rfl, trivial⟩ ?_
 refine WP_seq ?_
 refine WP_region ?_
 refine O_field F40_1 rfl rfl rfl ?_
 refine O_loadC Tryd.underlying22 rfl rfl rfl rfl (b1.ext e2) rfl ?_
 refine O_call enters120 rfl rfl rfl (rbits_c (hq.ext (e1.trans e2)) (by (try simp only [lens]); omega)) (fun v3 w3 e3 h3 => ?_)
 have z3 := e3.size
 obtain rfl := h3
 simp only [val_dig]
 refine O_sub (r := ((bl q - 1 : Nat) : Int)) rfl rfl rfl rfl (by rw [IntKind.wrap_i64]; omega) ?_
 refine O_assign rfl rfl rfl ?_
 refine WL_end [(1, _), (2, _), (4, _), (5, _)] ⟨rfl, rfl, rfl, rfl, trivial⟩ ?_
 refine WP_seq ?_
 refine WP_seq ?_
 refine WP_region ?_
 refine O_field F40_1 rfl rfl rfl ?_
 refine O_loadC Tryd.underlying22 rfl rfl rfl rfl ((b1.ext e2).ext e3) rfl ?_
 refine O_call enters109 rfl rfl rfl (rzeros_c (hq.ext ((e1.trans e2).trans e3)) (by (try simp only [lens]); omega)) (fun v4 w4 e4 h4 => ?_)
 have z4 := e4.size
 obtain rfl := h4
 simp only [val_dig]
 refine O_move rfl rfl rfl ?_
 refine O_eql (t := false) rfl rfl rfl rfl (decide_eq_false (by omega)) ?_
 refine WL_end [(1, _), (2, _), (4, _), (5, _), (19, _)] ⟨rfl, rfl, rfl, rfl, rfl, trivial⟩ ?_
 refine WP_condF rfl ?_
 refine WP_skip ?_
 refine WP_seq ?_
 refine WP_sub [(1, _), (2, _), (4, _)] ⟨rfl, rfl, rfl, trivial⟩ ?_
 refine WP_anyR 7 [1, 2, 4] mixed rfl (by kernel_rfl) ?_
 apply AnyR_val [2] rfl (by kernel_rfl)
 · --
  intro y5 hy5
  have zy5 := hy5.size
  refine AllV_nil ?_
  refine O_field F40_0 rfl rfl rfl ?_
  exact WL_nil ⟨(Ext.refl _), rfl⟩
 apply AnyR_val [35] rfl (by kernel_rfl)
 · --
  intro y6 hy6
  have zy6 := hy6.size
  refine AllV_v ?_
  refine AllV_nil ?_
  refine O_loadA (vs := [_, _]) S24 rfl rfl rfl ((((b1.ext e2).ext e3).ext e4).ext hy6) rfl rfl ?_
  exact WL_nil ⟨(Ext.refl _), rfl⟩
 apply AnyR_val [2] rfl (by kernel_rfl)
 · --
  intro y7 hy7
  have zy7 := hy7.size
  refine AllV_nil ?_
  refine O_field F40_1 rfl rfl rfl ?_
  exact WL_nil ⟨(Ext.refl _), rfl⟩
 apply AnyR_val [37] rfl (by kernel_rfl)
 · --
  intro y8 hy8
  have zy8 := hy8.size
  refine AllV_v ?_
  refine AllV_nil ?_
  refine O_loadC Tryd.underlying22 rfl rfl rfl rfl ((((b1.ext e2).ext e3).ext e4).ext hy8) rfl ?_
  exact WL_nil ⟨(Ext.refl _), rfl⟩
 apply AnyR_rel (RelP (pAgg [pEq _, pNo w4.heap.size 111 _])) [38] rfl (RelP.mono (pAgg_mono (PsM.cons pEq_mono (PsM.cons pNo_mono PsM.nil)))) (by kernel_rfl)
 · --
  intro y9 hy9
  have zy9 := hy9.size
  refine AllV_v ?_
  refine AllV_nil ?_
  refine O_call enters85 rfl rfl rfl (rinat_c (hq.ext ((((e1.trans e2).trans e3).trans e4).trans hy9)) (by (try simp only [lens]); omega)) (fun v10 w10 e10 h10 => ?_)
  have z10 := e10.size
  try simp only [val_dig] at h10
  obtain ⟨q10, rfl, hq10⟩ := h10
  simp only [mkf] at hq10 ⊢
  exact WL_nil ⟨e10, _, rfl, ⟨_, rfl, (AllP.cons rfl (AllP.cons (hq10.mono (by omega)) AllP.nil))⟩⟩
 apply AnyR_rel (BkR _ _) [] rfl BkR.mono (by kernel_rfl)
 · --
  intro y11 hy11
  have zy11 := hy11.size
  refine AllV_nil ?_
  refine O_alloc S24 rfl rfl (fun g12 w12 b12 e12 gl12 gh12 => ?_)
  have z12 := e12.size
  exact WL_nil ⟨e12, _, rfl, _, rfl, gl12, gh12, b12⟩
 apply AnyR_rel (BkR _ _) [] rfl BkR.mono (by kernel_rfl)
 · --
  intro y13 hy13
  have zy13 := hy13.size
  refine AllV_nil ?_
  refine O_alloc S24 rfl rfl (fun g14 w14 b14 e14 gl14 gh14 => ?_)
  have z14 := e14.size
  exact WL_nil ⟨e14, _, rfl, _, rfl, gl14, gh14, b14⟩
 refine AnyR_nil fun y15 hy15 => ?_
 have zy15 := hy15.size
 refine AllV_v ?_
 refine AllV_v ?_
 refine AllV_v ?_
 refine AllV_v ?_
 refine AllV_r fun a16 b16 v16 la16 lb16 lc16 h16 ap16 => ?_
 clear ap16
 obtain ⟨_, rfl, v16_0, _, rfl, rfl, v16_1, _, rfl, h16_1, rfl⟩ := h16
 refine AllV_r fun a17 b17 v17 la17 lb17 lc17 h17 ap17 => ?_
 clear ap17
 obtain ⟨g17, rfl, gl17, gh17, b17⟩ := h17
 refine AllV_r fun a18 b18 v18 la18 lb18 lc18 h18 ap18 => ?_
 obtain ⟨p18_17, -, -⟩ := ap18
 obtain ⟨g18, rfl, gl18, gh18, b18⟩ := h18
 have ne18_17 := ap_ne p18_17 gl18 gh18 gl17 gh17
 have ne17_18 := ne18_17.symm
 clear p18_17
 refine AllV_nil ?_
 refine O_storeA (cs' := [_, _]) S24 rfl rfl rfl b17 rfl rfl (one_cons rfl (one_cons ((hp.ext ((((e1.trans e2).trans e3).trans e4).trans hy15))).one one_nil)) rfl (fun w19 b19 q19 => ?_)
 have z19 := Nat.le_of_eq q19.size.symm
 have e19 : Ext w w19 := q19.ext ((((e1.trans e2).trans e3).trans e4).trans hy15) (by omega)
 refine O_storeA (cs' := [_, _]) S24 rfl rfl rfl (b18.chg q19 (by first | assumption | omega)) rfl rfl (one_cons rfl (one_cons ((h16_1.chgBk b17 (by decide) q19).nl).one one_nil)) rfl (fun w20 b20 q20 => ?_)
 have z20 := Nat.le_of_eq q20.size.symm
 have e20 : Ext w w20 := q20.ext e19 (by omega)
 refine WL_end [(1, _), (4, _), (6, _), (7, _)] ⟨rfl, rfl, rfl, rfl, trivial⟩ ?_
 refine WP_seq ?_
 refine WP_seq ?_
 refine WP_region ?_
 refine O_move rfl rfl rfl ?_
 refine O_geq (t := true) rfl rfl rfl rfl (decide_eq_true (by omega)) ?_
 refine WL_end [(1, _), (4, _), (6, _), (7, _), (41, _)] ⟨rfl, rfl, rfl, rfl, rfl, trivial⟩ ?_
 refine WP_condT rfl ?_
 refine WP_region ?_
 refine O_loadA (vs := [_, _]) S24 rfl rfl rfl (b19.chg q20 (by first | assumption | omega)) rfl rfl ?_
 refine O_move rfl rfl rfl ?_
 refine O_call enters74 rfl rfl rfl (rishl_c rfl (hp.ext e20) (by (try simp only [lens]); omega) (by (try simp only [lens]); omega)) (fun v21 w21 e21 h21 => ?_)
 have z21 := e21.size
 try simp only [val_dig] at h21
 obtain ⟨q21, rfl, hq21⟩ := h21
 refine O_storeA (cs' := [_, _]) S24 rfl rfl rfl ((b19.chg q20 (by first | assumption | omega)).ext e21) rfl rfl (one_cons rfl (one_cons (hq21.nl).one one_nil)) rfl (fun w22 b22 q22 => ?_)
 have z22 := Nat.le_of_eq q22.size.symm
 have e22 : Ext w w22 := q22.ext (e20.trans e21) (by omega)
 refine WL_end [(4, _), (6, _), (7, _)] ⟨rfl, rfl, rfl, trivial⟩ ?_
 refine WP_seq ?_
 refine WP_region ?_
 refine O_loadA (vs := [_, _]) S24 rfl rfl rfl b22 rfl rfl ?_
 refine O_loadA (vs := [_, _]) S24 rfl rfl rfl ((b20.ext e21).chg q22 (by first | assumption | omega)) rfl rfl ?_
 refine O_call enters121 rfl rfl rfl (ridivmod_c rfl (hq21.chgBk ((b19.chg q20 (by first | assumption | omega)).ext e21) (by decide) q22).nl rfl ((((h16_1.chgBk b17 (by decide) q19).chgBk (b18.chg q19 (by first | assumption | omega)) (by decide) q20).ext e21).chgBk ((b19.chg q20 (by first | assumption | omega)).ext e21) (by decide) q22).nl (by (try simp only [lens]); omega) (by (try simp only [lens]); omega) (by first | assumption | omega)) (fun v23 w23 e23 h23 => ?_)
 have z23 := e23.size
 try simp only [val_dig] at h23
 obtain ⟨q23, s23, rfl, hq23, hs23⟩ := h23
 refine O_move rfl rfl rfl ?_
 refine O_extract rfl rfl rfl rfl ?_
 refine O_extract rfl rfl rfl rfl ?_
 refine O_extract rfl rfl rfl rfl ?_
 refine O_alloc S24 rfl rfl (fun g24 w24 b24 e24 gl24 gh24 => ?_)
 have z24 := e24.size
 refine O_alloc S24 rfl rfl (fun g25 w25 b25 e25 gl25 gh25 => ?_)
 have z25 := e25.size
 refine O_storeA (cs' := [_, _]) S24 rfl rfl rfl (b24.ext e25) rfl rfl (one_cons rfl (one_cons (((hq23.ext e24).ext e25).nl).one one_nil)) rfl (fun w26 b26 q26 => ?_)
 have z26 := Nat.le_of_eq q26.size.symm
 have e26 : Ext w w26 := q26.ext (((e22.trans e23).trans e24).trans e25) (by omega)
 refine O_storeA (cs' := [_, _]) S24 rfl rfl rfl (b25.chg q26 (by first | assumption | omega)) rfl rfl (one_cons rfl (one_cons ((((hs23.ext e24).ext e25).chgBk (b24.ext e25) (by decide) q26).nl).one one_nil)) rfl (fun w27 b27 q27 => ?_)
 have z27 := Nat.le_of_eq q27.size.symm
 have e27 : Ext w w27 := q27.ext e26 (by omega)
 refine O_assign rfl rfl rfl ?_
 refine WL_end [(4, _), (8, _)] ⟨rfl, rfl, trivial⟩ ?_
 refine WP_seq ?_
 refine WP_region ?_
 refine O_loadA (vs := [_, _]) S24 rfl rfl rfl (b26.chg q27 (by first | assumption | omega)) rfl rfl ?_
 refine O_storeA (cs' := [_, _]) S24 rfl rfl rfl ((((((((((((b2.ext e3).ext e4).ext hy15).chg q19 (by first | assumption | omega)).chg q20 (by first | assumption | omega)).ext e21).chg q22 (by first | assumption | omega)).ext e23).ext e24).ext e25).chg q26 (by first | assumption | omega)).chg q27 (by first | assumption | omega)) rfl rfl (one_cons rfl (one_cons (((((hq23.ext e24).ext e25).chgBk (b24.ext e25) (by decide) q26).chgBk (b25.chg q26 (by first | assumption | omega)) (by decide) q27).nl).one one_nil)) rfl (fun w28 b28 q28 => ?_)
 have z28 := Nat.le_of_eq q28.size.symm
 have e28 : Ext w w28 := q28.ext e27 (by omega)
 refine WL_end [(4, _)] ⟨rfl, trivial⟩ ?_
 refine WP_ret ?_
 refine retL Tryd.results67 (.cell rfl S24 b28 rfl .nil) ?_
 have hz : idq (p * 2 ^ m) (q : Int) = cutq p q (m : Int) := by unfold cutq; rw [if_neg (by omega), idq_pos hqp, Int.toNat_natCast]
 rw [← hz]
 exact ⟨_, rfl, e28, _, rfl, (((((hq23.ext e24).ext e25).chgBk (b24.ext e25) (by decide) q26).chgBk (b25.chg q26 (by first | assumption | omega)) (by decide) q27).chgBk ((((((((((((b2.ext e3).ext e4).ext hy15).chg q19 (by first | assumption | omega)).chg q20 (by first | assumption | omega)).ext e21).chg q22 (by first | assumption | omega)).ext e23).ext e24).ext e25).chg q26 (by first | assumption | omega)).chg q27 (by first | assumption | omega)) (by decide) q28).mono (by omega)⟩
theorem rcut_n {w : World} {vp vq : Value} {p : Int} {m : Nat} {q : Nat} {bp : Bool} (hbp : bp = decide (p < 0)) (hp : Nl w vp (dig p.natAbs)) (hq : Nl w vq (dig q)) (hlp : (dig p.natAbs).length ≤ 9000) (hlq : (dig q).length ≤ 9000) (hq0 : q ≠ 0) (hm : m ≤ 9000) (hm0 : 0 < m) (htz : tz q ≠ bl q - 1) :
    Calls Tryd.prog 67 #[.agg #[.bool bp, vp, vq], .int .i64 (-((m : Nat) : Int))] w (Ret w fun r w' => ∃ qv, r = .agg #[.bool (decide ((cutq p q (-((m : Nat) : Int))) < 0)), qv] ∧ No w.heap.size 111 w' qv (dig (cutq p q (-((m : Nat) : Int))).natAbs)) := by
 subst hbp
 have hqI : (dig (q : Int).natAbs).length ≤ 9000 := by rw [Int.natAbs_natCast]; exact hlq
 have hqp : (0 : Int) < (q : Nat) := by omega
 have hb1 : 1 ≤ bl q := by rcases Nat.eq_zero_or_pos (bl q) with e | e; rw [bl_zero_iff] at e; exact absurd e hq0; exact e
 have hbd := bl_dig q
 have hS1 := shl_len' (k := m) hlp
 have hS2 := shl_len' (k := m) hqI
 have hp2 := ipow_pos m
 have hn0 : (q : Int) * 2 ^ m ≠ 0 := by have := Int.mul_pos hqp hp2; omega
 have hn1 : (q : Int) ≠ 0 := by omega
 refine enter (args := [_, _]) Tryd.func67 rfl Tryd.ntmps67 rfl ?_
 refine WP_seq ?_
 refine WP_region ?_
 refine O_box _ rfl rfl rfl rfl (fun g1 w1 b1 e1 gl1 gh1 => ?_)
 have z1 := e1.size
 refine O_alloc S24 rfl rfl (fun g2 w2 b2 e2 gl2 gh2 => ?_)
 have z2 := e2.size
 refine WL_end [(1, _), (2, _), (4, _)] ⟨rfl, rfl, rfl, trivial⟩ ?_
 refine WP_seq ?_
 refine WP_region ?_
 refine O_field F40_1 rfl rfl rfl ?_
 refine O_loadC Tryd.underlying22 rfl rfl rfl rfl (b1.ext e2) rfl ?_
 refine O_call enters120 rfl rfl rfl (rbits_c (hq.ext (e1.trans e2)) (by (try simp only [lens]); omega)) (fun v3 w3 e3 h3 => ?_)
 have z3 := e3.size
 obtain rfl := h3
 simp only [val_dig]
 refine O_sub (r := ((bl q - 1 : Nat) : Int)) rfl rfl rfl rfl (by rw [IntKind.wrap_i64]; omega) ?_
 refine O_assign rfl rfl rfl ?_
 refine WL_end [(1, _), (2, _), (4, _), (5, _)] ⟨rfl, rfl, rfl, rfl, trivial⟩ ?_
 refine WP_seq ?_
 refine WP_seq ?_
 refine WP_region ?_
 refine O_field F40_1 rfl rfl rfl ?_
 refine O_loadC Tryd.underlying22 rfl rfl rfl rfl ((b1.ext e2).ext e3) rfl ?_
 refine O_call enters109 rfl rfl rfl (rzeros_c (hq.ext ((e1.trans e2).trans e3)) (by (try simp only [lens]); omega)) (fun v4 w4 e4 h4 => ?_)
 have z4 := e4.size
 obtain rfl := h4
 simp only [val_dig]
 refine O_move rfl rfl rfl ?_
 refine O_eql (t := false) rfl rfl rfl rfl (decide_eq_false (by omega)) ?_
 refine WL_end [(1, _), (2, _), (4, _), (5, _), (19, _)] ⟨rfl, rfl, rfl, rfl, rfl, trivial⟩ ?_
 refine WP_condF rfl ?_
 refine WP_skip ?_
 refine WP_seq ?_
 refine WP_sub [(1, _), (2, _), (4, _)] ⟨rfl, rfl, rfl, trivial⟩ ?_
 refine WP_anyR 7 [1, 2, 4] mixed rfl (by kernel_rfl) ?_
 apply AnyR_val [2] rfl (by kernel_rfl)
 · --
  intro y5 hy5
  have zy5 := hy5.size
  refine AllV_nil ?_
  refine O_field F40_0 rfl rfl rfl ?_
  exact WL_nil ⟨(Ext.refl _), rfl⟩
 apply AnyR_val [35] rfl (by kernel_rfl)
 · --
  intro y6 hy6
  have zy6 := hy6.size
  refine AllV_v ?_
  refine AllV_nil ?_
  refine O_loadA (vs := [_, _]) S24 rfl rfl rfl ((((b1.ext e2).ext e3).ext e4).ext hy6) rfl rfl ?_
  exact WL_nil ⟨(Ext.refl _), rfl⟩
 apply AnyR_val [2] rfl (by kernel_rfl)
 · --
  intro y7 hy7
  have zy7 := hy7.size
  refine AllV_nil ?_
  refine O_field F40_1 rfl rfl rfl ?_
  exact WL_nil ⟨(Ext.refl _), rfl⟩
 apply AnyR_val [37] rfl (by kernel_rfl)
 · --
  intro y8 hy8
  have zy8 := hy8.size
  refine AllV_v ?_
  refine AllV_nil ?_
  refine O_loadC Tryd.underlying22 rfl rfl rfl rfl ((((b1.ext e2).ext e3).ext e4).ext hy8) rfl ?_
  exact WL_nil ⟨(Ext.refl _), rfl⟩
 apply AnyR_rel (RelP (pAgg [pEq _, pNo w4.heap.size 111 _])) [38] rfl (RelP.mono (pAgg_mono (PsM.cons pEq_mono (PsM.cons pNo_mono PsM.nil)))) (by kernel_rfl)
 · --
  intro y9 hy9
  have zy9 := hy9.size
  refine AllV_v ?_
  refine AllV_nil ?_
  refine O_call enters85 rfl rfl rfl (rinat_c (hq.ext ((((e1.trans e2).trans e3).trans e4).trans hy9)) (by (try simp only [lens]); omega)) (fun v10 w10 e10 h10 => ?_)
  have z10 := e10.size
  try simp only [val_dig] at h10
  obtain ⟨q10, rfl, hq10⟩ := h10
  simp only [mkf] at hq10 ⊢
  exact WL_nil ⟨e10, _, rfl, ⟨_, rfl, (AllP.cons rfl (AllP.cons (hq10.mono (by omega)) AllP.nil))⟩⟩
 apply AnyR_rel (BkR _ _) [] rfl BkR.mono (by kernel_rfl)
 · --
  intro y11 hy11
  have zy11 := hy11.size
  refine AllV_nil ?_
  refine O_alloc S24 rfl rfl (fun g12 w12 b12 e12 gl12 gh12 => ?_)
  have z12 := e12.size
  exact WL_nil ⟨e12, _, rfl, _, rfl, gl12, gh12, b12⟩
 apply AnyR_rel (BkR _ _) [] rfl BkR.mono (by kernel_rfl)
 · --
  intro y13 hy13
  have zy13 := hy13.size
  refine AllV_nil ?_
  refine O_alloc S24 rfl rfl (fun g14 w14 b14 e14 gl14 gh14 => ?_)
  have z14 := e14.size
  exact WL_nil ⟨e14, _, rfl, _, rfl, gl14, gh14, b14⟩
 refine AnyR_nil fun y15 hy15 => ?_
 have zy15 := hy15.size
 refine AllV_v ?_
 refine AllV_v ?_
 refine AllV_v ?_
 refine AllV_v ?_
 refine AllV_r fun a16 b16 v16 la16 lb16 lc16 h16 ap16 => ?_
 clear ap16
 obtain ⟨_, rfl, v16_0, _, rfl, rfl, v16_1, _, rfl, h16_1, rfl⟩ := h16
 refine AllV_r fun a17 b17 v17 la17 lb17 lc17 h17 ap17 => ?_
 clear ap17
 obtain ⟨g17, rfl, gl17, gh17, b17⟩ := h17
 refine AllV_r fun a18 b18 v18 la18 lb18 lc18 h18 ap18 => ?_
 obtain ⟨p18_17, -, -⟩ := ap18
 obtain ⟨g18, rfl, gl18, gh18, b18⟩ := h18
 have ne18_17 := ap_ne p18_17 gl18 gh18 gl17 gh17
 have ne17_18 := ne18_17.symm
 clear p18_17
 refine AllV_nil ?_
 refine O_storeA (cs' := [_, _]) S24 rfl rfl rfl b17 rfl rfl (one_cons rfl (one_cons ((hp.ext ((((e1.trans e2).trans e3).trans e4).trans hy15))).one one_nil)) rfl (fun w19 b19 q19 => ?_)
 have z19 := Nat.le_of_eq q19.size.symm
 have e19 : Ext w w19 := q19.ext ((((e1.trans e2).trans e3).trans e4).trans hy15) (by omega)
 refine O_storeA (cs' := [_, _]) S24 rfl rfl rfl (b18.chg q19 (by first | assumption | omega)) rfl rfl (one_cons rfl (one_cons ((h16_1.chgBk b17 (by decide) q19).nl).one one_nil)) rfl (fun w20 b20 q20 => ?_)
 have z20 := Nat.le_of_eq q20.size.symm
 have e20 : Ext w w20 := q20.ext e19 (by omega)
 refine WL_end [(1, _), (4, _), (6, _), (7, _)] ⟨rfl, rfl, rfl, rfl, trivial⟩ ?_
 refine WP_seq ?_
 refine WP_seq ?_
 refine WP_region ?_
 refine O_move rfl rfl rfl ?_
 refine O_geq (t := false) rfl rfl rfl rfl (decide_eq_false (by omega)) ?_
 refine WL_end [(1, _), (4, _), (6, _), (7, _), (41, _)] ⟨rfl, rfl, rfl, rfl, rfl, trivial⟩ ?_
 refine WP_condF rfl ?_
 refine WP_region ?_
 refine O_loadA (vs := [_, _]) S24 rfl rfl rfl b20 rfl rfl ?_
 refine O_move rfl rfl rfl ?_
 refine O_neg (r := ((m : Nat) : Int)) rfl rfl rfl (by rw [IntKind.wrap_i64]; omega) ?_
 refine O_call enters74 rfl rfl rfl (rishl_c rfl ((h16_1.chgBk b17 (by decide) q19).chgBk (b18.chg q19 (by first | assumption | omega)) (by decide) q20).nl (by (try simp only [lens]); omega) (by (try simp only [lens]); omega)) (fun v21 w21 e21 h21 => ?_)
 have z21 := e21.size
 try simp only [val_dig] at h21
 obtain ⟨q21, rfl, hq21⟩ := h21
 refine O_storeA (cs' := [_, _]) S24 rfl rfl rfl (b20.ext e21) rfl rfl (one_cons rfl (one_cons (hq21.nl).one one_nil)) rfl (fun w22 b22 q22 => ?_)
 have z22 := Nat.le_of_eq q22.size.symm
 have e22 : Ext w w22 := q22.ext (e20.trans e21) (by omega)
 refine WL_end [(4, _), (6, _), (7, _)] ⟨rfl, rfl, rfl, trivial⟩ ?_
 refine WP_seq ?_
 refine WP_region ?_
 refine O_loadA (vs := [_, _]) S24 rfl rfl rfl (((b19.chg q20 (by first | assumption | omega)).ext e21).chg q22 (by first | assumption | omega)) rfl rfl ?_
 refine O_loadA (vs := [_, _]) S24 rfl rfl rfl b22 rfl rfl ?_
 refine O_call enters121 rfl rfl rfl (ridivmod_c rfl (hp.ext e22) rfl (hq21.chgBk (b20.ext e21) (by decide) q22).nl (by (try simp only [lens]); omega) (by (try simp only [lens]); omega) (by first | assumption | omega)) (fun v23 w23 e23 h23 => ?_)
 have z23 := e23.size
 try simp only [val_dig] at h23
 obtain ⟨q23, s23, rfl, hq23, hs23⟩ := h23
 refine O_move rfl rfl rfl ?_
 refine O_extract rfl rfl rfl rfl ?_
 refine O_extract rfl rfl rfl rfl ?_
 refine O_extract rfl rfl rfl rfl ?_
 refine O_alloc S24 rfl rfl (fun g24 w24 b24 e24 gl24 gh24 => ?_)
 have z24 := e24.size
 refine O_alloc S24 rfl rfl (fun g25 w25 b25 e25 gl25 gh25 => ?_)
 have z25 := e25.size
 refine O_storeA (cs' := [_, _]) S24 rfl rfl rfl (b24.ext e25) rfl rfl (one_cons rfl (one_cons (((hq23.ext e24).ext e25).nl).one one_nil)) rfl (fun w26 b26 q26 => ?_)
 have z26 := Nat.le_of_eq q26.size.symm
 have e26 : Ext w w26 := q26.ext (((e22.trans e23).trans e24).trans e25) (by omega)
 refine O_storeA (cs' := [_, _]) S24 rfl rfl rfl (b25.chg q26 (by first | assumption | omega)) rfl rfl (one_cons rfl (one_cons ((((hs23.ext e24).ext e25).chgBk (b24.ext e25) (by decide) q26).nl).one one_nil)) rfl (fun w27 b27 q27 => ?_)
 have z27 := Nat.le_of_eq q27.size.symm
 have e27 : Ext w w27 := q27.ext e26 (by omega)
 refine O_assign rfl rfl rfl ?_
 refine WL_end [(4, _), (8, _)] ⟨rfl, rfl, trivial⟩ ?_
 refine WP_seq ?_
 refine WP_region ?_
 refine O_loadA (vs := [_, _]) S24 rfl rfl rfl (b26.chg q27 (by first | assumption | omega)) rfl rfl ?_
 refine O_storeA (cs' := [_, _]) S24 rfl rfl rfl ((((((((((((b2.ext e3).ext e4).ext hy15).chg q19 (by first | assumption | omega)).chg q20 (by first | assumption | omega)).ext e21).chg q22 (by first | assumption | omega)).ext e23).ext e24).ext e25).chg q26 (by first | assumption | omega)).chg q27 (by first | assumption | omega)) rfl rfl (one_cons rfl (one_cons (((((hq23.ext e24).ext e25).chgBk (b24.ext e25) (by decide) q26).chgBk (b25.chg q26 (by first | assumption | omega)) (by decide) q27).nl).one one_nil)) rfl (fun w28 b28 q28 => ?_)
 have z28 := Nat.le_of_eq q28.size.symm
 have e28 : Ext w w28 := q28.ext e27 (by omega)
 refine WL_end [(4, _)] ⟨rfl, trivial⟩ ?_
 refine WP_ret ?_
 refine retL Tryd.results67 (.cell rfl S24 b28 rfl .nil) ?_
 have hz : idq p ((q : Int) * 2 ^ m) = cutq p q (-(m : Int)) := by unfold cutq; rw [if_pos (by omega), idq_pos (Int.mul_pos hqp hp2), Int.neg_neg, Int.toNat_natCast, Int.natCast_mul, two_cast]
 rw [← hz]
 exact ⟨_, rfl, e28, _, rfl, (((((hq23.ext e24).ext e25).chgBk (b24.ext e25) (by decide) q26).chgBk (b25.chg q26 (by first | assumption | omega)) (by decide) q27).chgBk ((((((((((((b2.ext e3).ext e4).ext hy15).chg q19 (by first | assumption | omega)).chg q20 (by first | assumption | omega)).ext e21).chg q22 (by first | assumption | omega)).ext e23).ext e24).ext e25).chg q26 (by first | assumption | omega)).chg q27 (by first | assumption | omega)) (by decide) q28).mono (by omega)⟩

theorem rcut_c {w : World} {vp vq : Value} {p k : Int} {q : Nat} {bp : Bool} (hbp : bp = decide (p < 0)) (hp : Nl w vp (dig p.natAbs)) (hq : Nl w vq (dig q)) (hlp : (dig p.natAbs).length ≤ 9000) (hlq : (dig q).length ≤ 9000) (hq0 : q ≠ 0) (hk1 : -2048 ≤ k) (hk2 : k ≤ 8193) : Calls Tryd.prog 67 #[.agg #[.bool bp, vp, vq], .int .i64 k] w (Ret w fun r w' => ∃ qv, r = .agg #[.bool (decide ((cutq p q k) < 0)), qv] ∧ No w.heap.size 111 w' qv (dig (cutq p q k).natAbs)) := by
  by_cases htz : tz q = bl q - 1
  · exact rcut_two hbp hp hq hlp hlq hq0 hk1 hk2 htz
  · by_cases h0 : 0 ≤ k
    · obtain ⟨m, rfl⟩ : ∃ m : Nat, k = (m : Int) := ⟨k.toNat, by omega⟩
      exact rcut_p hbp hp hq hlp hlq hq0 (by omega) htz
    · obtain ⟨m, rfl⟩ : ∃ m : Nat, k = -(m : Int) := ⟨(-k).toNat, by omega⟩
      exact rcut_n hbp hp hq hlp hlq hq0 (by omega) (by omega) htz

theorem rfloorrat_T {w : World} {vp vq : Value} {p k : Int} {q : Nat} {bp : Bool} (hbp : bp = decide (p < 0)) (hp : Nl w vp (dig p.natAbs)) (hq : Nl w vq (dig q)) (hlp : (dig p.natAbs).length ≤ 9000) (hlq : (dig q).length ≤ 9000) (hq0 : q ≠ 0) (hpm : perm k) :
    Calls Tryd.prog 35 #[.agg #[.bool bp, vp, vq], .int .i64 k] w (Ret w fun r w' => ∃ qv, r = .tuple #[.agg #[.bool (decide ((dman (cutq p q k) (-k)) < 0)), qv, .int .i64 (dexp (cutq p q k) (-k))], .int .i64 (dcode (cutq p q k) (-k))] ∧ No w.heap.size 111 w' qv (dig (dman (cutq p q k) (-k)).natAbs)) := by
 subst hbp
 have hpk := hpm
 unfold perm at hpk
 have hlS := cutq_len (k := k) (m := 9000) hlp (by decide) hq0 (by omega)
 refine enter (args := [_, _]) Tryd.func35 rfl Tryd.ntmps35 rfl ?_
 refine WP_seq ?_
 refine WP_region ?_
 refine O_box _ rfl rfl rfl rfl (fun g1 w1 b1 e1 gl1 gh1 => ?_)
 have z1 := e1.size
 refine O_alloc S26 rfl rfl (fun g2 w2 b2 e2 gl2 gh2 => ?_)
 have z2 := e2.size
 refine O_assign rfl rfl rfl ?_
 refine WL_end [(1, _), (2, _), (4, _)] ⟨rfl, rfl, rfl, trivial⟩ ?_
 refine WP_seq ?_
 refine WP_seq ?_
 refine WP_region ?_
 refine O_move rfl rfl rfl ?_
 refine O_call enters66 rfl rfl rfl (rperm_T hpm) (fun v3 w3 e3 h3 => ?_)
 have z3 := e3.size
 obtain rfl := h3
 refine O_not rfl rfl rfl rfl ?_
 refine WL_end [(1, _), (2, _), (4, _), (8, _)] ⟨rfl, rfl, rfl, rfl, trivial⟩ ?_
 refine WP_condF rfl ?_
 refine WP_skip ?_
 refine WP_seq ?_
 refine WP_region ?_
 refine O_loadA (vs := [_, _, _]) S40 rfl rfl rfl ((b1.ext e2).ext e3) rfl rfl ?_
 refine O_move rfl rfl rfl ?_
 refine O_call enters67 rfl rfl rfl (rcut_c rfl (hp.ext ((e1.trans e2).trans e3)) (hq.ext ((e1.trans e2).trans e3)) (by first | with_reducible assumption | omega) (by first | with_reducible assumption | omega) (by first | with_reducible assumption | omega) (by (try simp only [lens]); omega) (by (try simp only [lens]); omega)) (fun v4 w4 e4 h4 => ?_)
 have z4 := e4.size
 try simp only [val_dig] at h4
 obtain ⟨q4, rfl, hq4⟩ := h4
 refine O_move rfl rfl rfl ?_
 refine O_neg (r := (-k)) rfl rfl rfl (by rw [IntKind.wrap_i64]; omega) ?_
 refine O_call enters56 rfl rfl rfl (rdmake_c rfl hq4.nl (by (try simp only [lens]); omega)) (fun v5 w5 e5 h5 => ?_)
 have z5 := e5.size
 try simp only [val_dig] at h5
 obtain ⟨q5, rfl, hq5⟩ := h5
 refine O_extract rfl rfl rfl rfl ?_
 refine O_extract rfl rfl rfl rfl ?_
 refine O_storeA (cs' := [_, _, _]) S26 rfl rfl rfl (((b2.ext e3).ext e4).ext e5) rfl rfl (one_cons rfl (one_cons (hq5.nl).one (one_cons rfl one_nil))) rfl (fun w6 b6 q6 => ?_)
 have z6 := Nat.le_of_eq q6.size.symm
 have e6 : Ext w w6 := q6.ext ((((e1.trans e2).trans e3).trans e4).trans e5) (by omega)
 refine O_assign rfl rfl rfl ?_
 refine WL_end [(4, _), (5, _)] ⟨rfl, rfl, trivial⟩ ?_
 refine WP_ret ?_
 refine retL Tryd.results35 (.cell rfl S26 b6 rfl (.tmp rfl .nil)) ?_
 exact ⟨_, rfl, e6, _, rfl, (hq5.chgBk (((b2.ext e3).ext e4).ext e5) (by decide) q6).mono (by omega)⟩
theorem rfloorrat_F {w : World} {vp vq : Value} {p k : Int} {q : Nat} {bp : Bool} (hbp : bp = decide (p < 0)) (hp : Nl w vp (dig p.natAbs)) (hq : Nl w vq (dig q)) (hlp : (dig p.natAbs).length ≤ 9000) (hlq : (dig q).length ≤ 9000) (hq0 : q ≠ 0) (hpm : ¬ perm k) :
    Calls Tryd.prog 35 #[.agg #[.bool bp, vp, vq], .int .i64 k] w (Ret w fun r _ => r = .tuple #[.agg #[.bool (decide ((0 : Int) < 0)), .slice none 0 0, .int .i64 (0)], .int .i64 1]) := by
 subst hbp
 refine enter (args := [_, _]) Tryd.func35 rfl Tryd.ntmps35 rfl ?_
 refine WP_seq ?_
 refine WP_region ?_
 refine O_box _ rfl rfl rfl rfl (fun g1 w1 b1 e1 gl1 gh1 => ?_)
 have z1 := e1.size
 refine O_alloc S26 rfl rfl (fun g2 w2 b2 e2 gl2 gh2 => ?_)
 have z2 := e2.size
 refine O_assign rfl rfl rfl ?_
 refine WL_end [(1, _), (2, _), (4, _)] ⟨rfl, rfl, rfl, trivial⟩ ?_
 refine WP_seq ?_
 refine WP_seq ?_
 refine WP_region ?_
 refine O_move rfl rfl rfl ?_
 refine O_call enters66 rfl rfl rfl (rperm_F hpm) (fun v3 w3 e3 h3 => ?_)
 have z3 := e3.size
 obtain rfl := h3
 refine O_not rfl rfl rfl rfl ?_
 refine WL_end [(1, _), (2, _), (4, _), (8, _)] ⟨rfl, rfl, rfl, rfl, trivial⟩ ?_
 refine WP_condT rfl ?_
 refine WP_seq ?_
 refine WP_region ?_
 refine O_build (cs := [_, _, _]) B26 rfl rfl rfl cells_nil rfl ?_
 refine O_storeA (cs' := [_, _, _]) S26 rfl rfl rfl (b2.ext e3) rfl rfl (one_cons rfl (one_cons rfl (one_cons rfl one_nil))) rfl (fun w4 b4 q4 => ?_)
 have z4 := Nat.le_of_eq q4.size.symm
 have e4 : Ext w w4 := q4.ext ((e1.trans e2).trans e3) (by omega)
 refine O_assign rfl rfl rfl ?_
 refine WL_end [(4, _), (5, _)] ⟨rfl, rfl, trivial⟩ ?_
 refine WP_ret ?_
 refine retL Tryd.results35 (.cell rfl S26 b4 rfl (.tmp rfl .nil)) ?_
 exact ⟨_, rfl, e4, rfl⟩

theorem rceilrat_T {w : World} {vp vq : Value} {p k : Int} {q : Nat} {bp : Bool} (hbp : bp = decide (p < 0)) (hp : Nl w vp (dig p.natAbs)) (hq : Nl w vq (dig q)) (hlp : (dig p.natAbs).length ≤ 9000) (hlq : (dig q).length ≤ 9000) (hq0 : q ≠ 0) (hpm : perm k) :
    Calls Tryd.prog 36 #[.agg #[.bool bp, vp, vq], .int .i64 k] w (Ret w fun r w' => ∃ qv, r = .tuple #[.agg #[.bool (decide ((dman (-(cutq (-p) q k)) (-k)) < 0)), qv, .int .i64 (dexp (-(cutq (-p) q k)) (-k))], .int .i64 (dcode (-(cutq (-p) q k)) (-k))] ∧ No w.heap.size 111 w' qv (dig (dman (-(cutq (-p) q k)) (-k)).natAbs)) := by
 subst hbp
 have hpk := hpm
 unfold perm at hpk
 have hln := neg_len hlp
 have hlS := cutq_len (k := k) (m := 9000) hln (by decide) hq0 (by omega)
 have hlT := neg_len hlS
 refine enter (args := [_, _]) Tryd.func36 rfl Tryd.ntmps36 rfl ?_
 refine WP_seq ?_
 refine WP_region ?_
 refine O_box _ rfl rfl rfl rfl (fun g1 w1 b1 e1 gl1 gh1 => ?_)
 have z1 := e1.size
 refine O_alloc S26 rfl rfl (fun g2 w2 b2 e2 gl2 gh2 => ?_)
 have z2 := e2.size
 refine O_assign rfl rfl rfl ?_
 refine WL_end [(1, _), (2, _), (4, _)] ⟨rfl, rfl, rfl, trivial⟩ ?_
 refine WP_seq ?_
 refine WP_seq ?_
 refine WP_region ?_
 refine O_move rfl rfl rfl ?_
 refine O_call enters66 rfl rfl rfl (rperm_T hpm) (fun v3 w3 e3 h3 => ?_)
 have z3 := e3.size
 obtain rfl := h3
 refine O_not rfl rfl rfl rfl ?_
 refine WL_end [(1, _), (2, _), (4, _), (8, _)] ⟨rfl, rfl, rfl, rfl, trivial⟩ ?_
 refine WP_condF rfl ?_
 refine WP_skip ?_
 refine WP_seq ?_
 refine WP_region ?_
 refine O_loadA (vs := [_, _, _]) S40 rfl rfl rfl ((b1.ext e2).ext e3) rfl rfl ?_
 refine O_call enters28 rfl rfl rfl (rneg07_c rfl (hp.ext ((e1.trans e2).trans e3)) (hq.ext ((e1.trans e2).trans e3)) (by first | with_reducible assumption | omega) (by first | with_reducible assumption | omega)) (fun v4 w4 e4 h4 => ?_)
 have z4 := e4.size
 try simp only [val_dig] at h4
 obtain ⟨rq4, rs4, rfl, hrq4, hrs4⟩ := h4
 refine O_move rfl rfl rfl ?_
 refine O_call enters67 rfl rfl rfl (rcut_c rfl hrq4 hrs4 (by first | with_reducible assumption | omega) (by first | with_reducible assumption | omega) (by first | with_reducible assumption | omega) (by (try simp only [lens]); omega) (by (try simp only [lens]); omega)) (fun v5 w5 e5 h5 => ?_)
 have z5 := e5.size
 try simp only [val_dig] at h5
 obtain ⟨q5, rfl, hq5⟩ := h5
 refine O_call enters82 rfl rfl rfl (rineg_c rfl hq5.nl (by (try simp only [lens]); omega)) (fun v6 w6 e6 h6 => ?_)
 have z6 := e6.size
 try simp only [val_dig] at h6
 obtain ⟨q6, rfl, hq6⟩ := h6
 refine O_move rfl rfl rfl ?_
 refine O_neg (r := (-k)) rfl rfl rfl (by rw [IntKind.wrap_i64]; omega) ?_
 refine O_call enters56 rfl rfl rfl (rdmake_c rfl hq6.nl (by (try simp only [lens]); omega)) (fun v7 w7 e7 h7 => ?_)
 have z7 := e7.size
 try simp only [val_dig] at h7
 obtain ⟨q7, rfl, hq7⟩ := h7
 refine O_extract rfl rfl rfl rfl ?_
 refine O_extract rfl rfl rfl rfl ?_
 refine O_storeA (cs' := [_, _, _]) S26 rfl rfl rfl (((((b2.ext e3).ext e4).ext e5).ext e6).ext e7) rfl rfl (one_cons rfl (one_cons (hq7.nl).one (one_cons rfl one_nil))) rfl (fun w8 b8 q8 => ?_)
 have z8 := Nat.le_of_eq q8.size.symm
 have e8 : Ext w w8 := q8.ext ((((((e1.trans e2).trans e3).trans e4).trans e5).trans e6).trans e7) (by omega)
 refine O_assign rfl rfl rfl ?_
 refine WL_end [(4, _), (5, _)] ⟨rfl, rfl, trivial⟩ ?_
 refine WP_ret ?_
 refine retL Tryd.results36 (.cell rfl S26 b8 rfl (.tmp rfl .nil)) ?_
 exact ⟨_, rfl, e8, _, rfl, (hq7.chgBk (((((b2.ext e3).ext e4).ext e5).ext e6).ext e7) (by decide) q8).mono (by omega)⟩
theorem rceilrat_F {w : World} {vp vq : Value} {p k : Int} {q : Nat} {bp : Bool} (hbp : bp = decide (p < 0)) (hp : Nl w vp (dig p.natAbs)) (hq : Nl w vq (dig q)) (hlp : (dig p.natAbs).length ≤ 9000) (hlq : (dig q).length ≤ 9000) (hq0 : q ≠ 0) (hpm : ¬ perm k) :
    Calls Tryd.prog 36 #[.agg #[.bool bp, vp, vq], .int .i64 k] w (Ret w fun r _ => r = .tuple #[.agg #[.bool (decide ((0 : Int) < 0)), .slice none 0 0, .int .i64 (0)], .int .i64 1]) := by
 subst hbp
 refine enter (args := [_, _]) Tryd.func36 rfl Tryd.ntmps36 rfl ?_
 refine WP_seq ?_
 refine WP_region ?_
 refine O_box _ rfl rfl rfl rfl (fun g1 w1 b1 e1 gl1 gh1 => ?_)
 have z1 := e1.size
 refine O_alloc S26 rfl rfl (fun g2 w2 b2 e2 gl2 gh2 => ?_)
 have z2 := e2.size
 refine O_assign rfl rfl rfl ?_
 refine WL_end [(1, _), (2, _), (4, _)] ⟨rfl, rfl, rfl, trivial⟩ ?_
 refine WP_seq ?_
 refine WP_seq ?_
 refine WP_region ?_
 refine O_move rfl rfl rfl ?_
 refine O_call enters66 rfl rfl rfl (rperm_F hpm) (fun v3 w3 e3 h3 => ?_)
 have z3 := e3.size
 obtain rfl := h3
 refine O_not rfl rfl rfl rfl ?_
 refine WL_end [(1, _), (2, _), (4, _), (8, _)] ⟨rfl, rfl, rfl, rfl, trivial⟩ ?_
 refine WP_condT rfl ?_
 refine WP_seq ?_
 refine WP_region ?_
 refine O_build (cs := [_, _, _]) B26 rfl rfl rfl cells_nil rfl ?_
 refine O_storeA (cs' := [_, _, _]) S26 rfl rfl rfl (b2.ext e3) rfl rfl (one_cons rfl (one_cons rfl (one_cons rfl one_nil))) rfl (fun w4 b4 q4 => ?_)
 have z4 := Nat.le_of_eq q4.size.symm
 have e4 : Ext w w4 := q4.ext ((e1.trans e2).trans e3) (by omega)
 refine O_assign rfl rfl rfl ?_
 refine WL_end [(4, _), (5, _)] ⟨rfl, rfl, trivial⟩ ?_
 refine WP_ret ?_
 refine retL Tryd.results36 (.cell rfl S26 b4 rfl (.tmp rfl .nil)) ?_
 exact ⟨_, rfl, e4, rfl⟩

theorem rfloor_T {w : World} {vx : Value} {x e k : Int} {bx : Bool} (hbx : bx = decide (x < 0)) (hx : Nl w vx (dig x.natAbs)) (hvx : dval x e = true) (hpm : perm k) :
    Calls Tryd.prog 17 #[.agg #[.bool bx, vx, .int .i64 e], .int .i64 k] w (Ret w fun r w' => ∃ q, r = .tuple #[.agg #[.bool (decide ((dman (scl x (e + k)) (-k)) < 0)), q, .int .i64 (dexp (scl x (e + k)) (-k))], .int .i64 (dcode (scl x (e + k)) (-k))] ∧ No w.heap.size 111 w' q (dig (dman (scl x (e + k)) (-k)).natAbs)) := by
 subst hbx
 have hRx := dval_range hvx
 have hlx : (dig x.natAbs).length ≤ 2049 := dval_len hvx
 have hpk := hpm
 unfold perm at hpk
 have hn1 := rnum_len (e := e) hlx (by omega)
 have hm1 := rden_len (e := e) (by omega)
 have hd0 : rden e ≠ 0 := Nat.ne_of_gt (rden_pos e)
 refine enter (args := [_, _]) Tryd.func17 rfl Tryd.ntmps17 rfl ?_
 refine WP_seq ?_
 refine WP_region ?_
 refine O_box _ rfl rfl rfl rfl (fun g1 w1 b1 e1 gl1 gh1 => ?_)
 have z1 := e1.size
 refine O_alloc S26 rfl rfl (fun g2 w2 b2 e2 gl2 gh2 => ?_)
 have z2 := e2.size
 refine O_assign rfl rfl rfl ?_
 refine WL_end [(1, _), (2, _), (4, _)] ⟨rfl, rfl, rfl, trivial⟩ ?_
 refine WP_seq ?_
 refine WP_region ?_
 refine O_loadA (vs := [_, _, _]) S26 rfl rfl rfl (b1.ext e2) rfl rfl ?_
 refine O_call enters24 rfl rfl rfl (rdrat_c rfl (hx.ext (e1.trans e2)) (by (try simp only [lens]); omega) (by (try simp only [lens]); omega) (by (try simp only [lens]); omega)) (fun v3 w3 e3 h3 => ?_)
 have z3 := e3.size
 try simp only [val_dig] at h3
 obtain ⟨rq3, rs3, rfl, hrq3, hrs3⟩ := h3
 refine O_move rfl rfl rfl ?_
 refine O_call enters35 rfl rfl rfl (rfloorrat_T rfl hrq3 hrs3 (by first | with_reducible assumption | omega) (by first | with_reducible assumption | omega) (by first | with_reducible assumption | omega) hpm) (fun v4 w4 e4 h4 => ?_)
 have z4 := e4.size
 try simp only [val_dig] at h4
 obtain ⟨q4, rfl, hq4⟩ := h4
 refine O_extract rfl rfl rfl rfl ?_
 refine O_extract rfl rfl rfl rfl ?_
 refine O_storeA (cs' := [_, _, _]) S26 rfl rfl rfl ((b2.ext e3).ext e4) rfl rfl (one_cons rfl (one_cons (hq4.nl).one (one_cons rfl one_nil))) rfl (fun w5 b5 q5 => ?_)
 have z5 := Nat.le_of_eq q5.size.symm
 have e5 : Ext w w5 := q5.ext (((e1.trans e2).trans e3).trans e4) (by omega)
 refine O_assign rfl rfl rfl ?_
 refine WL_end [(4, _), (5, _)] ⟨rfl, rfl, trivial⟩ ?_
 refine WP_ret ?_
 refine retL Tryd.results17 (.cell rfl S26 b5 rfl (.tmp rfl .nil)) ?_
 have hz : cutq (rnum x e) (rden e) k = scl x (e + k) := cutq_rat x e k
 rw [← hz]
 exact ⟨_, rfl, e5, _, rfl, (hq4.chgBk ((b2.ext e3).ext e4) (by decide) q5).mono (by omega)⟩
theorem rfloor_F {w : World} {vx : Value} {x e k : Int} {bx : Bool} (hbx : bx = decide (x < 0)) (hx : Nl w vx (dig x.natAbs)) (hvx : dval x e = true) (hpm : ¬ perm k) :
    Calls Tryd.prog 17 #[.agg #[.bool bx, vx, .int .i64 e], .int .i64 k] w (Ret w fun r _ => r = .tuple #[.agg #[.bool (decide ((0 : Int) < 0)), .slice none 0 0, .int .i64 (0)], .int .i64 1]) := by
 subst hbx
 have hRx := dval_range hvx
 have hlx : (dig x.natAbs).length ≤ 2049 := dval_len hvx
 have hn1 := rnum_len (e := e) hlx (by omega)
 have hm1 := rden_len (e := e) (by omega)
 have hd0 : rden e ≠ 0 := Nat.ne_of_gt (rden_pos e)
 refine enter (args := [_, _]) Tryd.func17 rfl Tryd.ntmps17 rfl ?_
 refine WP_seq ?_
 refine WP_region ?_
 refine O_box _ rfl rfl rfl rfl (fun g1 w1 b1 e1 gl1 gh1 => ?_)
 have z1 := e1.size
 refine O_alloc S26 rfl rfl (fun g2 w2 b2 e2 gl2 gh2 => ?_)
 have z2 := e2.size
 refine O_assign rfl rfl rfl ?_
 refine WL_end [(1, _), (2, _), (4, _)] ⟨rfl, rfl, rfl, trivial⟩ ?_
 refine WP_seq ?_
 refine WP_region ?_
 refine O_loadA (vs := [_, _, _]) S26 rfl rfl rfl (b1.ext e2) rfl rfl ?_
 refine O_call enters24 rfl rfl rfl (rdrat_c rfl (hx.ext (e1.trans e2)) (by (try simp only [lens]); omega) (by (try simp only [lens]); omega) (by (try simp only [lens]); omega)) (fun v3 w3 e3 h3 => ?_)
 have z3 := e3.size
 try simp only [val_dig] at h3
 obtain ⟨rq3, rs3, rfl, hrq3, hrs3⟩ := h3
 refine O_move rfl rfl rfl ?_
 refine O_call enters35 rfl rfl rfl (rfloorrat_F rfl hrq3 hrs3 (by first | with_reducible assumption | omega) (by first | with_reducible assumption | omega) (by first | with_reducible assumption | omega) hpm) (fun v4 w4 e4 h4 => ?_)
 have z4 := e4.size
 try simp only [val_dig] at h4
 obtain rfl := h4
 refine O_extract rfl rfl rfl rfl ?_
 refine O_extract rfl rfl rfl rfl ?_
 refine O_storeA (cs' := [_, _, _]) S26 rfl rfl rfl ((b2.ext e3).ext e4) rfl rfl (one_cons rfl (one_cons rfl (one_cons rfl one_nil))) rfl (fun w5 b5 q5 => ?_)
 have z5 := Nat.le_of_eq q5.size.symm
 have e5 : Ext w w5 := q5.ext (((e1.trans e2).trans e3).trans e4) (by omega)
 refine O_assign rfl rfl rfl ?_
 refine WL_end [(4, _), (5, _)] ⟨rfl, rfl, trivial⟩ ?_
 refine WP_ret ?_
 refine retL Tryd.results17 (.cell rfl S26 b5 rfl (.tmp rfl .nil)) ?_
 exact ⟨_, rfl, e5, rfl⟩

theorem rceil_T {w : World} {vx : Value} {x e k : Int} {bx : Bool} (hbx : bx = decide (x < 0)) (hx : Nl w vx (dig x.natAbs)) (hvx : dval x e = true) (hpm : perm k) :
    Calls Tryd.prog 18 #[.agg #[.bool bx, vx, .int .i64 e], .int .i64 k] w (Ret w fun r w' => ∃ q, r = .tuple #[.agg #[.bool (decide ((dman (-(scl (-x) (e + k))) (-k)) < 0)), q, .int .i64 (dexp (-(scl (-x) (e + k))) (-k))], .int .i64 (dcode (-(scl (-x) (e + k))) (-k))] ∧ No w.heap.size 111 w' q (dig (dman (-(scl (-x) (e + k))) (-k)).natAbs)) := by
 subst hbx
 have hRx := dval_range hvx
 have hlx : (dig x.natAbs).length ≤ 2049 := dval_len hvx
 have hpk := hpm
 unfold perm at hpk
 have hn1 := rnum_len (e := e) hlx (by omega)
 have hm1 := rden_len (e := e) (by omega)
 have hd0 : rden e ≠ 0 := Nat.ne_of_gt (rden_pos e)
 refine enter (args := [_, _]) Tryd.func18 rfl Tryd.ntmps18 rfl ?_
 refine WP_seq ?_
 refine WP_region ?_
 refine O_box _ rfl rfl rfl rfl (fun g1 w1 b1 e1 gl1 gh1 => ?_)
 have z1 := e1.size
 refine O_alloc S26 rfl rfl (fun g2 w2 b2 e2 gl2 gh2 => ?_)
 have z2 := e2.size
 refine O_assign rfl rfl rfl ?_
 refine WL_end [(1, _), (2, _), (4, _)] ⟨rfl, rfl, rfl, trivial⟩ ?_
 refine WP_seq ?_
 refine WP_region ?_
 refine O_loadA (vs := [_, _, _]) S26 rfl rfl rfl (b1.ext e2) rfl rfl ?_
 refine O_call enters24 rfl rfl rfl (rdrat_c rfl (hx.ext (e1.trans e2)) (by (try simp only [lens]); omega) (by (try simp only [lens]); omega) (by (try simp only [lens]); omega)) (fun v3 w3 e3 h3 => ?_)
 have z3 := e3.size
 try simp only [val_dig] at h3
 obtain ⟨rq3, rs3, rfl, hrq3, hrs3⟩ := h3
 refine O_move rfl rfl rfl ?_
 refine O_call enters36 rfl rfl rfl (rceilrat_T rfl hrq3 hrs3 (by first | with_reducible assumption | omega) (by first | with_reducible assumption | omega) (by first | with_reducible assumption | omega) hpm) (fun v4 w4 e4 h4 => ?_)
 have z4 := e4.size
 try simp only [val_dig] at h4
 obtain ⟨q4, rfl, hq4⟩ := h4
 refine O_extract rfl rfl rfl rfl ?_
 refine O_extract rfl rfl rfl rfl ?_
 refine O_storeA (cs' := [_, _, _]) S26 rfl rfl rfl ((b2.ext e3).ext e4) rfl rfl (one_cons rfl (one_cons (hq4.nl).one (one_cons rfl one_nil))) rfl (fun w5 b5 q5 => ?_)
 have z5 := Nat.le_of_eq q5.size.symm
 have e5 : Ext w w5 := q5.ext (((e1.trans e2).trans e3).trans e4) (by omega)
 refine O_assign rfl rfl rfl ?_
 refine WL_end [(4, _), (5, _)] ⟨rfl, rfl, trivial⟩ ?_
 refine WP_ret ?_
 refine retL Tryd.results18 (.cell rfl S26 b5 rfl (.tmp rfl .nil)) ?_
 have hz : cutq (-(rnum x e)) (rden e) k = scl (-x) (e + k) := by rw [show -(rnum x e) = rnum (-x) e from by unfold rnum; split; exact (Int.neg_mul _ _).symm; rfl]; exact cutq_rat _ _ _
 rw [← hz]
 exact ⟨_, rfl, e5, _, rfl, (hq4.chgBk ((b2.ext e3).ext e4) (by decide) q5).mono (by omega)⟩
theorem rceil_F {w : World} {vx : Value} {x e k : Int} {bx : Bool} (hbx : bx = decide (x < 0)) (hx : Nl w vx (dig x.natAbs)) (hvx : dval x e = true) (hpm : ¬ perm k) :
    Calls Tryd.prog 18 #[.agg #[.bool bx, vx, .int .i64 e], .int .i64 k] w (Ret w fun r _ => r = .tuple #[.agg #[.bool (decide ((0 : Int) < 0)), .slice none 0 0, .int .i64 (0)], .int .i64 1]) := by
 subst hbx
 have hRx := dval_range hvx
 have hlx : (dig x.natAbs).length ≤ 2049 := dval_len hvx
 have hn1 := rnum_len (e := e) hlx (by omega)
 have hm1 := rden_len (e := e) (by omega)
 have hd0 : rden e ≠ 0 := Nat.ne_of_gt (rden_pos e)
 refine enter (args := [_, _]) Tryd.func18 rfl Tryd.ntmps18 rfl ?_
 refine WP_seq ?_
 refine WP_region ?_
 refine O_box _ rfl rfl rfl rfl (fun g1 w1 b1 e1 gl1 gh1 => ?_)
 have z1 := e1.size
 refine O_alloc S26 rfl rfl (fun g2 w2 b2 e2 gl2 gh2 => ?_)
 have z2 := e2.size
 refine O_assign rfl rfl rfl ?_
 refine WL_end [(1, _), (2, _), (4, _)] ⟨rfl, rfl, rfl, trivial⟩ ?_
 refine WP_seq ?_
 refine WP_region ?_
 refine O_loadA (vs := [_, _, _]) S26 rfl rfl rfl (b1.ext e2) rfl rfl ?_
 refine O_call enters24 rfl rfl rfl (rdrat_c rfl (hx.ext (e1.trans e2)) (by (try simp only [lens]); omega) (by (try simp only [lens]); omega) (by (try simp only [lens]); omega)) (fun v3 w3 e3 h3 => ?_)
 have z3 := e3.size
 try simp only [val_dig] at h3
 obtain ⟨rq3, rs3, rfl, hrq3, hrs3⟩ := h3
 refine O_move rfl rfl rfl ?_
 refine O_call enters36 rfl rfl rfl (rceilrat_F rfl hrq3 hrs3 (by first | with_reducible assumption | omega) (by first | with_reducible assumption | omega) (by first | with_reducible assumption | omega) hpm) (fun v4 w4 e4 h4 => ?_)
 have z4 := e4.size
 try simp only [val_dig] at h4
 obtain rfl := h4
 refine O_extract rfl rfl rfl rfl ?_
 refine O_extract rfl rfl rfl rfl ?_
 refine O_storeA (cs' := [_, _, _]) S26 rfl rfl rfl ((b2.ext e3).ext e4) rfl rfl (one_cons rfl (one_cons rfl (one_cons rfl one_nil))) rfl (fun w5 b5 q5 => ?_)
 have z5 := Nat.le_of_eq q5.size.symm
 have e5 : Ext w w5 := q5.ext (((e1.trans e2).trans e3).trans e4) (by omega)
 refine O_assign rfl rfl rfl ?_
 refine WL_end [(4, _), (5, _)] ⟨rfl, rfl, trivial⟩ ?_
 refine WP_ret ?_
 refine retL Tryd.results18 (.cell rfl S26 b5 rfl (.tmp rfl .nil)) ?_
 exact ⟨_, rfl, e5, rfl⟩

theorem rnear_T {w : World} {vx : Value} {x e k : Int} {bx : Bool} (hbx : bx = decide (x < 0)) (hx : Nl w vx (dig x.natAbs)) (hvx : dval x e = true) (hpm : perm k) :
    Calls Tryd.prog 19 #[.agg #[.bool bx, vx, .int .i64 e], .int .i64 k] w (Ret w fun r w' => ∃ q, r = .tuple #[.agg #[.bool (decide ((dman (ner x (e + k)) (-k)) < 0)), q, .int .i64 (dexp (ner x (e + k)) (-k))], .int .i64 (dcode (ner x (e + k)) (-k))] ∧ No w.heap.size 111 w' q (dig (dman (ner x (e + k)) (-k)).natAbs)) := by
 subst hbx
 have hRx := dval_range hvx
 have hlx : (dig x.natAbs).length ≤ 2049 := dval_len hvx
 have hpk := hpm
 unfold perm at hpk
 have hlS := ner_len (n := e + k) (m := 80000) hlx (by omega)
 have hn1 := rnum_len (e := e) hlx (by omega)
 have hm1 := rden_len (e := e) (by omega)
 have hd0 : rden e ≠ 0 := Nat.ne_of_gt (rden_pos e)
 have hs1 := scl_len (n := e + (k + 1)) (m := 80000) hlx (by omega)
 have hs2 : (dig (1 : Int).natAbs).length ≤ 1 := dig_len_of_lt (by decide)
 have hs3 := add_len hs1 hs2
 refine enter (args := [_, _]) Tryd.func19 rfl Tryd.ntmps19 rfl ?_
 refine WP_seq ?_
 refine WP_region ?_
 refine O_box _ rfl rfl rfl rfl (fun g1 w1 b1 e1 gl1 gh1 => ?_)
 have z1 := e1.size
 refine O_alloc S26 rfl rfl (fun g2 w2 b2 e2 gl2 gh2 => ?_)
 have z2 := e2.size
 refine O_assign rfl rfl rfl ?_
 refine WL_end [(1, _), (2, _), (4, _)] ⟨rfl, rfl, rfl, trivial⟩ ?_
 refine WP_seq ?_
 refine WP_seq ?_
 refine WP_region ?_
 refine O_move rfl rfl rfl ?_
 refine O_call enters66 rfl rfl rfl (rperm_T hpm) (fun v3 w3 e3 h3 => ?_)
 have z3 := e3.size
 obtain rfl := h3
 refine O_not rfl rfl rfl rfl ?_
 refine WL_end [(1, _), (2, _), (4, _), (9, _)] ⟨rfl, rfl, rfl, rfl, trivial⟩ ?_
 refine WP_condF rfl ?_
 refine WP_skip ?_
 refine WP_seq ?_
 refine WP_region ?_
 refine O_loadA (vs := [_, _, _]) S26 rfl rfl rfl ((b1.ext e2).ext e3) rfl rfl ?_
 refine O_call enters24 rfl rfl rfl (rdrat_c rfl (hx.ext ((e1.trans e2).trans e3)) (by (try simp only [lens]); omega) (by (try simp only [lens]); omega) (by (try simp only [lens]); omega)) (fun v4 w4 e4 h4 => ?_)
 have z4 := e4.size
 try simp only [val_dig] at h4
 obtain ⟨rq4, rs4, rfl, hrq4, hrs4⟩ := h4
 refine O_move rfl rfl rfl ?_
 refine O_add rfl rfl rfl rfl (wrap_i64_id (by omega) (by omega)) ?_
 refine O_call enters67 rfl rfl rfl (rcut_c rfl hrq4 hrs4 (by first | with_reducible assumption | omega) (by first | with_reducible assumption | omega) (by first | with_reducible assumption | omega) (by (try simp only [lens]); omega) (by (try simp only [lens]); omega)) (fun v5 w5 e5 h5 => ?_)
 have z5 := e5.size
 try simp only [val_dig] at h5
 obtain ⟨q5, rfl, hq5⟩ := h5
 rw [cutq_rat x e (k + 1)] at hq5 ⊢
 refine O_alloc S24 rfl rfl (fun g6 w6 b6 e6 gl6 gh6 => ?_)
 have z6 := e6.size
 refine O_storeA (cs' := [_, _]) S24 rfl rfl rfl b6 rfl rfl (one_cons rfl (one_cons ((hq5.ext e6).nl).one one_nil)) rfl (fun w7 b7 q7 => ?_)
 have z7 := Nat.le_of_eq q7.size.symm
 have e7 : Ext w w7 := q7.ext (((((e1.trans e2).trans e3).trans e4).trans e5).trans e6) (by omega)
 refine WL_end [(1, _), (4, _), (6, _)] ⟨rfl, rfl, rfl, trivial⟩ ?_
 refine WP_seq ?_
 refine WP_sub [(1, _), (4, _), (6, _)] ⟨rfl, rfl, rfl, trivial⟩ ?_
 refine WP_anyR 9 [1, 4, 6] mixed rfl (by kernel_rfl) ?_
 apply AnyR_val [6] rfl (by kernel_rfl)
 · --
  intro y8 hy8
  have zy8 := hy8.size
  refine AllV_nil ?_
  refine O_loadA (vs := [_, _]) S24 rfl rfl rfl (b7.ext hy8) rfl rfl ?_
  exact WL_nil ⟨(Ext.refl _), rfl⟩
 apply AnyR_rel (RelP (pAgg [pEq _, pNo w7.heap.size 111 _])) [] rfl (RelP.mono (pAgg_mono (PsM.cons pEq_mono (PsM.cons pNo_mono PsM.nil)))) (by kernel_rfl)
 · --
  intro y9 hy9
  have zy9 := hy9.size
  refine AllV_nil ?_
  refine O_call enters70 rfl rfl rfl (riof_c (by (try simp only [lens]); omega) (by (try simp only [lens]); omega)) (fun v10 w10 e10 h10 => ?_)
  have z10 := e10.size
  try simp only [val_dig] at h10
  obtain ⟨q10, rfl, hq10⟩ := h10
  exact WL_nil ⟨e10, _, rfl, ⟨_, rfl, (AllP.cons rfl (AllP.cons (hq10.mono (by omega)) AllP.nil))⟩⟩
 apply AnyR_rel (RelP (pAgg [pEq _, pNo w7.heap.size 111 _])) [16, 17] rfl (RelP.mono (pAgg_mono (PsM.cons pEq_mono (PsM.cons pNo_mono PsM.nil)))) (by kernel_rfl)
 · --
  intro y11 hy11
  have zy11 := hy11.size
  refine AllV_v ?_
  refine AllV_r fun a12 b12 v12 la12 lb12 lc12 h12 ap12 => ?_
  clear ap12
  obtain ⟨_, rfl, v12_0, _, rfl, rfl, v12_1, _, rfl, h12_1, rfl⟩ := h12
  refine AllV_nil ?_
  refine O_call enters69 rfl rfl rfl (riadd_c rfl (((hq5.ext e6).chgBk b6 (by decide) q7).ext hy11).nl rfl h12_1.nl (by (try simp only [lens]); omega) (by (try simp only [lens]); omega)) (fun v13 w13 e13 h13 => ?_)
  have z13 := e13.size
  try simp only [val_dig] at h13
  obtain ⟨q13, rfl, hq13⟩ := h13
  exact WL_nil ⟨e13, _, rfl, ⟨_, rfl, (AllP.cons rfl (AllP.cons (hq13.mono (by omega)) AllP.nil))⟩⟩
 apply AnyR_rel (RelP (pAgg [pEq _, pNo w7.heap.size 111 _])) [18] rfl (RelP.mono (pAgg_mono (PsM.cons pEq_mono (PsM.cons pNo_mono PsM.nil)))) (by kernel_rfl)
 · --
  intro y14 hy14
  have zy14 := hy14.size
  refine AllV_r fun a15 b15 v15 la15 lb15 lc15 h15 ap15 => ?_
  clear ap15
  obtain ⟨_, rfl, v15_0, _, rfl, rfl, v15_1, _, rfl, h15_1, rfl⟩ := h15
  refine AllV_nil ?_
  refine O_call enters68 rfl rfl rfl (rishr_c (k := 1) rfl h15_1.nl (by (try simp only [lens]); omega) (by (try simp only [lens]); omega)) (fun v16 w16 e16 h16 => ?_)
  have z16 := e16.size
  try simp only [val_dig] at h16
  obtain ⟨q16, rfl, hq16⟩ := h16
  have hz : (scl x (e + (k + 1)) + 1) / 2 ^ 1 = ner x (e + k) := by unfold ner; rw [Int.pow_one, Int.add_assoc]
  rw [hz] at hq16 ⊢
  exact WL_nil ⟨e16, _, rfl, ⟨_, rfl, (AllP.cons rfl (AllP.cons (hq16.mono (by omega)) AllP.nil))⟩⟩
 apply AnyR_val [1] rfl (by kernel_rfl)
 · --
  intro y17 hy17
  have zy17 := hy17.size
  refine AllV_nil ?_
  refine O_move rfl rfl rfl ?_
  exact WL_nil ⟨(Ext.refl _), rfl⟩
 apply AnyR_val [20] rfl (by kernel_rfl)
 · --
  intro y18 hy18
  have zy18 := hy18.size
  refine AllV_v ?_
  refine AllV_nil ?_
  refine O_neg (r := (-k)) rfl rfl rfl (by rw [IntKind.wrap_i64]; omega) ?_
  exact WL_nil ⟨(Ext.refl _), rfl⟩
 apply AnyR_rel (RelP (pTup [pAgg [pEq _, pNo w7.heap.size 111 _, pEq _], pEq _])) [19, 21] rfl (RelP.mono (pTup_mono (PsM.cons (pAgg_mono (PsM.cons pEq_mono (PsM.cons pNo_mono (PsM.cons pEq_mono PsM.nil)))) (PsM.cons pEq_mono PsM.nil)))) (by kernel_rfl)
 · --
  intro y19 hy19
  have zy19 := hy19.size
  refine AllV_r fun a20 b20 v20 la20 lb20 lc20 h20 ap20 => ?_
  clear ap20
  obtain ⟨_, rfl, v20_0, _, rfl, rfl, v20_1, _, rfl, h20_1, rfl⟩ := h20
  refine AllV_v ?_
  refine AllV_nil ?_
  refine O_call enters56 rfl rfl rfl (rdmake_c rfl h20_1.nl (by (try simp only [lens]); omega)) (fun v21 w21 e21 h21 => ?_)
  have z21 := e21.size
  try simp only [val_dig] at h21
  obtain ⟨q21, rfl, hq21⟩ := h21
  exact WL_nil ⟨e21, _, rfl, ⟨_, rfl, (AllP.cons ⟨_, rfl, (AllP.cons rfl (AllP.cons (hq21.mono (by omega)) (AllP.cons rfl AllP.nil)))⟩ (AllP.cons rfl AllP.nil))⟩⟩
 apply AnyR_rel (RelP (pAgg [pEq _, pNo w7.heap.size 111 _, pEq _])) [22] rfl (RelP.mono (pAgg_mono (PsM.cons pEq_mono (PsM.cons pNo_mono (PsM.cons pEq_mono PsM.nil))))) (by kernel_rfl)
 · --
  intro y22 hy22
  have zy22 := hy22.size
  refine AllV_r fun a23 b23 v23 la23 lb23 lc23 h23 ap23 => ?_
  clear ap23
  obtain ⟨_, rfl, v23_0, _, rfl, ⟨_, rfl, v23_0_0, _, rfl, rfl, v23_0_1, _, rfl, h23_0_1, v23_0_2, _, rfl, rfl, rfl⟩, v23_1, _, rfl, rfl, rfl⟩ := h23
  refine AllV_nil ?_
  refine O_extract rfl rfl rfl rfl ?_
  exact WL_nil ⟨(Ext.refl _), _, rfl, ⟨_, rfl, (AllP.cons rfl (AllP.cons (h23_0_1.mono (by omega)) (AllP.cons rfl AllP.nil)))⟩⟩
 apply AnyR_val [22] rfl (by kernel_rfl)
 · --
  intro y24 hy24
  have zy24 := hy24.size
  refine AllV_r fun a25 b25 v25 la25 lb25 lc25 h25 ap25 => ?_
  clear ap25
  obtain ⟨_, rfl, v25_0, _, rfl, ⟨_, rfl, v25_0_0, _, rfl, rfl, v25_0_1, _, rfl, h25_0_1, v25_0_2, _, rfl, rfl, rfl⟩, v25_1, _, rfl, rfl, rfl⟩ := h25
  refine AllV_nil ?_
  refine O_extract rfl rfl rfl rfl ?_
  exact WL_nil ⟨(Ext.refl _), rfl⟩
 refine AnyR_nil fun y26 hy26 => ?_
 have zy26 := hy26.size
 refine AllV_v ?_
 refine AllV_r fun a27 b27 v27 la27 lb27 lc27 h27 ap27 => ?_
 clear ap27
 obtain ⟨_, rfl, v27_0, _, rfl, rfl, v27_1, _, rfl, h27_1, rfl⟩ := h27
 refine AllV_r fun a28 b28 v28 la28 lb28 lc28 h28 ap28 => ?_
 clear ap28
 obtain ⟨_, rfl, v28_0, _, rfl, rfl, v28_1, _, rfl, h28_1, rfl⟩ := h28
 refine AllV_r fun a29 b29 v29 la29 lb29 lc29 h29 ap29 => ?_
 clear ap29
 obtain ⟨_, rfl, v29_0, _, rfl, rfl, v29_1, _, rfl, h29_1, rfl⟩ := h29
 refine AllV_v ?_
 refine AllV_v ?_
 refine AllV_r fun a30 b30 v30 la30 lb30 lc30 h30 ap30 => ?_
 clear ap30
 obtain ⟨_, rfl, v30_0, _, rfl, ⟨_, rfl, v30_0_0, _, rfl, rfl, v30_0_1, _, rfl, h30_0_1, v30_0_2, _, rfl, rfl, rfl⟩, v30_1, _, rfl, rfl, rfl⟩ := h30
 refine AllV_r fun a31 b31 v31 la31 lb31 lc31 h31 ap31 => ?_
 clear ap31
 obtain ⟨_, rfl, v31_0, _, rfl, rfl, v31_1, _, rfl, h31_1, v31_2, _, rfl, rfl, rfl⟩ := h31
 refine AllV_v ?_
 refine AllV_nil ?_
 refine O_storeA (cs' := [_, _, _]) S26 rfl rfl rfl ((((((b2.ext e3).ext e4).ext e5).ext e6).chg q7 (by first | assumption | omega)).ext hy26) rfl rfl (one_cons rfl (one_cons (h31_1.nl).one (one_cons rfl one_nil))) rfl (fun w32 b32 q32 => ?_)
 have z32 := Nat.le_of_eq q32.size.symm
 have e32 : Ext w w32 := q32.ext (e7.trans hy26) (by omega)
 refine O_assign rfl rfl rfl ?_
 refine WL_end [(4, _), (5, _)] ⟨rfl, rfl, trivial⟩ ?_
 refine WP_ret ?_
 refine retL Tryd.results19 (.cell rfl S26 b32 rfl (.tmp rfl .nil)) ?_
 exact ⟨_, rfl, e32, _, rfl, (h31_1.chgBk ((((((b2.ext e3).ext e4).ext e5).ext e6).chg q7 (by first | assumption | omega)).ext hy26) (by decide) q32).mono (by omega)⟩
theorem rnear_F {w : World} {vx : Value} {x e k : Int} {bx : Bool} (hbx : bx = decide (x < 0)) (hx : Nl w vx (dig x.natAbs)) (hvx : dval x e = true) (hpm : ¬ perm k) :
    Calls Tryd.prog 19 #[.agg #[.bool bx, vx, .int .i64 e], .int .i64 k] w (Ret w fun r _ => r = .tuple #[.agg #[.bool (decide ((0 : Int) < 0)), .slice none 0 0, .int .i64 (0)], .int .i64 1]) := by
 subst hbx
 have hRx := dval_range hvx
 have hlx : (dig x.natAbs).length ≤ 2049 := dval_len hvx
 refine enter (args := [_, _]) Tryd.func19 rfl Tryd.ntmps19 rfl ?_
 refine WP_seq ?_
 refine WP_region ?_
 refine O_box _ rfl rfl rfl rfl (fun g1 w1 b1 e1 gl1 gh1 => ?_)
 have z1 := e1.size
 refine O_alloc S26 rfl rfl (fun g2 w2 b2 e2 gl2 gh2 => ?_)
 have z2 := e2.size
 refine O_assign rfl rfl rfl ?_
 refine WL_end [(1, _), (2, _), (4, _)] ⟨rfl, rfl, rfl, trivial⟩ ?_
 refine WP_seq ?_
 refine WP_seq ?_
 refine WP_region ?_
 refine O_move rfl rfl rfl ?_
 refine O_call enters66 rfl rfl rfl (rperm_F hpm) (fun v3 w3 e3 h3 => ?_)
 have z3 := e3.size
 obtain rfl := h3
 refine O_not rfl rfl rfl rfl ?_
 refine WL_end [(1, _), (2, _), (4, _), (9, _)] ⟨rfl, rfl, rfl, rfl, trivial⟩ ?_
 refine WP_condT rfl ?_
 refine WP_seq ?_
 refine WP_region ?_
 refine O_build (cs := [_, _, _]) B26 rfl rfl rfl cells_nil rfl ?_
 refine O_storeA (cs' := [_, _, _]) S26 rfl rfl rfl (b2.ext e3) rfl rfl (one_cons rfl (one_cons rfl (one_cons rfl one_nil))) rfl (fun w4 b4 q4 => ?_)
 have z4 := Nat.le_of_eq q4.size.symm
 have e4 : Ext w w4 := q4.ext ((e1.trans e2).trans e3) (by omega)
 refine O_assign rfl rfl rfl ?_
 refine WL_end [(4, _), (5, _)] ⟨rfl, rfl, trivial⟩ ?_
 refine WP_ret ?_
 refine retL Tryd.results19 (.cell rfl S26 b4 rfl (.tmp rfl .nil)) ?_
 exact ⟨_, rfl, e4, rfl⟩

end Go.Proofs.YthbfhljpfkicpaaDoor
