/-
  Walks.
-/
import Derived.Test.YthbfhljpfkicpaaDoorG6
import Derived.Test.YthbfhljpfkicpaaDoorV5
set_option linter.unusedVariables false
set_option linter.unusedSimpArgs false
set_option maxRecDepth 100000
namespace Go.Proofs.YthbfhljpfkicpaaDoor
open Go Go.RowKit
/-- Floor, ceiling and nearest number on the common scale; U is the unit. -/
theorem sw_made {c f : Int} (hc : dcode c f = 0) (h : -70000 ≤ f) : sw (dman c f) (dexp c f) = c * 2 ^ (f + ((70000 : Nat) : Int)).toNat := sv_made hc (by omega)
theorem unit_split {k : Int} (hk : -2048 ≤ k ∧ k ≤ 8191) : (2 : Int) ^ (-k + ((70000 : Nat) : Int)).toNat = 2 ^ (-(k + 1) + ((70000 : Nat) : Int)).toNat * 2 := by
  rw [show (-k + ((70000 : Nat) : Int)).toNat = (-(k + 1) + ((70000 : Nat) : Int)).toNat + 1 from by omega, ipow_add, Int.pow_one]
theorem sc_bounds {x e k : Int} (hk : -2048 ≤ k ∧ k ≤ 8192) (he : -65536 ≤ e) : scl x (e + k) * 2 ^ (-k + ((70000 : Nat) : Int)).toNat ≤ sw x e ∧ sw x e < (scl x (e + k) + 1) * 2 ^ (-k + ((70000 : Nat) : Int)).toNat := by
  have h := scl_spec (K := (-k + ((70000 : Nat) : Int)).toNat) (x := x) (n := e + k) (by omega)
  rw [show (e + k + (((-k + ((70000 : Nat) : Int)).toNat : Nat) : Int)).toNat = (e + ((70000 : Nat) : Int)).toNat from by omega] at h
  exact h
theorem ongrid_iff {x e k : Int} (hv : dval x e = true) (hk : perm k) : ongrid x e k ↔ scl x (e + k) = -(scl (-x) (e + k)) := by
  have hr := dval_range hv
  obtain ⟨k1, k2⟩ := hk
  constructor
  · rintro ⟨_, h⟩
    rcases h with h | h
    · subst h; rw [show (-0 : Int) = 0 from rfl, scl_zero]; rfl
    · rw [scl_pos (by omega), scl_pos (by omega), Int.neg_mul, Int.neg_neg]
  · intro h
    refine ⟨⟨k1, k2⟩, ?_⟩
    by_cases h0 : x = 0
    · exact .inl h0
    · refine .inr ?_
      rcases Int.lt_or_le e (-k) with h1 | h1
      · exfalso
        have ho := dval_odd hv h0
        obtain ⟨m, hm⟩ : ∃ m : Nat, (-(e + k)).toNat = m + 1 := ⟨(-(e + k)).toNat - 1, by omega⟩
        rw [scl_neg (by omega), scl_neg (by omega), hm] at h
        have hp := ipow_pos (m + 1)
        have h2 := Int.ediv_mul_le x (show (2 : Int) ^ (m + 1) ≠ 0 by omega)
        have h3 := Int.ediv_mul_le (-x) (show (2 : Int) ^ (m + 1) ≠ 0 by omega)
        have h4 : x = x / 2 ^ (m + 1) * 2 ^ (m + 1) := by
          have h5 : -x / 2 ^ (m + 1) * 2 ^ (m + 1) = -(x / 2 ^ (m + 1) * 2 ^ (m + 1)) := by rw [← Int.neg_mul, h, Int.neg_neg]
          omega
        rw [ipow_add, Int.pow_one] at h4
        generalize x / (2 ^ m * 2) = z at *
        have h6 : x = z * 2 ^ m * 2 := by rw [Int.mul_assoc]; exact h4
        generalize z * 2 ^ m = y at *
        omega
      · exact h1
theorem near_bounds {x e k : Int} (hk : -2048 ≤ k ∧ k ≤ 8191) (he : -65536 ≤ e) : ner x (e + k) * 2 ^ (-k + ((70000 : Nat) : Int)).toNat - sw x e ≤ 2 ^ (-(k + 1) + ((70000 : Nat) : Int)).toNat ∧ -(ner x (e + k) * 2 ^ (-k + ((70000 : Nat) : Int)).toNat - sw x e) < 2 ^ (-(k + 1) + ((70000 : Nat) : Int)).toNat := by
  have h := sc_bounds (x := x) (e := e) (k := k + 1) (by omega) he
  rw [unit_split hk]
  have hp := ipow_pos (-(k + 1) + ((70000 : Nat) : Int)).toNat
  unfold ner
  rw [show e + k + 1 = e + (k + 1) from by omega]
  generalize (2 : Int) ^ (-(k + 1) + ((70000 : Nat) : Int)).toNat = H at *
  generalize sw x e = V at *
  generalize scl x (e + (k + 1)) = T at *
  have h1 : (T + 1) / 2 * 2 ≤ T + 1 := by omega
  have h2 : T ≤ (T + 1) / 2 * 2 := by omega
  generalize (T + 1) / 2 = N at *
  have e1 : N * (H * 2) = (N * 2) * H := by grind
  have e2 : (T + 1) * H = T * H + H := by grind
  have a1 := Int.mul_le_mul_of_nonneg_right h1 (Int.le_of_lt hp)
  have a2 := Int.mul_le_mul_of_nonneg_right h2 (Int.le_of_lt hp)
  rw [e1]
  constructor <;> omega

theorem sw_sum {x e y f : Int} (hx : dval x e = true) (hy : dval y f = true) (hc : dcode (dsum x e y f) (min e f) = 0) : sw (dman (dsum x e y f) (min e f)) (dexp (dsum x e y f) (min e f)) = sw x e + sw y f := by
  have h1 := dval_range hx
  have h2 := dval_range hy
  have h3 := sv_made (K := 70000) hc (by omega)
  have h4 := sv_add (K := 70000) (x := x) (e := e) (y := y) (f := f) (by omega) (by omega)
  exact h3.trans h4
theorem sw_half {x e : Int} (he : -69999 ≤ e) (hc : dcode x (e + -1) = 0) : sw (dman x (e + -1)) (dexp x (e + -1)) * 2 = sw x e := by
  rw [sw_made hc (by omega)]
  unfold sw sv
  rw [show (e + ((70000 : Nat) : Int)).toNat = (e + -1 + ((70000 : Nat) : Int)).toNat + 1 from by omega, ipow_add, Int.pow_one, Int.mul_assoc]
theorem dgx_le {x e z g : Int} (hx : dval x e = true) (hz : dval z g = true) (h : dcmp x e z g ≤ 0) : dgx x e z g = z ∧ dge x e z g = g := by
  unfold dgx dge
  by_cases h0 : dcmp x e z g < 0
  · rw [if_pos h0, if_pos h0]; exact ⟨rfl, rfl⟩
  · rw [if_neg h0, if_neg h0]; exact (dcmp_same hx hz).1 (by omega)
theorem dlx_le {x e z g : Int} (h : dcmp x e z g ≤ 0) : dlx x e z g = x ∧ dle x e z g = e := by
  unfold dlx dle
  rw [if_neg (by omega), if_neg (by omega)]; exact ⟨rfl, rfl⟩
theorem dcmp_le_iff {x e z g : Int} (hx : dval x e = true) (hz : dval z g = true) : dcmp x e z g ≤ 0 ↔ sw x e ≤ sw z g := by rw [sw_dcmp hx hz, icmp_pos]
theorem dsum_len {x e y f : Int} {a m : Nat} (hx : (dig x.natAbs).length ≤ a) (hy : (dig y.natAbs).length ≤ a) (h1 : e - min e f ≤ m) (h2 : f - min e f ≤ m) : (dig (dsum x e y f).natAbs).length ≤ a + m / 32 + 2 := by
  unfold dsum
  have k1 := shl_len' (k := (e - min e f).toNat) hx
  have k2 := shl_len' (k := (f - min e f).toNat) hy
  have g1 : (e - min e f).toNat / 32 ≤ m / 32 := Nat.div_le_div_right (by omega)
  have g2 : (f - min e f).toNat / 32 ≤ m / 32 := Nat.div_le_div_right (by omega)
  have k3 := add_len k1 k2
  omega
theorem hasv_rat {x e y f z g : Int} (hx : dval x e = true) (hy : dval y f = true) (hz : dval z g = true) (h1 : sw x e ≤ sw z g) (h2 : sw z g ≤ sw y f) : hasv x e y f (rnum z g) (rden g) = true := by
  unfold hasv
  rw [rv_cmp (rv_rat hx) (rv_rat hz), rv_cmp (rv_rat hz) (rv_rat hy), decide_eq_true (icmp_pos.2 h1), decide_eq_true (icmp_pos.2 h2)]; rfl

theorem sw_neg (x e : Int) : sw (-x) e = -sw x e := sv_neg _ _ _
theorem dshift_c {w : World} {vx : Value} {x e : Int} {bx : Bool} (hbx : bx = decide (x < 0)) (hx : Nl w vx (dig x.natAbs)) (hlx : (dig x.natAbs).length ≤ 30000) {n : Int} (hn1 : -65536 ≤ n) (hn2 : n ≤ 65536) (he1 : -200000 ≤ e) (he2 : e ≤ 200000) (hT : Tab w) :
    Calls Tryd.prog 99 #[.agg #[.bool bx, vx, .int .i64 e], .int .i64 n] w (Ret w fun r w' => ∃ q, r = .tuple #[.agg #[.bool (decide ((dman (x) (e + n)) < 0)), q, .int .i64 (dexp (x) (e + n))], .int .i64 (dcode3 (x) (e + n))] ∧ No w.heap.size 111 w' q (dig (dman (x) (e + n)).natAbs)) := by
 subst hbx
 refine enter (args := [_, _]) Tryd.func99 rfl Tryd.ntmps99 rfl ?_
 refine WP_seq ?_
 refine WP_region ?_
 refine O_box _ rfl rfl rfl rfl (fun g1 w1 b1 e1 gl1 gh1 => ?_)
 have z1 := e1.size
 refine O_alloc S26 rfl rfl (fun g2 w2 b2 e2 gl2 gh2 => ?_)
 have z2 := e2.size
 refine O_assign rfl rfl rfl ?_
 refine WL_end [(1, _), (2, _), (4, _)] ⟨rfl, rfl, rfl, trivial⟩ ?_
 refine WP_seq ?_
 refine WP_seq ?_
 refine WP_region ?_
 refine O_move rfl rfl rfl ?_
 refine O_lss (t := false) rfl rfl rfl rfl (decide_eq_false (by omega)) ?_
 refine O_move rfl rfl rfl ?_
 refine O_move rfl rfl rfl ?_
 refine O_gtr (t := false) rfl rfl rfl rfl (decide_eq_false (by omega)) ?_
 refine O_pickF rfl rfl rfl rfl ?_
 refine WL_end [(1, _), (2, _), (4, _), (11, _)] ⟨rfl, rfl, rfl, rfl, trivial⟩ ?_
 refine WP_condF rfl ?_
 refine WP_skip ?_
 refine WP_seq ?_
 refine WP_region ?_
 refine O_field F26_0 rfl rfl rfl ?_
 refine O_loadA (vs := [_, _]) S24 rfl rfl rfl (b1.ext e2) rfl rfl ?_
 refine O_field F26_1 rfl rfl rfl ?_
 refine O_loadC Tryd.underlying3 rfl rfl rfl rfl (b1.ext e2) rfl ?_
 refine O_move rfl rfl rfl ?_
 refine O_add rfl rfl rfl rfl (wrap_i64_id (by omega) (by omega)) ?_
 refine O_call enters139 rfl rfl rfl (dexact_c rfl (hx.ext (e1.trans e2)) (by (try simp only [lens]); omega) (hT.ext (e1.trans e2))) (fun v3 w3 e3 h3 => ?_)
 have z3 := e3.size
 try simp only [val_dig] at h3
 obtain ⟨q3, rfl, hq3⟩ := h3
 refine O_extract rfl rfl rfl rfl ?_
 refine O_extract rfl rfl rfl rfl ?_
 refine O_storeA (cs' := [_, _, _]) S26 rfl rfl rfl (b2.ext e3) rfl rfl (one_cons rfl (one_cons (hq3.nl).one (one_cons rfl one_nil))) rfl (fun w4 b4 q4 => ?_)
 have z4 := Nat.le_of_eq q4.size.symm
 have e4 : Ext w w4 := q4.ext ((e1.trans e2).trans e3) (by omega)
 refine O_assign rfl rfl rfl ?_
 refine WL_end [(4, _), (5, _)] ⟨rfl, rfl, trivial⟩ ?_
 refine WP_ret ?_
 refine retL Tryd.results99 (.cell rfl S26 b4 rfl (.tmp rfl .nil)) ?_
 exact ⟨_, rfl, e4, _, rfl, (hq3.chgBk (b2.ext e3) (by decide) q4).mono (by omega)⟩

theorem rdshift_c {w : World} {vx : Value} {x e : Int} {bx : Bool} (hbx : bx = decide (x < 0)) (hx : Nl w vx (dig x.natAbs)) (hlx : (dig x.natAbs).length ≤ 30000) {n : Int} (hn1 : -65536 ≤ n) (hn2 : n ≤ 65536) (he1 : -200000 ≤ e) (he2 : e ≤ 200000) :
    Calls Tryd.prog 102 #[.agg #[.bool bx, vx, .int .i64 e], .int .i64 n] w (Ret w fun r w' => ∃ q, r = .tuple #[.agg #[.bool (decide ((dman (x) (e + n)) < 0)), q, .int .i64 (dexp (x) (e + n))], .int .i64 (dcode (x) (e + n))] ∧ No w.heap.size 111 w' q (dig (dman (x) (e + n)).natAbs)) := by
 subst hbx
 refine enter (args := [_, _]) Tryd.func102 rfl Tryd.ntmps102 rfl ?_
 refine WP_seq ?_
 refine WP_region ?_
 refine O_box _ rfl rfl rfl rfl (fun g1 w1 b1 e1 gl1 gh1 => ?_)
 have z1 := e1.size
 refine O_alloc S26 rfl rfl (fun g2 w2 b2 e2 gl2 gh2 => ?_)
 have z2 := e2.size
 refine O_assign rfl rfl rfl ?_
 refine WL_end [(1, _), (2, _), (4, _)] ⟨rfl, rfl, rfl, trivial⟩ ?_
 refine WP_seq ?_
 refine WP_seq ?_
 refine WP_region ?_
 refine O_move rfl rfl rfl ?_
 refine O_lss (t := false) rfl rfl rfl rfl (decide_eq_false (by omega)) ?_
 refine O_move rfl rfl rfl ?_
 refine O_move rfl rfl rfl ?_
 refine O_gtr (t := false) rfl rfl rfl rfl (decide_eq_false (by omega)) ?_
 refine O_pickF rfl rfl rfl rfl ?_
 refine WL_end [(1, _), (2, _), (4, _), (11, _)] ⟨rfl, rfl, rfl, rfl, trivial⟩ ?_
 refine WP_condF rfl ?_
 refine WP_skip ?_
 refine WP_seq ?_
 refine WP_region ?_
 refine O_field F26_0 rfl rfl rfl ?_
 refine O_loadA (vs := [_, _]) S24 rfl rfl rfl (b1.ext e2) rfl rfl ?_
 refine O_field F26_1 rfl rfl rfl ?_
 refine O_loadC Tryd.underlying3 rfl rfl rfl rfl (b1.ext e2) rfl ?_
 refine O_move rfl rfl rfl ?_
 refine O_add rfl rfl rfl rfl (wrap_i64_id (by omega) (by omega)) ?_
 refine O_call enters56 rfl rfl rfl (rdmake_c rfl (hx.ext (e1.trans e2)) (by (try simp only [lens]); omega)) (fun v3 w3 e3 h3 => ?_)
 have z3 := e3.size
 try simp only [val_dig] at h3
 obtain ⟨q3, rfl, hq3⟩ := h3
 refine O_extract rfl rfl rfl rfl ?_
 refine O_extract rfl rfl rfl rfl ?_
 refine O_storeA (cs' := [_, _, _]) S26 rfl rfl rfl (b2.ext e3) rfl rfl (one_cons rfl (one_cons (hq3.nl).one (one_cons rfl one_nil))) rfl (fun w4 b4 q4 => ?_)
 have z4 := Nat.le_of_eq q4.size.symm
 have e4 : Ext w w4 := q4.ext ((e1.trans e2).trans e3) (by omega)
 refine O_assign rfl rfl rfl ?_
 refine WL_end [(4, _), (5, _)] ⟨rfl, rfl, trivial⟩ ?_
 refine WP_ret ?_
 refine retL Tryd.results102 (.cell rfl S26 b4 rfl (.tmp rfl .nil)) ?_
 exact ⟨_, rfl, e4, _, rfl, (hq3.chgBk (b2.ext e3) (by decide) q4).mono (by omega)⟩

theorem dsub_c {w : World} {vx vy : Value} {x y e f : Int} {bx by_ : Bool} (hbx : bx = decide (x < 0)) (hx : Nl w vx (dig x.natAbs)) (hby : by_ = decide (y < 0)) (hy : Nl w vy (dig y.natAbs)) (hvx : dval x e = true) (hvy : dval y f = true) (hT : Tab w) :
    Calls Tryd.prog 97 #[.agg #[.bool bx, vx, .int .i64 e], .agg #[.bool by_, vy, .int .i64 f]] w (Ret w fun r w' => ∃ q, r = .tuple #[.agg #[.bool (decide ((dman (dsum x e (-y) f) (min e f)) < 0)), q, .int .i64 (dexp (dsum x e (-y) f) (min e f))], .int .i64 (dcode3 (dsum x e (-y) f) (min e f))] ∧ No w.heap.size 111 w' q (dig (dman (dsum x e (-y) f) (min e f)).natAbs)) := by
 subst hbx
 subst hby
 have hr1 := dval_range hvx
 have hr2 := dval_range hvy
 have he1 : -200000 ≤ e := by omega
 have he2 : e ≤ 200000 := by omega
 have hf1 : -200000 ≤ f := by omega
 have hf2 : f ≤ 200000 := by omega
 have hlx : (dig x.natAbs).length ≤ 2049 := dval_len hvx
 have hly : (dig y.natAbs).length ≤ 2049 := dval_len hvy
 have hvn := (dval_neg y f).trans hvy
 have hln := neg_len hly
 refine enter (args := [_, _]) Tryd.func97 rfl Tryd.ntmps97 rfl ?_
 refine WP_seq ?_
 refine WP_region ?_
 refine O_box _ rfl rfl rfl rfl (fun g1 w1 b1 e1 gl1 gh1 => ?_)
 have z1 := e1.size
 refine O_box _ rfl rfl rfl rfl (fun g2 w2 b2 e2 gl2 gh2 => ?_)
 have z2 := e2.size
 refine O_alloc S26 rfl rfl (fun g3 w3 b3 e3 gl3 gh3 => ?_)
 have z3 := e3.size
 refine O_assign rfl rfl rfl ?_
 refine WL_end [(2, _), (3, _), (4, _)] ⟨rfl, rfl, rfl, trivial⟩ ?_
 refine WP_seq ?_
 refine WP_sub [(2, _), (3, _), (4, _)] ⟨rfl, rfl, rfl, trivial⟩ ?_
 refine WP_anyR 6 [2, 3, 4] mixed rfl (by kernel_rfl) ?_
 apply AnyR_val [2] rfl (by kernel_rfl)
 · --
  intro y4 hy4
  have zy4 := hy4.size
  refine AllV_nil ?_
  refine O_loadA (vs := [_, _, _]) S26 rfl rfl rfl (((b1.ext e2).ext e3).ext hy4) rfl rfl ?_
  exact WL_nil ⟨(Ext.refl _), rfl⟩
 apply AnyR_val [3] rfl (by kernel_rfl)
 · --
  intro y5 hy5
  have zy5 := hy5.size
  refine AllV_nil ?_
  refine O_loadA (vs := [_, _, _]) S26 rfl rfl rfl ((b2.ext e3).ext hy5) rfl rfl ?_
  exact WL_nil ⟨(Ext.refl _), rfl⟩
 apply AnyR_rel (RelP (pAgg [pEq _, pNo w3.heap.size 111 _, pEq _])) [7] rfl (RelP.mono (pAgg_mono (PsM.cons pEq_mono (PsM.cons pNo_mono (PsM.cons pEq_mono PsM.nil))))) (by kernel_rfl)
 · --
  intro y6 hy6
  have zy6 := hy6.size
  refine AllV_v ?_
  refine AllV_nil ?_
  refine O_call enters61 rfl rfl rfl (dneg_c rfl (hy.ext (((e1.trans e2).trans e3).trans hy6)) (by (try simp only [lens]); omega)) (fun v7 w7 e7 h7 => ?_)
  have z7 := e7.size
  try simp only [val_dig] at h7
  obtain ⟨q7, rfl, hq7⟩ := h7
  exact WL_nil ⟨e7, _, rfl, ⟨_, rfl, (AllP.cons rfl (AllP.cons (hq7.mono (by omega)) (AllP.cons rfl AllP.nil)))⟩⟩
 apply AnyR_rel (RelP (pTup [pAgg [pEq _, pNo w3.heap.size 111 _, pEq _], pEq _])) [6, 8] rfl (RelP.mono (pTup_mono (PsM.cons (pAgg_mono (PsM.cons pEq_mono (PsM.cons pNo_mono (PsM.cons pEq_mono PsM.nil)))) (PsM.cons pEq_mono PsM.nil)))) (by kernel_rfl)
 · --
  intro y8 hy8
  have zy8 := hy8.size
  refine AllV_v ?_
  refine AllV_r fun a9 b9 v9 la9 lb9 lc9 h9 ap9 => ?_
  clear ap9
  obtain ⟨_, rfl, v9_0, _, rfl, rfl, v9_1, _, rfl, h9_1, v9_2, _, rfl, rfl, rfl⟩ := h9
  refine AllV_nil ?_
  refine O_call enters98 rfl rfl rfl (dadd_c rfl (hx.ext (((e1.trans e2).trans e3).trans hy8)) rfl h9_1.nl (by with_reducible assumption) (by with_reducible assumption) (hT.ext (((e1.trans e2).trans e3).trans hy8))) (fun v10 w10 e10 h10 => ?_)
  have z10 := e10.size
  try simp only [val_dig] at h10
  obtain ⟨q10, rfl, hq10⟩ := h10
  exact WL_nil ⟨e10, _, rfl, ⟨_, rfl, (AllP.cons ⟨_, rfl, (AllP.cons rfl (AllP.cons (hq10.mono (by omega)) (AllP.cons rfl AllP.nil)))⟩ (AllP.cons rfl AllP.nil))⟩⟩
 apply AnyR_rel (RelP (pAgg [pEq _, pNo w3.heap.size 111 _, pEq _])) [9] rfl (RelP.mono (pAgg_mono (PsM.cons pEq_mono (PsM.cons pNo_mono (PsM.cons pEq_mono PsM.nil))))) (by kernel_rfl)
 · --
  intro y11 hy11
  have zy11 := hy11.size
  refine AllV_r fun a12 b12 v12 la12 lb12 lc12 h12 ap12 => ?_
  clear ap12
  obtain ⟨_, rfl, v12_0, _, rfl, ⟨_, rfl, v12_0_0, _, rfl, rfl, v12_0_1, _, rfl, h12_0_1, v12_0_2, _, rfl, rfl, rfl⟩, v12_1, _, rfl, rfl, rfl⟩ := h12
  refine AllV_nil ?_
  refine O_extract rfl rfl rfl rfl ?_
  exact WL_nil ⟨(Ext.refl _), _, rfl, ⟨_, rfl, (AllP.cons rfl (AllP.cons (h12_0_1.mono (by omega)) (AllP.cons rfl AllP.nil)))⟩⟩
 apply AnyR_val [9] rfl (by kernel_rfl)
 · --
  intro y13 hy13
  have zy13 := hy13.size
  refine AllV_r fun a14 b14 v14 la14 lb14 lc14 h14 ap14 => ?_
  clear ap14
  obtain ⟨_, rfl, v14_0, _, rfl, ⟨_, rfl, v14_0_0, _, rfl, rfl, v14_0_1, _, rfl, h14_0_1, v14_0_2, _, rfl, rfl, rfl⟩, v14_1, _, rfl, rfl, rfl⟩ := h14
  refine AllV_nil ?_
  refine O_extract rfl rfl rfl rfl ?_
  exact WL_nil ⟨(Ext.refl _), rfl⟩
 refine AnyR_nil fun y15 hy15 => ?_
 have zy15 := hy15.size
 refine AllV_v ?_
 refine AllV_v ?_
 refine AllV_r fun a16 b16 v16 la16 lb16 lc16 h16 ap16 => ?_
 clear ap16
 obtain ⟨_, rfl, v16_0, _, rfl, rfl, v16_1, _, rfl, h16_1, v16_2, _, rfl, rfl, rfl⟩ := h16
 refine AllV_r fun a17 b17 v17 la17 lb17 lc17 h17 ap17 => ?_
 clear ap17
 obtain ⟨_, rfl, v17_0, _, rfl, ⟨_, rfl, v17_0_0, _, rfl, rfl, v17_0_1, _, rfl, h17_0_1, v17_0_2, _, rfl, rfl, rfl⟩, v17_1, _, rfl, rfl, rfl⟩ := h17
 refine AllV_r fun a18 b18 v18 la18 lb18 lc18 h18 ap18 => ?_
 clear ap18
 obtain ⟨_, rfl, v18_0, _, rfl, rfl, v18_1, _, rfl, h18_1, v18_2, _, rfl, rfl, rfl⟩ := h18
 refine AllV_v ?_
 refine AllV_nil ?_
 refine O_storeA (cs' := [_, _, _]) S26 rfl rfl rfl (b3.ext hy15) rfl rfl (one_cons rfl (one_cons (h18_1.nl).one (one_cons rfl one_nil))) rfl (fun w19 b19 q19 => ?_)
 have z19 := Nat.le_of_eq q19.size.symm
 have e19 : Ext w w19 := q19.ext (((e1.trans e2).trans e3).trans hy15) (by omega)
 refine O_assign rfl rfl rfl ?_
 refine WL_end [(4, _), (5, _)] ⟨rfl, rfl, trivial⟩ ?_
 refine WP_ret ?_
 refine retL Tryd.results97 (.cell rfl S26 b19 rfl (.tmp rfl .nil)) ?_
 exact ⟨_, rfl, e19, _, rfl, (h18_1.chgBk (b3.ext hy15) (by decide) q19).mono (by omega)⟩

theorem rdsub_c {w : World} {vx vy : Value} {x y e f : Int} {bx by_ : Bool} (hbx : bx = decide (x < 0)) (hx : Nl w vx (dig x.natAbs)) (hby : by_ = decide (y < 0)) (hy : Nl w vy (dig y.natAbs)) (hvx : dval x e = true) (hvy : dval y f = true) :
    Calls Tryd.prog 100 #[.agg #[.bool bx, vx, .int .i64 e], .agg #[.bool by_, vy, .int .i64 f]] w (Ret w fun r w' => ∃ q, r = .tuple #[.agg #[.bool (decide ((dman (dsum x e (-y) f) (min e f)) < 0)), q, .int .i64 (dexp (dsum x e (-y) f) (min e f))], .int .i64 (dcode (dsum x e (-y) f) (min e f))] ∧ No w.heap.size 111 w' q (dig (dman (dsum x e (-y) f) (min e f)).natAbs)) := by
 subst hbx
 subst hby
 have hr1 := dval_range hvx
 have hr2 := dval_range hvy
 have he1 : -200000 ≤ e := by omega
 have he2 : e ≤ 200000 := by omega
 have hf1 : -200000 ≤ f := by omega
 have hf2 : f ≤ 200000 := by omega
 have hlx : (dig x.natAbs).length ≤ 2049 := dval_len hvx
 have hly : (dig y.natAbs).length ≤ 2049 := dval_len hvy
 have hvn := (dval_neg y f).trans hvy
 have hln := neg_len hly
 refine enter (args := [_, _]) Tryd.func100 rfl Tryd.ntmps100 rfl ?_
 refine WP_seq ?_
 refine WP_region ?_
 refine O_box _ rfl rfl rfl rfl (fun g1 w1 b1 e1 gl1 gh1 => ?_)
 have z1 := e1.size
 refine O_box _ rfl rfl rfl rfl (fun g2 w2 b2 e2 gl2 gh2 => ?_)
 have z2 := e2.size
 refine O_alloc S26 rfl rfl (fun g3 w3 b3 e3 gl3 gh3 => ?_)
 have z3 := e3.size
 refine O_assign rfl rfl rfl ?_
 refine WL_end [(2, _), (3, _), (4, _)] ⟨rfl, rfl, rfl, trivial⟩ ?_
 refine WP_seq ?_
 refine WP_sub [(2, _), (3, _), (4, _)] ⟨rfl, rfl, rfl, trivial⟩ ?_
 refine WP_anyR 6 [2, 3, 4] mixed rfl (by kernel_rfl) ?_
 apply AnyR_val [2] rfl (by kernel_rfl)
 · --
  intro y4 hy4
  have zy4 := hy4.size
  refine AllV_nil ?_
  refine O_loadA (vs := [_, _, _]) S26 rfl rfl rfl (((b1.ext e2).ext e3).ext hy4) rfl rfl ?_
  exact WL_nil ⟨(Ext.refl _), rfl⟩
 apply AnyR_val [3] rfl (by kernel_rfl)
 · --
  intro y5 hy5
  have zy5 := hy5.size
  refine AllV_nil ?_
  refine O_loadA (vs := [_, _, _]) S26 rfl rfl rfl ((b2.ext e3).ext hy5) rfl rfl ?_
  exact WL_nil ⟨(Ext.refl _), rfl⟩
 apply AnyR_rel (RelP (pAgg [pEq _, pNo w3.heap.size 111 _, pEq _])) [7] rfl (RelP.mono (pAgg_mono (PsM.cons pEq_mono (PsM.cons pNo_mono (PsM.cons pEq_mono PsM.nil))))) (by kernel_rfl)
 · --
  intro y6 hy6
  have zy6 := hy6.size
  refine AllV_v ?_
  refine AllV_nil ?_
  refine O_call enters140 rfl rfl rfl (rdneg_c rfl (hy.ext (((e1.trans e2).trans e3).trans hy6)) (by (try simp only [lens]); omega)) (fun v7 w7 e7 h7 => ?_)
  have z7 := e7.size
  try simp only [val_dig] at h7
  obtain ⟨q7, rfl, hq7⟩ := h7
  exact WL_nil ⟨e7, _, rfl, ⟨_, rfl, (AllP.cons rfl (AllP.cons (hq7.mono (by omega)) (AllP.cons rfl AllP.nil)))⟩⟩
 apply AnyR_rel (RelP (pTup [pAgg [pEq _, pNo w3.heap.size 111 _, pEq _], pEq _])) [6, 8] rfl (RelP.mono (pTup_mono (PsM.cons (pAgg_mono (PsM.cons pEq_mono (PsM.cons pNo_mono (PsM.cons pEq_mono PsM.nil)))) (PsM.cons pEq_mono PsM.nil)))) (by kernel_rfl)
 · --
  intro y8 hy8
  have zy8 := hy8.size
  refine AllV_v ?_
  refine AllV_r fun a9 b9 v9 la9 lb9 lc9 h9 ap9 => ?_
  clear ap9
  obtain ⟨_, rfl, v9_0, _, rfl, rfl, v9_1, _, rfl, h9_1, v9_2, _, rfl, rfl, rfl⟩ := h9
  refine AllV_nil ?_
  refine O_call enters101 rfl rfl rfl (rdadd_c rfl (hx.ext (((e1.trans e2).trans e3).trans hy8)) rfl h9_1.nl (by with_reducible assumption) (by with_reducible assumption)) (fun v10 w10 e10 h10 => ?_)
  have z10 := e10.size
  try simp only [val_dig] at h10
  obtain ⟨q10, rfl, hq10⟩ := h10
  exact WL_nil ⟨e10, _, rfl, ⟨_, rfl, (AllP.cons ⟨_, rfl, (AllP.cons rfl (AllP.cons (hq10.mono (by omega)) (AllP.cons rfl AllP.nil)))⟩ (AllP.cons rfl AllP.nil))⟩⟩
 apply AnyR_rel (RelP (pAgg [pEq _, pNo w3.heap.size 111 _, pEq _])) [9] rfl (RelP.mono (pAgg_mono (PsM.cons pEq_mono (PsM.cons pNo_mono (PsM.cons pEq_mono PsM.nil))))) (by kernel_rfl)
 · --
  intro y11 hy11
  have zy11 := hy11.size
  refine AllV_r fun a12 b12 v12 la12 lb12 lc12 h12 ap12 => ?_
  clear ap12
  obtain ⟨_, rfl, v12_0, _, rfl, ⟨_, rfl, v12_0_0, _, rfl, rfl, v12_0_1, _, rfl, h12_0_1, v12_0_2, _, rfl, rfl, rfl⟩, v12_1, _, rfl, rfl, rfl⟩ := h12
  refine AllV_nil ?_
  refine O_extract rfl rfl rfl rfl ?_
  exact WL_nil ⟨(Ext.refl _), _, rfl, ⟨_, rfl, (AllP.cons rfl (AllP.cons (h12_0_1.mono (by omega)) (AllP.cons rfl AllP.nil)))⟩⟩
 apply AnyR_val [9] rfl (by kernel_rfl)
 · --
  intro y13 hy13
  have zy13 := hy13.size
  refine AllV_r fun a14 b14 v14 la14 lb14 lc14 h14 ap14 => ?_
  clear ap14
  obtain ⟨_, rfl, v14_0, _, rfl, ⟨_, rfl, v14_0_0, _, rfl, rfl, v14_0_1, _, rfl, h14_0_1, v14_0_2, _, rfl, rfl, rfl⟩, v14_1, _, rfl, rfl, rfl⟩ := h14
  refine AllV_nil ?_
  refine O_extract rfl rfl rfl rfl ?_
  exact WL_nil ⟨(Ext.refl _), rfl⟩
 refine AnyR_nil fun y15 hy15 => ?_
 have zy15 := hy15.size
 refine AllV_v ?_
 refine AllV_v ?_
 refine AllV_r fun a16 b16 v16 la16 lb16 lc16 h16 ap16 => ?_
 clear ap16
 obtain ⟨_, rfl, v16_0, _, rfl, rfl, v16_1, _, rfl, h16_1, v16_2, _, rfl, rfl, rfl⟩ := h16
 refine AllV_r fun a17 b17 v17 la17 lb17 lc17 h17 ap17 => ?_
 clear ap17
 obtain ⟨_, rfl, v17_0, _, rfl, ⟨_, rfl, v17_0_0, _, rfl, rfl, v17_0_1, _, rfl, h17_0_1, v17_0_2, _, rfl, rfl, rfl⟩, v17_1, _, rfl, rfl, rfl⟩ := h17
 refine AllV_r fun a18 b18 v18 la18 lb18 lc18 h18 ap18 => ?_
 clear ap18
 obtain ⟨_, rfl, v18_0, _, rfl, rfl, v18_1, _, rfl, h18_1, v18_2, _, rfl, rfl, rfl⟩ := h18
 refine AllV_v ?_
 refine AllV_nil ?_
 refine O_storeA (cs' := [_, _, _]) S26 rfl rfl rfl (b3.ext hy15) rfl rfl (one_cons rfl (one_cons (h18_1.nl).one (one_cons rfl one_nil))) rfl (fun w19 b19 q19 => ?_)
 have z19 := Nat.le_of_eq q19.size.symm
 have e19 : Ext w w19 := q19.ext (((e1.trans e2).trans e3).trans hy15) (by omega)
 refine O_assign rfl rfl rfl ?_
 refine WL_end [(4, _), (5, _)] ⟨rfl, rfl, trivial⟩ ?_
 refine WP_ret ?_
 refine retL Tryd.results100 (.cell rfl S26 b19 rfl (.tmp rfl .nil)) ?_
 exact ⟨_, rfl, e19, _, rfl, (h18_1.chgBk (b3.ext hy15) (by decide) q19).mono (by omega)⟩

theorem ivwidth_c {w : World} {vx vy : Value} {x y e f : Int} {bx by_ : Bool} (hbx : bx = decide (x < 0)) (hx : Nl w vx (dig x.natAbs)) (hby : by_ = decide (y < 0)) (hy : Nl w vy (dig y.natAbs)) (hvx : dval x e = true) (hvy : dval y f = true) (hc : dcode (dsum y f (-x) e) (min f e) = 0) (hT : Tab w) :
    Calls Tryd.prog 43 #[.agg #[.bool bx, vx, .int .i64 e, .bool by_, vy, .int .i64 f]] w (Ret w fun r w' => ∃ q, r = .tuple #[.agg #[.bool (decide ((dman (dsum y f (-x) e) (min f e)) < 0)), q, .int .i64 (dexp (dsum y f (-x) e) (min f e))], .int .i64 0] ∧ No w.heap.size 111 w' q (dig (dman (dsum y f (-x) e) (min f e)).natAbs)) := by
 subst hbx
 subst hby
 have hRx := dval_range hvx
 have hlx : (dig x.natAbs).length ≤ 2049 := dval_len hvx
 have hRy := dval_range hvy
 have hly : (dig y.natAbs).length ≤ 2049 := dval_len hvy
 refine enter (args := [_]) Tryd.func43 rfl Tryd.ntmps43 rfl ?_
 refine WP_seq ?_
 refine WP_region ?_
 refine O_box _ rfl rfl rfl rfl (fun g1 w1 b1 e1 gl1 gh1 => ?_)
 have z1 := e1.size
 refine O_alloc S26 rfl rfl (fun g2 w2 b2 e2 gl2 gh2 => ?_)
 have z2 := e2.size
 refine O_assign rfl rfl rfl ?_
 refine WL_end [(1, _), (2, _)] ⟨rfl, rfl, trivial⟩ ?_
 refine WP_seq ?_
 refine WP_region ?_
 refine O_field F53_1 rfl rfl rfl ?_
 refine O_loadA (vs := [_, _, _]) S26 rfl rfl rfl (b1.ext e2) rfl rfl ?_
 refine O_field F53_0 rfl rfl rfl ?_
 refine O_loadA (vs := [_, _, _]) S26 rfl rfl rfl (b1.ext e2) rfl rfl ?_
 refine O_call enters97 rfl rfl rfl (dsub_c rfl (hy.ext (e1.trans e2)) rfl (hx.ext (e1.trans e2)) (by first | with_reducible assumption | exact dval_dman _ _ | exact dval_zero | exact dval_dg (by assumption) (by assumption) | exact dval_dl (by assumption) (by assumption)) (by first | with_reducible assumption | exact dval_dman _ _ | exact dval_zero | exact dval_dg (by assumption) (by assumption) | exact dval_dl (by assumption) (by assumption)) (hT.ext (e1.trans e2))) (fun v3 w3 e3 h3 => ?_)
 have z3 := e3.size
 try simp only [val_dig] at h3
 obtain ⟨q3, rfl, hq3⟩ := h3
 rw [dcode3_eq (by omega) (by omega), hc]
 refine O_extract rfl rfl rfl rfl ?_
 refine O_extract rfl rfl rfl rfl ?_
 refine O_storeA (cs' := [_, _, _]) S26 rfl rfl rfl (b2.ext e3) rfl rfl (one_cons rfl (one_cons (hq3.nl).one (one_cons rfl one_nil))) rfl (fun w4 b4 q4 => ?_)
 have z4 := Nat.le_of_eq q4.size.symm
 have e4 : Ext w w4 := q4.ext ((e1.trans e2).trans e3) (by omega)
 refine O_assign rfl rfl rfl ?_
 refine WL_end [(2, _), (3, _)] ⟨rfl, rfl, trivial⟩ ?_
 refine WP_ret ?_
 refine retL Tryd.results43 (.cell rfl S26 b4 rfl (.tmp rfl .nil)) ?_
 exact ⟨_, rfl, e4, _, rfl, (hq3.chgBk (b2.ext e3) (by decide) q4).mono (by omega)⟩

theorem rivwidth_c {w : World} {vx vy : Value} {x y e f : Int} {bx by_ : Bool} (hbx : bx = decide (x < 0)) (hx : Nl w vx (dig x.natAbs)) (hby : by_ = decide (y < 0)) (hy : Nl w vy (dig y.natAbs)) (hvx : dval x e = true) (hvy : dval y f = true) (hc : dcode (dsum y f (-x) e) (min f e) = 0) :
    Calls Tryd.prog 45 #[.agg #[.bool bx, vx, .int .i64 e, .bool by_, vy, .int .i64 f]] w (Ret w fun r w' => ∃ q, r = .tuple #[.agg #[.bool (decide ((dman (dsum y f (-x) e) (min f e)) < 0)), q, .int .i64 (dexp (dsum y f (-x) e) (min f e))], .int .i64 0] ∧ No w.heap.size 111 w' q (dig (dman (dsum y f (-x) e) (min f e)).natAbs)) := by
 subst hbx
 subst hby
 have hRx := dval_range hvx
 have hlx : (dig x.natAbs).length ≤ 2049 := dval_len hvx
 have hRy := dval_range hvy
 have hly : (dig y.natAbs).length ≤ 2049 := dval_len hvy
 refine enter (args := [_]) Tryd.func45 rfl Tryd.ntmps45 rfl ?_
 refine WP_seq ?_
 refine WP_region ?_
 refine O_box _ rfl rfl rfl rfl (fun g1 w1 b1 e1 gl1 gh1 => ?_)
 have z1 := e1.size
 refine O_alloc S26 rfl rfl (fun g2 w2 b2 e2 gl2 gh2 => ?_)
 have z2 := e2.size
 refine O_assign rfl rfl rfl ?_
 refine WL_end [(1, _), (2, _)] ⟨rfl, rfl, trivial⟩ ?_
 refine WP_seq ?_
 refine WP_region ?_
 refine O_field F53_1 rfl rfl rfl ?_
 refine O_loadA (vs := [_, _, _]) S26 rfl rfl rfl (b1.ext e2) rfl rfl ?_
 refine O_field F53_0 rfl rfl rfl ?_
 refine O_loadA (vs := [_, _, _]) S26 rfl rfl rfl (b1.ext e2) rfl rfl ?_
 refine O_call enters100 rfl rfl rfl (rdsub_c rfl (hy.ext (e1.trans e2)) rfl (hx.ext (e1.trans e2)) (by first | with_reducible assumption | exact dval_dman _ _ | exact dval_zero | exact dval_dg (by assumption) (by assumption) | exact dval_dl (by assumption) (by assumption)) (by first | with_reducible assumption | exact dval_dman _ _ | exact dval_zero | exact dval_dg (by assumption) (by assumption) | exact dval_dl (by assumption) (by assumption))) (fun v3 w3 e3 h3 => ?_)
 have z3 := e3.size
 try simp only [val_dig] at h3
 obtain ⟨q3, rfl, hq3⟩ := h3
 rw [hc]
 refine O_extract rfl rfl rfl rfl ?_
 refine O_extract rfl rfl rfl rfl ?_
 refine O_storeA (cs' := [_, _, _]) S26 rfl rfl rfl (b2.ext e3) rfl rfl (one_cons rfl (one_cons (hq3.nl).one (one_cons rfl one_nil))) rfl (fun w4 b4 q4 => ?_)
 have z4 := Nat.le_of_eq q4.size.symm
 have e4 : Ext w w4 := q4.ext ((e1.trans e2).trans e3) (by omega)
 refine O_assign rfl rfl rfl ?_
 refine WL_end [(2, _), (3, _)] ⟨rfl, rfl, trivial⟩ ?_
 refine WP_ret ?_
 refine retL Tryd.results45 (.cell rfl S26 b4 rfl (.tmp rfl .nil)) ?_
 exact ⟨_, rfl, e4, _, rfl, (hq3.chgBk (b2.ext e3) (by decide) q4).mono (by omega)⟩

theorem ivmid_c {w : World} {vx vy : Value} {x y e f : Int} {bx by_ : Bool} (hbx : bx = decide (x < 0)) (hx : Nl w vx (dig x.natAbs)) (hby : by_ = decide (y < 0)) (hy : Nl w vy (dig y.natAbs)) (hvx : dval x e = true) (hvy : dval y f = true) (hc : dcode (dsum x e y f) (min e f) = 0) (hc2 : dcode (dman (dsum x e y f) (min e f)) (dexp (dsum x e y f) (min e f) + -1) = 0) (hT : Tab w) :
    Calls Tryd.prog 44 #[.agg #[.bool bx, vx, .int .i64 e, .bool by_, vy, .int .i64 f]] w (Ret w fun r w' => ∃ q, r = .tuple #[.agg #[.bool (decide ((dman (dman (dsum x e y f) (min e f)) (dexp (dsum x e y f) (min e f) + -1)) < 0)), q, .int .i64 (dexp (dman (dsum x e y f) (min e f)) (dexp (dsum x e y f) (min e f) + -1))], .int .i64 0] ∧ No w.heap.size 111 w' q (dig (dman (dman (dsum x e y f) (min e f)) (dexp (dsum x e y f) (min e f) + -1)).natAbs)) := by
 subst hbx
 subst hby
 have hRx := dval_range hvx
 have hlx : (dig x.natAbs).length ≤ 2049 := dval_len hvx
 have hRy := dval_range hvy
 have hly : (dig y.natAbs).length ≤ 2049 := dval_len hvy
 have hvm := dval_dman (dsum x e y f) (min e f)
 have hrm := dval_range hvm
 have hlm := dval_len hvm
 refine enter (args := [_]) Tryd.func44 rfl Tryd.ntmps44 rfl ?_
 refine WP_seq ?_
 refine WP_region ?_
 refine O_box _ rfl rfl rfl rfl (fun g1 w1 b1 e1 gl1 gh1 => ?_)
 have z1 := e1.size
 refine O_alloc S26 rfl rfl (fun g2 w2 b2 e2 gl2 gh2 => ?_)
 have z2 := e2.size
 refine O_assign rfl rfl rfl ?_
 refine WL_end [(1, _), (2, _)] ⟨rfl, rfl, trivial⟩ ?_
 refine WP_seq ?_
 refine WP_region ?_
 refine O_field F53_0 rfl rfl rfl ?_
 refine O_loadA (vs := [_, _, _]) S26 rfl rfl rfl (b1.ext e2) rfl rfl ?_
 refine O_field F53_1 rfl rfl rfl ?_
 refine O_loadA (vs := [_, _, _]) S26 rfl rfl rfl (b1.ext e2) rfl rfl ?_
 refine O_call enters98 rfl rfl rfl (dadd_c rfl (hx.ext (e1.trans e2)) rfl (hy.ext (e1.trans e2)) (by with_reducible assumption) (by with_reducible assumption) (hT.ext (e1.trans e2))) (fun v3 w3 e3 h3 => ?_)
 have z3 := e3.size
 try simp only [val_dig] at h3
 obtain ⟨q3, rfl, hq3⟩ := h3
 rw [dcode3_eq (by omega) (by omega), hc]
 refine O_move rfl rfl rfl ?_
 refine O_extract rfl rfl rfl rfl ?_
 refine O_extract rfl rfl rfl rfl ?_
 refine O_alloc S26 rfl rfl (fun g4 w4 b4 e4 gl4 gh4 => ?_)
 have z4 := e4.size
 refine O_storeA (cs' := [_, _, _]) S26 rfl rfl rfl b4 rfl rfl (one_cons rfl (one_cons ((hq3.ext e4).nl).one (one_cons rfl one_nil))) rfl (fun w5 b5 q5 => ?_)
 have z5 := Nat.le_of_eq q5.size.symm
 have e5 : Ext w w5 := q5.ext (((e1.trans e2).trans e3).trans e4) (by omega)
 refine O_assign rfl rfl rfl ?_
 refine WL_end [(2, _), (4, _), (5, _)] ⟨rfl, rfl, rfl, trivial⟩ ?_
 refine WP_seq ?_
 refine WP_seq ?_
 refine WP_region ?_
 refine O_move rfl rfl rfl ?_
 refine O_neq (t := false) rfl rfl rfl rfl (decide_eq_false (by decide)) ?_
 refine WL_end [(2, _), (4, _), (5, _), (15, _)] ⟨rfl, rfl, rfl, rfl, trivial⟩ ?_
 refine WP_condF rfl ?_
 refine WP_skip ?_
 refine WP_seq ?_
 refine WP_region ?_
 refine O_loadA (vs := [_, _, _]) S26 rfl rfl rfl b5 rfl rfl ?_
 refine O_call enters99 rfl rfl rfl (dshift_c rfl ((hq3.ext e4).chgBk b4 (by decide) q5).nl (by (try simp only [lens]); omega) (by (try simp only [lens]); omega) (by (try simp only [lens]); omega) (by (try simp only [lens]); omega) (by (try simp only [lens]); omega) (hT.ext e5)) (fun v6 w6 e6 h6 => ?_)
 have z6 := e6.size
 try simp only [val_dig] at h6
 obtain ⟨q6, rfl, hq6⟩ := h6
 rw [dcode3_eq (by omega) (by omega), hc2]
 refine O_extract rfl rfl rfl rfl ?_
 refine O_extract rfl rfl rfl rfl ?_
 refine O_storeA (cs' := [_, _, _]) S26 rfl rfl rfl ((((b2.ext e3).ext e4).chg q5 (by first | assumption | omega)).ext e6) rfl rfl (one_cons rfl (one_cons (hq6.nl).one (one_cons rfl one_nil))) rfl (fun w7 b7 q7 => ?_)
 have z7 := Nat.le_of_eq q7.size.symm
 have e7 : Ext w w7 := q7.ext (e5.trans e6) (by omega)
 refine O_assign rfl rfl rfl ?_
 refine WL_end [(2, _), (3, _)] ⟨rfl, rfl, trivial⟩ ?_
 refine WP_ret ?_
 refine retL Tryd.results44 (.cell rfl S26 b7 rfl (.tmp rfl .nil)) ?_
 exact ⟨_, rfl, e7, _, rfl, (hq6.chgBk ((((b2.ext e3).ext e4).chg q5 (by first | assumption | omega)).ext e6) (by decide) q7).mono (by omega)⟩

theorem rivmid_c {w : World} {vx vy : Value} {x y e f : Int} {bx by_ : Bool} (hbx : bx = decide (x < 0)) (hx : Nl w vx (dig x.natAbs)) (hby : by_ = decide (y < 0)) (hy : Nl w vy (dig y.natAbs)) (hvx : dval x e = true) (hvy : dval y f = true) (hc : dcode (dsum x e y f) (min e f) = 0) (hc2 : dcode (dman (dsum x e y f) (min e f)) (dexp (dsum x e y f) (min e f) + -1) = 0) :
    Calls Tryd.prog 46 #[.agg #[.bool bx, vx, .int .i64 e, .bool by_, vy, .int .i64 f]] w (Ret w fun r w' => ∃ q, r = .tuple #[.agg #[.bool (decide ((dman (dman (dsum x e y f) (min e f)) (dexp (dsum x e y f) (min e f) + -1)) < 0)), q, .int .i64 (dexp (dman (dsum x e y f) (min e f)) (dexp (dsum x e y f) (min e f) + -1))], .int .i64 0] ∧ No w.heap.size 111 w' q (dig (dman (dman (dsum x e y f) (min e f)) (dexp (dsum x e y f) (min e f) + -1)).natAbs)) := by
 subst hbx
 subst hby
 have hRx := dval_range hvx
 have hlx : (dig x.natAbs).length ≤ 2049 := dval_len hvx
 have hRy := dval_range hvy
 have hly : (dig y.natAbs).length ≤ 2049 := dval_len hvy
 have hvm := dval_dman (dsum x e y f) (min e f)
 have hrm := dval_range hvm
 have hlm := dval_len hvm
 refine enter (args := [_]) Tryd.func46 rfl Tryd.ntmps46 rfl ?_
 refine WP_seq ?_
 refine WP_region ?_
 refine O_box _ rfl rfl rfl rfl (fun g1 w1 b1 e1 gl1 gh1 => ?_)
 have z1 := e1.size
 refine O_alloc S26 rfl rfl (fun g2 w2 b2 e2 gl2 gh2 => ?_)
 have z2 := e2.size
 refine O_assign rfl rfl rfl ?_
 refine WL_end [(1, _), (2, _)] ⟨rfl, rfl, trivial⟩ ?_
 refine WP_seq ?_
 refine WP_region ?_
 refine O_field F53_0 rfl rfl rfl ?_
 refine O_loadA (vs := [_, _, _]) S26 rfl rfl rfl (b1.ext e2) rfl rfl ?_
 refine O_field F53_1 rfl rfl rfl ?_
 refine O_loadA (vs := [_, _, _]) S26 rfl rfl rfl (b1.ext e2) rfl rfl ?_
 refine O_call enters101 rfl rfl rfl (rdadd_c rfl (hx.ext (e1.trans e2)) rfl (hy.ext (e1.trans e2)) (by with_reducible assumption) (by with_reducible assumption)) (fun v3 w3 e3 h3 => ?_)
 have z3 := e3.size
 try simp only [val_dig] at h3
 obtain ⟨q3, rfl, hq3⟩ := h3
 rw [hc]
 refine O_move rfl rfl rfl ?_
 refine O_extract rfl rfl rfl rfl ?_
 refine O_extract rfl rfl rfl rfl ?_
 refine O_alloc S26 rfl rfl (fun g4 w4 b4 e4 gl4 gh4 => ?_)
 have z4 := e4.size
 refine O_storeA (cs' := [_, _, _]) S26 rfl rfl rfl b4 rfl rfl (one_cons rfl (one_cons ((hq3.ext e4).nl).one (one_cons rfl one_nil))) rfl (fun w5 b5 q5 => ?_)
 have z5 := Nat.le_of_eq q5.size.symm
 have e5 : Ext w w5 := q5.ext (((e1.trans e2).trans e3).trans e4) (by omega)
 refine O_assign rfl rfl rfl ?_
 refine WL_end [(2, _), (4, _), (5, _)] ⟨rfl, rfl, rfl, trivial⟩ ?_
 refine WP_seq ?_
 refine WP_seq ?_
 refine WP_region ?_
 refine O_move rfl rfl rfl ?_
 refine O_neq (t := false) rfl rfl rfl rfl (decide_eq_false (by decide)) ?_
 refine WL_end [(2, _), (4, _), (5, _), (15, _)] ⟨rfl, rfl, rfl, rfl, trivial⟩ ?_
 refine WP_condF rfl ?_
 refine WP_skip ?_
 refine WP_seq ?_
 refine WP_region ?_
 refine O_loadA (vs := [_, _, _]) S26 rfl rfl rfl b5 rfl rfl ?_
 refine O_call enters102 rfl rfl rfl (rdshift_c rfl ((hq3.ext e4).chgBk b4 (by decide) q5).nl (by (try simp only [lens]); omega) (by (try simp only [lens]); omega) (by (try simp only [lens]); omega) (by (try simp only [lens]); omega) (by (try simp only [lens]); omega)) (fun v6 w6 e6 h6 => ?_)
 have z6 := e6.size
 try simp only [val_dig] at h6
 obtain ⟨q6, rfl, hq6⟩ := h6
 rw [hc2]
 refine O_extract rfl rfl rfl rfl ?_
 refine O_extract rfl rfl rfl rfl ?_
 refine O_storeA (cs' := [_, _, _]) S26 rfl rfl rfl ((((b2.ext e3).ext e4).chg q5 (by first | assumption | omega)).ext e6) rfl rfl (one_cons rfl (one_cons (hq6.nl).one (one_cons rfl one_nil))) rfl (fun w7 b7 q7 => ?_)
 have z7 := Nat.le_of_eq q7.size.symm
 have e7 : Ext w w7 := q7.ext (e5.trans e6) (by omega)
 refine O_assign rfl rfl rfl ?_
 refine WL_end [(2, _), (3, _)] ⟨rfl, rfl, trivial⟩ ?_
 refine WP_ret ?_
 refine retL Tryd.results46 (.cell rfl S26 b7 rfl (.tmp rfl .nil)) ?_
 exact ⟨_, rfl, e7, _, rfl, (hq6.chgBk ((((b2.ext e3).ext e4).chg q5 (by first | assumption | omega)).ext e6) (by decide) q7).mono (by omega)⟩


theorem ivhasT_c {w : World} {vx vy : Value} {x y e f : Int} {bx by_ : Bool} (hbx : bx = decide (x < 0)) (hx : Nl w vx (dig x.natAbs)) (hby : by_ = decide (y < 0)) (hy : Nl w vy (dig y.natAbs)) (hvx : dval x e = true) (hvy : dval y f = true) {vp vq : Value} {p : Int} {q : Nat} {bp : Bool} (hbp : bp = decide (p < 0)) (hp : Nl w vp (dig p.natAbs)) (hq : Nl w vq (dig q)) (hlp : (dig p.natAbs).length ≤ 20000) (hlq : (dig q).length ≤ 20000) (hs : hasv x e y f p q = true) : Calls Tryd.prog 47 #[.agg #[.bool bx, vx, .int .i64 e, .bool by_, vy, .int .i64 f], .agg #[.bool bp, vp, vq]] w (Ret w fun r _ => r = .bool true) :=
  (ivhas_c hbx hx hby hy hvx hvy hbp hp hq hlp hlq).mono fun _ w' ⟨r, he, hx', hr⟩ => ⟨r, he, hx', by rw [hr, hs]⟩


theorem ivsameT_c {w : World} {vx vy : Value} {x y e f : Int} {bx by_ : Bool} (hbx : bx = decide (x < 0)) (hx : Nl w vx (dig x.natAbs)) (hby : by_ = decide (y < 0)) (hy : Nl w vy (dig y.natAbs)) (hvx : dval x e = true) (hvy : dval y f = true) {vz vu : Value} {z u g h : Int} {bz bu : Bool} (hbz : bz = decide (z < 0)) (hz : Nl w vz (dig z.natAbs)) (hbu : bu = decide (u < 0)) (hu : Nl w vu (dig u.natAbs)) (hvz : dval z g = true) (hvu : dval u h = true) (hs : samev x e y f z g u h = true) : Calls Tryd.prog 50 #[.agg #[.bool bx, vx, .int .i64 e, .bool by_, vy, .int .i64 f], .agg #[.bool bz, vz, .int .i64 g, .bool bu, vu, .int .i64 h]] w (Ret w fun r _ => r = .bool true) :=
  (ivsame_c hbx hx hby hy hvx hvy hbz hz hbu hu hvz hvu).mono fun _ w' ⟨r, he, hx', hr⟩ => ⟨r, he, hx', by rw [hr, hs]⟩

theorem rsameR_c {w : World} {vp vq : Value} {p : Int} {q : Nat} {bp : Bool} (hbp : bp = decide (p < 0)) (hp : Nl w vp (dig p.natAbs)) (hq : Nl w vq (dig q))  {vs vt : Value} (hs : Nl w vs (dig p.natAbs)) (ht : Nl w vt (dig q)) (hlp : (dig p.natAbs).length ≤ 30000) (hlq : (dig q).length ≤ 30000) :
    Calls Tryd.prog 53 #[.agg #[.bool bp, vp, vq], .agg #[.bool bp, vs, vt]] w (Ret w fun r _ => r = .bool true) := by
 subst hbp
 refine enter (args := [_, _]) Tryd.func53 rfl Tryd.ntmps53 rfl ?_
 refine WP_seq ?_
 refine WP_region ?_
 refine O_box _ rfl rfl rfl rfl (fun g1 w1 b1 e1 gl1 gh1 => ?_)
 have z1 := e1.size
 refine O_box _ rfl rfl rfl rfl (fun g2 w2 b2 e2 gl2 gh2 => ?_)
 have z2 := e2.size
 refine O_assign rfl rfl rfl ?_
 refine WL_end [(2, _), (3, _)] ⟨rfl, rfl, trivial⟩ ?_
 refine WP_seq ?_
 refine WP_region ?_
 refine O_field F40_0 rfl rfl rfl ?_
 refine O_loadA (vs := [_, _]) S24 rfl rfl rfl (b1.ext e2) rfl rfl ?_
 refine O_field F40_0 rfl rfl rfl ?_
 refine O_loadA (vs := [_, _]) S24 rfl rfl rfl b2 rfl rfl ?_
 refine O_call enters71 rfl rfl rfl (isame_c rfl (hp.ext (e1.trans e2)) (hs.ext (e1.trans e2)) (by (try simp only [lens]); omega) (by (try simp only [lens]); omega) rfl) (fun v3 w3 e3 h3 => ?_)
 have z3 := e3.size
 obtain rfl := h3
 refine O_move rfl rfl rfl ?_
 refine O_field F40_1 rfl rfl rfl ?_
 refine O_loadC Tryd.underlying22 rfl rfl rfl rfl ((b1.ext e2).ext e3) rfl ?_
 refine O_field F40_1 rfl rfl rfl ?_
 refine O_loadC Tryd.underlying22 rfl rfl rfl rfl (b2.ext e3) rfl ?_
 refine O_call enters108 rfl rfl rfl (rsame_c (hq.ext ((e1.trans e2).trans e3)) (ht.ext ((e1.trans e2).trans e3)) (by (try simp only [lens]); omega) (by (try simp only [lens]); omega) rfl) (fun v4 w4 e4 h4 => ?_)
 have z4 := e4.size
 obtain rfl := h4
 refine O_pickT rfl rfl rfl rfl ?_
 refine O_assign rfl rfl rfl ?_
 refine WL_end [(4, _)] ⟨rfl, trivial⟩ ?_
 refine WP_ret ?_
 refine ret1 Tryd.results53 rfl ?_
 exact ⟨_, rfl, (((e1.trans e2).trans e3).trans e4), rfl⟩

theorem rat_lens {x e : Int} {a : Nat} (h : dval x e = true) (hl : (dig x.natAbs).length ≤ a) : (dig (rnum x e).natAbs).length ≤ a + 6251 ∧ (dig (rden e)).length ≤ 6252 := by
  have hr := dval_range h
  exact ⟨rnum_len hl (by omega), rden_len (by omega)⟩

end Go.Proofs.YthbfhljpfkicpaaDoor
