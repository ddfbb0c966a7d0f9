/-
  Walks.
-/
import Derived.Test.YthbfhljpfkicpaaDoorG6
set_option linter.unusedVariables false
set_option linter.unusedSimpArgs false
set_option maxRecDepth 100000
namespace Go.Proofs.YthbfhljpfkicpaaDoor
open Go Go.RowKit
/-- Floor, ceiling and nearest number on the common scale; U is the unit. -/
theorem sw_made {c f : Int} (hc : dcode c f = 0) (h : -70000 ≤ f) : sw (dman c f) (dexp c f) = c * 2 ^ (f + ((70000 : Nat) : Int)).toNat := sv_made hc (by omega)
theorem unit_split {k : Int} (hk : -2048 ≤ k ∧ k ≤ 8191) : (2 : Int) ^ (-k + ((70000 : Nat) : Int)).toNat = 2 ^ (-(k + 1) + ((70000 : Nat) : Int)).toNat * 2 := by
  rw [show (-k + ((70000 : Nat) : Int)).toNat = (-(k + 1) + ((70000 : Nat) : Int)).toNat + 1 from by omega, ipow_add, Int.pow_one]
theorem sc_bounds {x e k : Int} (hk : -2048 ≤ k ∧ k ≤ 8192) (he : -65536 ≤ e) : scl x (e + k) * 2 ^ (-k + ((70000 : Nat) : Int)).toNat ≤ sw x e ∧ sw x e < (scl x (e + k) + 1) * 2 ^ (-k + ((70000 : Nat) : Int)).toNat := by
  have h := scl_spec (K := (-k + ((70000 : Nat) : Int)).toNat) (x := x) (n := e + k) (by omega)
  rw [show (e + k + (((-k + ((70000 : Nat) : Int)).toNat : Nat) : Int)).toNat = (e + ((70000 : Nat) : Int)).toNat from by omega] at h
  exact h
theorem ongrid_iff {x e k : Int} (hv : dval x e = true) (hk : perm k) : ongrid x e k ↔ scl x (e + k) = -(scl (-x) (e + k)) := by
  have hr := dval_range hv
  obtain ⟨k1, k2⟩ := hk
  constructor
  · rintro ⟨_, h⟩
    rcases h with h | h
    · subst h; rw [show (-0 : Int) = 0 from rfl, scl_zero]; rfl
    · rw [scl_pos (by omega), scl_pos (by omega), Int.neg_mul, Int.neg_neg]
  · intro h
    refine ⟨⟨k1, k2⟩, ?_⟩
    by_cases h0 : x = 0
    · exact .inl h0
    · refine .inr ?_
      rcases Int.lt_or_le e (-k) with h1 | h1
      · exfalso
        have ho := dval_odd hv h0
        obtain ⟨m, hm⟩ : ∃ m : Nat, (-(e + k)).toNat = m + 1 := ⟨(-(e + k)).toNat - 1, by omega⟩
        rw [scl_neg (by omega), scl_neg (by omega), hm] at h
        have hp := ipow_pos (m + 1)
        have h2 := Int.ediv_mul_le x (show (2 : Int) ^ (m + 1) ≠ 0 by omega)
        have h3 := Int.ediv_mul_le (-x) (show (2 : Int) ^ (m + 1) ≠ 0 by omega)
        have h4 : x = x / 2 ^ (m + 1) * 2 ^ (m + 1) := by
          have h5 : -x / 2 ^ (m + 1) * 2 ^ (m + 1) = -(x / 2 ^ (m + 1) * 2 ^ (m + 1)) := by rw [← Int.neg_mul, h, Int.neg_neg]
          omega
        rw [ipow_add, Int.pow_one] at h4
        generalize x / (2 ^ m * 2) = z at *
        have h6 : x = z * 2 ^ m * 2 := by rw [Int.mul_assoc]; exact h4
        generalize z * 2 ^ m = y at *
        omega
      · exact h1
theorem near_bounds {x e k : Int} (hk : -2048 ≤ k ∧ k ≤ 8191) (he : -65536 ≤ e) : ner x (e + k) * 2 ^ (-k + ((70000 : Nat) : Int)).toNat - sw x e ≤ 2 ^ (-(k + 1) + ((70000 : Nat) : Int)).toNat ∧ -(ner x (e + k) * 2 ^ (-k + ((70000 : Nat) : Int)).toNat - sw x e) < 2 ^ (-(k + 1) + ((70000 : Nat) : Int)).toNat := by
  have h := sc_bounds (x := x) (e := e) (k := k + 1) (by omega) he
  rw [unit_split hk]
  have hp := ipow_pos (-(k + 1) + ((70000 : Nat) : Int)).toNat
  unfold ner
  rw [show e + k + 1 = e + (k + 1) from by omega]
  generalize (2 : Int) ^ (-(k + 1) + ((70000 : Nat) : Int)).toNat = H at *
  generalize sw x e = V at *
  generalize scl x (e + (k + 1)) = T at *
  have h1 : (T + 1) / 2 * 2 ≤ T + 1 := by omega
  have h2 : T ≤ (T + 1) / 2 * 2 := by omega
  generalize (T + 1) / 2 = N at *
  have e1 : N * (H * 2) = (N * 2) * H := by grind
  have e2 : (T + 1) * H = T * H + H := by grind
  have a1 := Int.mul_le_mul_of_nonneg_right h1 (Int.le_of_lt hp)
  have a2 := Int.mul_le_mul_of_nonneg_right h2 (Int.le_of_lt hp)
  rw [e1]
  constructor <;> omega

theorem scl_made {c f p : Int} (hc : dcode c f = 0) : scl (dman c f) (dexp c f + p) = scl c (f + p) := by
  obtain ⟨k1, k2⟩ := dman_ok hc
  rw [k1, k2]
  by_cases h : c = 0
  · subst h; rw [odn_zero, scl_zero, scl_zero]
  · rw [if_neg h]
    have h1 := scl_shl (odn c) (e := ((tz c.natAbs : Nat) : Int)) (p := f + p) (by omega)
    rw [Int.toNat_natCast, odn_spec] at h1
    rw [h1]; congr 1; omega
theorem cutq_coarse {P : Int} {Q : Nat} {p d : Int} (hQ : Q ≠ 0) (hp : 0 ≤ p) (hd : 0 ≤ d) : scl (cutq P Q (p + d)) (-d) = cutq P Q p := by
  have hQp : (0 : Int) < (Q : Nat) := by omega
  have hp2 := ipow_pos d.toNat
  unfold cutq
  rw [if_neg (by omega), if_neg (by omega), scl_neg (by omega), Int.neg_neg, Int.ediv_ediv, if_neg (by omega), Int.sub_zero,
    show (p + d).toNat = p.toNat + d.toNat from by omega, ipow_add, ← Int.mul_assoc]
  exact Int.mul_ediv_mul_of_pos_left _ _ hp2
theorem dexp_ge {c f : Int} (hc : dcode c f = 0) : dman c f = 0 ∨ f ≤ dexp c f := by
  obtain ⟨k1, k2⟩ := dman_ok hc
  rw [k1, k2]
  by_cases h : c = 0
  · left; rw [h, odn_zero]
  · right; rw [if_neg h]; omega
theorem ongrid_made {c k : Int} (hp : perm k) : ongrid (dman c (-k)) (dexp c (-k)) k := by
  refine ⟨hp, ?_⟩
  by_cases hc : dcode c (-k) = 0
  · exact dexp_ge hc
  · left; exact (dman_bad hc).1
theorem near_made {c k : Int} (hp : perm k) : dcode (ner (dman c (-k)) (dexp c (-k) + k)) (-k) = 0 ∧ dman (ner (dman c (-k)) (dexp c (-k) + k)) (-k) = dman c (-k) ∧ dexp (ner (dman c (-k)) (dexp c (-k) + k)) (-k) = dexp c (-k) := by
  have h1 := ner_on (dval_dman c (-k)) (ongrid_made (c := c) hp)
  have h2 := dval_made (dval_dman c (-k))
  exact ⟨h1.1.trans h2.1, h1.2.1.trans h2.2.1, h1.2.2.trans h2.2.2⟩

theorem sw_neg (x e : Int) : sw (-x) e = -sw x e := sv_neg _ _ _
theorem grid_facts {X E k : Int} (hv : dval X E = true) (hk : -2048 ≤ k ∧ k ≤ 8191) (c1 : dcode (scl X (E + k)) (-k) = 0) (c2 : dcode (-(scl (-X) (E + k))) (-k) = 0) (c3 : dcode (ner X (E + k)) (-k) = 0) (c4 : dcode 1 (-k) = 0) (c5 : dcode 1 (-(k + 1)) = 0) :
    (0 ≤ sw X E + -(sw (dman (scl X (E + k)) (-k)) (dexp (scl X (E + k)) (-k))) ∧ sw X E + -(sw (dman (scl X (E + k)) (-k)) (dexp (scl X (E + k)) (-k))) < sw (dman 1 (-k)) (dexp 1 (-k))) ∧
    (0 ≤ sw (dman (-(scl (-X) (E + k))) (-k)) (dexp (-(scl (-X) (E + k))) (-k)) + -sw X E ∧ sw (dman (-(scl (-X) (E + k))) (-k)) (dexp (-(scl (-X) (E + k))) (-k)) + -sw X E < sw (dman 1 (-k)) (dexp 1 (-k))) ∧
    (sw (dman (ner X (E + k)) (-k)) (dexp (ner X (E + k)) (-k)) + -sw X E ≤ sw (dman 1 (-(k + 1))) (dexp 1 (-(k + 1))) ∧ -(sw (dman (ner X (E + k)) (-k)) (dexp (ner X (E + k)) (-k)) + -sw X E) < sw (dman 1 (-(k + 1))) (dexp 1 (-(k + 1)))) ∧
    (ongrid X E k ↔ dcmp (dman (scl X (E + k)) (-k)) (dexp (scl X (E + k)) (-k)) (dman (-(scl (-X) (E + k))) (-k)) (dexp (-(scl (-X) (E + k))) (-k)) = 0) := by
  have hr := dval_range hv
  have b1 := sc_bounds (x := X) (e := E) (k := k) (by omega) (by omega)
  have b2 := sc_bounds (x := -X) (e := E) (k := k) (by omega) (by omega)
  have b3 := near_bounds (x := X) (e := E) (k := k) (by omega) (by omega)
  have hp := ipow_pos (-k + ((70000 : Nat) : Int)).toNat
  have hi : ongrid X E k ↔ dcmp (dman (scl X (E + k)) (-k)) (dexp (scl X (E + k)) (-k)) (dman (-(scl (-X) (E + k))) (-k)) (dexp (-(scl (-X) (E + k))) (-k)) = 0 := by
    rw [ongrid_iff hv (by unfold perm; omega), sw_dcmp (dval_dman _ _) (dval_dman _ _), icmp_zero, sw_made c1 (by omega), sw_made c2 (by omega)]
    exact ⟨fun h => by rw [h], fun h => Int.eq_of_mul_eq_mul_right (by omega) h⟩
  rw [sw_made c1 (by omega), sw_made c2 (by omega), sw_made c3 (by omega), sw_made c4 (by omega), sw_made c5 (by omega)]
  refine ⟨?_, ?_, ?_, hi⟩
  · rw [Int.add_mul, Int.one_mul] at b1
    omega
  · rw [sw_neg, Int.add_mul, Int.one_mul] at b2
    rw [Int.neg_mul]
    omega
  · rw [Int.one_mul]
    omega
theorem sub_lens {p s : Int} {q t a b : Nat} (hp : (dig p.natAbs).length ≤ a) (hs : (dig s.natAbs).length ≤ a) (hq : (dig q).length ≤ b) (ht : (dig t).length ≤ b) :
    (dig (lown (p * (t : Int) + -s * (q : Int)) ((q : Int) * (t : Int))).natAbs).length ≤ a + b + 1 ∧ (dig (lowd (p * (t : Int) + -s * (q : Int)) ((q : Int) * (t : Int)))).length ≤ b + b := by
  have hq9 : (dig (q : Int).natAbs).length ≤ b := by rw [Int.natAbs_natCast]; exact hq
  have ht9 : (dig (t : Int).natAbs).length ≤ b := by rw [Int.natAbs_natCast]; exact ht
  have k1 := mul_len hp ht9
  have k2 := mul_len (neg_len hs) hq9
  have k3 := add_len k1 k2
  exact ⟨lown_len (by omega), lowd_len (mul_len hq9 ht9)⟩
theorem rat_lens {x e : Int} {a : Nat} (h : dval x e = true) (hl : (dig x.natAbs).length ≤ a) : (dig (rnum x e).natAbs).length ≤ a + 6251 ∧ (dig (rden e)).length ≤ 6252 := by
  have hr := dval_range h
  exact ⟨rnum_len hl (by omega), rden_len (by omega)⟩

set_option maxHeartbeats 8000000 in
theorem law_GridBounds {w : World} {vx : Value} {lx : List Nat} {bx : Bool} {e p : Int} (hx : Nl w vx lx) (hT : Tab w) :
    Calls Tryd.prog 4 #[.agg #[.bool bx, vx, .int .i64 e], .int .i64 p] w (Ret w fun r _ => r = .bool true) := by
 refine enter (args := [_, _]) Tryd.func4 rfl Tryd.ntmps4 rfl ?_
 refine WP_seq ?_
 refine WP_region ?_
 refine O_box _ rfl rfl rfl rfl (fun g1 w1 b1 e1 gl1 gh1 => ?_)
 have z1 := e1.size
 refine O_assign rfl rfl rfl ?_
 refine WL_end [(1, _), (2, _)] ⟨rfl, rfl, trivial⟩ ?_
 refine WP_seq ?_
 refine WP_seq ?_
 refine WP_region ?_
 refine O_call enters11 rfl rfl rfl (awake9_c (hT.ext e1)) (fun v2 w2 e2 h2 => ?_)
 have z2 := e2.size
 obtain rfl := h2
 refine O_not rfl rfl rfl rfl ?_
 refine WL_end [(1, _), (2, _), (24, _)] ⟨rfl, rfl, rfl, trivial⟩ ?_
 refine WP_condF rfl ?_
 refine WP_skip ?_
 refine WP_seq ?_
 refine WP_region ?_
 refine O_loadA (vs := [_, _, _]) S26 rfl rfl rfl (b1.ext e2) rfl rfl ?_
 refine O_call enters12 rfl rfl rfl (mdy_c (n := 8) (m := 300) (hx.ext (e1.trans e2)) (by decide)) (fun v3 w3 e3 h3 => ?_)
 have z3 := e3.size
 try simp only [val_dig] at h3
 obtain ⟨X, E, qA, bA, rfl, hqA, hvX, hkX, hjX, hlX⟩ := h3
 refine O_move rfl rfl rfl ?_
 refine O_extract rfl rfl rfl rfl ?_
 refine O_extract rfl rfl rfl rfl ?_
 refine O_alloc S26 rfl rfl (fun g4 w4 b4 e4 gl4 gh4 => ?_)
 have z4 := e4.size
 refine O_storeA (cs' := [_, _, _]) S26 rfl rfl rfl b4 rfl rfl (one_cons rfl (one_cons ((hqA.ext e4).nl).one (one_cons rfl one_nil))) rfl (fun w5 b5 q5 => ?_)
 have z5 := Nat.le_of_eq q5.size.symm
 have e5 : Ext w w5 := q5.ext (((e1.trans e2).trans e3).trans e4) (by omega)
 refine O_assign rfl rfl rfl ?_
 refine WL_end [(1, _), (5, _), (6, _)] ⟨rfl, rfl, rfl, trivial⟩ ?_
 refine WP_seq ?_
 refine WP_seq ?_
 refine WP_region ?_
 refine O_move rfl rfl rfl ?_
 refine O_not rfl rfl rfl rfl ?_
 refine WL_end [(1, _), (5, _), (31, _)] ⟨rfl, rfl, rfl, trivial⟩ ?_
 refine WP_cond rfl (fun c31 => ?_) (fun c31 => ?_)
 · --
  refine WP_seq ?_
  refine WP_region ?_
  refine O_assign rfl rfl rfl ?_
  refine WL_end [(4, _)] ⟨rfl, trivial⟩ ?_
  refine WP_ret ?_
  refine ret1 Tryd.results4 rfl ?_
  exact ⟨_, rfl, e5, rfl⟩
 · --
  refine WP_skip ?_
  refine WP_seq ?_
  refine WP_region ?_
  refine O_move rfl rfl rfl ?_
  refine O_call enters21 rfl rfl rfl (mod_c (by (try simp only [lens]); omega) (by (try simp only [lens]); omega)) (fun v6 w6 e6 h6 => ?_)
  have z6 := e6.size
  obtain rfl := h6
  refine O_sub rfl rfl rfl rfl (wrap_i64_id (by omega) (by omega)) ?_
  refine O_assign rfl rfl rfl ?_
  refine WL_end [(1, _), (5, _)] ⟨rfl, rfl, trivial⟩ ?_
  refine WP_seq ?_
  have hrX := dval_range hvX
  obtain ⟨k, hk⟩ : ∃ k, k = p % 400 - 100 := ⟨_, rfl⟩
  rw [← hk]
  have hpm : perm k := by unfold perm; omega
  have hpm1 : perm (k + 1) := by unfold perm; omega
  obtain ⟨c1, -, -, -, lc1⟩ := dcode_small (x := scl X (E + k)) (e := -k) (a := 40) (m := 300) (Nat.le_trans (scl_len (n := E + k) (m := 900) hlX (by omega)) (by decide)) (by omega) (by omega) (by decide)
  obtain ⟨c2, -, -, -, lc2⟩ := dcode_small (x := -(scl (-X) (E + k))) (e := -k) (a := 40) (m := 300) (Nat.le_trans (neg_len (scl_len (n := E + k) (m := 900) (neg_len hlX) (by omega))) (by decide)) (by omega) (by omega) (by decide)
  obtain ⟨c3, -, -, -, lc3⟩ := dcode_small (x := ner X (E + k)) (e := -k) (a := 40) (m := 300) (Nat.le_trans (ner_len (n := E + k) (m := 900) hlX (by omega)) (by decide)) (by omega) (by omega) (by decide)
  have h1l : (dig (1 : Int).natAbs).length ≤ 1 := dig_len_of_lt (by decide)
  obtain ⟨c4, -, -, -, lc4⟩ := dcode_small (x := 1) (e := -k) (a := 1) (m := 300) h1l (by omega) (by omega) (by decide)
  obtain ⟨c5, -, -, -, lc5⟩ := dcode_small (x := 1) (e := -(k + 1)) (a := 1) (m := 300) h1l (by omega) (by omega) (by decide)
  obtain ⟨⟨d1, d2⟩, ⟨d3, d4⟩, ⟨d5, d6⟩, hiff⟩ := grid_facts hvX (by omega) c1 c2 c3 c4 c5
  have r0 := rv_rat hvX
  have v1 := dval_dman (scl X (E + k)) (-k)
  have r1 := rv_rat v1
  have x1 := dval_range v1
  have v2 := dval_dman (-(scl (-X) (E + k))) (-k)
  have r2 := rv_rat v2
  have x2 := dval_range v2
  have v3 := dval_dman (ner X (E + k)) (-k)
  have r3 := rv_rat v3
  have x3 := dval_range v3
  have v4 := dval_dman (1) (-k)
  have r4 := rv_rat v4
  have x4 := dval_range v4
  have v5 := dval_dman (1) (-(k + 1))
  have r5 := rv_rat v5
  have x5 := dval_range v5
  have hdown := rv_add r0 (rv_neg r1)
  have hup := rv_add r2 (rv_neg r0)
  have hoff := rv_add r3 (rv_neg r0)
  have z1 := Int.ne_of_gt (rv_sum r0 r1).2
  have z2 := Int.ne_of_gt (rv_sum r2 r0).2
  have z3 := Int.ne_of_gt (rv_sum r3 r0).2
  obtain ⟨n0, m0⟩ := rat_lens (a := 40) hvX (by omega)
  obtain ⟨n1, m1⟩ := rat_lens (a := 40) v1 (by omega)
  obtain ⟨n2, m2⟩ := rat_lens (a := 40) v2 (by omega)
  obtain ⟨n3, m3⟩ := rat_lens (a := 40) v3 (by omega)
  obtain ⟨n4, m4⟩ := rat_lens (a := 40) v4 (by omega)
  obtain ⟨n5, m5⟩ := rat_lens (a := 40) v5 (by omega)
  obtain ⟨s1, t1⟩ := sub_lens n0 n1 m0 m1
  obtain ⟨s2, t2⟩ := sub_lens n2 n0 m2 m0
  obtain ⟨s3, t3⟩ := sub_lens n3 n0 m3 m0
  · --
   skip
   refine WP_region ?_
   refine O_loadA (vs := [_, _, _]) S26 rfl rfl rfl (b5.ext e6) rfl rfl ?_
   refine O_move rfl rfl rfl ?_
   refine O_call enters14 rfl rfl rfl (gfloor_T rfl (((hqA.ext e4).chgBk b4 (by decide) q5).ext e6).nl (by first | with_reducible assumption | exact dval_dman _ _ | exact dval_zero | exact (dval_neg _ _).trans (by assumption) | exact dval_dg (by assumption) (by assumption) | exact dval_dl (by assumption) (by assumption)) hpm (hT.ext (e5.trans e6))) (fun v7 w7 e7 h7 => ?_)
   have z7 := e7.size
   try simp only [val_dig] at h7
   obtain ⟨q7, rfl, hq7⟩ := h7
   refine O_move rfl rfl rfl ?_
   refine O_extract rfl rfl rfl rfl ?_
   refine O_extract rfl rfl rfl rfl ?_
   refine O_alloc S26 rfl rfl (fun g8 w8 b8 e8 gl8 gh8 => ?_)
   have z8 := e8.size
   refine O_storeA (cs' := [_, _, _]) S26 rfl rfl rfl b8 rfl rfl (one_cons rfl (one_cons ((hq7.ext e8).nl).one (one_cons rfl one_nil))) rfl (fun w9 b9 q9 => ?_)
   have z9 := Nat.le_of_eq q9.size.symm
   have e9 : Ext w w9 := q9.ext (((e5.trans e6).trans e7).trans e8) (by omega)
   refine O_assign rfl rfl rfl ?_
   refine WL_end [(1, _), (5, _), (7, _)] ⟨rfl, rfl, rfl, trivial⟩ ?_
   refine WP_seq ?_
   refine WP_region ?_
   refine O_loadA (vs := [_, _, _]) S26 rfl rfl rfl ((((b5.ext e6).ext e7).ext e8).chg q9 (by first | assumption | omega)) rfl rfl ?_
   refine O_move rfl rfl rfl ?_
   refine O_call enters15 rfl rfl rfl (gceil_T rfl ((((((hqA.ext e4).chgBk b4 (by decide) q5).ext e6).ext e7).ext e8).chgBk b8 (by decide) q9).nl (by first | with_reducible assumption | exact dval_dman _ _ | exact dval_zero | exact (dval_neg _ _).trans (by assumption) | exact dval_dg (by assumption) (by assumption) | exact dval_dl (by assumption) (by assumption)) hpm (hT.ext e9)) (fun v10 w10 e10 h10 => ?_)
   have z10 := e10.size
   try simp only [val_dig] at h10
   obtain ⟨q10, rfl, hq10⟩ := h10
   refine O_move rfl rfl rfl ?_
   refine O_extract rfl rfl rfl rfl ?_
   refine O_extract rfl rfl rfl rfl ?_
   refine O_alloc S26 rfl rfl (fun g11 w11 b11 e11 gl11 gh11 => ?_)
   have z11 := e11.size
   refine O_storeA (cs' := [_, _, _]) S26 rfl rfl rfl b11 rfl rfl (one_cons rfl (one_cons ((hq10.ext e11).nl).one (one_cons rfl one_nil))) rfl (fun w12 b12 q12 => ?_)
   have z12 := Nat.le_of_eq q12.size.symm
   have e12 : Ext w w12 := q12.ext ((e9.trans e10).trans e11) (by omega)
   refine O_assign rfl rfl rfl ?_
   refine WL_end [(1, _), (5, _), (7, _), (9, _)] ⟨rfl, rfl, rfl, rfl, trivial⟩ ?_
   refine WP_seq ?_
   refine WP_region ?_
   refine O_loadA (vs := [_, _, _]) S26 rfl rfl rfl (((((((b5.ext e6).ext e7).ext e8).chg q9 (by first | assumption | omega)).ext e10).ext e11).chg q12 (by first | assumption | omega)) rfl rfl ?_
   refine O_move rfl rfl rfl ?_
   refine O_call enters16 rfl rfl rfl (gnear_T rfl (((((((((hqA.ext e4).chgBk b4 (by decide) q5).ext e6).ext e7).ext e8).chgBk b8 (by decide) q9).ext e10).ext e11).chgBk b11 (by decide) q12).nl (by first | with_reducible assumption | exact dval_dman _ _ | exact dval_zero | exact (dval_neg _ _).trans (by assumption) | exact dval_dg (by assumption) (by assumption) | exact dval_dl (by assumption) (by assumption)) hpm (hT.ext e12)) (fun v13 w13 e13 h13 => ?_)
   have z13 := e13.size
   try simp only [val_dig] at h13
   obtain ⟨q13, rfl, hq13⟩ := h13
   refine O_move rfl rfl rfl ?_
   refine O_extract rfl rfl rfl rfl ?_
   refine O_extract rfl rfl rfl rfl ?_
   refine O_alloc S26 rfl rfl (fun g14 w14 b14 e14 gl14 gh14 => ?_)
   have z14 := e14.size
   refine O_storeA (cs' := [_, _, _]) S26 rfl rfl rfl b14 rfl rfl (one_cons rfl (one_cons ((hq13.ext e14).nl).one (one_cons rfl one_nil))) rfl (fun w15 b15 q15 => ?_)
   have z15 := Nat.le_of_eq q15.size.symm
   have e15 : Ext w w15 := q15.ext ((e12.trans e13).trans e14) (by omega)
   refine O_assign rfl rfl rfl ?_
   refine WL_end [(1, _), (5, _), (7, _), (9, _), (11, _)] ⟨rfl, rfl, rfl, rfl, rfl, trivial⟩ ?_
   refine WP_seq ?_
   refine WP_region ?_
   refine O_move rfl rfl rfl ?_
   refine O_call enters22 rfl rfl rfl (unit_T hpm (hT.ext e15)) (fun v16 w16 e16 h16 => ?_)
   have z16 := e16.size
   try simp only [val_dig] at h16
   obtain ⟨q16, rfl, hq16⟩ := h16
   refine O_move rfl rfl rfl ?_
   refine O_extract rfl rfl rfl rfl ?_
   refine O_extract rfl rfl rfl rfl ?_
   refine O_alloc S26 rfl rfl (fun g17 w17 b17 e17 gl17 gh17 => ?_)
   have z17 := e17.size
   refine O_storeA (cs' := [_, _, _]) S26 rfl rfl rfl b17 rfl rfl (one_cons rfl (one_cons ((hq16.ext e17).nl).one (one_cons rfl one_nil))) rfl (fun w18 b18 q18 => ?_)
   have z18 := Nat.le_of_eq q18.size.symm
   have e18 : Ext w w18 := q18.ext ((e15.trans e16).trans e17) (by omega)
   refine O_assign rfl rfl rfl ?_
   refine WL_end [(1, _), (5, _), (7, _), (9, _), (11, _), (13, _), (14, _)] ⟨rfl, rfl, rfl, rfl, rfl, rfl, rfl, trivial⟩ ?_
   refine WP_seq ?_
   refine WP_region ?_
   refine O_move rfl rfl rfl ?_
   refine O_add rfl rfl rfl rfl (wrap_i64_id (by omega) (by omega)) ?_
   refine O_call enters22 rfl rfl rfl (unit_T hpm1 (hT.ext e18)) (fun v19 w19 e19 h19 => ?_)
   have z19 := e19.size
   try simp only [val_dig] at h19
   obtain ⟨q19, rfl, hq19⟩ := h19
   refine O_move rfl rfl rfl ?_
   refine O_extract rfl rfl rfl rfl ?_
   refine O_extract rfl rfl rfl rfl ?_
   refine O_alloc S26 rfl rfl (fun g20 w20 b20 e20 gl20 gh20 => ?_)
   have z20 := e20.size
   refine O_storeA (cs' := [_, _, _]) S26 rfl rfl rfl b20 rfl rfl (one_cons rfl (one_cons ((hq19.ext e20).nl).one (one_cons rfl one_nil))) rfl (fun w21 b21 q21 => ?_)
   have z21 := Nat.le_of_eq q21.size.symm
   have e21 : Ext w w21 := q21.ext ((e18.trans e19).trans e20) (by omega)
   refine O_assign rfl rfl rfl ?_
   refine WL_end [(1, _), (5, _), (7, _), (9, _), (11, _), (13, _), (14, _), (15, _), (16, _)] ⟨rfl, rfl, rfl, rfl, rfl, rfl, rfl, rfl, rfl, trivial⟩ ?_
   refine WP_seq ?_
   refine WP_seq ?_
   refine WP_region ?_
   refine O_move rfl rfl rfl ?_
   refine O_neq (t := false) rfl rfl rfl rfl (decide_eq_false (by omega)) ?_
   refine O_move rfl rfl rfl ?_
   refine O_move rfl rfl rfl ?_
   refine O_neq (t := false) rfl rfl rfl rfl (decide_eq_false (by omega)) ?_
   refine O_pickF rfl rfl rfl rfl ?_
   refine O_move rfl rfl rfl ?_
   refine O_loadA (vs := [_, _, _]) S26 rfl rfl rfl ((((((((((((b9.ext e10).ext e11).chg q12 (by first | assumption | omega)).ext e13).ext e14).chg q15 (by first | assumption | omega)).ext e16).ext e17).chg q18 (by first | assumption | omega)).ext e19).ext e20).chg q21 (by first | assumption | omega)) rfl rfl ?_
   refine O_move rfl rfl rfl ?_
   refine O_call enters23 rfl rfl rfl (on_yes rfl ((((((((((((((hq7.ext e8).chgBk b8 (by decide) q9).ext e10).ext e11).chgBk b11 (by decide) q12).ext e13).ext e14).chgBk b14 (by decide) q15).ext e16).ext e17).chgBk b17 (by decide) q18).ext e19).ext e20).chgBk b20 (by decide) q21).nl (by first | with_reducible assumption | exact dval_dman _ _ | exact dval_zero | exact (dval_neg _ _).trans (by assumption) | exact dval_dg (by assumption) (by assumption) | exact dval_dl (by assumption) (by assumption)) (ongrid_made hpm)) (fun v22 w22 e22 h22 => ?_)
   have z22 := e22.size
   obtain rfl := h22
   refine O_not rfl rfl rfl rfl ?_
   refine O_pickF rfl rfl rfl rfl ?_
   refine O_move rfl rfl rfl ?_
   refine O_loadA (vs := [_, _, _]) S26 rfl rfl rfl ((((((((((b12.ext e13).ext e14).chg q15 (by first | assumption | omega)).ext e16).ext e17).chg q18 (by first | assumption | omega)).ext e19).ext e20).chg q21 (by first | assumption | omega)).ext e22) rfl rfl ?_
   refine O_move rfl rfl rfl ?_
   refine O_call enters23 rfl rfl rfl (on_yes rfl ((((((((((((hq10.ext e11).chgBk b11 (by decide) q12).ext e13).ext e14).chgBk b14 (by decide) q15).ext e16).ext e17).chgBk b17 (by decide) q18).ext e19).ext e20).chgBk b20 (by decide) q21).ext e22).nl (by first | with_reducible assumption | exact dval_dman _ _ | exact dval_zero | exact (dval_neg _ _).trans (by assumption) | exact dval_dg (by assumption) (by assumption) | exact dval_dl (by assumption) (by assumption)) (ongrid_made hpm)) (fun v23 w23 e23 h23 => ?_)
   have z23 := e23.size
   obtain rfl := h23
   refine O_not rfl rfl rfl rfl ?_
   refine O_pickF rfl rfl rfl rfl ?_
   refine O_move rfl rfl rfl ?_
   refine O_loadA (vs := [_, _, _]) S26 rfl rfl rfl ((((((((b15.ext e16).ext e17).chg q18 (by first | assumption | omega)).ext e19).ext e20).chg q21 (by first | assumption | omega)).ext e22).ext e23) rfl rfl ?_
   refine O_move rfl rfl rfl ?_
   refine O_call enters23 rfl rfl rfl (on_yes rfl ((((((((((hq13.ext e14).chgBk b14 (by decide) q15).ext e16).ext e17).chgBk b17 (by decide) q18).ext e19).ext e20).chgBk b20 (by decide) q21).ext e22).ext e23).nl (by first | with_reducible assumption | exact dval_dman _ _ | exact dval_zero | exact (dval_neg _ _).trans (by assumption) | exact dval_dg (by assumption) (by assumption) | exact dval_dl (by assumption) (by assumption)) (ongrid_made hpm)) (fun v24 w24 e24 h24 => ?_)
   have z24 := e24.size
   obtain rfl := h24
   refine O_not rfl rfl rfl rfl ?_
   refine O_pickF rfl rfl rfl rfl ?_
   refine WL_end [(1, _), (5, _), (7, _), (9, _), (11, _), (13, _), (15, _), (87, _)] ⟨rfl, rfl, rfl, rfl, rfl, rfl, rfl, rfl, trivial⟩ ?_
   refine WP_condF rfl ?_
   refine WP_skip ?_
   refine WP_seq ?_
   refine WP_sub [(1, _), (5, _), (7, _), (9, _), (11, _), (13, _), (15, _)] ⟨rfl, rfl, rfl, rfl, rfl, rfl, rfl, trivial⟩ ?_
   refine WP_anyR 9 [1, 5, 7, 9, 11, 13, 15] mixed rfl (by kernel_rfl) ?_
   apply AnyR_val [5] rfl (by kernel_rfl)
   · --
    intro y25 hy25
    have zy25 := hy25.size
    refine AllV_nil ?_
    refine O_loadA (vs := [_, _, _]) S26 rfl rfl rfl ((((((((((((((((((((b5.ext e6).ext e7).ext e8).chg q9 (by first | assumption | omega)).ext e10).ext e11).chg q12 (by first | assumption | omega)).ext e13).ext e14).chg q15 (by first | assumption | omega)).ext e16).ext e17).chg q18 (by first | assumption | omega)).ext e19).ext e20).chg q21 (by first | assumption | omega)).ext e22).ext e23).ext e24).ext hy25) rfl rfl ?_
    exact WL_nil ⟨(Ext.refl _), rfl⟩
   apply AnyR_rel (RelP (pAgg [pEq _, pNo 0 111 _, pNo 0 111 _])) [88] rfl (RelP.mono (pAgg_mono (PsM.cons pEq_mono (PsM.cons pNo_mono (PsM.cons pNo_mono PsM.nil))))) (by kernel_rfl)
   · --
    intro y26 hy26
    have zy26 := hy26.size
    refine AllV_v ?_
    refine AllV_nil ?_
    refine O_call enters24 rfl rfl rfl (rdratO_c rfl (((((((((((((((((((((((hqA.ext e4).chgBk b4 (by decide) q5).ext e6).ext e7).ext e8).chgBk b8 (by decide) q9).ext e10).ext e11).chgBk b11 (by decide) q12).ext e13).ext e14).chgBk b14 (by decide) q15).ext e16).ext e17).chgBk b17 (by decide) q18).ext e19).ext e20).chgBk b20 (by decide) q21).ext e22).ext e23).ext e24).ext hy26).mono (Nat.zero_le _)) (by first | with_reducible assumption | omega) (by (try simp only [lens]); omega) (by (try simp only [lens]); omega)) (fun v27 w27 e27 h27 => ?_)
    have z27 := e27.size
    try simp only [val_dig] at h27
    obtain ⟨rq27, rs27, rfl, hrq27, hrs27⟩ := h27
    exact WL_nil ⟨e27, _, rfl, ⟨_, rfl, (AllP.cons rfl (AllP.cons (hrq27.mono (Nat.zero_le _)) (AllP.cons (hrs27.mono (Nat.zero_le _)) AllP.nil)))⟩⟩
   apply AnyR_val [13] rfl (by kernel_rfl)
   · --
    intro y28 hy28
    have zy28 := hy28.size
    refine AllV_nil ?_
    refine O_loadA (vs := [_, _, _]) S26 rfl rfl rfl (((((((b18.ext e19).ext e20).chg q21 (by first | assumption | omega)).ext e22).ext e23).ext e24).ext hy28) rfl rfl ?_
    exact WL_nil ⟨(Ext.refl _), rfl⟩
   apply AnyR_rel (RelP (pAgg [pEq _, pNo 0 111 _, pNo 0 111 _])) [90] rfl (RelP.mono (pAgg_mono (PsM.cons pEq_mono (PsM.cons pNo_mono (PsM.cons pNo_mono PsM.nil))))) (by kernel_rfl)
   · --
    intro y29 hy29
    have zy29 := hy29.size
    refine AllV_v ?_
    refine AllV_nil ?_
    refine O_call enters24 rfl rfl rfl (rdratO_c rfl ((((((((((hq16.ext e17).chgBk b17 (by decide) q18).ext e19).ext e20).chgBk b20 (by decide) q21).ext e22).ext e23).ext e24).ext hy29).mono (Nat.zero_le _)) (by first | with_reducible assumption | omega) (by (try simp only [lens]); omega) (by (try simp only [lens]); omega)) (fun v30 w30 e30 h30 => ?_)
    have z30 := e30.size
    try simp only [val_dig] at h30
    obtain ⟨rq30, rs30, rfl, hrq30, hrs30⟩ := h30
    exact WL_nil ⟨e30, _, rfl, ⟨_, rfl, (AllP.cons rfl (AllP.cons (hrq30.mono (Nat.zero_le _)) (AllP.cons (hrs30.mono (Nat.zero_le _)) AllP.nil)))⟩⟩
   apply AnyR_val [15] rfl (by kernel_rfl)
   · --
    intro y31 hy31
    have zy31 := hy31.size
    refine AllV_nil ?_
    refine O_loadA (vs := [_, _, _]) S26 rfl rfl rfl ((((b21.ext e22).ext e23).ext e24).ext hy31) rfl rfl ?_
    exact WL_nil ⟨(Ext.refl _), rfl⟩
   apply AnyR_rel (RelP (pAgg [pEq _, pNo 0 111 _, pNo 0 111 _])) [92] rfl (RelP.mono (pAgg_mono (PsM.cons pEq_mono (PsM.cons pNo_mono (PsM.cons pNo_mono PsM.nil))))) (by kernel_rfl)
   · --
    intro y32 hy32
    have zy32 := hy32.size
    refine AllV_v ?_
    refine AllV_nil ?_
    refine O_call enters24 rfl rfl rfl (rdratO_c rfl (((((((hq19.ext e20).chgBk b20 (by decide) q21).ext e22).ext e23).ext e24).ext hy32).mono (Nat.zero_le _)) (by first | with_reducible assumption | omega) (by (try simp only [lens]); omega) (by (try simp only [lens]); omega)) (fun v33 w33 e33 h33 => ?_)
    have z33 := e33.size
    try simp only [val_dig] at h33
    obtain ⟨rq33, rs33, rfl, hrq33, hrs33⟩ := h33
    exact WL_nil ⟨e33, _, rfl, ⟨_, rfl, (AllP.cons rfl (AllP.cons (hrq33.mono (Nat.zero_le _)) (AllP.cons (hrs33.mono (Nat.zero_le _)) AllP.nil)))⟩⟩
   apply AnyR_rel (BkR _ _) [] rfl BkR.mono (by kernel_rfl)
   · --
    intro y34 hy34
    have zy34 := hy34.size
    refine AllV_nil ?_
    refine O_alloc S40 rfl rfl (fun g35 w35 b35 e35 gl35 gh35 => ?_)
    have z35 := e35.size
    exact WL_nil ⟨e35, _, rfl, _, rfl, gl35, gh35, b35⟩
   apply AnyR_rel (BkR _ _) [] rfl BkR.mono (by kernel_rfl)
   · --
    intro y36 hy36
    have zy36 := hy36.size
    refine AllV_nil ?_
    refine O_alloc S40 rfl rfl (fun g37 w37 b37 e37 gl37 gh37 => ?_)
    have z37 := e37.size
    exact WL_nil ⟨e37, _, rfl, _, rfl, gl37, gh37, b37⟩
   apply AnyR_rel (BkR _ _) [] rfl BkR.mono (by kernel_rfl)
   · --
    intro y38 hy38
    have zy38 := hy38.size
    refine AllV_nil ?_
    refine O_alloc S40 rfl rfl (fun g39 w39 b39 e39 gl39 gh39 => ?_)
    have z39 := e39.size
    exact WL_nil ⟨e39, _, rfl, _, rfl, gl39, gh39, b39⟩
   refine AnyR_nil fun y40 hy40 => ?_
   have zy40 := hy40.size
   refine AllV_v ?_
   refine AllV_r fun a41 b41 v41 la41 lb41 lc41 h41 ap41 => ?_
   clear ap41
   obtain ⟨_, rfl, v41_0, _, rfl, rfl, v41_1, _, rfl, h41_1, v41_2, _, rfl, h41_2, rfl⟩ := h41
   refine AllV_v ?_
   refine AllV_r fun a42 b42 v42 la42 lb42 lc42 h42 ap42 => ?_
   clear ap42
   obtain ⟨_, rfl, v42_0, _, rfl, rfl, v42_1, _, rfl, h42_1, v42_2, _, rfl, h42_2, rfl⟩ := h42
   refine AllV_v ?_
   refine AllV_r fun a43 b43 v43 la43 lb43 lc43 h43 ap43 => ?_
   clear ap43
   obtain ⟨_, rfl, v43_0, _, rfl, rfl, v43_1, _, rfl, h43_1, v43_2, _, rfl, h43_2, rfl⟩ := h43
   refine AllV_r fun a44 b44 v44 la44 lb44 lc44 h44 ap44 => ?_
   clear ap44
   obtain ⟨g44, rfl, gl44, gh44, b44⟩ := h44
   refine AllV_r fun a45 b45 v45 la45 lb45 lc45 h45 ap45 => ?_
   obtain ⟨p45_44, -, -, -, -⟩ := ap45
   obtain ⟨g45, rfl, gl45, gh45, b45⟩ := h45
   have ne45_44 := ap_ne p45_44 gl45 gh45 gl44 gh44
   have ne44_45 := ne45_44.symm
   clear p45_44
   refine AllV_r fun a46 b46 v46 la46 lb46 lc46 h46 ap46 => ?_
   obtain ⟨p46_45, p46_44, -, -, -, -⟩ := ap46
   obtain ⟨g46, rfl, gl46, gh46, b46⟩ := h46
   have ne46_44 := ap_ne p46_44 gl46 gh46 gl44 gh44
   have ne44_46 := ne46_44.symm
   clear p46_44
   have ne46_45 := ap_ne p46_45 gl46 gh46 gl45 gh45
   have ne45_46 := ne46_45.symm
   clear p46_45
   refine AllV_nil ?_
   refine O_storeA (cs' := [_, _, _]) S40 rfl rfl rfl b44 rfl rfl (one_cons rfl (one_cons (h41_1.nl).one (one_cons (h41_2.nl).one one_nil))) rfl (fun w47 b47 q47 => ?_)
   have z47 := Nat.le_of_eq q47.size.symm
   have e47 : Ext w w47 := q47.ext ((((e21.trans e22).trans e23).trans e24).trans hy40) (by omega)
   refine O_storeA (cs' := [_, _, _]) S40 rfl rfl rfl (b45.chg q47 (by first | assumption | omega)) rfl rfl (one_cons rfl (one_cons ((h42_1.chgBk b44 (by decide) q47).nl).one (one_cons ((h42_2.chgBk b44 (by decide) q47).nl).one one_nil))) rfl (fun w48 b48 q48 => ?_)
   have z48 := Nat.le_of_eq q48.size.symm
   have e48 : Ext w w48 := q48.ext e47 (by omega)
   refine O_storeA (cs' := [_, _, _]) S40 rfl rfl rfl ((b46.chg q47 (by first | assumption | omega)).chg q48 (by first | assumption | omega)) rfl rfl (one_cons rfl (one_cons (((h43_1.chgBk b44 (by decide) q47).chgBk (b45.chg q47 (by first | assumption | omega)) (by decide) q48).nl).one (one_cons (((h43_2.chgBk b44 (by decide) q47).chgBk (b45.chg q47 (by first | assumption | omega)) (by decide) q48).nl).one one_nil))) rfl (fun w49 b49 q49 => ?_)
   have z49 := Nat.le_of_eq q49.size.symm
   have e49 : Ext w w49 := q49.ext e48 (by omega)
   refine WL_end [(1, _), (5, _), (7, _), (9, _), (11, _), (17, _), (18, _), (19, _)] ⟨rfl, rfl, rfl, rfl, rfl, rfl, rfl, rfl, trivial⟩ ?_
   refine WP_seq ?_
   refine WP_sub [(1, _), (5, _), (7, _), (9, _), (11, _), (17, _), (18, _), (19, _)] ⟨rfl, rfl, rfl, rfl, rfl, rfl, rfl, rfl, trivial⟩ ?_
   refine WP_anyR 5 [1, 5, 7, 9, 11, 17, 18, 19] mixed rfl (by kernel_rfl) ?_
   apply AnyR_val [17] rfl (by kernel_rfl)
   · --
    intro y50 hy50
    have zy50 := hy50.size
    refine AllV_nil ?_
    refine O_loadA (vs := [_, _, _]) S40 rfl rfl rfl (((b47.chg q48 (by first | assumption | omega)).chg q49 (by first | assumption | omega)).ext hy50) rfl rfl ?_
    exact WL_nil ⟨(Ext.refl _), rfl⟩
   apply AnyR_val [7] rfl (by kernel_rfl)
   · --
    intro y51 hy51
    have zy51 := hy51.size
    refine AllV_nil ?_
    refine O_loadA (vs := [_, _, _]) S26 rfl rfl rfl ((((((((((((((((((((b9.ext e10).ext e11).chg q12 (by first | assumption | omega)).ext e13).ext e14).chg q15 (by first | assumption | omega)).ext e16).ext e17).chg q18 (by first | assumption | omega)).ext e19).ext e20).chg q21 (by first | assumption | omega)).ext e22).ext e23).ext e24).ext hy40).chg q47 (by first | assumption | omega)).chg q48 (by first | assumption | omega)).chg q49 (by first | assumption | omega)).ext hy51) rfl rfl ?_
    exact WL_nil ⟨(Ext.refl _), rfl⟩
   apply AnyR_rel (RelP (pAgg [pEq _, pNo 0 111 _, pNo 0 111 _])) [95] rfl (RelP.mono (pAgg_mono (PsM.cons pEq_mono (PsM.cons pNo_mono (PsM.cons pNo_mono PsM.nil))))) (by kernel_rfl)
   · --
    intro y52 hy52
    have zy52 := hy52.size
    refine AllV_v ?_
    refine AllV_nil ?_
    refine O_call enters24 rfl rfl rfl (rdratO_c rfl (((((((((((((((((((((((hq7.ext e8).chgBk b8 (by decide) q9).ext e10).ext e11).chgBk b11 (by decide) q12).ext e13).ext e14).chgBk b14 (by decide) q15).ext e16).ext e17).chgBk b17 (by decide) q18).ext e19).ext e20).chgBk b20 (by decide) q21).ext e22).ext e23).ext e24).ext hy40).chgBk b44 (by decide) q47).chgBk (b45.chg q47 (by first | assumption | omega)) (by decide) q48).chgBk ((b46.chg q47 (by first | assumption | omega)).chg q48 (by first | assumption | omega)) (by decide) q49).ext hy52).mono (Nat.zero_le _)) (by first | with_reducible assumption | omega) (by (try simp only [lens]); omega) (by (try simp only [lens]); omega)) (fun v53 w53 e53 h53 => ?_)
    have z53 := e53.size
    try simp only [val_dig] at h53
    obtain ⟨rq53, rs53, rfl, hrq53, hrs53⟩ := h53
    exact WL_nil ⟨e53, _, rfl, ⟨_, rfl, (AllP.cons rfl (AllP.cons (hrq53.mono (Nat.zero_le _)) (AllP.cons (hrs53.mono (Nat.zero_le _)) AllP.nil)))⟩⟩
   apply AnyR_rel (RelP (pAgg [pEq _, pNo w49.heap.size 111 _, pNo w49.heap.size 111 _])) [94, 96] rfl (RelP.mono (pAgg_mono (PsM.cons pEq_mono (PsM.cons pNo_mono (PsM.cons pNo_mono PsM.nil))))) (by kernel_rfl)
   · --
    intro y54 hy54
    have zy54 := hy54.size
    refine AllV_v ?_
    refine AllV_r fun a55 b55 v55 la55 lb55 lc55 h55 ap55 => ?_
    clear ap55
    obtain ⟨_, rfl, v55_0, _, rfl, rfl, v55_1, _, rfl, h55_1, v55_2, _, rfl, h55_2, rfl⟩ := h55
    refine AllV_nil ?_
    refine O_call enters25 rfl rfl rfl (sub07_c rfl ((((h41_1.chgBk b44 (by decide) q47).chgBk (b45.chg q47 (by first | assumption | omega)) (by decide) q48).chgBk ((b46.chg q47 (by first | assumption | omega)).chg q48 (by first | assumption | omega)) (by decide) q49).ext hy54).nl ((((h41_2.chgBk b44 (by decide) q47).chgBk (b45.chg q47 (by first | assumption | omega)) (by decide) q48).chgBk ((b46.chg q47 (by first | assumption | omega)).chg q48 (by first | assumption | omega)) (by decide) q49).ext hy54).nl (by first | with_reducible assumption | omega) (by first | with_reducible assumption | omega) rfl h55_1.nl h55_2.nl (by first | with_reducible assumption | omega) (by first | with_reducible assumption | omega) (by first | assumption | omega)) (fun v56 w56 e56 h56 => ?_)
    have z56 := e56.size
    try simp only [val_dig] at h56
    obtain ⟨rq56, rs56, rfl, hrq56, hrs56⟩ := h56
    exact WL_nil ⟨e56, _, rfl, ⟨_, rfl, (AllP.cons rfl (AllP.cons (hrq56.mono (by omega)) (AllP.cons (hrs56.mono (by omega)) AllP.nil)))⟩⟩
   apply AnyR_rel (BkR _ _) [] rfl BkR.mono (by kernel_rfl)
   · --
    intro y57 hy57
    have zy57 := hy57.size
    refine AllV_nil ?_
    refine O_alloc S40 rfl rfl (fun g58 w58 b58 e58 gl58 gh58 => ?_)
    have z58 := e58.size
    exact WL_nil ⟨e58, _, rfl, _, rfl, gl58, gh58, b58⟩
   refine AnyR_nil fun y59 hy59 => ?_
   have zy59 := hy59.size
   refine AllV_v ?_
   refine AllV_v ?_
   refine AllV_r fun a60 b60 v60 la60 lb60 lc60 h60 ap60 => ?_
   clear ap60
   obtain ⟨_, rfl, v60_0, _, rfl, rfl, v60_1, _, rfl, h60_1, v60_2, _, rfl, h60_2, rfl⟩ := h60
   refine AllV_r fun a61 b61 v61 la61 lb61 lc61 h61 ap61 => ?_
   clear ap61
   obtain ⟨_, rfl, v61_0, _, rfl, rfl, v61_1, _, rfl, h61_1, v61_2, _, rfl, h61_2, rfl⟩ := h61
   refine AllV_r fun a62 b62 v62 la62 lb62 lc62 h62 ap62 => ?_
   clear ap62
   obtain ⟨g62, rfl, gl62, gh62, b62⟩ := h62
   refine AllV_nil ?_
   refine O_storeA (cs' := [_, _, _]) S40 rfl rfl rfl b62 rfl rfl (one_cons rfl (one_cons (h61_1.nl).one (one_cons (h61_2.nl).one one_nil))) rfl (fun w63 b63 q63 => ?_)
   have z63 := Nat.le_of_eq q63.size.symm
   have e63 : Ext w w63 := q63.ext (e49.trans hy59) (by omega)
   refine WL_end [(1, _), (5, _), (7, _), (9, _), (11, _), (17, _), (18, _), (19, _), (20, _)] ⟨rfl, rfl, rfl, rfl, rfl, rfl, rfl, rfl, rfl, trivial⟩ ?_
   refine WP_seq ?_
   refine WP_sub [(1, _), (5, _), (7, _), (9, _), (11, _), (17, _), (18, _), (19, _), (20, _)] ⟨rfl, rfl, rfl, rfl, rfl, rfl, rfl, rfl, rfl, trivial⟩ ?_
   refine WP_anyR 5 [1, 5, 7, 9, 11, 17, 18, 19, 20] mixed rfl (by kernel_rfl) ?_
   apply AnyR_val [9] rfl (by kernel_rfl)
   · --
    intro y64 hy64
    have zy64 := hy64.size
    refine AllV_nil ?_
    refine O_loadA (vs := [_, _, _]) S26 rfl rfl rfl (((((((((((((((((((b12.ext e13).ext e14).chg q15 (by first | assumption | omega)).ext e16).ext e17).chg q18 (by first | assumption | omega)).ext e19).ext e20).chg q21 (by first | assumption | omega)).ext e22).ext e23).ext e24).ext hy40).chg q47 (by first | assumption | omega)).chg q48 (by first | assumption | omega)).chg q49 (by first | assumption | omega)).ext hy59).chg q63 (by first | assumption | omega)).ext hy64) rfl rfl ?_
    exact WL_nil ⟨(Ext.refl _), rfl⟩
   apply AnyR_rel (RelP (pAgg [pEq _, pNo 0 111 _, pNo 0 111 _])) [98] rfl (RelP.mono (pAgg_mono (PsM.cons pEq_mono (PsM.cons pNo_mono (PsM.cons pNo_mono PsM.nil))))) (by kernel_rfl)
   · --
    intro y65 hy65
    have zy65 := hy65.size
    refine AllV_v ?_
    refine AllV_nil ?_
    refine O_call enters24 rfl rfl rfl (rdratO_c rfl ((((((((((((((((((((((hq10.ext e11).chgBk b11 (by decide) q12).ext e13).ext e14).chgBk b14 (by decide) q15).ext e16).ext e17).chgBk b17 (by decide) q18).ext e19).ext e20).chgBk b20 (by decide) q21).ext e22).ext e23).ext e24).ext hy40).chgBk b44 (by decide) q47).chgBk (b45.chg q47 (by first | assumption | omega)) (by decide) q48).chgBk ((b46.chg q47 (by first | assumption | omega)).chg q48 (by first | assumption | omega)) (by decide) q49).ext hy59).chgBk b62 (by decide) q63).ext hy65).mono (Nat.zero_le _)) (by first | with_reducible assumption | omega) (by (try simp only [lens]); omega) (by (try simp only [lens]); omega)) (fun v66 w66 e66 h66 => ?_)
    have z66 := e66.size
    try simp only [val_dig] at h66
    obtain ⟨rq66, rs66, rfl, hrq66, hrs66⟩ := h66
    exact WL_nil ⟨e66, _, rfl, ⟨_, rfl, (AllP.cons rfl (AllP.cons (hrq66.mono (Nat.zero_le _)) (AllP.cons (hrs66.mono (Nat.zero_le _)) AllP.nil)))⟩⟩
   apply AnyR_val [17] rfl (by kernel_rfl)
   · --
    intro y67 hy67
    have zy67 := hy67.size
    refine AllV_nil ?_
    refine O_loadA (vs := [_, _, _]) S40 rfl rfl rfl (((((b47.chg q48 (by first | assumption | omega)).chg q49 (by first | assumption | omega)).ext hy59).chg q63 (by first | assumption | omega)).ext hy67) rfl rfl ?_
    exact WL_nil ⟨(Ext.refl _), rfl⟩
   apply AnyR_rel (RelP (pAgg [pEq _, pNo w63.heap.size 111 _, pNo w63.heap.size 111 _])) [99, 100] rfl (RelP.mono (pAgg_mono (PsM.cons pEq_mono (PsM.cons pNo_mono (PsM.cons pNo_mono PsM.nil))))) (by kernel_rfl)
   · --
    intro y68 hy68
    have zy68 := hy68.size
    refine AllV_r fun a69 b69 v69 la69 lb69 lc69 h69 ap69 => ?_
    clear ap69
    obtain ⟨_, rfl, v69_0, _, rfl, rfl, v69_1, _, rfl, h69_1, v69_2, _, rfl, h69_2, rfl⟩ := h69
    refine AllV_v ?_
    refine AllV_nil ?_
    refine O_call enters25 rfl rfl rfl (sub07_c rfl h69_1.nl h69_2.nl (by first | with_reducible assumption | omega) (by first | with_reducible assumption | omega) rfl ((((((h41_1.chgBk b44 (by decide) q47).chgBk (b45.chg q47 (by first | assumption | omega)) (by decide) q48).chgBk ((b46.chg q47 (by first | assumption | omega)).chg q48 (by first | assumption | omega)) (by decide) q49).ext hy59).chgBk b62 (by decide) q63).ext hy68).nl ((((((h41_2.chgBk b44 (by decide) q47).chgBk (b45.chg q47 (by first | assumption | omega)) (by decide) q48).chgBk ((b46.chg q47 (by first | assumption | omega)).chg q48 (by first | assumption | omega)) (by decide) q49).ext hy59).chgBk b62 (by decide) q63).ext hy68).nl (by first | with_reducible assumption | omega) (by first | with_reducible assumption | omega) (by first | assumption | omega)) (fun v70 w70 e70 h70 => ?_)
    have z70 := e70.size
    try simp only [val_dig] at h70
    obtain ⟨rq70, rs70, rfl, hrq70, hrs70⟩ := h70
    exact WL_nil ⟨e70, _, rfl, ⟨_, rfl, (AllP.cons rfl (AllP.cons (hrq70.mono (by omega)) (AllP.cons (hrs70.mono (by omega)) AllP.nil)))⟩⟩
   apply AnyR_rel (BkR _ _) [] rfl BkR.mono (by kernel_rfl)
   · --
    intro y71 hy71
    have zy71 := hy71.size
    refine AllV_nil ?_
    refine O_alloc S40 rfl rfl (fun g72 w72 b72 e72 gl72 gh72 => ?_)
    have z72 := e72.size
    exact WL_nil ⟨e72, _, rfl, _, rfl, gl72, gh72, b72⟩
   refine AnyR_nil fun y73 hy73 => ?_
   have zy73 := hy73.size
   refine AllV_v ?_
   refine AllV_r fun a74 b74 v74 la74 lb74 lc74 h74 ap74 => ?_
   clear ap74
   obtain ⟨_, rfl, v74_0, _, rfl, rfl, v74_1, _, rfl, h74_1, v74_2, _, rfl, h74_2, rfl⟩ := h74
   refine AllV_v ?_
   refine AllV_r fun a75 b75 v75 la75 lb75 lc75 h75 ap75 => ?_
   clear ap75
   obtain ⟨_, rfl, v75_0, _, rfl, rfl, v75_1, _, rfl, h75_1, v75_2, _, rfl, h75_2, rfl⟩ := h75
   refine AllV_r fun a76 b76 v76 la76 lb76 lc76 h76 ap76 => ?_
   clear ap76
   obtain ⟨g76, rfl, gl76, gh76, b76⟩ := h76
   refine AllV_nil ?_
   refine O_storeA (cs' := [_, _, _]) S40 rfl rfl rfl b76 rfl rfl (one_cons rfl (one_cons (h75_1.nl).one (one_cons (h75_2.nl).one one_nil))) rfl (fun w77 b77 q77 => ?_)
   have z77 := Nat.le_of_eq q77.size.symm
   have e77 : Ext w w77 := q77.ext (e63.trans hy73) (by omega)
   refine WL_end [(1, _), (5, _), (7, _), (9, _), (11, _), (17, _), (18, _), (19, _), (20, _), (21, _)] ⟨rfl, rfl, rfl, rfl, rfl, rfl, rfl, rfl, rfl, rfl, trivial⟩ ?_
   refine WP_seq ?_
   refine WP_sub [(1, _), (5, _), (7, _), (9, _), (11, _), (17, _), (18, _), (19, _), (20, _), (21, _)] ⟨rfl, rfl, rfl, rfl, rfl, rfl, rfl, rfl, rfl, rfl, trivial⟩ ?_
   refine WP_anyR 5 [1, 5, 7, 9, 11, 17, 18, 19, 20, 21] mixed rfl (by kernel_rfl) ?_
   apply AnyR_val [11] rfl (by kernel_rfl)
   · --
    intro y78 hy78
    have zy78 := hy78.size
    refine AllV_nil ?_
    refine O_loadA (vs := [_, _, _]) S26 rfl rfl rfl ((((((((((((((((((b15.ext e16).ext e17).chg q18 (by first | assumption | omega)).ext e19).ext e20).chg q21 (by first | assumption | omega)).ext e22).ext e23).ext e24).ext hy40).chg q47 (by first | assumption | omega)).chg q48 (by first | assumption | omega)).chg q49 (by first | assumption | omega)).ext hy59).chg q63 (by first | assumption | omega)).ext hy73).chg q77 (by first | assumption | omega)).ext hy78) rfl rfl ?_
    exact WL_nil ⟨(Ext.refl _), rfl⟩
   apply AnyR_rel (RelP (pAgg [pEq _, pNo 0 111 _, pNo 0 111 _])) [102] rfl (RelP.mono (pAgg_mono (PsM.cons pEq_mono (PsM.cons pNo_mono (PsM.cons pNo_mono PsM.nil))))) (by kernel_rfl)
   · --
    intro y79 hy79
    have zy79 := hy79.size
    refine AllV_v ?_
    refine AllV_nil ?_
    refine O_call enters24 rfl rfl rfl (rdratO_c rfl (((((((((((((((((((((hq13.ext e14).chgBk b14 (by decide) q15).ext e16).ext e17).chgBk b17 (by decide) q18).ext e19).ext e20).chgBk b20 (by decide) q21).ext e22).ext e23).ext e24).ext hy40).chgBk b44 (by decide) q47).chgBk (b45.chg q47 (by first | assumption | omega)) (by decide) q48).chgBk ((b46.chg q47 (by first | assumption | omega)).chg q48 (by first | assumption | omega)) (by decide) q49).ext hy59).chgBk b62 (by decide) q63).ext hy73).chgBk b76 (by decide) q77).ext hy79).mono (Nat.zero_le _)) (by first | with_reducible assumption | omega) (by (try simp only [lens]); omega) (by (try simp only [lens]); omega)) (fun v80 w80 e80 h80 => ?_)
    have z80 := e80.size
    try simp only [val_dig] at h80
    obtain ⟨rq80, rs80, rfl, hrq80, hrs80⟩ := h80
    exact WL_nil ⟨e80, _, rfl, ⟨_, rfl, (AllP.cons rfl (AllP.cons (hrq80.mono (Nat.zero_le _)) (AllP.cons (hrs80.mono (Nat.zero_le _)) AllP.nil)))⟩⟩
   apply AnyR_val [17] rfl (by kernel_rfl)
   · --
    intro y81 hy81
    have zy81 := hy81.size
    refine AllV_nil ?_
    refine O_loadA (vs := [_, _, _]) S40 rfl rfl rfl (((((((b47.chg q48 (by first | assumption | omega)).chg q49 (by first | assumption | omega)).ext hy59).chg q63 (by first | assumption | omega)).ext hy73).chg q77 (by first | assumption | omega)).ext hy81) rfl rfl ?_
    exact WL_nil ⟨(Ext.refl _), rfl⟩
   apply AnyR_rel (RelP (pAgg [pEq _, pNo w77.heap.size 111 _, pNo w77.heap.size 111 _])) [103, 104] rfl (RelP.mono (pAgg_mono (PsM.cons pEq_mono (PsM.cons pNo_mono (PsM.cons pNo_mono PsM.nil))))) (by kernel_rfl)
   · --
    intro y82 hy82
    have zy82 := hy82.size
    refine AllV_r fun a83 b83 v83 la83 lb83 lc83 h83 ap83 => ?_
    clear ap83
    obtain ⟨_, rfl, v83_0, _, rfl, rfl, v83_1, _, rfl, h83_1, v83_2, _, rfl, h83_2, rfl⟩ := h83
    refine AllV_v ?_
    refine AllV_nil ?_
    refine O_call enters25 rfl rfl rfl (sub07_c rfl h83_1.nl h83_2.nl (by first | with_reducible assumption | omega) (by first | with_reducible assumption | omega) rfl ((((((((h41_1.chgBk b44 (by decide) q47).chgBk (b45.chg q47 (by first | assumption | omega)) (by decide) q48).chgBk ((b46.chg q47 (by first | assumption | omega)).chg q48 (by first | assumption | omega)) (by decide) q49).ext hy59).chgBk b62 (by decide) q63).ext hy73).chgBk b76 (by decide) q77).ext hy82).nl ((((((((h41_2.chgBk b44 (by decide) q47).chgBk (b45.chg q47 (by first | assumption | omega)) (by decide) q48).chgBk ((b46.chg q47 (by first | assumption | omega)).chg q48 (by first | assumption | omega)) (by decide) q49).ext hy59).chgBk b62 (by decide) q63).ext hy73).chgBk b76 (by decide) q77).ext hy82).nl (by first | with_reducible assumption | omega) (by first | with_reducible assumption | omega) (by first | assumption | omega)) (fun v84 w84 e84 h84 => ?_)
    have z84 := e84.size
    try simp only [val_dig] at h84
    obtain ⟨rq84, rs84, rfl, hrq84, hrs84⟩ := h84
    exact WL_nil ⟨e84, _, rfl, ⟨_, rfl, (AllP.cons rfl (AllP.cons (hrq84.mono (by omega)) (AllP.cons (hrs84.mono (by omega)) AllP.nil)))⟩⟩
   apply AnyR_rel (BkR _ _) [] rfl BkR.mono (by kernel_rfl)
   · --
    intro y85 hy85
    have zy85 := hy85.size
    refine AllV_nil ?_
    refine O_alloc S40 rfl rfl (fun g86 w86 b86 e86 gl86 gh86 => ?_)
    have z86 := e86.size
    exact WL_nil ⟨e86, _, rfl, _, rfl, gl86, gh86, b86⟩
   refine AnyR_nil fun y87 hy87 => ?_
   have zy87 := hy87.size
   refine AllV_v ?_
   refine AllV_r fun a88 b88 v88 la88 lb88 lc88 h88 ap88 => ?_
   clear ap88
   obtain ⟨_, rfl, v88_0, _, rfl, rfl, v88_1, _, rfl, h88_1, v88_2, _, rfl, h88_2, rfl⟩ := h88
   refine AllV_v ?_
   refine AllV_r fun a89 b89 v89 la89 lb89 lc89 h89 ap89 => ?_
   clear ap89
   obtain ⟨_, rfl, v89_0, _, rfl, rfl, v89_1, _, rfl, h89_1, v89_2, _, rfl, h89_2, rfl⟩ := h89
   refine AllV_r fun a90 b90 v90 la90 lb90 lc90 h90 ap90 => ?_
   clear ap90
   obtain ⟨g90, rfl, gl90, gh90, b90⟩ := h90
   refine AllV_nil ?_
   refine O_storeA (cs' := [_, _, _]) S40 rfl rfl rfl b90 rfl rfl (one_cons rfl (one_cons (h89_1.nl).one (one_cons (h89_2.nl).one one_nil))) rfl (fun w91 b91 q91 => ?_)
   have z91 := Nat.le_of_eq q91.size.symm
   have e91 : Ext w w91 := q91.ext (e77.trans hy87) (by omega)
   refine WL_end [(1, _), (5, _), (7, _), (9, _), (18, _), (19, _), (20, _), (21, _), (22, _)] ⟨rfl, rfl, rfl, rfl, rfl, rfl, rfl, rfl, rfl, trivial⟩ ?_
   refine WP_seq ?_
   refine WP_seq ?_
   refine WP_region ?_
   refine O_loadA (vs := [_, _, _]) S40 rfl rfl rfl ((((b63.ext hy73).chg q77 (by first | assumption | omega)).ext hy87).chg q91 (by first | assumption | omega)) rfl rfl ?_
   refine O_call enters26 rfl rfl rfl (sign07_c rfl (((((h61_1.chgBk b62 (by decide) q63).ext hy73).chgBk b76 (by decide) q77).ext hy87).chgBk b90 (by decide) q91).nl (((((h61_2.chgBk b62 (by decide) q63).ext hy73).chgBk b76 (by decide) q77).ext hy87).chgBk b90 (by decide) q91).nl (by first | with_reducible assumption | omega) (by first | with_reducible assumption | omega)) (fun v92 w92 e92 h92 => ?_)
   have z92 := e92.size
   obtain rfl := h92
   refine O_lss (t := false) rfl rfl rfl rfl (decide_eq_false (by have := rv_pos hdown d1; omega)) ?_
   refine O_move rfl rfl rfl ?_
   refine O_loadA (vs := [_, _, _]) S40 rfl rfl rfl (((b77.ext hy87).chg q91 (by first | assumption | omega)).ext e92) rfl rfl ?_
   refine O_call enters26 rfl rfl rfl (sign07_c rfl ((((h75_1.chgBk b76 (by decide) q77).ext hy87).chgBk b90 (by decide) q91).ext e92).nl ((((h75_2.chgBk b76 (by decide) q77).ext hy87).chgBk b90 (by decide) q91).ext e92).nl (by first | with_reducible assumption | omega) (by first | with_reducible assumption | omega)) (fun v93 w93 e93 h93 => ?_)
   have z93 := e93.size
   obtain rfl := h93
   refine O_lss (t := false) rfl rfl rfl rfl (decide_eq_false (by have := rv_pos hup d3; omega)) ?_
   refine O_pickF rfl rfl rfl rfl ?_
   refine O_move rfl rfl rfl ?_
   refine O_loadA (vs := [_, _, _]) S40 rfl rfl rfl ((((((b63.ext hy73).chg q77 (by first | assumption | omega)).ext hy87).chg q91 (by first | assumption | omega)).ext e92).ext e93) rfl rfl ?_
   refine O_loadA (vs := [_, _, _]) S40 rfl rfl rfl (((((((((b48.chg q49 (by first | assumption | omega)).ext hy59).chg q63 (by first | assumption | omega)).ext hy73).chg q77 (by first | assumption | omega)).ext hy87).chg q91 (by first | assumption | omega)).ext e92).ext e93) rfl rfl ?_
   refine O_call enters27 rfl rfl rfl (rratcmp_c rfl (((((((h61_1.chgBk b62 (by decide) q63).ext hy73).chgBk b76 (by decide) q77).ext hy87).chgBk b90 (by decide) q91).ext e92).ext e93).nl (((((((h61_2.chgBk b62 (by decide) q63).ext hy73).chgBk b76 (by decide) q77).ext hy87).chgBk b90 (by decide) q91).ext e92).ext e93).nl (by first | with_reducible assumption | omega) (by first | with_reducible assumption | omega) rfl (((((((((((h42_1.chgBk b44 (by decide) q47).chgBk (b45.chg q47 (by first | assumption | omega)) (by decide) q48).chgBk ((b46.chg q47 (by first | assumption | omega)).chg q48 (by first | assumption | omega)) (by decide) q49).ext hy59).chgBk b62 (by decide) q63).ext hy73).chgBk b76 (by decide) q77).ext hy87).chgBk b90 (by decide) q91).ext e92).ext e93).nl (((((((((((h42_2.chgBk b44 (by decide) q47).chgBk (b45.chg q47 (by first | assumption | omega)) (by decide) q48).chgBk ((b46.chg q47 (by first | assumption | omega)).chg q48 (by first | assumption | omega)) (by decide) q49).ext hy59).chgBk b62 (by decide) q63).ext hy73).chgBk b76 (by decide) q77).ext hy87).chgBk b90 (by decide) q91).ext e92).ext e93).nl (by first | with_reducible assumption | omega) (by first | with_reducible assumption | omega)) (fun v94 w94 e94 h94 => ?_)
   have z94 := e94.size
   obtain rfl := h94
   refine O_geq (t := false) rfl rfl rfl rfl (decide_eq_false (by rw [rv_cmp hdown r4, icmp_ge]; omega)) ?_
   refine O_pickF rfl rfl rfl rfl ?_
   refine O_move rfl rfl rfl ?_
   refine O_loadA (vs := [_, _, _]) S40 rfl rfl rfl (((((b77.ext hy87).chg q91 (by first | assumption | omega)).ext e92).ext e93).ext e94) rfl rfl ?_
   refine O_loadA (vs := [_, _, _]) S40 rfl rfl rfl ((((((((((b48.chg q49 (by first | assumption | omega)).ext hy59).chg q63 (by first | assumption | omega)).ext hy73).chg q77 (by first | assumption | omega)).ext hy87).chg q91 (by first | assumption | omega)).ext e92).ext e93).ext e94) rfl rfl ?_
   refine O_call enters27 rfl rfl rfl (rratcmp_c rfl ((((((h75_1.chgBk b76 (by decide) q77).ext hy87).chgBk b90 (by decide) q91).ext e92).ext e93).ext e94).nl ((((((h75_2.chgBk b76 (by decide) q77).ext hy87).chgBk b90 (by decide) q91).ext e92).ext e93).ext e94).nl (by first | with_reducible assumption | omega) (by first | with_reducible assumption | omega) rfl ((((((((((((h42_1.chgBk b44 (by decide) q47).chgBk (b45.chg q47 (by first | assumption | omega)) (by decide) q48).chgBk ((b46.chg q47 (by first | assumption | omega)).chg q48 (by first | assumption | omega)) (by decide) q49).ext hy59).chgBk b62 (by decide) q63).ext hy73).chgBk b76 (by decide) q77).ext hy87).chgBk b90 (by decide) q91).ext e92).ext e93).ext e94).nl ((((((((((((h42_2.chgBk b44 (by decide) q47).chgBk (b45.chg q47 (by first | assumption | omega)) (by decide) q48).chgBk ((b46.chg q47 (by first | assumption | omega)).chg q48 (by first | assumption | omega)) (by decide) q49).ext hy59).chgBk b62 (by decide) q63).ext hy73).chgBk b76 (by decide) q77).ext hy87).chgBk b90 (by decide) q91).ext e92).ext e93).ext e94).nl (by first | with_reducible assumption | omega) (by first | with_reducible assumption | omega)) (fun v95 w95 e95 h95 => ?_)
   have z95 := e95.size
   obtain rfl := h95
   refine O_geq (t := false) rfl rfl rfl rfl (decide_eq_false (by rw [rv_cmp hup r4, icmp_ge]; omega)) ?_
   refine O_pickF rfl rfl rfl rfl ?_
   refine WL_end [(1, _), (5, _), (7, _), (9, _), (19, _), (22, _), (125, _)] ⟨rfl, rfl, rfl, rfl, rfl, rfl, rfl, trivial⟩ ?_
   refine WP_condF rfl ?_
   refine WP_skip ?_
   refine WP_seq ?_
   refine WP_sub [(1, _), (5, _), (7, _), (9, _), (19, _), (22, _)] ⟨rfl, rfl, rfl, rfl, rfl, rfl, trivial⟩ ?_
   refine WP_anyR 17 [1, 5, 7, 9, 19, 22] mixed rfl (by kernel_rfl) ?_
   apply AnyR_val [22] rfl (by kernel_rfl)
   · --
    intro y96 hy96
    have zy96 := hy96.size
    refine AllV_nil ?_
    refine O_loadA (vs := [_, _, _]) S40 rfl rfl rfl (((((b91.ext e92).ext e93).ext e94).ext e95).ext hy96) rfl rfl ?_
    exact WL_nil ⟨(Ext.refl _), rfl⟩
   apply AnyR_val [19] rfl (by kernel_rfl)
   · --
    intro y97 hy97
    have zy97 := hy97.size
    refine AllV_nil ?_
    refine O_loadA (vs := [_, _, _]) S40 rfl rfl rfl (((((((((((b49.ext hy59).chg q63 (by first | assumption | omega)).ext hy73).chg q77 (by first | assumption | omega)).ext hy87).chg q91 (by first | assumption | omega)).ext e92).ext e93).ext e94).ext e95).ext hy97) rfl rfl ?_
    exact WL_nil ⟨(Ext.refl _), rfl⟩
   apply AnyR_val [126, 127] rfl (by kernel_rfl)
   · --
    intro y98 hy98
    have zy98 := hy98.size
    refine AllV_v ?_
    refine AllV_v ?_
    refine AllV_nil ?_
    refine O_call enters27 rfl rfl rfl (rratcmp_c rfl ((((((h89_1.chgBk b90 (by decide) q91).ext e92).ext e93).ext e94).ext e95).ext hy98).nl ((((((h89_2.chgBk b90 (by decide) q91).ext e92).ext e93).ext e94).ext e95).ext hy98).nl (by first | with_reducible assumption | omega) (by first | with_reducible assumption | omega) rfl ((((((((((((((h43_1.chgBk b44 (by decide) q47).chgBk (b45.chg q47 (by first | assumption | omega)) (by decide) q48).chgBk ((b46.chg q47 (by first | assumption | omega)).chg q48 (by first | assumption | omega)) (by decide) q49).ext hy59).chgBk b62 (by decide) q63).ext hy73).chgBk b76 (by decide) q77).ext hy87).chgBk b90 (by decide) q91).ext e92).ext e93).ext e94).ext e95).ext hy98).nl ((((((((((((((h43_2.chgBk b44 (by decide) q47).chgBk (b45.chg q47 (by first | assumption | omega)) (by decide) q48).chgBk ((b46.chg q47 (by first | assumption | omega)).chg q48 (by first | assumption | omega)) (by decide) q49).ext hy59).chgBk b62 (by decide) q63).ext hy73).chgBk b76 (by decide) q77).ext hy87).chgBk b90 (by decide) q91).ext e92).ext e93).ext e94).ext e95).ext hy98).nl (by first | with_reducible assumption | omega) (by first | with_reducible assumption | omega)) (fun v99 w99 e99 h99 => ?_)
    have z99 := e99.size
    obtain rfl := h99
    exact WL_nil ⟨e99, rfl⟩
   apply AnyR_val [128] rfl (by kernel_rfl)
   · --
    intro y100 hy100
    have zy100 := hy100.size
    refine AllV_v ?_
    refine AllV_nil ?_
    refine O_leq (t := true) rfl rfl rfl rfl (decide_eq_true (by rw [rv_cmp hoff r5, icmp_pos]; omega)) ?_
    exact WL_nil ⟨(Ext.refl _), rfl⟩
   apply AnyR_val [129] rfl (by kernel_rfl)
   · --
    intro y101 hy101
    have zy101 := hy101.size
    refine AllV_v ?_
    refine AllV_nil ?_
    refine O_move rfl rfl rfl ?_
    exact WL_nil ⟨(Ext.refl _), rfl⟩
   apply AnyR_val [130, 22] rfl (by kernel_rfl)
   · --
    intro y102 hy102
    have zy102 := hy102.size
    refine AllV_v ?_
    refine AllV_nil ?_
    refine O_loadA (vs := [_, _, _]) S40 rfl rfl rfl (((((b91.ext e92).ext e93).ext e94).ext e95).ext hy102) rfl rfl ?_
    exact WL_nil ⟨(Ext.refl _), rfl⟩
   apply AnyR_rel (RelP (pAgg [pEq _, pNl _, pNl _])) [130, 131] rfl (RelP.mono (pAgg_mono (PsM.cons pEq_mono (PsM.cons pNl_mono (PsM.cons pNl_mono PsM.nil))))) (by kernel_rfl)
   · --
    intro y103 hy103
    have zy103 := hy103.size
    refine AllV_v ?_
    refine AllV_v ?_
    refine AllV_nil ?_
    refine O_call enters28 rfl rfl rfl (rneg07_c rfl ((((((h89_1.chgBk b90 (by decide) q91).ext e92).ext e93).ext e94).ext e95).ext hy103).nl ((((((h89_2.chgBk b90 (by decide) q91).ext e92).ext e93).ext e94).ext e95).ext hy103).nl (by first | with_reducible assumption | omega) (by first | with_reducible assumption | omega)) (fun v104 w104 e104 h104 => ?_)
    have z104 := e104.size
    try simp only [val_dig] at h104
    obtain ⟨rq104, rs104, rfl, hrq104, hrs104⟩ := h104
    exact WL_nil ⟨e104, _, rfl, ⟨_, rfl, (AllP.cons rfl (AllP.cons hrq104 (AllP.cons hrs104 AllP.nil)))⟩⟩
   apply AnyR_val [130, 19] rfl (by kernel_rfl)
   · --
    intro y105 hy105
    have zy105 := hy105.size
    refine AllV_v ?_
    refine AllV_nil ?_
    refine O_loadA (vs := [_, _, _]) S40 rfl rfl rfl (((((((((((b49.ext hy59).chg q63 (by first | assumption | omega)).ext hy73).chg q77 (by first | assumption | omega)).ext hy87).chg q91 (by first | assumption | omega)).ext e92).ext e93).ext e94).ext e95).ext hy105) rfl rfl ?_
    exact WL_nil ⟨(Ext.refl _), rfl⟩
   apply AnyR_val [130, 132, 133] rfl (by kernel_rfl)
   · --
    intro y106 hy106
    have zy106 := hy106.size
    refine AllV_v ?_
    refine AllV_r fun a107 b107 v107 la107 lb107 lc107 h107 ap107 => ?_
    clear ap107
    obtain ⟨_, rfl, v107_0, _, rfl, rfl, v107_1, _, rfl, h107_1, v107_2, _, rfl, h107_2, rfl⟩ := h107
    refine AllV_v ?_
    refine AllV_nil ?_
    have s3n := neg_len s3
    refine O_call enters27 rfl rfl rfl (rratcmp_c rfl h107_1 h107_2 (by first | with_reducible assumption | omega) (by first | with_reducible assumption | omega) rfl ((((((((((((((h43_1.chgBk b44 (by decide) q47).chgBk (b45.chg q47 (by first | assumption | omega)) (by decide) q48).chgBk ((b46.chg q47 (by first | assumption | omega)).chg q48 (by first | assumption | omega)) (by decide) q49).ext hy59).chgBk b62 (by decide) q63).ext hy73).chgBk b76 (by decide) q77).ext hy87).chgBk b90 (by decide) q91).ext e92).ext e93).ext e94).ext e95).ext hy106).nl ((((((((((((((h43_2.chgBk b44 (by decide) q47).chgBk (b45.chg q47 (by first | assumption | omega)) (by decide) q48).chgBk ((b46.chg q47 (by first | assumption | omega)).chg q48 (by first | assumption | omega)) (by decide) q49).ext hy59).chgBk b62 (by decide) q63).ext hy73).chgBk b76 (by decide) q77).ext hy87).chgBk b90 (by decide) q91).ext e92).ext e93).ext e94).ext e95).ext hy106).nl (by first | with_reducible assumption | omega) (by first | with_reducible assumption | omega)) (fun v108 w108 e108 h108 => ?_)
    have z108 := e108.size
    obtain rfl := h108
    exact WL_nil ⟨e108, rfl⟩
   apply AnyR_val [130, 134] rfl (by kernel_rfl)
   · --
    intro y109 hy109
    have zy109 := hy109.size
    refine AllV_v ?_
    refine AllV_v ?_
    refine AllV_nil ?_
    refine O_lss (t := true) rfl rfl rfl rfl (decide_eq_true (by rw [rv_cmp (rv_neg hoff) r5, icmp_lt]; omega)) ?_
    exact WL_nil ⟨(Ext.refl _), rfl⟩
   apply AnyR_val [130, 135] rfl (by kernel_rfl)
   · --
    intro y110 hy110
    have zy110 := hy110.size
    refine AllV_v ?_
    refine AllV_v ?_
    refine AllV_nil ?_
    refine O_pickT rfl rfl rfl rfl ?_
    exact WL_nil ⟨(Ext.refl _), rfl⟩
   apply AnyR_val [136] rfl (by kernel_rfl)
   · --
    intro y111 hy111
    have zy111 := hy111.size
    refine AllV_v ?_
    refine AllV_nil ?_
    refine O_move rfl rfl rfl ?_
    exact WL_nil ⟨(Ext.refl _), rfl⟩
   apply AnyR_val [137, 5] rfl (by kernel_rfl)
   · --
    intro y112 hy112
    have zy112 := hy112.size
    refine AllV_v ?_
    refine AllV_nil ?_
    refine O_loadA (vs := [_, _, _]) S26 rfl rfl rfl ((((((((((((((((((((((((((((((((((b5.ext e6).ext e7).ext e8).chg q9 (by first | assumption | omega)).ext e10).ext e11).chg q12 (by first | assumption | omega)).ext e13).ext e14).chg q15 (by first | assumption | omega)).ext e16).ext e17).chg q18 (by first | assumption | omega)).ext e19).ext e20).chg q21 (by first | assumption | omega)).ext e22).ext e23).ext e24).ext hy40).chg q47 (by first | assumption | omega)).chg q48 (by first | assumption | omega)).chg q49 (by first | assumption | omega)).ext hy59).chg q63 (by first | assumption | omega)).ext hy73).chg q77 (by first | assumption | omega)).ext hy87).chg q91 (by first | assumption | omega)).ext e92).ext e93).ext e94).ext e95).ext hy112) rfl rfl ?_
    exact WL_nil ⟨(Ext.refl _), rfl⟩
   apply AnyR_val [137, 1] rfl (by kernel_rfl)
   · --
    intro y113 hy113
    have zy113 := hy113.size
    refine AllV_v ?_
    refine AllV_nil ?_
    refine O_move rfl rfl rfl ?_
    exact WL_nil ⟨(Ext.refl _), rfl⟩
   apply AnyR_val [137, 138, 139] rfl (by kernel_rfl)
   · --
    intro y114 hy114
    have zy114 := hy114.size
    refine AllV_v ?_
    refine AllV_v ?_
    refine AllV_v ?_
    refine AllV_nil ?_
    refine O_call enters23 rfl rfl rfl (on_T rfl ((((((((((((((((((((((((((((((((((((hqA.ext e4).chgBk b4 (by decide) q5).ext e6).ext e7).ext e8).chgBk b8 (by decide) q9).ext e10).ext e11).chgBk b11 (by decide) q12).ext e13).ext e14).chgBk b14 (by decide) q15).ext e16).ext e17).chgBk b17 (by decide) q18).ext e19).ext e20).chgBk b20 (by decide) q21).ext e22).ext e23).ext e24).ext hy40).chgBk b44 (by decide) q47).chgBk (b45.chg q47 (by first | assumption | omega)) (by decide) q48).chgBk ((b46.chg q47 (by first | assumption | omega)).chg q48 (by first | assumption | omega)) (by decide) q49).ext hy59).chgBk b62 (by decide) q63).ext hy73).chgBk b76 (by decide) q77).ext hy87).chgBk b90 (by decide) q91).ext e92).ext e93).ext e94).ext e95).ext hy114).nl (by first | with_reducible assumption | exact dval_dman _ _ | exact dval_zero | exact (dval_neg _ _).trans (by assumption) | exact dval_dg (by assumption) (by assumption) | exact dval_dl (by assumption) (by assumption)) hpm) (fun v115 w115 e115 h115 => ?_)
    have z115 := e115.size
    obtain rfl := h115
    exact WL_nil ⟨e115, rfl⟩
   apply AnyR_val [137, 7] rfl (by kernel_rfl)
   · --
    intro y116 hy116
    have zy116 := hy116.size
    refine AllV_v ?_
    refine AllV_nil ?_
    refine O_loadA (vs := [_, _, _]) S26 rfl rfl rfl ((((((((((((((((((((((((((((((b9.ext e10).ext e11).chg q12 (by first | assumption | omega)).ext e13).ext e14).chg q15 (by first | assumption | omega)).ext e16).ext e17).chg q18 (by first | assumption | omega)).ext e19).ext e20).chg q21 (by first | assumption | omega)).ext e22).ext e23).ext e24).ext hy40).chg q47 (by first | assumption | omega)).chg q48 (by first | assumption | omega)).chg q49 (by first | assumption | omega)).ext hy59).chg q63 (by first | assumption | omega)).ext hy73).chg q77 (by first | assumption | omega)).ext hy87).chg q91 (by first | assumption | omega)).ext e92).ext e93).ext e94).ext e95).ext hy116) rfl rfl ?_
    exact WL_nil ⟨(Ext.refl _), rfl⟩
   apply AnyR_val [137, 9] rfl (by kernel_rfl)
   · --
    intro y117 hy117
    have zy117 := hy117.size
    refine AllV_v ?_
    refine AllV_nil ?_
    refine O_loadA (vs := [_, _, _]) S26 rfl rfl rfl (((((((((((((((((((((((((((b12.ext e13).ext e14).chg q15 (by first | assumption | omega)).ext e16).ext e17).chg q18 (by first | assumption | omega)).ext e19).ext e20).chg q21 (by first | assumption | omega)).ext e22).ext e23).ext e24).ext hy40).chg q47 (by first | assumption | omega)).chg q48 (by first | assumption | omega)).chg q49 (by first | assumption | omega)).ext hy59).chg q63 (by first | assumption | omega)).ext hy73).chg q77 (by first | assumption | omega)).ext hy87).chg q91 (by first | assumption | omega)).ext e92).ext e93).ext e94).ext e95).ext hy117) rfl rfl ?_
    exact WL_nil ⟨(Ext.refl _), rfl⟩
   refine AnyR_nil fun y118 hy118 => ?_
   have zy118 := hy118.size
   refine AllV_v ?_
   refine AllV_v ?_
   refine AllV_v ?_
   refine AllV_v ?_
   refine AllV_v ?_
   refine AllV_v ?_
   refine AllV_r fun a119 b119 v119 la119 lb119 lc119 h119 ap119 => ?_
   clear ap119
   obtain ⟨_, rfl, v119_0, _, rfl, rfl, v119_1, _, rfl, h119_1, v119_2, _, rfl, h119_2, rfl⟩ := h119
   refine AllV_v ?_
   refine AllV_v ?_
   refine AllV_v ?_
   refine AllV_v ?_
   refine AllV_v ?_
   refine AllV_v ?_
   refine AllV_v ?_
   refine AllV_v ?_
   refine AllV_v ?_
   refine AllV_v ?_
   refine AllV_nil ?_
   refine O_call enters29 rfl rfl rfl (rdcmp_c rfl ((((((((((((((((((((((((((((((((hq7.ext e8).chgBk b8 (by decide) q9).ext e10).ext e11).chgBk b11 (by decide) q12).ext e13).ext e14).chgBk b14 (by decide) q15).ext e16).ext e17).chgBk b17 (by decide) q18).ext e19).ext e20).chgBk b20 (by decide) q21).ext e22).ext e23).ext e24).ext hy40).chgBk b44 (by decide) q47).chgBk (b45.chg q47 (by first | assumption | omega)) (by decide) q48).chgBk ((b46.chg q47 (by first | assumption | omega)).chg q48 (by first | assumption | omega)) (by decide) q49).ext hy59).chgBk b62 (by decide) q63).ext hy73).chgBk b76 (by decide) q77).ext hy87).chgBk b90 (by decide) q91).ext e92).ext e93).ext e94).ext e95).ext hy118).nl rfl (((((((((((((((((((((((((((((hq10.ext e11).chgBk b11 (by decide) q12).ext e13).ext e14).chgBk b14 (by decide) q15).ext e16).ext e17).chgBk b17 (by decide) q18).ext e19).ext e20).chgBk b20 (by decide) q21).ext e22).ext e23).ext e24).ext hy40).chgBk b44 (by decide) q47).chgBk (b45.chg q47 (by first | assumption | omega)) (by decide) q48).chgBk ((b46.chg q47 (by first | assumption | omega)).chg q48 (by first | assumption | omega)) (by decide) q49).ext hy59).chgBk b62 (by decide) q63).ext hy73).chgBk b76 (by decide) q77).ext hy87).chgBk b90 (by decide) q91).ext e92).ext e93).ext e94).ext e95).ext hy118).nl (by (try simp only [lens]); omega) (by (try simp only [lens]); omega) (by (try simp only [lens]); omega) (by (try simp only [lens]); omega) (by (try simp only [lens]); omega) (by (try simp only [lens]); omega)) (fun v120 w120 e120 h120 => ?_)
   have z120 := e120.size
   obtain rfl := h120
   refine O_eql rfl rfl rfl rfl rfl ?_
   refine O_beql Tryd.underlying4 (t := true) rfl rfl rfl rfl (by rw [decide_eq_decide.2 hiff]; exact beq_self_eq_true _) ?_
   refine O_pickT rfl rfl rfl rfl ?_
   refine O_assign rfl rfl rfl ?_
   refine WL_end [(4, _)] ⟨rfl, trivial⟩ ?_
   refine WP_ret ?_
   refine ret1 Tryd.results4 rfl ?_
   exact ⟨_, rfl, ((((((e91.trans e92).trans e93).trans e94).trans e95).trans hy118).trans e120), rfl⟩

end Go.Proofs.YthbfhljpfkicpaaDoor
