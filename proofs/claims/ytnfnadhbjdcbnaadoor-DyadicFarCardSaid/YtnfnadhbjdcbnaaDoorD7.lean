/-
  Walks.
-/
import Derived.Test.YtnfnadhbjdcbnaaDoorD6
set_option linter.unusedVariables false
set_option linter.unusedSimpArgs false
set_option maxRecDepth 100000
namespace Go.Proofs.YtnfnadhbjdcbnaaDoor
open Go Go.RowKit
theorem rintF_c {w : World} {vx : Value} {x : Int} {bx : Bool} (hbx : bx = decide (x < 0)) (hx : Nl w vx (dig x.natAbs)) (hlx : (dig x.natAbs).length ≤ 1000000) (h : ¬ ifit x = true) : Calls Tryd.prog 74 #[.agg #[.bool bx, vx]] w (Ret w fun r _ => r = .tuple #[.int .i64 0, .bool false]) :=
  (rintv_c hbx hx hlx).mono fun e w' ⟨r, he, hx', hr⟩ => ⟨r, he, hx', by rw [hr]; unfold iv; rw [if_neg h, show ifit x = false from by simpa using h]⟩
theorem rintT_c {w : World} {vx : Value} {x : Int} {bx : Bool} (hbx : bx = decide (x < 0)) (hx : Nl w vx (dig x.natAbs)) (hlx : (dig x.natAbs).length ≤ 1000000) (h : ifit x = true) : Calls Tryd.prog 74 #[.agg #[.bool bx, vx]] w (Ret w fun r _ => r = .tuple #[.int .i64 x, .bool true]) :=
  (rintv_c hbx hx hlx).mono fun e w' ⟨r, he, hx', hr⟩ => ⟨r, he, hx', by rw [hr]; unfold iv; rw [if_pos h, h]⟩

theorem intF_c {w : World} {vx : Value} {x : Int} {bx : Bool} (hbx : bx = decide (x < 0)) (hx : Nl w vx (dig x.natAbs)) (hlx : (dig x.natAbs).length ≤ 1000000) (h : ¬ ifit x = true) : Calls Tryd.prog 70 #[.agg #[.bool bx, vx]] w (Ret w fun r _ => r = .tuple #[.int .i64 0, .bool false]) :=
  (intv_c hbx hx hlx).mono fun e w' ⟨r, he, hx', hr⟩ => ⟨r, he, hx', by rw [hr]; unfold iv; rw [if_neg h, show ifit x = false from by simpa using h]⟩
theorem intT_c {w : World} {vx : Value} {x : Int} {bx : Bool} (hbx : bx = decide (x < 0)) (hx : Nl w vx (dig x.natAbs)) (hlx : (dig x.natAbs).length ≤ 1000000) (h : ifit x = true) : Calls Tryd.prog 70 #[.agg #[.bool bx, vx]] w (Ret w fun r _ => r = .tuple #[.int .i64 x, .bool true]) :=
  (intv_c hbx hx hlx).mono fun e w' ⟨r, he, hx', hr⟩ => ⟨r, he, hx', by rw [hr]; unfold iv; rw [if_pos h, h]⟩
/-- What the parser of dyadics answers. -/
def dyok (l : List UInt8) : Prop := cutok l ∧ dpc (cutb l) = 0 ∧ dpc (cuta l) = 0 ∧ ifit (dpz (cuta l)) = true ∧ dval (dpz (cutb l)) (dpz (cuta l)) = true
instance (l : List UInt8) : Decidable (dyok l) := by unfold dyok; exact inferInstance
def dyc (l : List UInt8) : Int := if 20010 < l.length then 7 else if dyok l then 0 else 6
def dym (l : List UInt8) : Int := if dyc l = 0 then dpz (cutb l) else 0
def dye (l : List UInt8) : Int := if dyc l = 0 then dpz (cuta l) else 0
theorem dyc_big {l : List UInt8} (h : 20010 < l.length) : dyc l = 7 ∧ dym l = 0 ∧ dye l = 0 := by
  have h1 : dyc l = 7 := if_pos h
  exact ⟨h1, by unfold dym; rw [h1]; rfl, by unfold dye; rw [h1]; rfl⟩
theorem dyc_ok {l : List UInt8} (h : ¬ 20010 < l.length) (h2 : dyok l) : dyc l = 0 ∧ dym l = dpz (cutb l) ∧ dye l = dpz (cuta l) := by
  have h1 : dyc l = 0 := by unfold dyc; rw [if_neg h, if_pos h2]
  exact ⟨h1, if_pos h1, if_pos h1⟩
theorem dyc_bad {l : List UInt8} (h : ¬ 20010 < l.length) (h2 : ¬ dyok l) : dyc l = 6 ∧ dym l = 0 ∧ dye l = 0 := by
  have h1 : dyc l = 6 := by unfold dyc; rw [if_neg h, if_neg h2]
  exact ⟨h1, by unfold dym; rw [h1]; rfl, by unfold dye; rw [h1]; rfl⟩
theorem dym_len (l : List UInt8) : (dig (dym l).natAbs).length ≤ 20001 := by
  unfold dym; split
  · exact dpz_len _
  · simp [dig_zero]
theorem dye_fit (l : List UInt8) : -9223372036854775808 ≤ dye l ∧ dye l ≤ 9223372036854775807 := by
  by_cases h : 20010 < l.length
  · rw [(dyc_big h).2.2]; omega
  · by_cases h2 : dyok l
    · rw [(dyc_ok h h2).2.2]
      have h3 := h2.2.2.2.1
      unfold ifit at h3; simpa using h3
    · rw [(dyc_bad h h2).2.2]; omega
theorem dval_zero0 : dval 0 0 = true := by decide
theorem dym_val (l : List UInt8) : dval (dym l) (dye l) = true := by
  by_cases h : 20010 < l.length
  · rw [(dyc_big h).2.1, (dyc_big h).2.2]; exact dval_zero0
  · by_cases h2 : dyok l
    · rw [(dyc_ok h h2).2.1, (dyc_ok h h2).2.2]; exact h2.2.2.2.2
    · rw [(dyc_bad h h2).2.1, (dyc_bad h h2).2.2]; exact dval_zero0
theorem dycases (l : List UInt8) : ¬ cutok l ∨ (cutok l ∧ dpc (cutb l) ≠ 0) ∨ (cutok l ∧ dpc (cutb l) = 0 ∧ dpc (cuta l) ≠ 0) ∨ (cutok l ∧ dpc (cutb l) = 0 ∧ dpc (cuta l) = 0 ∧ ¬ ifit (dpz (cuta l)) = true) ∨ (cutok l ∧ dpc (cutb l) = 0 ∧ dpc (cuta l) = 0 ∧ ifit (dpz (cuta l)) = true) := by
  by_cases h1 : cutok l
  · refine Or.inr ?_
    by_cases h2 : dpc (cutb l) = 0
    · refine Or.inr ?_
      by_cases h3 : dpc (cuta l) = 0
      · refine Or.inr ?_
        by_cases h4 : ifit (dpz (cuta l)) = true
        · exact Or.inr ⟨h1, h2, h3, h4⟩
        · exact Or.inl ⟨h1, h2, h3, h4⟩
      · exact Or.inl ⟨h1, h2, h3⟩
    · exact Or.inl ⟨h1, h2⟩
  · exact Or.inl h1
def dyfmt (x e : Int) : List UInt8 := fint x ++ [112] ++ fint e
theorem fint_dlen {x : Int} {k : Nat} (h : (dig x.natAbs).length ≤ k) (hk : 1 ≤ k) : (fint x).length ≤ 10 * k + 1 := by
  have h1 := dstr_dlen h hk
  unfold fint
  split
  · simp only [List.length_cons]; omega
  · omega
theorem dig_i64 {n : Int} (h1 : -9223372036854775808 ≤ n) (h2 : n ≤ 9223372036854775807) : (dig n.natAbs).length ≤ 2 := dig_len_of_lt (Nat.lt_of_le_of_lt (show n.natAbs ≤ 9223372036854775808 by omega) (by decide))

set_option maxHeartbeats 2000000 in
theorem dyparse_c {w : World} {l : List UInt8} :
    Calls Tryd.prog 28 #[.string (bs l)] w (Ret w fun r w' => ∃ q, r = .tuple #[.agg #[.bool (decide ((dym l) < 0)), q, .int .i64 (dye l)], .int .i64 (dyc l)] ∧ No w.heap.size 89 w' q (dig (dym l).natAbs)) := by
 refine enter (args := [_]) Tryd.func28 rfl Tryd.ntmps28 rfl ?_
 refine WP_seq ?_
 refine WP_region ?_
 refine O_alloc S26 rfl rfl (fun g1 w1 b1 e1 gl1 gh1 => ?_)
 have z1 := e1.size
 refine O_assign rfl rfl rfl ?_
 refine WL_end [(0, _), (2, _)] ⟨rfl, rfl, trivial⟩ ?_
 refine WP_seq ?_
 refine WP_seq ?_
 refine WP_region ?_
 refine O_move rfl rfl rfl ?_
 refine S_len Tryd.underlying9 rfl rfl rfl ?_
 refine O_gtr rfl rfl rfl rfl rfl ?_
 refine WL_end [(0, _), (2, _), (16, _)] ⟨rfl, rfl, rfl, trivial⟩ ?_
 refine WP_condD rfl (fun c16 => ?_) (fun c16 => ?_)
 · --
  refine WP_seq ?_
  refine WP_region ?_
  refine O_build (cs := [_, _, _]) B26 rfl rfl rfl cells_nil rfl ?_
  refine O_storeA (cs' := [_, _, _]) S26 rfl rfl rfl b1 rfl rfl (one_cons rfl (one_cons rfl (one_cons rfl one_nil))) rfl (fun w2 b2 q2 => ?_)
  have z2 := Nat.le_of_eq q2.size.symm
  have e2 : Ext w w2 := q2.ext e1 (by omega)
  refine O_assign rfl rfl rfl ?_
  refine WL_end [(2, _), (3, _)] ⟨rfl, rfl, trivial⟩ ?_
  refine WP_ret ?_
  refine retL Tryd.results28 (.cell rfl S26 b2 rfl (.tmp rfl .nil)) ?_
  obtain ⟨hc, hm, he⟩ := dyc_big (l := l) (by omega)
  rw [hc, hm, he]
  exact ⟨_, rfl, e2, _, rfl, by rw [dig0]; exact No.nil _ _ _⟩
 · --
  refine WP_skip ?_
  refine WP_seq ?_
  rcases dycases l with h1 | ⟨h1, h2⟩ | ⟨h1, h2, h3⟩ | ⟨h1, h2, h3, h4⟩ | ⟨h1, h2, h3, h4⟩
  · --
   have hLa := dpz_len l
   have hLb := dpz_len (cutb l)
   have hLc := dpz_len (cuta l)
   have hLd := dpz_len []
   obtain ⟨hc, hm, he⟩ := dyc_bad (l := l) (by omega) (fun h => h1 h.1)
   refine WP_region ?_
   refine O_move rfl rfl rfl ?_
   refine O_call enters68 rfl rfl rfl (strcut_F (by (try simp only [lens]); omega) h1) (fun v3 w3 e3 h3 => ?_)
   have z3 := e3.size
   try simp only [val_dig] at h3
   obtain rfl := h3
   refine O_move rfl rfl rfl ?_
   refine O_extract rfl rfl rfl rfl ?_
   refine O_extract rfl rfl rfl rfl ?_
   refine O_extract rfl rfl rfl rfl ?_
   refine O_assign rfl rfl rfl ?_
   refine O_assign rfl rfl rfl ?_
   refine O_assign rfl rfl rfl ?_
   refine WL_end [(2, _), (4, _), (5, _), (6, _)] ⟨rfl, rfl, rfl, rfl, trivial⟩ ?_
   refine WP_seq ?_
   refine WP_region ?_
   refine O_move rfl rfl rfl ?_
   refine O_call enters69 rfl rfl rfl (iparse_c) (fun v4 w4 e4 h4 => ?_)
   have z4 := e4.size
   try simp only [val_dig] at h4
   obtain ⟨q4, rfl, hq4⟩ := h4
   refine O_move rfl rfl rfl ?_
   refine O_extract rfl rfl rfl rfl ?_
   refine O_extract rfl rfl rfl rfl ?_
   refine O_alloc S24 rfl rfl (fun g5 w5 b5 e5 gl5 gh5 => ?_)
   have z5 := e5.size
   refine O_storeA (cs' := [_, _]) S24 rfl rfl rfl b5 rfl rfl (one_cons rfl (one_cons ((hq4.ext e5).nl).one one_nil)) rfl (fun w6 b6 q6 => ?_)
   have z6 := Nat.le_of_eq q6.size.symm
   have e6 : Ext w w6 := q6.ext (((e1.trans e3).trans e4).trans e5) (by omega)
   refine O_assign rfl rfl rfl ?_
   refine WL_end [(2, _), (5, _), (6, _), (7, _), (8, _)] ⟨rfl, rfl, rfl, rfl, rfl, trivial⟩ ?_
   refine WP_seq ?_
   refine WP_region ?_
   refine O_move rfl rfl rfl ?_
   refine O_call enters69 rfl rfl rfl (iparse_c) (fun v7 w7 e7 h7 => ?_)
   have z7 := e7.size
   try simp only [val_dig] at h7
   obtain ⟨q7, rfl, hq7⟩ := h7
   refine O_move rfl rfl rfl ?_
   refine O_extract rfl rfl rfl rfl ?_
   refine O_extract rfl rfl rfl rfl ?_
   refine O_alloc S24 rfl rfl (fun g8 w8 b8 e8 gl8 gh8 => ?_)
   have z8 := e8.size
   refine O_storeA (cs' := [_, _]) S24 rfl rfl rfl b8 rfl rfl (one_cons rfl (one_cons ((hq7.ext e8).nl).one one_nil)) rfl (fun w9 b9 q9 => ?_)
   have z9 := Nat.le_of_eq q9.size.symm
   have e9 : Ext w w9 := q9.ext ((e6.trans e7).trans e8) (by omega)
   refine O_assign rfl rfl rfl ?_
   refine WL_end [(2, _), (6, _), (7, _), (8, _), (9, _), (10, _)] ⟨rfl, rfl, rfl, rfl, rfl, rfl, trivial⟩ ?_
   refine WP_seq ?_
   refine WP_region ?_
   refine O_loadA (vs := [_, _]) S24 rfl rfl rfl b9 rfl rfl ?_
   refine O_call enters70 rfl rfl rfl (intv_c rfl ((hq7.ext e8).chgBk b8 (by decide) q9).nl (by (try simp only [lens]); omega)) (fun v10 w10 e10 h10 => ?_)
   have z10 := e10.size
   try simp only [val_dig] at h10
   obtain rfl := h10
   refine O_move rfl rfl rfl ?_
   refine O_extract rfl rfl rfl rfl ?_
   refine O_extract rfl rfl rfl rfl ?_
   refine O_assign rfl rfl rfl ?_
   refine O_assign rfl rfl rfl ?_
   refine WL_end [(2, _), (6, _), (7, _), (8, _), (10, _), (11, _), (12, _)] ⟨rfl, rfl, rfl, rfl, rfl, rfl, rfl, trivial⟩ ?_
   refine WP_seq ?_
   refine WP_region ?_
   refine O_loadA (vs := [_, _]) S24 rfl rfl rfl ((((b6.ext e7).ext e8).chg q9 (by first | assumption | omega)).ext e10) rfl rfl ?_
   refine O_move rfl rfl rfl ?_
   refine O_build (cs := [_, _, _]) B26 rfl rfl rfl (cells_cons rfl (cells_cons rfl cells_nil)) rfl ?_
   refine O_alloc S26 rfl rfl (fun g11 w11 b11 e11 gl11 gh11 => ?_)
   have z11 := e11.size
   refine O_storeA (cs' := [_, _, _]) S26 rfl rfl rfl b11 rfl rfl (one_cons rfl (one_cons ((((((((hq4.ext e5).chgBk b5 (by decide) q6).ext e7).ext e8).chgBk b8 (by decide) q9).ext e10).ext e11).nl).one (one_cons rfl one_nil))) rfl (fun w12 b12 q12 => ?_)
   have z12 := Nat.le_of_eq q12.size.symm
   have e12 : Ext w w12 := q12.ext ((e9.trans e10).trans e11) (by omega)
   refine WL_end [(2, _), (6, _), (8, _), (10, _), (12, _), (13, _)] ⟨rfl, rfl, rfl, rfl, rfl, rfl, trivial⟩ ?_
   refine WP_seq ?_
   refine WP_seq ?_
   refine WP_region ?_
   refine O_move rfl rfl rfl ?_
   refine O_not rfl rfl rfl rfl ?_
   refine O_move rfl rfl rfl ?_
   refine O_skip rfl rfl ?_
   refine O_skip rfl rfl ?_
   refine O_pickT rfl rfl rfl rfl ?_
   refine O_move rfl rfl rfl ?_
   refine O_skip rfl rfl ?_
   refine O_skip rfl rfl ?_
   refine O_pickT rfl rfl rfl rfl ?_
   refine O_move rfl rfl rfl ?_
   refine O_skip rfl rfl ?_
   refine O_skip rfl rfl ?_
   refine O_pickT rfl rfl rfl rfl ?_
   refine O_move rfl rfl rfl ?_
   refine O_skip rfl rfl ?_
   refine O_skip rfl rfl ?_
   refine O_skip rfl rfl ?_
   refine O_pickT rfl rfl rfl rfl ?_
   refine WL_end [(2, _), (13, _), (60, _)] ⟨rfl, rfl, rfl, trivial⟩ ?_
   refine WP_condT rfl ?_
   refine WP_seq ?_
   refine WP_region ?_
   refine O_build (cs := [_, _, _]) B26 rfl rfl rfl cells_nil rfl ?_
   refine O_storeA (cs' := [_, _, _]) S26 rfl rfl rfl ((((((((((b1.ext e3).ext e4).ext e5).chg q6 (by first | assumption | omega)).ext e7).ext e8).chg q9 (by first | assumption | omega)).ext e10).ext e11).chg q12 (by first | assumption | omega)) rfl rfl (one_cons rfl (one_cons rfl (one_cons rfl one_nil))) rfl (fun w13 b13 q13 => ?_)
   have z13 := Nat.le_of_eq q13.size.symm
   have e13 : Ext w w13 := q13.ext e12 (by omega)
   refine O_assign rfl rfl rfl ?_
   refine WL_end [(2, _), (3, _)] ⟨rfl, rfl, trivial⟩ ?_
   refine WP_ret ?_
   refine retL Tryd.results28 (.cell rfl S26 b13 rfl (.tmp rfl .nil)) ?_
   rw [hc, hm, he]
   exact ⟨_, rfl, e13, _, rfl, by rw [dig0]; exact No.nil _ _ _⟩
  · --
   have hLa := dpz_len l
   have hLb := dpz_len (cutb l)
   have hLc := dpz_len (cuta l)
   have hLd := dpz_len []
   obtain ⟨hc, hm, he⟩ := dyc_bad (l := l) (by omega) (fun h => h2 h.2.1)
   refine WP_region ?_
   refine O_move rfl rfl rfl ?_
   refine O_call enters68 rfl rfl rfl (strcut_T (by (try simp only [lens]); omega) h1) (fun v14 w14 e14 h14 => ?_)
   have z14 := e14.size
   try simp only [val_dig] at h14
   obtain rfl := h14
   refine O_move rfl rfl rfl ?_
   refine O_extract rfl rfl rfl rfl ?_
   refine O_extract rfl rfl rfl rfl ?_
   refine O_extract rfl rfl rfl rfl ?_
   refine O_assign rfl rfl rfl ?_
   refine O_assign rfl rfl rfl ?_
   refine O_assign rfl rfl rfl ?_
   refine WL_end [(2, _), (4, _), (5, _), (6, _)] ⟨rfl, rfl, rfl, rfl, trivial⟩ ?_
   refine WP_seq ?_
   refine WP_region ?_
   refine O_move rfl rfl rfl ?_
   refine O_call enters69 rfl rfl rfl (iparse_c) (fun v15 w15 e15 h15 => ?_)
   have z15 := e15.size
   try simp only [val_dig] at h15
   obtain ⟨q15, rfl, hq15⟩ := h15
   refine O_move rfl rfl rfl ?_
   refine O_extract rfl rfl rfl rfl ?_
   refine O_extract rfl rfl rfl rfl ?_
   refine O_alloc S24 rfl rfl (fun g16 w16 b16 e16 gl16 gh16 => ?_)
   have z16 := e16.size
   refine O_storeA (cs' := [_, _]) S24 rfl rfl rfl b16 rfl rfl (one_cons rfl (one_cons ((hq15.ext e16).nl).one one_nil)) rfl (fun w17 b17 q17 => ?_)
   have z17 := Nat.le_of_eq q17.size.symm
   have e17 : Ext w w17 := q17.ext (((e1.trans e14).trans e15).trans e16) (by omega)
   refine O_assign rfl rfl rfl ?_
   refine WL_end [(2, _), (5, _), (6, _), (7, _), (8, _)] ⟨rfl, rfl, rfl, rfl, rfl, trivial⟩ ?_
   refine WP_seq ?_
   refine WP_region ?_
   refine O_move rfl rfl rfl ?_
   refine O_call enters69 rfl rfl rfl (iparse_c) (fun v18 w18 e18 h18 => ?_)
   have z18 := e18.size
   try simp only [val_dig] at h18
   obtain ⟨q18, rfl, hq18⟩ := h18
   refine O_move rfl rfl rfl ?_
   refine O_extract rfl rfl rfl rfl ?_
   refine O_extract rfl rfl rfl rfl ?_
   refine O_alloc S24 rfl rfl (fun g19 w19 b19 e19 gl19 gh19 => ?_)
   have z19 := e19.size
   refine O_storeA (cs' := [_, _]) S24 rfl rfl rfl b19 rfl rfl (one_cons rfl (one_cons ((hq18.ext e19).nl).one one_nil)) rfl (fun w20 b20 q20 => ?_)
   have z20 := Nat.le_of_eq q20.size.symm
   have e20 : Ext w w20 := q20.ext ((e17.trans e18).trans e19) (by omega)
   refine O_assign rfl rfl rfl ?_
   refine WL_end [(2, _), (6, _), (7, _), (8, _), (9, _), (10, _)] ⟨rfl, rfl, rfl, rfl, rfl, rfl, trivial⟩ ?_
   refine WP_seq ?_
   refine WP_region ?_
   refine O_loadA (vs := [_, _]) S24 rfl rfl rfl b20 rfl rfl ?_
   refine O_call enters70 rfl rfl rfl (intv_c rfl ((hq18.ext e19).chgBk b19 (by decide) q20).nl (by (try simp only [lens]); omega)) (fun v21 w21 e21 h21 => ?_)
   have z21 := e21.size
   try simp only [val_dig] at h21
   obtain rfl := h21
   refine O_move rfl rfl rfl ?_
   refine O_extract rfl rfl rfl rfl ?_
   refine O_extract rfl rfl rfl rfl ?_
   refine O_assign rfl rfl rfl ?_
   refine O_assign rfl rfl rfl ?_
   refine WL_end [(2, _), (6, _), (7, _), (8, _), (10, _), (11, _), (12, _)] ⟨rfl, rfl, rfl, rfl, rfl, rfl, rfl, trivial⟩ ?_
   refine WP_seq ?_
   refine WP_region ?_
   refine O_loadA (vs := [_, _]) S24 rfl rfl rfl ((((b17.ext e18).ext e19).chg q20 (by first | assumption | omega)).ext e21) rfl rfl ?_
   refine O_move rfl rfl rfl ?_
   refine O_build (cs := [_, _, _]) B26 rfl rfl rfl (cells_cons rfl (cells_cons rfl cells_nil)) rfl ?_
   refine O_alloc S26 rfl rfl (fun g22 w22 b22 e22 gl22 gh22 => ?_)
   have z22 := e22.size
   refine O_storeA (cs' := [_, _, _]) S26 rfl rfl rfl b22 rfl rfl (one_cons rfl (one_cons ((((((((hq15.ext e16).chgBk b16 (by decide) q17).ext e18).ext e19).chgBk b19 (by decide) q20).ext e21).ext e22).nl).one (one_cons rfl one_nil))) rfl (fun w23 b23 q23 => ?_)
   have z23 := Nat.le_of_eq q23.size.symm
   have e23 : Ext w w23 := q23.ext ((e20.trans e21).trans e22) (by omega)
   refine WL_end [(2, _), (6, _), (8, _), (10, _), (12, _), (13, _)] ⟨rfl, rfl, rfl, rfl, rfl, rfl, trivial⟩ ?_
   refine WP_seq ?_
   refine WP_seq ?_
   refine WP_region ?_
   refine O_move rfl rfl rfl ?_
   refine O_not rfl rfl rfl rfl ?_
   refine O_move rfl rfl rfl ?_
   refine O_move rfl rfl rfl ?_
   refine O_neq (t := true) rfl rfl rfl rfl (decide_eq_true h2) ?_
   refine O_pickF rfl rfl rfl rfl ?_
   refine O_move rfl rfl rfl ?_
   refine O_skip rfl rfl ?_
   refine O_skip rfl rfl ?_
   refine O_pickT rfl rfl rfl rfl ?_
   refine O_move rfl rfl rfl ?_
   refine O_skip rfl rfl ?_
   refine O_skip rfl rfl ?_
   refine O_pickT rfl rfl rfl rfl ?_
   refine O_move rfl rfl rfl ?_
   refine O_skip rfl rfl ?_
   refine O_skip rfl rfl ?_
   refine O_skip rfl rfl ?_
   refine O_pickT rfl rfl rfl rfl ?_
   refine WL_end [(2, _), (13, _), (60, _)] ⟨rfl, rfl, rfl, trivial⟩ ?_
   refine WP_condT rfl ?_
   refine WP_seq ?_
   refine WP_region ?_
   refine O_build (cs := [_, _, _]) B26 rfl rfl rfl cells_nil rfl ?_
   refine O_storeA (cs' := [_, _, _]) S26 rfl rfl rfl ((((((((((b1.ext e14).ext e15).ext e16).chg q17 (by first | assumption | omega)).ext e18).ext e19).chg q20 (by first | assumption | omega)).ext e21).ext e22).chg q23 (by first | assumption | omega)) rfl rfl (one_cons rfl (one_cons rfl (one_cons rfl one_nil))) rfl (fun w24 b24 q24 => ?_)
   have z24 := Nat.le_of_eq q24.size.symm
   have e24 : Ext w w24 := q24.ext e23 (by omega)
   refine O_assign rfl rfl rfl ?_
   refine WL_end [(2, _), (3, _)] ⟨rfl, rfl, trivial⟩ ?_
   refine WP_ret ?_
   refine retL Tryd.results28 (.cell rfl S26 b24 rfl (.tmp rfl .nil)) ?_
   rw [hc, hm, he]
   exact ⟨_, rfl, e24, _, rfl, by rw [dig0]; exact No.nil _ _ _⟩
  · --
   have hLa := dpz_len l
   have hLb := dpz_len (cutb l)
   have hLc := dpz_len (cuta l)
   have hLd := dpz_len []
   obtain ⟨hc, hm, he⟩ := dyc_bad (l := l) (by omega) (fun h => h3 h.2.2.1)
   refine WP_region ?_
   refine O_move rfl rfl rfl ?_
   refine O_call enters68 rfl rfl rfl (strcut_T (by (try simp only [lens]); omega) h1) (fun v25 w25 e25 h25 => ?_)
   have z25 := e25.size
   try simp only [val_dig] at h25
   obtain rfl := h25
   refine O_move rfl rfl rfl ?_
   refine O_extract rfl rfl rfl rfl ?_
   refine O_extract rfl rfl rfl rfl ?_
   refine O_extract rfl rfl rfl rfl ?_
   refine O_assign rfl rfl rfl ?_
   refine O_assign rfl rfl rfl ?_
   refine O_assign rfl rfl rfl ?_
   refine WL_end [(2, _), (4, _), (5, _), (6, _)] ⟨rfl, rfl, rfl, rfl, trivial⟩ ?_
   refine WP_seq ?_
   refine WP_region ?_
   refine O_move rfl rfl rfl ?_
   refine O_call enters69 rfl rfl rfl (iparse_c) (fun v26 w26 e26 h26 => ?_)
   have z26 := e26.size
   try simp only [val_dig] at h26
   obtain ⟨q26, rfl, hq26⟩ := h26
   refine O_move rfl rfl rfl ?_
   refine O_extract rfl rfl rfl rfl ?_
   refine O_extract rfl rfl rfl rfl ?_
   refine O_alloc S24 rfl rfl (fun g27 w27 b27 e27 gl27 gh27 => ?_)
   have z27 := e27.size
   refine O_storeA (cs' := [_, _]) S24 rfl rfl rfl b27 rfl rfl (one_cons rfl (one_cons ((hq26.ext e27).nl).one one_nil)) rfl (fun w28 b28 q28 => ?_)
   have z28 := Nat.le_of_eq q28.size.symm
   have e28 : Ext w w28 := q28.ext (((e1.trans e25).trans e26).trans e27) (by omega)
   refine O_assign rfl rfl rfl ?_
   refine WL_end [(2, _), (5, _), (6, _), (7, _), (8, _)] ⟨rfl, rfl, rfl, rfl, rfl, trivial⟩ ?_
   refine WP_seq ?_
   refine WP_region ?_
   refine O_move rfl rfl rfl ?_
   refine O_call enters69 rfl rfl rfl (iparse_c) (fun v29 w29 e29 h29 => ?_)
   have z29 := e29.size
   try simp only [val_dig] at h29
   obtain ⟨q29, rfl, hq29⟩ := h29
   refine O_move rfl rfl rfl ?_
   refine O_extract rfl rfl rfl rfl ?_
   refine O_extract rfl rfl rfl rfl ?_
   refine O_alloc S24 rfl rfl (fun g30 w30 b30 e30 gl30 gh30 => ?_)
   have z30 := e30.size
   refine O_storeA (cs' := [_, _]) S24 rfl rfl rfl b30 rfl rfl (one_cons rfl (one_cons ((hq29.ext e30).nl).one one_nil)) rfl (fun w31 b31 q31 => ?_)
   have z31 := Nat.le_of_eq q31.size.symm
   have e31 : Ext w w31 := q31.ext ((e28.trans e29).trans e30) (by omega)
   refine O_assign rfl rfl rfl ?_
   refine WL_end [(2, _), (6, _), (7, _), (8, _), (9, _), (10, _)] ⟨rfl, rfl, rfl, rfl, rfl, rfl, trivial⟩ ?_
   refine WP_seq ?_
   refine WP_region ?_
   refine O_loadA (vs := [_, _]) S24 rfl rfl rfl b31 rfl rfl ?_
   refine O_call enters70 rfl rfl rfl (intv_c rfl ((hq29.ext e30).chgBk b30 (by decide) q31).nl (by (try simp only [lens]); omega)) (fun v32 w32 e32 h32 => ?_)
   have z32 := e32.size
   try simp only [val_dig] at h32
   obtain rfl := h32
   refine O_move rfl rfl rfl ?_
   refine O_extract rfl rfl rfl rfl ?_
   refine O_extract rfl rfl rfl rfl ?_
   refine O_assign rfl rfl rfl ?_
   refine O_assign rfl rfl rfl ?_
   refine WL_end [(2, _), (6, _), (7, _), (8, _), (10, _), (11, _), (12, _)] ⟨rfl, rfl, rfl, rfl, rfl, rfl, rfl, trivial⟩ ?_
   refine WP_seq ?_
   refine WP_region ?_
   refine O_loadA (vs := [_, _]) S24 rfl rfl rfl ((((b28.ext e29).ext e30).chg q31 (by first | assumption | omega)).ext e32) rfl rfl ?_
   refine O_move rfl rfl rfl ?_
   refine O_build (cs := [_, _, _]) B26 rfl rfl rfl (cells_cons rfl (cells_cons rfl cells_nil)) rfl ?_
   refine O_alloc S26 rfl rfl (fun g33 w33 b33 e33 gl33 gh33 => ?_)
   have z33 := e33.size
   refine O_storeA (cs' := [_, _, _]) S26 rfl rfl rfl b33 rfl rfl (one_cons rfl (one_cons ((((((((hq26.ext e27).chgBk b27 (by decide) q28).ext e29).ext e30).chgBk b30 (by decide) q31).ext e32).ext e33).nl).one (one_cons rfl one_nil))) rfl (fun w34 b34 q34 => ?_)
   have z34 := Nat.le_of_eq q34.size.symm
   have e34 : Ext w w34 := q34.ext ((e31.trans e32).trans e33) (by omega)
   refine WL_end [(2, _), (6, _), (8, _), (10, _), (12, _), (13, _)] ⟨rfl, rfl, rfl, rfl, rfl, rfl, trivial⟩ ?_
   refine WP_seq ?_
   refine WP_seq ?_
   refine WP_region ?_
   refine O_move rfl rfl rfl ?_
   refine O_not rfl rfl rfl rfl ?_
   refine O_move rfl rfl rfl ?_
   refine O_move rfl rfl rfl ?_
   refine O_neq (t := false) rfl rfl rfl rfl (decide_eq_false (fun h => h h2)) ?_
   refine O_pickF rfl rfl rfl rfl ?_
   refine O_move rfl rfl rfl ?_
   refine O_move rfl rfl rfl ?_
   refine O_neq (t := true) rfl rfl rfl rfl (decide_eq_true h3) ?_
   refine O_pickF rfl rfl rfl rfl ?_
   refine O_move rfl rfl rfl ?_
   refine O_skip rfl rfl ?_
   refine O_skip rfl rfl ?_
   refine O_pickT rfl rfl rfl rfl ?_
   refine O_move rfl rfl rfl ?_
   refine O_skip rfl rfl ?_
   refine O_skip rfl rfl ?_
   refine O_skip rfl rfl ?_
   refine O_pickT rfl rfl rfl rfl ?_
   refine WL_end [(2, _), (13, _), (60, _)] ⟨rfl, rfl, rfl, trivial⟩ ?_
   refine WP_condT rfl ?_
   refine WP_seq ?_
   refine WP_region ?_
   refine O_build (cs := [_, _, _]) B26 rfl rfl rfl cells_nil rfl ?_
   refine O_storeA (cs' := [_, _, _]) S26 rfl rfl rfl ((((((((((b1.ext e25).ext e26).ext e27).chg q28 (by first | assumption | omega)).ext e29).ext e30).chg q31 (by first | assumption | omega)).ext e32).ext e33).chg q34 (by first | assumption | omega)) rfl rfl (one_cons rfl (one_cons rfl (one_cons rfl one_nil))) rfl (fun w35 b35 q35 => ?_)
   have z35 := Nat.le_of_eq q35.size.symm
   have e35 : Ext w w35 := q35.ext e34 (by omega)
   refine O_assign rfl rfl rfl ?_
   refine WL_end [(2, _), (3, _)] ⟨rfl, rfl, trivial⟩ ?_
   refine WP_ret ?_
   refine retL Tryd.results28 (.cell rfl S26 b35 rfl (.tmp rfl .nil)) ?_
   rw [hc, hm, he]
   exact ⟨_, rfl, e35, _, rfl, by rw [dig0]; exact No.nil _ _ _⟩
  · --
   have hLa := dpz_len l
   have hLb := dpz_len (cutb l)
   have hLc := dpz_len (cuta l)
   have hLd := dpz_len []
   obtain ⟨hc, hm, he⟩ := dyc_bad (l := l) (by omega) (fun h => h4 h.2.2.2.1)
   refine WP_region ?_
   refine O_move rfl rfl rfl ?_
   refine O_call enters68 rfl rfl rfl (strcut_T (by (try simp only [lens]); omega) h1) (fun v36 w36 e36 h36 => ?_)
   have z36 := e36.size
   try simp only [val_dig] at h36
   obtain rfl := h36
   refine O_move rfl rfl rfl ?_
   refine O_extract rfl rfl rfl rfl ?_
   refine O_extract rfl rfl rfl rfl ?_
   refine O_extract rfl rfl rfl rfl ?_
   refine O_assign rfl rfl rfl ?_
   refine O_assign rfl rfl rfl ?_
   refine O_assign rfl rfl rfl ?_
   refine WL_end [(2, _), (4, _), (5, _), (6, _)] ⟨rfl, rfl, rfl, rfl, trivial⟩ ?_
   refine WP_seq ?_
   refine WP_region ?_
   refine O_move rfl rfl rfl ?_
   refine O_call enters69 rfl rfl rfl (iparse_c) (fun v37 w37 e37 h37 => ?_)
   have z37 := e37.size
   try simp only [val_dig] at h37
   obtain ⟨q37, rfl, hq37⟩ := h37
   refine O_move rfl rfl rfl ?_
   refine O_extract rfl rfl rfl rfl ?_
   refine O_extract rfl rfl rfl rfl ?_
   refine O_alloc S24 rfl rfl (fun g38 w38 b38 e38 gl38 gh38 => ?_)
   have z38 := e38.size
   refine O_storeA (cs' := [_, _]) S24 rfl rfl rfl b38 rfl rfl (one_cons rfl (one_cons ((hq37.ext e38).nl).one one_nil)) rfl (fun w39 b39 q39 => ?_)
   have z39 := Nat.le_of_eq q39.size.symm
   have e39 : Ext w w39 := q39.ext (((e1.trans e36).trans e37).trans e38) (by omega)
   refine O_assign rfl rfl rfl ?_
   refine WL_end [(2, _), (5, _), (6, _), (7, _), (8, _)] ⟨rfl, rfl, rfl, rfl, rfl, trivial⟩ ?_
   refine WP_seq ?_
   refine WP_region ?_
   refine O_move rfl rfl rfl ?_
   refine O_call enters69 rfl rfl rfl (iparse_c) (fun v40 w40 e40 h40 => ?_)
   have z40 := e40.size
   try simp only [val_dig] at h40
   obtain ⟨q40, rfl, hq40⟩ := h40
   refine O_move rfl rfl rfl ?_
   refine O_extract rfl rfl rfl rfl ?_
   refine O_extract rfl rfl rfl rfl ?_
   refine O_alloc S24 rfl rfl (fun g41 w41 b41 e41 gl41 gh41 => ?_)
   have z41 := e41.size
   refine O_storeA (cs' := [_, _]) S24 rfl rfl rfl b41 rfl rfl (one_cons rfl (one_cons ((hq40.ext e41).nl).one one_nil)) rfl (fun w42 b42 q42 => ?_)
   have z42 := Nat.le_of_eq q42.size.symm
   have e42 : Ext w w42 := q42.ext ((e39.trans e40).trans e41) (by omega)
   refine O_assign rfl rfl rfl ?_
   refine WL_end [(2, _), (6, _), (7, _), (8, _), (9, _), (10, _)] ⟨rfl, rfl, rfl, rfl, rfl, rfl, trivial⟩ ?_
   refine WP_seq ?_
   refine WP_region ?_
   refine O_loadA (vs := [_, _]) S24 rfl rfl rfl b42 rfl rfl ?_
   refine O_call enters70 rfl rfl rfl (intF_c rfl ((hq40.ext e41).chgBk b41 (by decide) q42).nl (by (try simp only [lens]); omega) h4) (fun v43 w43 e43 h43 => ?_)
   have z43 := e43.size
   try simp only [val_dig] at h43
   obtain rfl := h43
   refine O_move rfl rfl rfl ?_
   refine O_extract rfl rfl rfl rfl ?_
   refine O_extract rfl rfl rfl rfl ?_
   refine O_assign rfl rfl rfl ?_
   refine O_assign rfl rfl rfl ?_
   refine WL_end [(2, _), (6, _), (7, _), (8, _), (10, _), (11, _), (12, _)] ⟨rfl, rfl, rfl, rfl, rfl, rfl, rfl, trivial⟩ ?_
   refine WP_seq ?_
   refine WP_region ?_
   refine O_loadA (vs := [_, _]) S24 rfl rfl rfl ((((b39.ext e40).ext e41).chg q42 (by first | assumption | omega)).ext e43) rfl rfl ?_
   refine O_move rfl rfl rfl ?_
   refine O_build (cs := [_, _, _]) B26 rfl rfl rfl (cells_cons rfl (cells_cons rfl cells_nil)) rfl ?_
   refine O_alloc S26 rfl rfl (fun g44 w44 b44 e44 gl44 gh44 => ?_)
   have z44 := e44.size
   refine O_storeA (cs' := [_, _, _]) S26 rfl rfl rfl b44 rfl rfl (one_cons rfl (one_cons ((((((((hq37.ext e38).chgBk b38 (by decide) q39).ext e40).ext e41).chgBk b41 (by decide) q42).ext e43).ext e44).nl).one (one_cons rfl one_nil))) rfl (fun w45 b45 q45 => ?_)
   have z45 := Nat.le_of_eq q45.size.symm
   have e45 : Ext w w45 := q45.ext ((e42.trans e43).trans e44) (by omega)
   refine WL_end [(2, _), (6, _), (8, _), (10, _), (12, _), (13, _)] ⟨rfl, rfl, rfl, rfl, rfl, rfl, trivial⟩ ?_
   refine WP_seq ?_
   refine WP_seq ?_
   refine WP_region ?_
   refine O_move rfl rfl rfl ?_
   refine O_not rfl rfl rfl rfl ?_
   refine O_move rfl rfl rfl ?_
   refine O_move rfl rfl rfl ?_
   refine O_neq (t := false) rfl rfl rfl rfl (decide_eq_false (fun h => h h2)) ?_
   refine O_pickF rfl rfl rfl rfl ?_
   refine O_move rfl rfl rfl ?_
   refine O_move rfl rfl rfl ?_
   refine O_neq (t := false) rfl rfl rfl rfl (decide_eq_false (fun h => h h3)) ?_
   refine O_pickF rfl rfl rfl rfl ?_
   refine O_move rfl rfl rfl ?_
   refine O_move rfl rfl rfl ?_
   refine O_not rfl rfl rfl rfl ?_
   refine O_pickF rfl rfl rfl rfl ?_
   refine O_move rfl rfl rfl ?_
   refine O_skip rfl rfl ?_
   refine O_skip rfl rfl ?_
   refine O_skip rfl rfl ?_
   refine O_pickT rfl rfl rfl rfl ?_
   refine WL_end [(2, _), (13, _), (60, _)] ⟨rfl, rfl, rfl, trivial⟩ ?_
   refine WP_condT rfl ?_
   refine WP_seq ?_
   refine WP_region ?_
   refine O_build (cs := [_, _, _]) B26 rfl rfl rfl cells_nil rfl ?_
   refine O_storeA (cs' := [_, _, _]) S26 rfl rfl rfl ((((((((((b1.ext e36).ext e37).ext e38).chg q39 (by first | assumption | omega)).ext e40).ext e41).chg q42 (by first | assumption | omega)).ext e43).ext e44).chg q45 (by first | assumption | omega)) rfl rfl (one_cons rfl (one_cons rfl (one_cons rfl one_nil))) rfl (fun w46 b46 q46 => ?_)
   have z46 := Nat.le_of_eq q46.size.symm
   have e46 : Ext w w46 := q46.ext e45 (by omega)
   refine O_assign rfl rfl rfl ?_
   refine WL_end [(2, _), (3, _)] ⟨rfl, rfl, trivial⟩ ?_
   refine WP_ret ?_
   refine retL Tryd.results28 (.cell rfl S26 b46 rfl (.tmp rfl .nil)) ?_
   rw [hc, hm, he]
   exact ⟨_, rfl, e46, _, rfl, by rw [dig0]; exact No.nil _ _ _⟩
  · --
   have hLa := dpz_len l
   have hLb := dpz_len (cutb l)
   have hLc := dpz_len (cuta l)
   have hLd := dpz_len []
   
   refine WP_region ?_
   refine O_move rfl rfl rfl ?_
   refine O_call enters68 rfl rfl rfl (strcut_T (by (try simp only [lens]); omega) h1) (fun v47 w47 e47 h47 => ?_)
   have z47 := e47.size
   try simp only [val_dig] at h47
   obtain rfl := h47
   refine O_move rfl rfl rfl ?_
   refine O_extract rfl rfl rfl rfl ?_
   refine O_extract rfl rfl rfl rfl ?_
   refine O_extract rfl rfl rfl rfl ?_
   refine O_assign rfl rfl rfl ?_
   refine O_assign rfl rfl rfl ?_
   refine O_assign rfl rfl rfl ?_
   refine WL_end [(2, _), (4, _), (5, _), (6, _)] ⟨rfl, rfl, rfl, rfl, trivial⟩ ?_
   refine WP_seq ?_
   refine WP_region ?_
   refine O_move rfl rfl rfl ?_
   refine O_call enters69 rfl rfl rfl (iparse_c) (fun v48 w48 e48 h48 => ?_)
   have z48 := e48.size
   try simp only [val_dig] at h48
   obtain ⟨q48, rfl, hq48⟩ := h48
   refine O_move rfl rfl rfl ?_
   refine O_extract rfl rfl rfl rfl ?_
   refine O_extract rfl rfl rfl rfl ?_
   refine O_alloc S24 rfl rfl (fun g49 w49 b49 e49 gl49 gh49 => ?_)
   have z49 := e49.size
   refine O_storeA (cs' := [_, _]) S24 rfl rfl rfl b49 rfl rfl (one_cons rfl (one_cons ((hq48.ext e49).nl).one one_nil)) rfl (fun w50 b50 q50 => ?_)
   have z50 := Nat.le_of_eq q50.size.symm
   have e50 : Ext w w50 := q50.ext (((e1.trans e47).trans e48).trans e49) (by omega)
   refine O_assign rfl rfl rfl ?_
   refine WL_end [(2, _), (5, _), (6, _), (7, _), (8, _)] ⟨rfl, rfl, rfl, rfl, rfl, trivial⟩ ?_
   refine WP_seq ?_
   refine WP_region ?_
   refine O_move rfl rfl rfl ?_
   refine O_call enters69 rfl rfl rfl (iparse_c) (fun v51 w51 e51 h51 => ?_)
   have z51 := e51.size
   try simp only [val_dig] at h51
   obtain ⟨q51, rfl, hq51⟩ := h51
   refine O_move rfl rfl rfl ?_
   refine O_extract rfl rfl rfl rfl ?_
   refine O_extract rfl rfl rfl rfl ?_
   refine O_alloc S24 rfl rfl (fun g52 w52 b52 e52 gl52 gh52 => ?_)
   have z52 := e52.size
   refine O_storeA (cs' := [_, _]) S24 rfl rfl rfl b52 rfl rfl (one_cons rfl (one_cons ((hq51.ext e52).nl).one one_nil)) rfl (fun w53 b53 q53 => ?_)
   have z53 := Nat.le_of_eq q53.size.symm
   have e53 : Ext w w53 := q53.ext ((e50.trans e51).trans e52) (by omega)
   refine O_assign rfl rfl rfl ?_
   refine WL_end [(2, _), (6, _), (7, _), (8, _), (9, _), (10, _)] ⟨rfl, rfl, rfl, rfl, rfl, rfl, trivial⟩ ?_
   refine WP_seq ?_
   refine WP_region ?_
   refine O_loadA (vs := [_, _]) S24 rfl rfl rfl b53 rfl rfl ?_
   refine O_call enters70 rfl rfl rfl (intT_c rfl ((hq51.ext e52).chgBk b52 (by decide) q53).nl (by (try simp only [lens]); omega) h4) (fun v54 w54 e54 h54 => ?_)
   have z54 := e54.size
   try simp only [val_dig] at h54
   obtain rfl := h54
   refine O_move rfl rfl rfl ?_
   refine O_extract rfl rfl rfl rfl ?_
   refine O_extract rfl rfl rfl rfl ?_
   refine O_assign rfl rfl rfl ?_
   refine O_assign rfl rfl rfl ?_
   refine WL_end [(2, _), (6, _), (7, _), (8, _), (10, _), (11, _), (12, _)] ⟨rfl, rfl, rfl, rfl, rfl, rfl, rfl, trivial⟩ ?_
   refine WP_seq ?_
   refine WP_region ?_
   refine O_loadA (vs := [_, _]) S24 rfl rfl rfl ((((b50.ext e51).ext e52).chg q53 (by first | assumption | omega)).ext e54) rfl rfl ?_
   refine O_move rfl rfl rfl ?_
   refine O_build (cs := [_, _, _]) B26 rfl rfl rfl (cells_cons rfl (cells_cons rfl cells_nil)) rfl ?_
   refine O_alloc S26 rfl rfl (fun g55 w55 b55 e55 gl55 gh55 => ?_)
   have z55 := e55.size
   refine O_storeA (cs' := [_, _, _]) S26 rfl rfl rfl b55 rfl rfl (one_cons rfl (one_cons ((((((((hq48.ext e49).chgBk b49 (by decide) q50).ext e51).ext e52).chgBk b52 (by decide) q53).ext e54).ext e55).nl).one (one_cons rfl one_nil))) rfl (fun w56 b56 q56 => ?_)
   have z56 := Nat.le_of_eq q56.size.symm
   have e56 : Ext w w56 := q56.ext ((e53.trans e54).trans e55) (by omega)
   refine WL_end [(2, _), (6, _), (8, _), (10, _), (12, _), (13, _)] ⟨rfl, rfl, rfl, rfl, rfl, rfl, trivial⟩ ?_
   refine WP_seq ?_
   refine WP_seq ?_
   refine WP_region ?_
   refine O_move rfl rfl rfl ?_
   refine O_not rfl rfl rfl rfl ?_
   refine O_move rfl rfl rfl ?_
   refine O_move rfl rfl rfl ?_
   refine O_neq (t := false) rfl rfl rfl rfl (decide_eq_false (fun h => h h2)) ?_
   refine O_pickF rfl rfl rfl rfl ?_
   refine O_move rfl rfl rfl ?_
   refine O_move rfl rfl rfl ?_
   refine O_neq (t := false) rfl rfl rfl rfl (decide_eq_false (fun h => h h3)) ?_
   refine O_pickF rfl rfl rfl rfl ?_
   refine O_move rfl rfl rfl ?_
   refine O_move rfl rfl rfl ?_
   refine O_not rfl rfl rfl rfl ?_
   refine O_pickF rfl rfl rfl rfl ?_
   refine O_move rfl rfl rfl ?_
   refine O_loadA (vs := [_, _, _]) S26 rfl rfl rfl b56 rfl rfl ?_
   refine O_call enters23 rfl rfl rfl (dval_c rfl ((((((((hq48.ext e49).chgBk b49 (by decide) q50).ext e51).ext e52).chgBk b52 (by decide) q53).ext e54).ext e55).chgBk b55 (by decide) q56).nl (by (try simp only [lens]); omega)) (fun v57 w57 e57 h57 => ?_)
   have z57 := e57.size
   obtain rfl := h57
   refine O_not rfl rfl rfl rfl ?_
   refine O_pickF rfl rfl rfl rfl ?_
   refine WL_end [(2, _), (13, _), (60, _)] ⟨rfl, rfl, rfl, trivial⟩ ?_
   refine WP_cond rfl (fun c60 => ?_) (fun c60 => ?_)
   · --
    refine WP_seq ?_
    refine WP_region ?_
    refine O_build (cs := [_, _, _]) B26 rfl rfl rfl cells_nil rfl ?_
    refine O_storeA (cs' := [_, _, _]) S26 rfl rfl rfl (((((((((((b1.ext e47).ext e48).ext e49).chg q50 (by first | assumption | omega)).ext e51).ext e52).chg q53 (by first | assumption | omega)).ext e54).ext e55).chg q56 (by first | assumption | omega)).ext e57) rfl rfl (one_cons rfl (one_cons rfl (one_cons rfl one_nil))) rfl (fun w58 b58 q58 => ?_)
    have z58 := Nat.le_of_eq q58.size.symm
    have e58 : Ext w w58 := q58.ext (e56.trans e57) (by omega)
    refine O_assign rfl rfl rfl ?_
    refine WL_end [(2, _), (3, _)] ⟨rfl, rfl, trivial⟩ ?_
    refine WP_ret ?_
    refine retL Tryd.results28 (.cell rfl S26 b58 rfl (.tmp rfl .nil)) ?_
    obtain ⟨hc, hm, he⟩ := dyc_bad (l := l) (by omega) (fun h => by have h5 := h.2.2.2.2; simp_all)
    rw [hc, hm, he]
    exact ⟨_, rfl, e58, _, rfl, by rw [dig0]; exact No.nil _ _ _⟩
   · --
    refine WP_skip ?_
    refine WP_seq ?_
    refine WP_region ?_
    refine O_loadA (vs := [_, _, _]) S26 rfl rfl rfl (b56.ext e57) rfl rfl ?_
    refine O_storeA (cs' := [_, _, _]) S26 rfl rfl rfl (((((((((((b1.ext e47).ext e48).ext e49).chg q50 (by first | assumption | omega)).ext e51).ext e52).chg q53 (by first | assumption | omega)).ext e54).ext e55).chg q56 (by first | assumption | omega)).ext e57) rfl rfl (one_cons rfl (one_cons ((((((((((hq48.ext e49).chgBk b49 (by decide) q50).ext e51).ext e52).chgBk b52 (by decide) q53).ext e54).ext e55).chgBk b55 (by decide) q56).ext e57).nl).one (one_cons rfl one_nil))) rfl (fun w59 b59 q59 => ?_)
    have z59 := Nat.le_of_eq q59.size.symm
    have e59 : Ext w w59 := q59.ext (e56.trans e57) (by omega)
    refine O_assign rfl rfl rfl ?_
    refine WL_end [(2, _), (3, _)] ⟨rfl, rfl, trivial⟩ ?_
    refine WP_ret ?_
    refine retL Tryd.results28 (.cell rfl S26 b59 rfl (.tmp rfl .nil)) ?_
    obtain ⟨hc, hm, he⟩ := dyc_ok (l := l) (by omega) ⟨h1, h2, h3, h4, by simp_all⟩
    rw [hc, hm, he]
    exact ⟨_, rfl, e59, _, rfl, ((((((((((hq48.ext e49).chgBk b49 (by decide) q50).ext e51).ext e52).chgBk b52 (by decide) q53).ext e54).ext e55).chgBk b55 (by decide) q56).ext e57).chgBk (((((((((((b1.ext e47).ext e48).ext e49).chg q50 (by first | assumption | omega)).ext e51).ext e52).chg q53 (by first | assumption | omega)).ext e54).ext e55).chg q56 (by first | assumption | omega)).ext e57) (by decide) q59).mono (by omega)⟩

set_option maxHeartbeats 2000000 in
theorem rdyparse_c {w : World} {l : List UInt8} :
    Calls Tryd.prog 31 #[.string (bs l)] w (Ret w fun r w' => ∃ q, r = .tuple #[.agg #[.bool (decide ((dym l) < 0)), q, .int .i64 (dye l)], .int .i64 (dyc l)] ∧ No w.heap.size 89 w' q (dig (dym l).natAbs)) := by
 refine enter (args := [_]) Tryd.func31 rfl Tryd.ntmps31 rfl ?_
 refine WP_seq ?_
 refine WP_region ?_
 refine O_alloc S26 rfl rfl (fun g1 w1 b1 e1 gl1 gh1 => ?_)
 have z1 := e1.size
 refine O_assign rfl rfl rfl ?_
 refine WL_end [(0, _), (2, _)] ⟨rfl, rfl, trivial⟩ ?_
 refine WP_seq ?_
 refine WP_seq ?_
 refine WP_region ?_
 refine O_move rfl rfl rfl ?_
 refine S_len Tryd.underlying9 rfl rfl rfl ?_
 refine O_gtr rfl rfl rfl rfl rfl ?_
 refine WL_end [(0, _), (2, _), (14, _)] ⟨rfl, rfl, rfl, trivial⟩ ?_
 refine WP_condD rfl (fun c14 => ?_) (fun c14 => ?_)
 · --
  refine WP_seq ?_
  refine WP_region ?_
  refine O_build (cs := [_, _, _]) B26 rfl rfl rfl cells_nil rfl ?_
  refine O_storeA (cs' := [_, _, _]) S26 rfl rfl rfl b1 rfl rfl (one_cons rfl (one_cons rfl (one_cons rfl one_nil))) rfl (fun w2 b2 q2 => ?_)
  have z2 := Nat.le_of_eq q2.size.symm
  have e2 : Ext w w2 := q2.ext e1 (by omega)
  refine O_assign rfl rfl rfl ?_
  refine WL_end [(2, _), (3, _)] ⟨rfl, rfl, trivial⟩ ?_
  refine WP_ret ?_
  refine retL Tryd.results31 (.cell rfl S26 b2 rfl (.tmp rfl .nil)) ?_
  obtain ⟨hc, hm, he⟩ := dyc_big (l := l) (by omega)
  rw [hc, hm, he]
  exact ⟨_, rfl, e2, _, rfl, by rw [dig0]; exact No.nil _ _ _⟩
 · --
  refine WP_skip ?_
  refine WP_seq ?_
  refine WP_region ?_
  refine O_assign rfl rfl rfl ?_
  refine WL_end [(0, _), (2, _), (4, _)] ⟨rfl, rfl, rfl, trivial⟩ ?_
  refine WP_seq ?_
  refine WP_block ?_
  refine WP_loop (S := Nat) (fun i => [(0, .string (bs l)), (2, .pointer (some ⟨g1, 0, none⟩)), (4, .int .i64 (i : Nat))]) (fun i w' => (Ext w w' ∧ Bk w' g1 26 [.bool false, .slice none 0 0, .int .i64 0]) ∧ i ≤ pidx l) (fun i => pidx l - i) 0 ⟨rfl, rfl, rfl, trivial⟩ ⟨⟨e1, b1⟩, Nat.zero_le _⟩ ?_
  rintro i w9 ⟨⟨hE, hb2⟩, hi⟩
  have zE := hE.size
  have hpl := pidx_le l
  have l2 := hb2.lt
  refine WP_seq ?_
  refine WP_seq ?_
  have hcs : i < pidx l ∨ (i = pidx l ∧ pidx l = l.length) ∨ (i = pidx l ∧ pidx l < l.length) := by omega
  rcases hcs with hlt | ⟨hie, hpe⟩ | ⟨hie, h1⟩
  · --
   obtain ⟨b, hbi, hbn⟩ := pidx_lt hlt
   have hbn2 : b.toNat ≠ 112 := fun h => hbn (UInt8.toNat_inj.1 (by rw [h]; rfl))
   refine WP_region ?_
   refine O_move rfl rfl rfl ?_
   refine O_move rfl rfl rfl ?_
   refine S_len Tryd.underlying9 rfl rfl rfl ?_
   refine O_lss (t := true) rfl rfl rfl rfl (decide_eq_true (by omega)) ?_
   refine O_move rfl rfl rfl ?_
   refine O_move rfl rfl rfl ?_
   refine O_move rfl rfl rfl ?_
   refine S_idx Tryd.underlying9 rfl rfl rfl rfl i rfl hbi ?_
   refine O_neq (t := true) rfl rfl rfl rfl (decide_eq_true (by omega)) ?_
   refine O_pickT rfl rfl rfl rfl ?_
   refine WL_end [(0, _), (2, _), (4, _), (25, _)] ⟨rfl, rfl, rfl, rfl, trivial⟩ ?_
   refine WP_condT rfl ?_
   refine WP_skip ?_
   refine WP_block ?_
   refine WP_region ?_
   refine O_move rfl rfl rfl ?_
   refine O_add rfl rfl rfl rfl (wrap_i64_id (by omega) (by omega)) ?_
   refine O_assign rfl rfl rfl ?_
   refine WL_end [(0, _), (2, _), (4, _)] ⟨rfl, rfl, rfl, trivial⟩ ?_
   exact ⟨(i + 1), ⟨rfl, rfl, rfl, trivial⟩, ⟨⟨hE, hb2⟩, by omega⟩, by omega⟩
  · --
   subst hie
   obtain ⟨hc, hm, he⟩ := dyc_bad (l := l) (by omega) (fun h => by have := h.1; unfold cutok at this; omega)
   refine WP_region ?_
   refine O_move rfl rfl rfl ?_
   refine O_move rfl rfl rfl ?_
   refine S_len Tryd.underlying9 rfl rfl rfl ?_
   refine O_lss (t := false) rfl rfl rfl rfl (decide_eq_false (by omega)) ?_
   refine O_move rfl rfl rfl ?_
   refine O_skip rfl rfl ?_
   refine O_skip rfl rfl ?_
   refine O_skip rfl rfl ?_
   refine O_skip rfl rfl ?_
   refine O_pickF rfl rfl rfl rfl ?_
   refine WL_end [(0, _), (2, _), (4, _), (25, _)] ⟨rfl, rfl, rfl, rfl, trivial⟩ ?_
   refine WP_condF rfl ?_
   refine WP_exit ?_
   refine inBlk_hit ?_
   refine WP_seq ?_
   refine WP_seq ?_
   refine WP_region ?_
   refine O_move rfl rfl rfl ?_
   refine O_move rfl rfl rfl ?_
   refine S_len Tryd.underlying9 rfl rfl rfl ?_
   refine O_eql (t := true) rfl rfl rfl rfl (decide_eq_true (by omega)) ?_
   refine WL_end [(0, _), (2, _), (4, _), (31, _)] ⟨rfl, rfl, rfl, rfl, trivial⟩ ?_
   refine WP_condT rfl ?_
   refine WP_seq ?_
   refine WP_region ?_
   refine O_build (cs := [_, _, _]) B26 rfl rfl rfl cells_nil rfl ?_
   refine O_storeA (cs' := [_, _, _]) S26 rfl rfl rfl hb2 rfl rfl (one_cons rfl (one_cons rfl (one_cons rfl one_nil))) rfl (fun w3 b3 q3 => ?_)
   have z3 := Nat.le_of_eq q3.size.symm
   have e3 : Ext w w3 := q3.ext hE (by omega)
   refine O_assign rfl rfl rfl ?_
   refine WL_end [(2, _), (3, _)] ⟨rfl, rfl, trivial⟩ ?_
   refine WP_ret ?_
   refine retL Tryd.results31 (.cell rfl S26 b3 rfl (.tmp rfl .nil)) ?_
   rw [hc, hm, he]
   exact ⟨_, rfl, e3, _, rfl, by rw [dig0]; exact No.nil _ _ _⟩
  · --
   subst hie
   have hbi := pidx_get h1
   refine WP_region ?_
   refine O_move rfl rfl rfl ?_
   refine O_move rfl rfl rfl ?_
   refine S_len Tryd.underlying9 rfl rfl rfl ?_
   refine O_lss (t := true) rfl rfl rfl rfl (decide_eq_true (by omega)) ?_
   refine O_move rfl rfl rfl ?_
   refine O_move rfl rfl rfl ?_
   refine O_move rfl rfl rfl ?_
   refine S_idx Tryd.underlying9 rfl rfl rfl rfl (pidx l) rfl hbi ?_
   refine O_neq (t := false) rfl rfl rfl rfl (decide_eq_false (by decide)) ?_
   refine O_pickT rfl rfl rfl rfl ?_
   refine WL_end [(0, _), (2, _), (4, _), (25, _)] ⟨rfl, rfl, rfl, rfl, trivial⟩ ?_
   refine WP_condF rfl ?_
   refine WP_exit ?_
   refine inBlk_hit ?_
   refine WP_seq ?_
   refine WP_seq ?_
   refine WP_region ?_
   refine O_move rfl rfl rfl ?_
   refine O_move rfl rfl rfl ?_
   refine S_len Tryd.underlying9 rfl rfl rfl ?_
   refine O_eql (t := false) rfl rfl rfl rfl (decide_eq_false (by omega)) ?_
   refine WL_end [(0, _), (2, _), (4, _), (31, _)] ⟨rfl, rfl, rfl, rfl, trivial⟩ ?_
   refine WP_condF rfl ?_
   refine WP_skip ?_
   refine WP_seq ?_
   rcases (dycases l).resolve_left (fun h => h h1) with ⟨h1, h2⟩ | ⟨h1, h2, h3⟩ | ⟨h1, h2, h3, h4⟩ | ⟨h1, h2, h3, h4⟩
   · --
    have hLa := dpz_len l
    have hLb := dpz_len (cutb l)
    have hLc := dpz_len (cuta l)
    have hLd := dpz_len []
    obtain ⟨hc, hm, he⟩ := dyc_bad (l := l) (by omega) (fun h => h2 h.2.1)
    refine WP_region ?_
    refine O_move rfl rfl rfl ?_
    refine O_move rfl rfl rfl ?_
    refine S_to Tryd.underlying9 rfl rfl rfl rfl (pidx l) rfl (pidx_le l) ?_
    refine O_call enters73 rfl rfl rfl (riparse_c (l := cutb l)) (fun v4 w4 e4 h4 => ?_)
    have z4 := e4.size
    try simp only [val_dig] at h4
    obtain ⟨q4, rfl, hq4⟩ := h4
    refine O_move rfl rfl rfl ?_
    refine O_extract rfl rfl rfl rfl ?_
    refine O_extract rfl rfl rfl rfl ?_
    refine O_alloc S24 rfl rfl (fun g5 w5 b5 e5 gl5 gh5 => ?_)
    have z5 := e5.size
    refine O_storeA (cs' := [_, _]) S24 rfl rfl rfl b5 rfl rfl (one_cons rfl (one_cons ((hq4.ext e5).nl).one one_nil)) rfl (fun w6 b6 q6 => ?_)
    have z6 := Nat.le_of_eq q6.size.symm
    have e6 : Ext w w6 := q6.ext ((hE.trans e4).trans e5) (by omega)
    refine O_assign rfl rfl rfl ?_
    refine WL_end [(0, _), (2, _), (4, _), (5, _), (6, _)] ⟨rfl, rfl, rfl, rfl, rfl, trivial⟩ ?_
    refine WP_seq ?_
    refine WP_region ?_
    refine O_move rfl rfl rfl ?_
    refine O_move rfl rfl rfl ?_
    refine O_add (r := ((pidx l + 1 : Nat) : Int)) rfl rfl rfl rfl (by rw [IntKind.wrap_i64]; omega) ?_
    refine S_from Tryd.underlying9 rfl rfl rfl rfl (pidx l + 1) rfl h1 ?_
    refine O_call enters73 rfl rfl rfl (riparse_c (l := cuta l)) (fun v7 w7 e7 h7 => ?_)
    have z7 := e7.size
    try simp only [val_dig] at h7
    obtain ⟨q7, rfl, hq7⟩ := h7
    refine O_move rfl rfl rfl ?_
    refine O_extract rfl rfl rfl rfl ?_
    refine O_extract rfl rfl rfl rfl ?_
    refine O_alloc S24 rfl rfl (fun g8 w8 b8 e8 gl8 gh8 => ?_)
    have z8 := e8.size
    refine O_storeA (cs' := [_, _]) S24 rfl rfl rfl b8 rfl rfl (one_cons rfl (one_cons ((hq7.ext e8).nl).one one_nil)) rfl (fun w9 b9 q9 => ?_)
    have z9 := Nat.le_of_eq q9.size.symm
    have e9 : Ext w w9 := q9.ext ((e6.trans e7).trans e8) (by omega)
    refine O_assign rfl rfl rfl ?_
    refine WL_end [(2, _), (5, _), (6, _), (7, _), (8, _)] ⟨rfl, rfl, rfl, rfl, rfl, trivial⟩ ?_
    refine WP_seq ?_
    refine WP_region ?_
    refine O_loadA (vs := [_, _]) S24 rfl rfl rfl b9 rfl rfl ?_
    refine O_call enters74 rfl rfl rfl (rintv_c rfl ((hq7.ext e8).chgBk b8 (by decide) q9).nl (by (try simp only [lens]); omega)) (fun v10 w10 e10 h10 => ?_)
    have z10 := e10.size
    try simp only [val_dig] at h10
    obtain rfl := h10
    refine O_move rfl rfl rfl ?_
    refine O_extract rfl rfl rfl rfl ?_
    refine O_extract rfl rfl rfl rfl ?_
    refine O_assign rfl rfl rfl ?_
    refine O_assign rfl rfl rfl ?_
    refine WL_end [(2, _), (5, _), (6, _), (8, _), (9, _), (10, _)] ⟨rfl, rfl, rfl, rfl, rfl, rfl, trivial⟩ ?_
    refine WP_seq ?_
    refine WP_region ?_
    refine O_loadA (vs := [_, _]) S24 rfl rfl rfl ((((b6.ext e7).ext e8).chg q9 (by first | assumption | omega)).ext e10) rfl rfl ?_
    refine O_move rfl rfl rfl ?_
    refine O_build (cs := [_, _, _]) B26 rfl rfl rfl (cells_cons rfl (cells_cons rfl cells_nil)) rfl ?_
    refine O_alloc S26 rfl rfl (fun g11 w11 b11 e11 gl11 gh11 => ?_)
    have z11 := e11.size
    refine O_storeA (cs' := [_, _, _]) S26 rfl rfl rfl b11 rfl rfl (one_cons rfl (one_cons ((((((((hq4.ext e5).chgBk b5 (by decide) q6).ext e7).ext e8).chgBk b8 (by decide) q9).ext e10).ext e11).nl).one (one_cons rfl one_nil))) rfl (fun w12 b12 q12 => ?_)
    have z12 := Nat.le_of_eq q12.size.symm
    have e12 : Ext w w12 := q12.ext ((e9.trans e10).trans e11) (by omega)
    refine WL_end [(2, _), (6, _), (8, _), (10, _), (11, _)] ⟨rfl, rfl, rfl, rfl, rfl, trivial⟩ ?_
    refine WP_seq ?_
    refine WP_seq ?_
    refine WP_region ?_
    refine O_move rfl rfl rfl ?_
    refine O_neq (t := true) rfl rfl rfl rfl (decide_eq_true h2) ?_
    refine O_move rfl rfl rfl ?_
    refine O_skip rfl rfl ?_
    refine O_skip rfl rfl ?_
    refine O_pickT rfl rfl rfl rfl ?_
    refine O_move rfl rfl rfl ?_
    refine O_skip rfl rfl ?_
    refine O_skip rfl rfl ?_
    refine O_pickT rfl rfl rfl rfl ?_
    refine O_move rfl rfl rfl ?_
    refine O_skip rfl rfl ?_
    refine O_skip rfl rfl ?_
    refine O_skip rfl rfl ?_
    refine O_pickT rfl rfl rfl rfl ?_
    refine WL_end [(2, _), (11, _), (70, _)] ⟨rfl, rfl, rfl, trivial⟩ ?_
    refine WP_condT rfl ?_
    refine WP_seq ?_
    refine WP_region ?_
    refine O_build (cs := [_, _, _]) B26 rfl rfl rfl cells_nil rfl ?_
    refine O_storeA (cs' := [_, _, _]) S26 rfl rfl rfl (((((((((hb2.ext e4).ext e5).chg q6 (by first | assumption | omega)).ext e7).ext e8).chg q9 (by first | assumption | omega)).ext e10).ext e11).chg q12 (by first | assumption | omega)) rfl rfl (one_cons rfl (one_cons rfl (one_cons rfl one_nil))) rfl (fun w13 b13 q13 => ?_)
    have z13 := Nat.le_of_eq q13.size.symm
    have e13 : Ext w w13 := q13.ext e12 (by omega)
    refine O_assign rfl rfl rfl ?_
    refine WL_end [(2, _), (3, _)] ⟨rfl, rfl, trivial⟩ ?_
    refine WP_ret ?_
    refine retL Tryd.results31 (.cell rfl S26 b13 rfl (.tmp rfl .nil)) ?_
    rw [hc, hm, he]
    exact ⟨_, rfl, e13, _, rfl, by rw [dig0]; exact No.nil _ _ _⟩
   · --
    have hLa := dpz_len l
    have hLb := dpz_len (cutb l)
    have hLc := dpz_len (cuta l)
    have hLd := dpz_len []
    obtain ⟨hc, hm, he⟩ := dyc_bad (l := l) (by omega) (fun h => h3 h.2.2.1)
    refine WP_region ?_
    refine O_move rfl rfl rfl ?_
    refine O_move rfl rfl rfl ?_
    refine S_to Tryd.underlying9 rfl rfl rfl rfl (pidx l) rfl (pidx_le l) ?_
    refine O_call enters73 rfl rfl rfl (riparse_c (l := cutb l)) (fun v14 w14 e14 h14 => ?_)
    have z14 := e14.size
    try simp only [val_dig] at h14
    obtain ⟨q14, rfl, hq14⟩ := h14
    refine O_move rfl rfl rfl ?_
    refine O_extract rfl rfl rfl rfl ?_
    refine O_extract rfl rfl rfl rfl ?_
    refine O_alloc S24 rfl rfl (fun g15 w15 b15 e15 gl15 gh15 => ?_)
    have z15 := e15.size
    refine O_storeA (cs' := [_, _]) S24 rfl rfl rfl b15 rfl rfl (one_cons rfl (one_cons ((hq14.ext e15).nl).one one_nil)) rfl (fun w16 b16 q16 => ?_)
    have z16 := Nat.le_of_eq q16.size.symm
    have e16 : Ext w w16 := q16.ext ((hE.trans e14).trans e15) (by omega)
    refine O_assign rfl rfl rfl ?_
    refine WL_end [(0, _), (2, _), (4, _), (5, _), (6, _)] ⟨rfl, rfl, rfl, rfl, rfl, trivial⟩ ?_
    refine WP_seq ?_
    refine WP_region ?_
    refine O_move rfl rfl rfl ?_
    refine O_move rfl rfl rfl ?_
    refine O_add (r := ((pidx l + 1 : Nat) : Int)) rfl rfl rfl rfl (by rw [IntKind.wrap_i64]; omega) ?_
    refine S_from Tryd.underlying9 rfl rfl rfl rfl (pidx l + 1) rfl h1 ?_
    refine O_call enters73 rfl rfl rfl (riparse_c (l := cuta l)) (fun v17 w17 e17 h17 => ?_)
    have z17 := e17.size
    try simp only [val_dig] at h17
    obtain ⟨q17, rfl, hq17⟩ := h17
    refine O_move rfl rfl rfl ?_
    refine O_extract rfl rfl rfl rfl ?_
    refine O_extract rfl rfl rfl rfl ?_
    refine O_alloc S24 rfl rfl (fun g18 w18 b18 e18 gl18 gh18 => ?_)
    have z18 := e18.size
    refine O_storeA (cs' := [_, _]) S24 rfl rfl rfl b18 rfl rfl (one_cons rfl (one_cons ((hq17.ext e18).nl).one one_nil)) rfl (fun w19 b19 q19 => ?_)
    have z19 := Nat.le_of_eq q19.size.symm
    have e19 : Ext w w19 := q19.ext ((e16.trans e17).trans e18) (by omega)
    refine O_assign rfl rfl rfl ?_
    refine WL_end [(2, _), (5, _), (6, _), (7, _), (8, _)] ⟨rfl, rfl, rfl, rfl, rfl, trivial⟩ ?_
    refine WP_seq ?_
    refine WP_region ?_
    refine O_loadA (vs := [_, _]) S24 rfl rfl rfl b19 rfl rfl ?_
    refine O_call enters74 rfl rfl rfl (rintv_c rfl ((hq17.ext e18).chgBk b18 (by decide) q19).nl (by (try simp only [lens]); omega)) (fun v20 w20 e20 h20 => ?_)
    have z20 := e20.size
    try simp only [val_dig] at h20
    obtain rfl := h20
    refine O_move rfl rfl rfl ?_
    refine O_extract rfl rfl rfl rfl ?_
    refine O_extract rfl rfl rfl rfl ?_
    refine O_assign rfl rfl rfl ?_
    refine O_assign rfl rfl rfl ?_
    refine WL_end [(2, _), (5, _), (6, _), (8, _), (9, _), (10, _)] ⟨rfl, rfl, rfl, rfl, rfl, rfl, trivial⟩ ?_
    refine WP_seq ?_
    refine WP_region ?_
    refine O_loadA (vs := [_, _]) S24 rfl rfl rfl ((((b16.ext e17).ext e18).chg q19 (by first | assumption | omega)).ext e20) rfl rfl ?_
    refine O_move rfl rfl rfl ?_
    refine O_build (cs := [_, _, _]) B26 rfl rfl rfl (cells_cons rfl (cells_cons rfl cells_nil)) rfl ?_
    refine O_alloc S26 rfl rfl (fun g21 w21 b21 e21 gl21 gh21 => ?_)
    have z21 := e21.size
    refine O_storeA (cs' := [_, _, _]) S26 rfl rfl rfl b21 rfl rfl (one_cons rfl (one_cons ((((((((hq14.ext e15).chgBk b15 (by decide) q16).ext e17).ext e18).chgBk b18 (by decide) q19).ext e20).ext e21).nl).one (one_cons rfl one_nil))) rfl (fun w22 b22 q22 => ?_)
    have z22 := Nat.le_of_eq q22.size.symm
    have e22 : Ext w w22 := q22.ext ((e19.trans e20).trans e21) (by omega)
    refine WL_end [(2, _), (6, _), (8, _), (10, _), (11, _)] ⟨rfl, rfl, rfl, rfl, rfl, trivial⟩ ?_
    refine WP_seq ?_
    refine WP_seq ?_
    refine WP_region ?_
    refine O_move rfl rfl rfl ?_
    refine O_neq (t := false) rfl rfl rfl rfl (decide_eq_false (fun h => h h2)) ?_
    refine O_move rfl rfl rfl ?_
    refine O_move rfl rfl rfl ?_
    refine O_neq (t := true) rfl rfl rfl rfl (decide_eq_true h3) ?_
    refine O_pickF rfl rfl rfl rfl ?_
    refine O_move rfl rfl rfl ?_
    refine O_skip rfl rfl ?_
    refine O_skip rfl rfl ?_
    refine O_pickT rfl rfl rfl rfl ?_
    refine O_move rfl rfl rfl ?_
    refine O_skip rfl rfl ?_
    refine O_skip rfl rfl ?_
    refine O_skip rfl rfl ?_
    refine O_pickT rfl rfl rfl rfl ?_
    refine WL_end [(2, _), (11, _), (70, _)] ⟨rfl, rfl, rfl, trivial⟩ ?_
    refine WP_condT rfl ?_
    refine WP_seq ?_
    refine WP_region ?_
    refine O_build (cs := [_, _, _]) B26 rfl rfl rfl cells_nil rfl ?_
    refine O_storeA (cs' := [_, _, _]) S26 rfl rfl rfl (((((((((hb2.ext e14).ext e15).chg q16 (by first | assumption | omega)).ext e17).ext e18).chg q19 (by first | assumption | omega)).ext e20).ext e21).chg q22 (by first | assumption | omega)) rfl rfl (one_cons rfl (one_cons rfl (one_cons rfl one_nil))) rfl (fun w23 b23 q23 => ?_)
    have z23 := Nat.le_of_eq q23.size.symm
    have e23 : Ext w w23 := q23.ext e22 (by omega)
    refine O_assign rfl rfl rfl ?_
    refine WL_end [(2, _), (3, _)] ⟨rfl, rfl, trivial⟩ ?_
    refine WP_ret ?_
    refine retL Tryd.results31 (.cell rfl S26 b23 rfl (.tmp rfl .nil)) ?_
    rw [hc, hm, he]
    exact ⟨_, rfl, e23, _, rfl, by rw [dig0]; exact No.nil _ _ _⟩
   · --
    have hLa := dpz_len l
    have hLb := dpz_len (cutb l)
    have hLc := dpz_len (cuta l)
    have hLd := dpz_len []
    obtain ⟨hc, hm, he⟩ := dyc_bad (l := l) (by omega) (fun h => h4 h.2.2.2.1)
    refine WP_region ?_
    refine O_move rfl rfl rfl ?_
    refine O_move rfl rfl rfl ?_
    refine S_to Tryd.underlying9 rfl rfl rfl rfl (pidx l) rfl (pidx_le l) ?_
    refine O_call enters73 rfl rfl rfl (riparse_c (l := cutb l)) (fun v24 w24 e24 h24 => ?_)
    have z24 := e24.size
    try simp only [val_dig] at h24
    obtain ⟨q24, rfl, hq24⟩ := h24
    refine O_move rfl rfl rfl ?_
    refine O_extract rfl rfl rfl rfl ?_
    refine O_extract rfl rfl rfl rfl ?_
    refine O_alloc S24 rfl rfl (fun g25 w25 b25 e25 gl25 gh25 => ?_)
    have z25 := e25.size
    refine O_storeA (cs' := [_, _]) S24 rfl rfl rfl b25 rfl rfl (one_cons rfl (one_cons ((hq24.ext e25).nl).one one_nil)) rfl (fun w26 b26 q26 => ?_)
    have z26 := Nat.le_of_eq q26.size.symm
    have e26 : Ext w w26 := q26.ext ((hE.trans e24).trans e25) (by omega)
    refine O_assign rfl rfl rfl ?_
    refine WL_end [(0, _), (2, _), (4, _), (5, _), (6, _)] ⟨rfl, rfl, rfl, rfl, rfl, trivial⟩ ?_
    refine WP_seq ?_
    refine WP_region ?_
    refine O_move rfl rfl rfl ?_
    refine O_move rfl rfl rfl ?_
    refine O_add (r := ((pidx l + 1 : Nat) : Int)) rfl rfl rfl rfl (by rw [IntKind.wrap_i64]; omega) ?_
    refine S_from Tryd.underlying9 rfl rfl rfl rfl (pidx l + 1) rfl h1 ?_
    refine O_call enters73 rfl rfl rfl (riparse_c (l := cuta l)) (fun v27 w27 e27 h27 => ?_)
    have z27 := e27.size
    try simp only [val_dig] at h27
    obtain ⟨q27, rfl, hq27⟩ := h27
    refine O_move rfl rfl rfl ?_
    refine O_extract rfl rfl rfl rfl ?_
    refine O_extract rfl rfl rfl rfl ?_
    refine O_alloc S24 rfl rfl (fun g28 w28 b28 e28 gl28 gh28 => ?_)
    have z28 := e28.size
    refine O_storeA (cs' := [_, _]) S24 rfl rfl rfl b28 rfl rfl (one_cons rfl (one_cons ((hq27.ext e28).nl).one one_nil)) rfl (fun w29 b29 q29 => ?_)
    have z29 := Nat.le_of_eq q29.size.symm
    have e29 : Ext w w29 := q29.ext ((e26.trans e27).trans e28) (by omega)
    refine O_assign rfl rfl rfl ?_
    refine WL_end [(2, _), (5, _), (6, _), (7, _), (8, _)] ⟨rfl, rfl, rfl, rfl, rfl, trivial⟩ ?_
    refine WP_seq ?_
    refine WP_region ?_
    refine O_loadA (vs := [_, _]) S24 rfl rfl rfl b29 rfl rfl ?_
    refine O_call enters74 rfl rfl rfl (rintF_c rfl ((hq27.ext e28).chgBk b28 (by decide) q29).nl (by (try simp only [lens]); omega) h4) (fun v30 w30 e30 h30 => ?_)
    have z30 := e30.size
    try simp only [val_dig] at h30
    obtain rfl := h30
    refine O_move rfl rfl rfl ?_
    refine O_extract rfl rfl rfl rfl ?_
    refine O_extract rfl rfl rfl rfl ?_
    refine O_assign rfl rfl rfl ?_
    refine O_assign rfl rfl rfl ?_
    refine WL_end [(2, _), (5, _), (6, _), (8, _), (9, _), (10, _)] ⟨rfl, rfl, rfl, rfl, rfl, rfl, trivial⟩ ?_
    refine WP_seq ?_
    refine WP_region ?_
    refine O_loadA (vs := [_, _]) S24 rfl rfl rfl ((((b26.ext e27).ext e28).chg q29 (by first | assumption | omega)).ext e30) rfl rfl ?_
    refine O_move rfl rfl rfl ?_
    refine O_build (cs := [_, _, _]) B26 rfl rfl rfl (cells_cons rfl (cells_cons rfl cells_nil)) rfl ?_
    refine O_alloc S26 rfl rfl (fun g31 w31 b31 e31 gl31 gh31 => ?_)
    have z31 := e31.size
    refine O_storeA (cs' := [_, _, _]) S26 rfl rfl rfl b31 rfl rfl (one_cons rfl (one_cons ((((((((hq24.ext e25).chgBk b25 (by decide) q26).ext e27).ext e28).chgBk b28 (by decide) q29).ext e30).ext e31).nl).one (one_cons rfl one_nil))) rfl (fun w32 b32 q32 => ?_)
    have z32 := Nat.le_of_eq q32.size.symm
    have e32 : Ext w w32 := q32.ext ((e29.trans e30).trans e31) (by omega)
    refine WL_end [(2, _), (6, _), (8, _), (10, _), (11, _)] ⟨rfl, rfl, rfl, rfl, rfl, trivial⟩ ?_
    refine WP_seq ?_
    refine WP_seq ?_
    refine WP_region ?_
    refine O_move rfl rfl rfl ?_
    refine O_neq (t := false) rfl rfl rfl rfl (decide_eq_false (fun h => h h2)) ?_
    refine O_move rfl rfl rfl ?_
    refine O_move rfl rfl rfl ?_
    refine O_neq (t := false) rfl rfl rfl rfl (decide_eq_false (fun h => h h3)) ?_
    refine O_pickF rfl rfl rfl rfl ?_
    refine O_move rfl rfl rfl ?_
    refine O_move rfl rfl rfl ?_
    refine O_not rfl rfl rfl rfl ?_
    refine O_pickF rfl rfl rfl rfl ?_
    refine O_move rfl rfl rfl ?_
    refine O_skip rfl rfl ?_
    refine O_skip rfl rfl ?_
    refine O_skip rfl rfl ?_
    refine O_pickT rfl rfl rfl rfl ?_
    refine WL_end [(2, _), (11, _), (70, _)] ⟨rfl, rfl, rfl, trivial⟩ ?_
    refine WP_condT rfl ?_
    refine WP_seq ?_
    refine WP_region ?_
    refine O_build (cs := [_, _, _]) B26 rfl rfl rfl cells_nil rfl ?_
    refine O_storeA (cs' := [_, _, _]) S26 rfl rfl rfl (((((((((hb2.ext e24).ext e25).chg q26 (by first | assumption | omega)).ext e27).ext e28).chg q29 (by first | assumption | omega)).ext e30).ext e31).chg q32 (by first | assumption | omega)) rfl rfl (one_cons rfl (one_cons rfl (one_cons rfl one_nil))) rfl (fun w33 b33 q33 => ?_)
    have z33 := Nat.le_of_eq q33.size.symm
    have e33 : Ext w w33 := q33.ext e32 (by omega)
    refine O_assign rfl rfl rfl ?_
    refine WL_end [(2, _), (3, _)] ⟨rfl, rfl, trivial⟩ ?_
    refine WP_ret ?_
    refine retL Tryd.results31 (.cell rfl S26 b33 rfl (.tmp rfl .nil)) ?_
    rw [hc, hm, he]
    exact ⟨_, rfl, e33, _, rfl, by rw [dig0]; exact No.nil _ _ _⟩
   · --
    have hLa := dpz_len l
    have hLb := dpz_len (cutb l)
    have hLc := dpz_len (cuta l)
    have hLd := dpz_len []
    
    refine WP_region ?_
    refine O_move rfl rfl rfl ?_
    refine O_move rfl rfl rfl ?_
    refine S_to Tryd.underlying9 rfl rfl rfl rfl (pidx l) rfl (pidx_le l) ?_
    refine O_call enters73 rfl rfl rfl (riparse_c (l := cutb l)) (fun v34 w34 e34 h34 => ?_)
    have z34 := e34.size
    try simp only [val_dig] at h34
    obtain ⟨q34, rfl, hq34⟩ := h34
    refine O_move rfl rfl rfl ?_
    refine O_extract rfl rfl rfl rfl ?_
    refine O_extract rfl rfl rfl rfl ?_
    refine O_alloc S24 rfl rfl (fun g35 w35 b35 e35 gl35 gh35 => ?_)
    have z35 := e35.size
    refine O_storeA (cs' := [_, _]) S24 rfl rfl rfl b35 rfl rfl (one_cons rfl (one_cons ((hq34.ext e35).nl).one one_nil)) rfl (fun w36 b36 q36 => ?_)
    have z36 := Nat.le_of_eq q36.size.symm
    have e36 : Ext w w36 := q36.ext ((hE.trans e34).trans e35) (by omega)
    refine O_assign rfl rfl rfl ?_
    refine WL_end [(0, _), (2, _), (4, _), (5, _), (6, _)] ⟨rfl, rfl, rfl, rfl, rfl, trivial⟩ ?_
    refine WP_seq ?_
    refine WP_region ?_
    refine O_move rfl rfl rfl ?_
    refine O_move rfl rfl rfl ?_
    refine O_add (r := ((pidx l + 1 : Nat) : Int)) rfl rfl rfl rfl (by rw [IntKind.wrap_i64]; omega) ?_
    refine S_from Tryd.underlying9 rfl rfl rfl rfl (pidx l + 1) rfl h1 ?_
    refine O_call enters73 rfl rfl rfl (riparse_c (l := cuta l)) (fun v37 w37 e37 h37 => ?_)
    have z37 := e37.size
    try simp only [val_dig] at h37
    obtain ⟨q37, rfl, hq37⟩ := h37
    refine O_move rfl rfl rfl ?_
    refine O_extract rfl rfl rfl rfl ?_
    refine O_extract rfl rfl rfl rfl ?_
    refine O_alloc S24 rfl rfl (fun g38 w38 b38 e38 gl38 gh38 => ?_)
    have z38 := e38.size
    refine O_storeA (cs' := [_, _]) S24 rfl rfl rfl b38 rfl rfl (one_cons rfl (one_cons ((hq37.ext e38).nl).one one_nil)) rfl (fun w39 b39 q39 => ?_)
    have z39 := Nat.le_of_eq q39.size.symm
    have e39 : Ext w w39 := q39.ext ((e36.trans e37).trans e38) (by omega)
    refine O_assign rfl rfl rfl ?_
    refine WL_end [(2, _), (5, _), (6, _), (7, _), (8, _)] ⟨rfl, rfl, rfl, rfl, rfl, trivial⟩ ?_
    refine WP_seq ?_
    refine WP_region ?_
    refine O_loadA (vs := [_, _]) S24 rfl rfl rfl b39 rfl rfl ?_
    refine O_call enters74 rfl rfl rfl (rintT_c rfl ((hq37.ext e38).chgBk b38 (by decide) q39).nl (by (try simp only [lens]); omega) h4) (fun v40 w40 e40 h40 => ?_)
    have z40 := e40.size
    try simp only [val_dig] at h40
    obtain rfl := h40
    refine O_move rfl rfl rfl ?_
    refine O_extract rfl rfl rfl rfl ?_
    refine O_extract rfl rfl rfl rfl ?_
    refine O_assign rfl rfl rfl ?_
    refine O_assign rfl rfl rfl ?_
    refine WL_end [(2, _), (5, _), (6, _), (8, _), (9, _), (10, _)] ⟨rfl, rfl, rfl, rfl, rfl, rfl, trivial⟩ ?_
    refine WP_seq ?_
    refine WP_region ?_
    refine O_loadA (vs := [_, _]) S24 rfl rfl rfl ((((b36.ext e37).ext e38).chg q39 (by first | assumption | omega)).ext e40) rfl rfl ?_
    refine O_move rfl rfl rfl ?_
    refine O_build (cs := [_, _, _]) B26 rfl rfl rfl (cells_cons rfl (cells_cons rfl cells_nil)) rfl ?_
    refine O_alloc S26 rfl rfl (fun g41 w41 b41 e41 gl41 gh41 => ?_)
    have z41 := e41.size
    refine O_storeA (cs' := [_, _, _]) S26 rfl rfl rfl b41 rfl rfl (one_cons rfl (one_cons ((((((((hq34.ext e35).chgBk b35 (by decide) q36).ext e37).ext e38).chgBk b38 (by decide) q39).ext e40).ext e41).nl).one (one_cons rfl one_nil))) rfl (fun w42 b42 q42 => ?_)
    have z42 := Nat.le_of_eq q42.size.symm
    have e42 : Ext w w42 := q42.ext ((e39.trans e40).trans e41) (by omega)
    refine WL_end [(2, _), (6, _), (8, _), (10, _), (11, _)] ⟨rfl, rfl, rfl, rfl, rfl, trivial⟩ ?_
    refine WP_seq ?_
    refine WP_seq ?_
    refine WP_region ?_
    refine O_move rfl rfl rfl ?_
    refine O_neq (t := false) rfl rfl rfl rfl (decide_eq_false (fun h => h h2)) ?_
    refine O_move rfl rfl rfl ?_
    refine O_move rfl rfl rfl ?_
    refine O_neq (t := false) rfl rfl rfl rfl (decide_eq_false (fun h => h h3)) ?_
    refine O_pickF rfl rfl rfl rfl ?_
    refine O_move rfl rfl rfl ?_
    refine O_move rfl rfl rfl ?_
    refine O_not rfl rfl rfl rfl ?_
    refine O_pickF rfl rfl rfl rfl ?_
    refine O_move rfl rfl rfl ?_
    refine O_loadA (vs := [_, _, _]) S26 rfl rfl rfl b42 rfl rfl ?_
    refine O_call enters24 rfl rfl rfl (rdval_c rfl ((((((((hq34.ext e35).chgBk b35 (by decide) q36).ext e37).ext e38).chgBk b38 (by decide) q39).ext e40).ext e41).chgBk b41 (by decide) q42).nl (by (try simp only [lens]); omega)) (fun v43 w43 e43 h43 => ?_)
    have z43 := e43.size
    obtain rfl := h43
    refine O_not rfl rfl rfl rfl ?_
    refine O_pickF rfl rfl rfl rfl ?_
    refine WL_end [(2, _), (11, _), (70, _)] ⟨rfl, rfl, rfl, trivial⟩ ?_
    refine WP_cond rfl (fun c70 => ?_) (fun c70 => ?_)
    · --
     refine WP_seq ?_
     refine WP_region ?_
     refine O_build (cs := [_, _, _]) B26 rfl rfl rfl cells_nil rfl ?_
     refine O_storeA (cs' := [_, _, _]) S26 rfl rfl rfl ((((((((((hb2.ext e34).ext e35).chg q36 (by first | assumption | omega)).ext e37).ext e38).chg q39 (by first | assumption | omega)).ext e40).ext e41).chg q42 (by first | assumption | omega)).ext e43) rfl rfl (one_cons rfl (one_cons rfl (one_cons rfl one_nil))) rfl (fun w44 b44 q44 => ?_)
     have z44 := Nat.le_of_eq q44.size.symm
     have e44 : Ext w w44 := q44.ext (e42.trans e43) (by omega)
     refine O_assign rfl rfl rfl ?_
     refine WL_end [(2, _), (3, _)] ⟨rfl, rfl, trivial⟩ ?_
     refine WP_ret ?_
     refine retL Tryd.results31 (.cell rfl S26 b44 rfl (.tmp rfl .nil)) ?_
     obtain ⟨hc, hm, he⟩ := dyc_bad (l := l) (by omega) (fun h => by have h5 := h.2.2.2.2; simp_all)
     rw [hc, hm, he]
     exact ⟨_, rfl, e44, _, rfl, by rw [dig0]; exact No.nil _ _ _⟩
    · --
     refine WP_skip ?_
     refine WP_seq ?_
     refine WP_region ?_
     refine O_loadA (vs := [_, _, _]) S26 rfl rfl rfl (b42.ext e43) rfl rfl ?_
     refine O_storeA (cs' := [_, _, _]) S26 rfl rfl rfl ((((((((((hb2.ext e34).ext e35).chg q36 (by first | assumption | omega)).ext e37).ext e38).chg q39 (by first | assumption | omega)).ext e40).ext e41).chg q42 (by first | assumption | omega)).ext e43) rfl rfl (one_cons rfl (one_cons ((((((((((hq34.ext e35).chgBk b35 (by decide) q36).ext e37).ext e38).chgBk b38 (by decide) q39).ext e40).ext e41).chgBk b41 (by decide) q42).ext e43).nl).one (one_cons rfl one_nil))) rfl (fun w45 b45 q45 => ?_)
     have z45 := Nat.le_of_eq q45.size.symm
     have e45 : Ext w w45 := q45.ext (e42.trans e43) (by omega)
     refine O_assign rfl rfl rfl ?_
     refine WL_end [(2, _), (3, _)] ⟨rfl, rfl, trivial⟩ ?_
     refine WP_ret ?_
     refine retL Tryd.results31 (.cell rfl S26 b45 rfl (.tmp rfl .nil)) ?_
     obtain ⟨hc, hm, he⟩ := dyc_ok (l := l) (by omega) ⟨h1, h2, h3, h4, by simp_all⟩
     rw [hc, hm, he]
     exact ⟨_, rfl, e45, _, rfl, ((((((((((hq34.ext e35).chgBk b35 (by decide) q36).ext e37).ext e38).chgBk b38 (by decide) q39).ext e40).ext e41).chgBk b41 (by decide) q42).ext e43).chgBk ((((((((((hb2.ext e34).ext e35).chg q36 (by first | assumption | omega)).ext e37).ext e38).chg q39 (by first | assumption | omega)).ext e40).ext e41).chg q42 (by first | assumption | omega)).ext e43) (by decide) q45).mono (by omega)⟩

theorem dyfmt_c {w : World} {vx : Value} {x e : Int} {bx : Bool} (hbx : bx = decide (x < 0)) (hx : Nl w vx (dig x.natAbs)) (hlx : (dig x.natAbs).length ≤ 30000) (he1 : -9223372036854775808 ≤ e) (he2 : e ≤ 9223372036854775807) :
    Calls Tryd.prog 29 #[.agg #[.bool bx, vx, .int .i64 e]] w (Ret w fun r _ => r = .string (bs (dyfmt x e))) := by
 subst hbx
 have hfx := fint_dlen hlx (by decide)
 have hle := dig_i64 he1 he2
 have hfe := fint_dlen hle (by decide)
 refine enter (args := [_]) Tryd.func29 rfl Tryd.ntmps29 rfl ?_
 refine WP_seq ?_
 refine WP_region ?_
 refine O_box _ rfl rfl rfl rfl (fun g1 w1 b1 e1 gl1 gh1 => ?_)
 have z1 := e1.size
 refine O_assign rfl rfl rfl ?_
 refine WL_end [(1, _)] ⟨rfl, trivial⟩ ?_
 refine WP_seq ?_
 refine WP_sub [(1, _)] ⟨rfl, trivial⟩ ?_
 refine WP_anyR 8 [1] mixed rfl (by kernel_rfl) ?_
 apply AnyR_val [1] rfl (by kernel_rfl)
 · --
  intro y2 hy2
  have zy2 := hy2.size
  refine AllV_nil ?_
  refine O_field F26_0 rfl rfl rfl ?_
  exact WL_nil ⟨(Ext.refl _), rfl⟩
 apply AnyR_val [3] rfl (by kernel_rfl)
 · --
  intro y3 hy3
  have zy3 := hy3.size
  refine AllV_v ?_
  refine AllV_nil ?_
  refine O_loadA (vs := [_, _]) S24 rfl rfl rfl (b1.ext hy3) rfl rfl ?_
  exact WL_nil ⟨(Ext.refl _), rfl⟩
 apply AnyR_val [4] rfl (by kernel_rfl)
 · --
  intro y4 hy4
  have zy4 := hy4.size
  refine AllV_v ?_
  refine AllV_nil ?_
  refine O_call enters71 rfl rfl rfl (ifmt_c rfl (hx.ext (e1.trans hy4)) (by (try simp only [lens]); omega)) (fun v5 w5 e5 h5 => ?_)
  have z5 := e5.size
  obtain rfl := h5
  exact WL_nil ⟨e5, rfl⟩
 apply AnyR_val [5] rfl (by kernel_rfl)
 · --
  intro y6 hy6
  have zy6 := hy6.size
  refine AllV_v ?_
  refine AllV_nil ?_
  refine S_add rfl rfl rfl rfl (by (try simp only [List.length_append, List.length_cons, List.length_nil]); omega) ?_
  exact WL_nil ⟨(Ext.refl _), rfl⟩
 apply AnyR_val [1] rfl (by kernel_rfl)
 · --
  intro y7 hy7
  have zy7 := hy7.size
  refine AllV_nil ?_
  refine O_field F26_1 rfl rfl rfl ?_
  exact WL_nil ⟨(Ext.refl _), rfl⟩
 apply AnyR_val [7] rfl (by kernel_rfl)
 · --
  intro y8 hy8
  have zy8 := hy8.size
  refine AllV_v ?_
  refine AllV_nil ?_
  refine O_loadC Tryd.underlying3 rfl rfl rfl rfl (b1.ext hy8) rfl ?_
  exact WL_nil ⟨(Ext.refl _), rfl⟩
 apply AnyR_rel (RelP (pAgg [pEq _, pNo w1.heap.size 89 _])) [8] rfl (RelP.mono (pAgg_mono (PsM.cons pEq_mono (PsM.cons pNo_mono PsM.nil)))) (by kernel_rfl)
 · --
  intro y9 hy9
  have zy9 := hy9.size
  refine AllV_v ?_
  refine AllV_nil ?_
  refine O_call enters43 rfl rfl rfl (iof_c (by (try simp only [lens]); omega) (by (try simp only [lens]); omega)) (fun v10 w10 e10 h10 => ?_)
  have z10 := e10.size
  try simp only [val_dig] at h10
  obtain ⟨q10, rfl, hq10⟩ := h10
  exact WL_nil ⟨e10, _, rfl, ⟨_, rfl, (AllP.cons rfl (AllP.cons (hq10.mono (by omega)) AllP.nil))⟩⟩
 apply AnyR_val [9] rfl (by kernel_rfl)
 · --
  intro y11 hy11
  have zy11 := hy11.size
  refine AllV_r fun a12 b12 v12 la12 lb12 lc12 h12 ap12 => ?_
  clear ap12
  obtain ⟨_, rfl, v12_0, _, rfl, rfl, v12_1, _, rfl, h12_1, rfl⟩ := h12
  refine AllV_nil ?_
  refine O_call enters71 rfl rfl rfl (ifmt_c rfl h12_1.nl (by (try simp only [lens]); omega)) (fun v13 w13 e13 h13 => ?_)
  have z13 := e13.size
  obtain rfl := h13
  exact WL_nil ⟨e13, rfl⟩
 refine AnyR_nil fun y14 hy14 => ?_
 have zy14 := hy14.size
 refine AllV_v ?_
 refine AllV_v ?_
 refine AllV_v ?_
 refine AllV_v ?_
 refine AllV_v ?_
 refine AllV_v ?_
 refine AllV_r fun a15 b15 v15 la15 lb15 lc15 h15 ap15 => ?_
 clear ap15
 obtain ⟨_, rfl, v15_0, _, rfl, rfl, v15_1, _, rfl, h15_1, rfl⟩ := h15
 refine AllV_v ?_
 refine AllV_nil ?_
 refine S_add rfl rfl rfl rfl (by (try simp only [List.length_append, List.length_cons, List.length_nil]); omega) ?_
 refine O_assign rfl rfl rfl ?_
 refine WL_end [(2, _)] ⟨rfl, trivial⟩ ?_
 refine WP_ret ?_
 refine ret1 Tryd.results29 rfl ?_
 exact ⟨_, rfl, (e1.trans hy14), rfl⟩

theorem rdyfmt_c {w : World} {vx : Value} {x e : Int} {bx : Bool} (hbx : bx = decide (x < 0)) (hx : Nl w vx (dig x.natAbs)) (hlx : (dig x.natAbs).length ≤ 30000) (he1 : -9223372036854775808 ≤ e) (he2 : e ≤ 9223372036854775807) :
    Calls Tryd.prog 30 #[.agg #[.bool bx, vx, .int .i64 e]] w (Ret w fun r _ => r = .string (bs (dyfmt x e))) := by
 subst hbx
 have hfx := fint_dlen hlx (by decide)
 have hle := dig_i64 he1 he2
 have hfe := fint_dlen hle (by decide)
 refine enter (args := [_]) Tryd.func30 rfl Tryd.ntmps30 rfl ?_
 refine WP_seq ?_
 refine WP_region ?_
 refine O_box _ rfl rfl rfl rfl (fun g1 w1 b1 e1 gl1 gh1 => ?_)
 have z1 := e1.size
 refine O_assign rfl rfl rfl ?_
 refine WL_end [(1, _)] ⟨rfl, trivial⟩ ?_
 refine WP_seq ?_
 refine WP_sub [(1, _)] ⟨rfl, trivial⟩ ?_
 refine WP_anyR 8 [1] mixed rfl (by kernel_rfl) ?_
 apply AnyR_val [1] rfl (by kernel_rfl)
 · --
  intro y2 hy2
  have zy2 := hy2.size
  refine AllV_nil ?_
  refine O_field F26_0 rfl rfl rfl ?_
  exact WL_nil ⟨(Ext.refl _), rfl⟩
 apply AnyR_val [3] rfl (by kernel_rfl)
 · --
  intro y3 hy3
  have zy3 := hy3.size
  refine AllV_v ?_
  refine AllV_nil ?_
  refine O_loadA (vs := [_, _]) S24 rfl rfl rfl (b1.ext hy3) rfl rfl ?_
  exact WL_nil ⟨(Ext.refl _), rfl⟩
 apply AnyR_val [4] rfl (by kernel_rfl)
 · --
  intro y4 hy4
  have zy4 := hy4.size
  refine AllV_v ?_
  refine AllV_nil ?_
  refine O_call enters72 rfl rfl rfl (rifmt_c rfl (hx.ext (e1.trans hy4)) (by (try simp only [lens]); omega)) (fun v5 w5 e5 h5 => ?_)
  have z5 := e5.size
  obtain rfl := h5
  exact WL_nil ⟨e5, rfl⟩
 apply AnyR_val [5] rfl (by kernel_rfl)
 · --
  intro y6 hy6
  have zy6 := hy6.size
  refine AllV_v ?_
  refine AllV_nil ?_
  refine S_add rfl rfl rfl rfl (by (try simp only [List.length_append, List.length_cons, List.length_nil]); omega) ?_
  exact WL_nil ⟨(Ext.refl _), rfl⟩
 apply AnyR_val [1] rfl (by kernel_rfl)
 · --
  intro y7 hy7
  have zy7 := hy7.size
  refine AllV_nil ?_
  refine O_field F26_1 rfl rfl rfl ?_
  exact WL_nil ⟨(Ext.refl _), rfl⟩
 apply AnyR_val [7] rfl (by kernel_rfl)
 · --
  intro y8 hy8
  have zy8 := hy8.size
  refine AllV_v ?_
  refine AllV_nil ?_
  refine O_loadC Tryd.underlying3 rfl rfl rfl rfl (b1.ext hy8) rfl ?_
  exact WL_nil ⟨(Ext.refl _), rfl⟩
 apply AnyR_rel (RelP (pAgg [pEq _, pNo w1.heap.size 89 _])) [8] rfl (RelP.mono (pAgg_mono (PsM.cons pEq_mono (PsM.cons pNo_mono PsM.nil)))) (by kernel_rfl)
 · --
  intro y9 hy9
  have zy9 := hy9.size
  refine AllV_v ?_
  refine AllV_nil ?_
  refine O_call enters45 rfl rfl rfl (riof_c (by (try simp only [lens]); omega) (by (try simp only [lens]); omega)) (fun v10 w10 e10 h10 => ?_)
  have z10 := e10.size
  try simp only [val_dig] at h10
  obtain ⟨q10, rfl, hq10⟩ := h10
  exact WL_nil ⟨e10, _, rfl, ⟨_, rfl, (AllP.cons rfl (AllP.cons (hq10.mono (by omega)) AllP.nil))⟩⟩
 apply AnyR_val [9] rfl (by kernel_rfl)
 · --
  intro y11 hy11
  have zy11 := hy11.size
  refine AllV_r fun a12 b12 v12 la12 lb12 lc12 h12 ap12 => ?_
  clear ap12
  obtain ⟨_, rfl, v12_0, _, rfl, rfl, v12_1, _, rfl, h12_1, rfl⟩ := h12
  refine AllV_nil ?_
  refine O_call enters72 rfl rfl rfl (rifmt_c rfl h12_1.nl (by (try simp only [lens]); omega)) (fun v13 w13 e13 h13 => ?_)
  have z13 := e13.size
  obtain rfl := h13
  exact WL_nil ⟨e13, rfl⟩
 refine AnyR_nil fun y14 hy14 => ?_
 have zy14 := hy14.size
 refine AllV_v ?_
 refine AllV_v ?_
 refine AllV_v ?_
 refine AllV_v ?_
 refine AllV_v ?_
 refine AllV_v ?_
 refine AllV_r fun a15 b15 v15 la15 lb15 lc15 h15 ap15 => ?_
 clear ap15
 obtain ⟨_, rfl, v15_0, _, rfl, rfl, v15_1, _, rfl, h15_1, rfl⟩ := h15
 refine AllV_v ?_
 refine AllV_nil ?_
 refine S_add rfl rfl rfl rfl (by (try simp only [List.length_append, List.length_cons, List.length_nil]); omega) ?_
 refine O_assign rfl rfl rfl ?_
 refine WL_end [(2, _)] ⟨rfl, trivial⟩ ?_
 refine WP_ret ?_
 refine ret1 Tryd.results30 rfl ?_
 exact ⟨_, rfl, (e1.trans hy14), rfl⟩

end Go.Proofs.YtnfnadhbjdcbnaaDoor
