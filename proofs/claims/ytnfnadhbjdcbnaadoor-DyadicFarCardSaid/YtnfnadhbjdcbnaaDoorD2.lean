/-
  Walks.
-/
import Derived.Test.YtnfnadhbjdcbnaaDoorD1
set_option linter.unusedVariables false
set_option linter.unusedSimpArgs false
set_option maxRecDepth 100000
namespace Go.Proofs.YtnfnadhbjdcbnaaDoor
open Go Go.RowKit
/-- Where the division by a great power of ten stands, digit by digit. -/
theorem dig_step {N n q r i : Nat} {o : List UInt8} (hi : i < 9) (hn : n = q * 10 ^ (9 - i) + r) (hr : r < 10 ^ (9 - i)) (h0 : n ≠ 0) (h : rdg N = o ++ rdg n) :
    rdg N = (o ++ [UInt8.ofNat (48 + r % 10)]) ++ rdg (n / 10) ∧ n / 10 = q * 10 ^ (9 - (i + 1)) + r / 10 ∧ r / 10 < 10 ^ (9 - (i + 1)) := by
  obtain ⟨k, hk⟩ : ∃ k, 9 - i = k + 1 := ⟨8 - i, by omega⟩
  have hk2 : 9 - (i + 1) = k := by omega
  rw [hk, Nat.pow_succ] at hn hr
  rw [hk2]
  generalize hP : 10 ^ k = p at hn hr ⊢
  have e1 : q * (p * 10) = 10 * (q * p) := by rw [Nat.mul_left_comm q p 10, Nat.mul_comm p, ← Nat.mul_assoc, Nat.mul_comm q 10, Nat.mul_assoc]
  rw [e1] at hn
  have e2 : n % 10 = r % 10 := by omega
  refine ⟨?_, by omega, by omega⟩
  rw [h, rdg_pos h0, e2, List.append_assoc]
  rfl
theorem rdg_eq_nil {n : Nat} (h : rdg n = []) : n = 0 := by
  by_cases h0 : n = 0
  · exact h0
  · rw [rdg_pos h0] at h; cases h
theorem dstr_rev {N : Nat} {o : List UInt8} (h : rdg N = o) (hn : o ≠ []) : dstr N = o.reverse := by
  unfold dstr
  rw [if_neg (by rintro rfl; rw [rdg_zero] at h; exact hn h.symm), h]
theorem dlt {n : Nat} {k : Nat} (h : (dig n).length ≤ k) : n < 10 ^ (10 * k) := by
  have h1 := val_lt (D_dig n)
  rw [val_dig] at h1
  have h2 : (4294967296 : Nat) ^ (dig n).length ≤ 4294967296 ^ k := Nat.pow_le_pow_right (by decide) h
  have h3 : (4294967296 : Nat) ^ k ≤ (10 ^ 10) ^ k := Nat.pow_le_pow_left (by decide) k
  rw [← Nat.pow_mul] at h3
  omega
theorem rdg_dlen {n k : Nat} (h : (dig n).length ≤ k) : (rdg n).length ≤ 10 * k := rdg_len _ _ (dlt h)
theorem dstr_dlen {n k : Nat} (h : (dig n).length ≤ k) (hk : 1 ≤ k) : (dstr n).length ≤ 10 * k := by
  unfold dstr
  split
  · simp; omega
  · rw [List.length_reverse]; exact rdg_dlen h
theorem fB_ofNat (l : List UInt8) : bs l = ⟨((l.map fun b => (b.toNat : Int)).map fun n => UInt8.ofNat n.toNat).toArray⟩ := by
  unfold bs
  congr 2
  rw [List.map_map]
  conv => lhs; rw [← List.map_id l]
  apply List.map_congr_left
  intro b _
  simp

theorem dstr_zero {n : Nat} (h : n = 0) : dstr n = [48] := if_pos h
theorem u32_rem10 (r : Nat) : IntKind.u32.wrap (((r : Nat) : Int).tmod 10) = ((r % 10 : Nat) : Int) := by
  rw [Int.tmod_eq_emod_of_nonneg (by omega), wrap_u32]; omega
theorem u32_quo10 (r : Nat) (h : r < 4294967296) : IntKind.u32.wrap (((r : Nat) : Int).tdiv 10) = ((r / 10 : Nat) : Int) := by
  rw [Int.tdiv_eq_ediv_of_nonneg (by omega), wrap_u32]; omega
set_option maxHeartbeats 2000000 in
theorem digits_c {w : World} {va : Value} {a : Nat} (ha : Nl w va (dig a)) (hla : (dig a).length ≤ 100000) :
    Calls Tryd.prog 106 #[va] w (Ret w fun r _ => r = .string (bs (dstr a))) := by
 have hlr := rdg_dlen hla
 refine enter (args := [va]) Tryd.func106 rfl Tryd.ntmps106 rfl ?_
 refine WP_seq ?_
 refine WP_region ?_
 refine O_assign rfl rfl rfl ?_
 refine WL_end [(0, _)] ⟨rfl, trivial⟩ ?_
 refine WP_seq ?_
 refine WP_region ?_
 refine O_move rfl rfl rfl ?_
 refine O_call enters97 rfl rfl rfl (trim_c ha (by (try simp only [lens]); omega)) (fun v1 w1 e1 h1 => ?_)
 have z1 := e1.size
 try simp only [val_dig] at h1
 refine O_assign rfl rfl rfl ?_
 refine WL_end [(0, _)] ⟨rfl, trivial⟩ ?_
 refine WP_seq ?_
 refine WP_region ?_
 refine O_assign rfl rfl rfl ?_
 refine WL_end [(0, _), (3, _)] ⟨rfl, rfl, trivial⟩ ?_
 refine WP_seq ?_
 refine WP_block ?_
 refine WP_loop (S := Nat × List UInt8 × Value × Value) (fun (n, o, av, ov) => [(0, av), (3, ov)]) (fun (n, o, av, ov) w' => Ext w w' ∧ No 0 89 w' av (dig n) ∧ n ≤ a ∧ OwM fB w.heap.size 5 w' ov (o.map (fun b : UInt8 => ((b.toNat : Nat) : Int))) ∧ rdg a = o ++ rdg n) (fun (n, o, av, ov) => n) (a, [], v1, .slice none 0 0) ⟨rfl, rfl, trivial⟩ ⟨e1, (h1).mono (Nat.zero_le _), Nat.le_refl _, OwM.nil _ _ _, rfl⟩ ?_
 rintro ⟨n, o, av, ov⟩ w9 ⟨hE, hav, hna, hov, hro⟩
 show WP _ _ _ _ _ [(0, av), (3, ov)] _
 have zE := hE.size
 have hln : (dig n).length ≤ 100000 := Nat.le_trans (dig_len_mono hna) hla
 have hol : o.length ≤ 1000000 := by have h := congrArg List.length hro; rw [List.length_append] at h; omega
 refine WP_seq ?_
 refine WP_seq ?_
 refine WP_region ?_
 refine O_move rfl rfl rfl ?_
 refine N_len T22 rfl rfl rfl hav.nl ?_
 refine O_gtr rfl rfl rfl rfl rfl ?_
 refine WL_end [(0, _), (3, _), (12, _)] ⟨rfl, rfl, rfl, trivial⟩ ?_
 refine WP_condD rfl (fun c12 => ?_) (fun c12 => ?_)
 · --
  refine WP_skip ?_
  refine WP_block ?_
  refine WP_seq ?_
  have hn9 : n ≠ 0 := by rintro rfl; rw [dig_zero] at c12; exact absurd c12 (by decide)
  · --
   skip
   refine WP_region ?_
   refine O_move rfl rfl rfl ?_
   refine O_call enters117 rfl rfl rfl (qsmall_c hav.nl (by (try simp only [lens]); omega) (by (try simp only [lens]); omega) (by (try simp only [lens]); omega)) (fun v2 w2 e2 h2 => ?_)
   have z2 := e2.size
   try simp only [val_dig] at h2
   obtain ⟨q2, rfl, hq2⟩ := h2
   refine O_move rfl rfl rfl ?_
   refine O_extract rfl rfl rfl rfl ?_
   refine O_extract rfl rfl rfl rfl ?_
   refine O_extract rfl rfl rfl rfl ?_
   refine O_assign rfl rfl rfl ?_
   refine O_assign rfl rfl rfl ?_
   refine O_assign rfl rfl rfl ?_
   refine WL_end [(3, _), (4, _), (5, _)] ⟨rfl, rfl, rfl, trivial⟩ ?_
   refine WP_seq ?_
   refine WP_seq ?_
   refine WP_region ?_
   refine O_assign rfl rfl rfl ?_
   refine WL_end [(3, _), (4, _), (5, _), (7, _)] ⟨rfl, rfl, rfl, rfl, trivial⟩ ?_
   refine WP_block ?_
   refine WP_loop (S := Nat × List UInt8 × Value × Nat × Nat) (fun (i, o2, ov2, r, n2) => [(3, ov2), (4, q2), (5, .int .u32 (r : Nat)), (7, .int .i64 (i : Nat))]) (fun (i, o2, ov2, r, n2) w' => Ext w w' ∧ No 0 89 w' q2 (dig (n / 1000000000)) ∧ i ≤ 9 ∧ OwM fB w.heap.size 5 w' ov2 (o2.map (fun b : UInt8 => ((b.toNat : Nat) : Int))) ∧ rdg a = o2 ++ rdg n2 ∧ n2 = n / 1000000000 * 10 ^ (9 - i) + r ∧ r < 10 ^ (9 - i)) (fun (i, o2, ov2, r, n2) => 9 - i) (0, o, ov, n % 1000000000, n) ⟨rfl, rfl, rfl, rfl, trivial⟩ ⟨(hE.trans e2), (hq2).mono (Nat.zero_le _), Nat.zero_le _, (hov.ext e2), hro, by show n = n / 1000000000 * 1000000000 + n % 1000000000; omega, Nat.mod_lt _ (by decide)⟩ ?_
   rintro ⟨i, o2, ov2, r, n2⟩ w8 ⟨hE8, hqv8, hi, hov2, hro2, hn2, hr⟩
   show WP _ _ _ _ _ [(3, ov2), (4, q2), (5, .int .u32 (r : Nat)), (7, .int .i64 (i : Nat))] _
   have zE8 := hE8.size
   have hlq : (dig (n / 1000000000)).length ≤ 100000 := Nat.le_trans (dig_len_mono (Nat.div_le_self _ _)) hln
   have hp9 : (10 : Nat) ^ (9 - i) ≤ 10 ^ 9 := Nat.pow_le_pow_right (by decide) (by omega)
   have hol2 : o2.length ≤ 1000000 := by have h := congrArg List.length hro2; rw [List.length_append] at h; omega
   refine WP_seq ?_
   refine WP_seq ?_
   by_cases h9 : i < 9
   by_cases hq0 : 0 < (dig (n / 1000000000)).length
   rotate_left
   by_cases hr0 : 0 < r
   · --
    have hqz : n / 1000000000 = 0 := dig_len_zero.1 (by omega)
    have hn0 : n2 ≠ 0 := by rw [hqz, Nat.zero_mul] at hn2; omega
    obtain ⟨hs1, hs2, hs3⟩ := dig_step h9 hn2 hr hn0 hro2
    refine WP_region ?_
    refine O_move rfl rfl rfl ?_
    refine O_lss (t := true) rfl rfl rfl rfl (decide_eq_true (by omega)) ?_
    refine O_move rfl rfl rfl ?_
    refine O_move rfl rfl rfl ?_
    refine N_len T22 rfl rfl rfl hqv8.nl ?_
    refine O_gtr (t := false) rfl rfl rfl rfl (decide_eq_false (by omega)) ?_
    refine O_move rfl rfl rfl ?_
    refine O_move rfl rfl rfl ?_
    refine O_gtr (t := true) rfl rfl rfl rfl (decide_eq_true (by omega)) ?_
    refine O_pickF rfl rfl rfl rfl ?_
    refine O_pickT rfl rfl rfl rfl ?_
    refine WL_end [(3, _), (4, _), (5, _), (7, _), (29, _)] ⟨rfl, rfl, rfl, rfl, rfl, trivial⟩ ?_
    refine WP_condT rfl ?_
    refine WP_skip ?_
    refine WP_seq ?_
    refine WP_block ?_
    refine WP_seq ?_
    refine WP_region ?_
    refine O_move rfl rfl rfl ?_
    refine O_move rfl rfl rfl ?_
    refine O_rem (r := ((r % 10 : Nat) : Int)) rfl rfl rfl rfl (by decide) (by rw [Int.tmod_eq_emod_of_nonneg (by omega)]; omega) ?_
    refine O_conv Tryd.underlying89 Tryd.underlying5 (r := ((r % 10 : Nat) : Int)) rfl rfl rfl (by rw [wrap_u8]; omega) ?_
    refine O_add (r := (((UInt8.ofNat (48 + r % 10)).toNat : Nat) : Int)) rfl rfl rfl rfl (by rw [ofNat_dig (Nat.mod_lt _ (by decide)), wrap_u8]; omega) ?_
    refine M_lit M111 rfl rfl fB [_] (by intro a _; rfl) rfl rfl rfl rfl rfl (fun v3 w3 o3 e3 => ?_)
    have z3 := e3.size
    refine M_append M111 rfl rfl rfl rfl rfl (hov2.ext e3) o3.sl (by simp) (by simp [Value.oneCell']) (by simp only [List.length_map, List.length_singleton]; omega) rfl (by omega) (fun v4 w4 o4 r4 q4 => ?_)
    have e4 : Ext w w4 := (hov2.ext e3).ext_grown r4 (hE8.trans e3) (by omega)
    have z4 := r4.size
    have x4 := OwM.grownT (hov2.ext e3) r4
    refine O_assign rfl rfl rfl ?_
    refine WL_end [(3, _), (4, _), (5, _), (7, _)] ⟨rfl, rfl, rfl, rfl, trivial⟩ ?_
    refine WP_region ?_
    refine O_move rfl rfl rfl ?_
    refine O_quo (r := ((r / 10 : Nat) : Int)) rfl rfl rfl rfl (by decide) (u32_quo10 r (by omega)) ?_
    refine O_assign rfl rfl rfl ?_
    refine WL_end [(3, _), (4, _), (5, _), (7, _)] ⟨rfl, rfl, rfl, rfl, trivial⟩ ?_
    refine WP_region ?_
    refine O_move rfl rfl rfl ?_
    refine O_add rfl rfl rfl rfl (wrap_i64_id (by omega) (by omega)) ?_
    refine O_assign rfl rfl rfl ?_
    refine WL_end [(3, _), (4, _), (5, _), (7, _)] ⟨rfl, rfl, rfl, rfl, trivial⟩ ?_
    exact ⟨(i + 1, _, _, r / 10, n2 / 10), ⟨rfl, rfl, rfl, rfl, trivial⟩, ⟨e4, ((hqv8.ext e3).extT x4 (by decide)), by omega, (by rw [List.map_append]; exact o4), hs1, hs2, hs3⟩, by dsimp only; omega⟩
   · --
    have hqz : n / 1000000000 = 0 := dig_len_zero.1 (by omega)
    have hnz : n2 = 0 := by rw [hqz, Nat.zero_mul] at hn2; omega
    have hfin : rdg a = o2 ++ rdg (n / 1000000000) := by rw [hqz, ← hnz]; exact hro2
    refine WP_region ?_
    refine O_move rfl rfl rfl ?_
    refine O_lss (t := true) rfl rfl rfl rfl (decide_eq_true (by omega)) ?_
    refine O_move rfl rfl rfl ?_
    refine O_move rfl rfl rfl ?_
    refine N_len T22 rfl rfl rfl hqv8.nl ?_
    refine O_gtr (t := false) rfl rfl rfl rfl (decide_eq_false (by omega)) ?_
    refine O_move rfl rfl rfl ?_
    refine O_move rfl rfl rfl ?_
    refine O_gtr (t := false) rfl rfl rfl rfl (decide_eq_false (by omega)) ?_
    refine O_pickF rfl rfl rfl rfl ?_
    refine O_pickT rfl rfl rfl rfl ?_
    refine WL_end [(3, _), (4, _), (5, _), (7, _), (29, _)] ⟨rfl, rfl, rfl, rfl, rfl, trivial⟩ ?_
    refine WP_condF rfl ?_
    refine WP_exit ?_
    refine inBlk_hit ?_
    refine WP_region ?_
    refine O_move rfl rfl rfl ?_
    refine O_assign rfl rfl rfl ?_
    refine WL_end [(0, _), (3, _)] ⟨rfl, rfl, trivial⟩ ?_
    exact ⟨(n / 1000000000, _, _, _), ⟨rfl, rfl, trivial⟩, ⟨hE8, hqv8, by omega, hov2, hfin⟩, by dsimp only; omega⟩
   · --
    have h99 : i = 9 := by omega
    subst h99
    have hfin : rdg a = o2 ++ rdg (n / 1000000000) := by rw [show n / 1000000000 = n2 from by simp at hn2 hr; omega]; exact hro2
    refine WP_region ?_
    refine O_move rfl rfl rfl ?_
    refine O_lss (t := false) rfl rfl rfl rfl (decide_eq_false (by omega)) ?_
    refine O_move rfl rfl rfl ?_
    refine O_skip rfl rfl ?_
    refine O_skip rfl rfl ?_
    refine O_skip rfl rfl ?_
    refine O_skip rfl rfl ?_
    refine O_skipU rfl rfl rfl ?_
    refine O_skipU rfl rfl rfl ?_
    refine O_skip rfl rfl ?_
    refine O_pickF rfl rfl rfl rfl ?_
    refine WL_end [(3, _), (4, _), (5, _), (7, _), (29, _)] ⟨rfl, rfl, rfl, rfl, rfl, trivial⟩ ?_
    refine WP_condF rfl ?_
    refine WP_exit ?_
    refine inBlk_hit ?_
    refine WP_region ?_
    refine O_move rfl rfl rfl ?_
    refine O_assign rfl rfl rfl ?_
    refine WL_end [(0, _), (3, _)] ⟨rfl, rfl, trivial⟩ ?_
    exact ⟨(n / 1000000000, _, _, _), ⟨rfl, rfl, trivial⟩, ⟨hE8, hqv8, by omega, hov2, hfin⟩, by dsimp only; omega⟩
   · --
    have hqz : n / 1000000000 ≠ 0 := fun h => by rw [h, dig_zero] at hq0; cases hq0
    have hpp : 0 < (10 : Nat) ^ (9 - i) := Nat.pow_pos (by decide)
    have hn0 : n2 ≠ 0 := by have := Nat.mul_pos (Nat.pos_of_ne_zero hqz) hpp; omega
    obtain ⟨hs1, hs2, hs3⟩ := dig_step h9 hn2 hr hn0 hro2
    refine WP_region ?_
    refine O_move rfl rfl rfl ?_
    refine O_lss (t := true) rfl rfl rfl rfl (decide_eq_true (by omega)) ?_
    refine O_move rfl rfl rfl ?_
    refine O_move rfl rfl rfl ?_
    refine N_len T22 rfl rfl rfl hqv8.nl ?_
    refine O_gtr (t := true) rfl rfl rfl rfl (decide_eq_true (by omega)) ?_
    refine O_move rfl rfl rfl ?_
    refine O_skip rfl rfl ?_
    refine O_skip rfl rfl ?_
    refine O_pickT rfl rfl rfl rfl ?_
    refine O_pickT rfl rfl rfl rfl ?_
    refine WL_end [(3, _), (4, _), (5, _), (7, _), (29, _)] ⟨rfl, rfl, rfl, rfl, rfl, trivial⟩ ?_
    refine WP_condT rfl ?_
    refine WP_skip ?_
    refine WP_seq ?_
    refine WP_block ?_
    refine WP_seq ?_
    refine WP_region ?_
    refine O_move rfl rfl rfl ?_
    refine O_move rfl rfl rfl ?_
    refine O_rem (r := ((r % 10 : Nat) : Int)) rfl rfl rfl rfl (by decide) (by rw [Int.tmod_eq_emod_of_nonneg (by omega)]; omega) ?_
    refine O_conv Tryd.underlying89 Tryd.underlying5 (r := ((r % 10 : Nat) : Int)) rfl rfl rfl (by rw [wrap_u8]; omega) ?_
    refine O_add (r := (((UInt8.ofNat (48 + r % 10)).toNat : Nat) : Int)) rfl rfl rfl rfl (by rw [ofNat_dig (Nat.mod_lt _ (by decide)), wrap_u8]; omega) ?_
    refine M_lit M111 rfl rfl fB [_] (by intro a _; rfl) rfl rfl rfl rfl rfl (fun v5 w5 o5 e5 => ?_)
    have z5 := e5.size
    refine M_append M111 rfl rfl rfl rfl rfl (hov2.ext e5) o5.sl (by simp) (by simp [Value.oneCell']) (by simp only [List.length_map, List.length_singleton]; omega) rfl (by omega) (fun v6 w6 o6 r6 q6 => ?_)
    have e6 : Ext w w6 := (hov2.ext e5).ext_grown r6 (hE8.trans e5) (by omega)
    have z6 := r6.size
    have x6 := OwM.grownT (hov2.ext e5) r6
    refine O_assign rfl rfl rfl ?_
    refine WL_end [(3, _), (4, _), (5, _), (7, _)] ⟨rfl, rfl, rfl, rfl, trivial⟩ ?_
    refine WP_region ?_
    refine O_move rfl rfl rfl ?_
    refine O_quo (r := ((r / 10 : Nat) : Int)) rfl rfl rfl rfl (by decide) (u32_quo10 r (by omega)) ?_
    refine O_assign rfl rfl rfl ?_
    refine WL_end [(3, _), (4, _), (5, _), (7, _)] ⟨rfl, rfl, rfl, rfl, trivial⟩ ?_
    refine WP_region ?_
    refine O_move rfl rfl rfl ?_
    refine O_add rfl rfl rfl rfl (wrap_i64_id (by omega) (by omega)) ?_
    refine O_assign rfl rfl rfl ?_
    refine WL_end [(3, _), (4, _), (5, _), (7, _)] ⟨rfl, rfl, rfl, rfl, trivial⟩ ?_
    exact ⟨(i + 1, _, _, r / 10, n2 / 10), ⟨rfl, rfl, rfl, rfl, trivial⟩, ⟨e6, ((hqv8.ext e5).extT x6 (by decide)), by omega, (by rw [List.map_append]; exact o6), hs1, hs2, hs3⟩, by dsimp only; omega⟩
 · --
  refine WP_exit ?_
  refine inBlk_hit ?_
  refine WP_seq ?_
  refine WP_seq ?_
  have hn0 : n = 0 := dig_len_zero.1 (by omega)
  rw [hn0, rdg_zero, List.append_nil] at hro
  by_cases ho0 : o = []
  · --
   have hz : a = 0 := rdg_eq_nil (hro.trans ho0)
   refine WP_region ?_
   refine O_move rfl rfl rfl ?_
   refine M_len M111 rfl rfl rfl hov.sl ?_
   refine O_eql (t := true) rfl rfl rfl rfl (decide_eq_true (by rw [ho0]; rfl)) ?_
   refine WL_end [(3, _), (44, _)] ⟨rfl, rfl, trivial⟩ ?_
   refine WP_condT rfl ?_
   refine WP_seq ?_
   refine WP_region ?_
   refine O_assign rfl rfl rfl ?_
   refine WL_end [(2, _)] ⟨rfl, trivial⟩ ?_
   refine WP_ret ?_
   refine ret1 Tryd.results106 rfl ?_
   exact ⟨_, rfl, hE, by rw [dstr_zero hz]; rfl⟩
  · --
   have hol3 : 0 < o.length := List.length_pos_iff.2 ho0
   refine WP_region ?_
   refine O_move rfl rfl rfl ?_
   refine M_len M111 rfl rfl rfl hov.sl ?_
   refine O_eql (t := false) rfl rfl rfl rfl (decide_eq_false (by rw [List.length_map]; omega)) ?_
   refine WL_end [(3, _), (44, _)] ⟨rfl, rfl, trivial⟩ ?_
   refine WP_condF rfl ?_
   refine WP_skip ?_
   refine WP_seq ?_
   refine WP_region ?_
   refine O_move rfl rfl rfl ?_
   refine O_callR enters118 rfl rfl rfl (rev_c hE (Nat.le_refl _) hov (by rw [List.length_map]; omega)) (fun e7 w7 hR7 => ?_)
   obtain ⟨he7, hE7, hT7, ho7⟩ := hR7
   subst he7
   refine ⟨_, rfl, ?_⟩
   refine WL_end [(3, _)] ⟨rfl, trivial⟩ ?_
   refine WP_seq ?_
   refine WP_region ?_
   refine O_move rfl rfl rfl ?_
   refine M_toStr Tryd.underlying111 Tryd.underlying5 Tryd.underlying9 rfl rfl rfl ho7.sl ?_
   refine O_assign rfl rfl rfl ?_
   refine WL_end [(2, _)] ⟨rfl, trivial⟩ ?_
   refine WP_ret ?_
   refine ret1 Tryd.results106 rfl ?_
   exact ⟨_, rfl, hE7, by rw [dstr_rev hro ho0, fB_ofNat, ← List.map_reverse]⟩

end Go.Proofs.YtnfnadhbjdcbnaaDoor
