/-
  Walks.
-/
import Derived.Test.YthbbcnlpfjbleaaL3
import Derived.Test.YthbbcnlpfjbleaaS5
import Derived.Test.YthbbcnlpfjbleaaDops
set_option linter.unusedVariables false
set_option linter.unusedSimpArgs false
set_option maxRecDepth 100000
namespace Go.Proofs.Ythbbcnlpfjbleaa
open Go Go.RowKit
theorem two_pos (k : Nat) : (0 : Int) < 1 * 2 ^ k := by rw [Int.one_mul]; exact Int.pow_pos (by decide)
theorem idq_two (x : Int) (k : Nat) : idq x (1 * 2 ^ k) = x / 2 ^ k := by
  have hp := two_pos k
  have h0 : (1 * 2 ^ k : Int) ≠ 0 := by omega
  have h1 := idq_add (x := x) h0
  have h2 := idr_lt (x := x) h0
  have h3 := idr_sign (x := x) h0
  have h4 : 0 ≤ idr x (1 * 2 ^ k) := by
    by_cases e : idr x (1 * 2 ^ k) = 0
    · omega
    · have := h3 e
      rw [decide_eq_false (show ¬ (1 * 2 ^ k : Int) < 0 by omega)] at this
      have := of_decide_eq_false this
      omega
  rw [Int.one_mul] at *
  generalize (2 : Int) ^ k = P at *
  symm
  rw [Int.ediv_eq_iff_of_pos hp]
  generalize idq x P * P = m at *
  constructor <;> omega
theorem shl_len {x : Int} {a k : Nat} (hx : (dig x.natAbs).length ≤ a) (hk : k ≤ 2000) : (dig (x * 2 ^ k).natAbs).length ≤ a + 64 := by
  have h1 := dig_len_mul x.natAbs (2 ^ k)
  have h2 := dig_len_two k
  have h3 : (x * 2 ^ k).natAbs = x.natAbs * 2 ^ k := by rw [Int.natAbs_mul, Int.natAbs_pow]; rfl
  rw [h3]
  generalize (dig (x.natAbs * 2 ^ k)).length = p at *
  generalize (dig (2 ^ k)).length = q at *
  omega
theorem shl_shr (x : Int) (k : Nat) : x * 2 ^ k / 2 ^ k = x := by
  have hp := two_pos k
  rw [Int.one_mul] at hp
  exact Int.mul_ediv_cancel _ (by omega)

set_option maxHeartbeats 4000000 in
theorem law_IntegerShifts_T {w : World} {vx : Value} {lx : List Nat} {bx : Bool} {n : Int} (hx : Nl w vx lx) (hl : lx.length ≤ 40) :
    Calls Try.prog 3 #[.agg #[.bool bx, vx], .int .i64 n] w (Ret w fun r _ => r = .bool true) := by
  refine enter (args := [_, _]) Try.func3 rfl Try.ntmps3 rfl ?_
  refine WP_seq ?_
  refine WP_region ?_
  refine O_box _ rfl rfl rfl rfl (fun g1 w1 b1 e1 gl1 gh1 => ?_)
  have z1 := e1.size
  refine O_assign rfl rfl rfl ?_
  refine WL_end [(1, _), (2, _)] ⟨rfl, rfl, trivial⟩ ?_
  refine WP_seq ?_
  refine WP_seq ?_
  refine WP_region ?_
  refine O_call enters9 rfl rfl rfl (awake5_c) (fun v2 w2 e2 h2 => ?_)
  have z2 := e2.size
  obtain rfl := h2
  refine O_not rfl rfl rfl rfl ?_
  refine WL_end [(1, _), (2, _), (15, _)] ⟨rfl, rfl, rfl, trivial⟩ ?_
  refine WP_condF rfl ?_
  refine WP_skip ?_
  refine WP_seq ?_
  refine WP_region ?_
  refine O_loadA (vs := [_, _]) S24 rfl rfl rfl (b1.ext e2) rfl rfl ?_
  refine O_call enters10 rfl rfl rfl (mint_T (hx.ext (e1.trans e2)) (by (try simp only [val_dig, List.length_take, List.length_nil, List.length_cons, List.length_append, List.length_replicate, List.length_set, List.length_map, List.length_drop]); omega) (by (try simp only [val_dig, List.length_take, List.length_nil, List.length_cons, List.length_append, List.length_replicate, List.length_set, List.length_map, List.length_drop]); omega)) (fun v3 w3 e3 h3 => ?_)
  have z3 := e3.size
  try simp only [val_dig] at h3
  obtain ⟨q3, rfl, hq3⟩ := h3
  have hlX := mk_len (a := 40) bx hx (by omega)
  generalize mk bx (val lx) = X at hq3 hlX ⊢
  refine O_move rfl rfl rfl ?_
  refine O_extract rfl rfl rfl rfl ?_
  refine O_extract rfl rfl rfl rfl ?_
  refine O_alloc S24 rfl rfl (fun g4 w4 b4 e4 gl4 gh4 => ?_)
  have z4 := e4.size
  refine O_storeA (cs' := [_, _]) S24 rfl rfl rfl b4 rfl rfl (one_cons rfl (one_cons ((hq3.ext e4).nl).one one_nil)) rfl (fun w5 b5 q5 => ?_)
  have z5 := Nat.le_of_eq q5.size.symm
  have e5 : Ext w w5 := q5.ext (((e1.trans e2).trans e3).trans e4) (by omega)
  refine O_assign rfl rfl rfl ?_
  refine WL_end [(1, _), (5, _), (6, _)] ⟨rfl, rfl, rfl, trivial⟩ ?_
  refine WP_seq ?_
  refine WP_seq ?_
  refine WP_region ?_
  refine O_move rfl rfl rfl ?_
  refine O_not rfl rfl rfl rfl ?_
  refine WL_end [(1, _), (5, _), (22, _)] ⟨rfl, rfl, rfl, trivial⟩ ?_
  refine WP_condF rfl ?_
  refine WP_skip ?_
  refine WP_seq ?_
  refine WP_seq ?_
  refine WP_region ?_
  refine O_move rfl rfl rfl ?_
  refine O_call enters11 rfl rfl rfl (mod_c (by (try simp only [val_dig, List.length_take, List.length_nil, List.length_cons, List.length_append, List.length_replicate, List.length_set, List.length_map, List.length_drop]); omega) (by (try simp only [val_dig, List.length_take, List.length_nil, List.length_cons, List.length_append, List.length_replicate, List.length_set, List.length_map, List.length_drop]); omega)) (fun v6 w6 e6 h6 => ?_)
  have z6 := e6.size
  obtain rfl := h6
  refine O_move rfl rfl rfl ?_
  refine O_call enters11 rfl rfl rfl (mod_c (by (try simp only [val_dig, List.length_take, List.length_nil, List.length_cons, List.length_append, List.length_replicate, List.length_set, List.length_map, List.length_drop]); omega) (by (try simp only [val_dig, List.length_take, List.length_nil, List.length_cons, List.length_append, List.length_replicate, List.length_set, List.length_map, List.length_drop]); omega)) (fun v7 w7 e7 h7 => ?_)
  have z7 := e7.size
  obtain rfl := h7
  refine V_lit TDint rfl rfl [Value.int .i64 (n % 2000), Value.int .i64 (n % 40)] (by intro u hu; simp only [List.mem_cons, List.mem_nil_iff, or_false] at hu; rcases hu with rfl | rfl <;> rfl) rfl (by decide) (by decide) rfl rfl (fun vt wt ot et => ?_)
  have zt := et.size
  refine V_len TDint rfl rfl rfl ot.sl ?_
  refine O_move rfl rfl rfl ?_
  refine WL_end [(5, _), (27, _), (28, _), (29, _)] ⟨rfl, rfl, rfl, rfl, trivial⟩ ?_
  refine WP_block ?_
  have hX := (((((hq3.ext e4).chgBk b4 (by decide) q5).ext e6).ext e7).ext et)
  have hG := (((b5.ext e6).ext e7).ext et)
  have hall : ∀ (k : Nat) (u : Value), [Value.int .i64 (n % 2000), Value.int .i64 (n % 40)][k]? = some u → ∃ z : Nat, u = .int .i64 (z : Nat) ∧ z ≤ 2000 := by
    intro k u hu
    match k with
    | 0 => simp at hu; subst hu; exact ⟨(n % 2000).toNat, by congr 1; omega, by omega⟩
    | 1 => simp at hu; subst hu; exact ⟨(n % 40).toNat, by congr 1; omega, by omega⟩
    | k + 2 => simp at hu
  refine WP_loop (S := Nat) (fun j => [(5, .pointer (some ⟨g4, 0, none⟩)), (27, vt), (28, .int .i64 (2 : Nat)), (29, .int .i64 (j : Nat))]) (fun j w' => Ext wt w' ∧ j ≤ 2) (fun j => 2 - j) 0 ⟨rfl, rfl, rfl, rfl, trivial⟩ ⟨Ext.refl _, by omega⟩ ?_
  rintro j w9 ⟨hE, hj⟩
  have zE := hE.size
  refine WP_seq ?_
  refine WP_region ?_
  refine O_lss rfl rfl rfl rfl rfl ?_
  refine WL_end [(5, _), (27, _), (28, _), (29, _), (30, _)] ⟨rfl, rfl, rfl, rfl, rfl, trivial⟩ ?_
  refine WP_seq ?_
  refine WP_condD rfl (fun c30 => ?_) (fun c30 => ?_)
  · --
    refine WP_skip ?_
    refine WP_seq ?_
    refine WP_block ?_
    refine WP_seq ?_
    refine WP_region ?_
    refine V_index TDint rfl rfl rfl rfl (ot.sl.ext hE) _ rfl (by simp only [List.length_cons, List.length_nil]; omega) ?_
    obtain ⟨u, hu⟩ : ∃ u, [Value.int .i64 (n % 2000), Value.int .i64 (n % 40)][j]? = some u := ⟨_, List.getElem?_eq_getElem (by simp only [List.length_cons, List.length_nil]; omega)⟩
    obtain ⟨k, rfl, hk⟩ := hall j u hu
    refine O_load Try.underlying3 rfl rfl rfl rfl ((ot.sl.ext hE).cell hu) ?_
    have hkk : k ≤ 1048576 := by omega
    have l1 := shl_len hlX hk
    have l2 : (dig (1 : Int).natAbs).length ≤ 1 := dig_len_of_lt (by decide)
    have l3 := shl_len l2 hk
    have l4 := idq_len (y := 1 * 2 ^ k) hlX (by decide)
    have hI := idq_two X k
    rw [hI] at l4
    have hn0 : (1 * 2 ^ k : Int) ≠ 0 := by have := two_pos k; omega
    have hb2 := shl_shr X k
    replace hlX := ml hlX (by decide)
    replace l1 := ml l1 (by decide)
    replace l2 := ml l2 (by decide)
    replace l3 := ml l3 (by decide)
    replace l4 := ml l4 (by decide)
    refine O_assign rfl rfl rfl ?_
    refine WL_end [(5, _), (8, _), (27, _), (28, _), (29, _)] ⟨rfl, rfl, rfl, rfl, rfl, trivial⟩ ?_
    refine WP_seq ?_
    refine WP_sub [(5, _), (8, _), (27, _), (28, _), (29, _)] ⟨rfl, rfl, rfl, rfl, rfl, trivial⟩ ?_
    refine WP_anyR 8 [5, 8, 27, 28, 29] mixed rfl (by kernel_rfl) ?_
    apply AnyR_val [5] rfl (by kernel_rfl)
    · --
      intro y8 hy8
      have zy8 := hy8.size
      refine AllV_nil ?_
      refine O_loadA (vs := [_, _]) S24 rfl rfl rfl (hG.ext (hE.trans hy8)) rfl rfl ?_
      exact WL_nil ⟨(Ext.refl _), rfl⟩
    apply AnyR_val [8] rfl (by kernel_rfl)
    · --
      intro y9 hy9
      have zy9 := hy9.size
      refine AllV_nil ?_
      refine O_move rfl rfl rfl ?_
      exact WL_nil ⟨(Ext.refl _), rfl⟩
    apply AnyR_rel (RelP (pAgg [pEq _, pNo w9.heap.size 41 _])) [33, 34] rfl (RelP.mono (pAgg_mono (PsM.cons pEq_mono (PsM.cons pNo_mono PsM.nil)))) (by kernel_rfl)
    · --
      intro y10 hy10
      have zy10 := hy10.size
      refine AllV_v ?_
      refine AllV_v ?_
      refine AllV_nil ?_
      refine O_call enters12 rfl rfl rfl (ishl_c rfl (hX.ext (hE.trans hy10)).nl (by first | with_reducible assumption | omega) (by first | with_reducible assumption | omega)) (fun v11 w11 e11 h11 => ?_)
      have z11 := e11.size
      try simp only [val_dig] at h11
      obtain ⟨q11, rfl, hq11⟩ := h11
      exact WL_nil ⟨e11, _, rfl, ⟨_, rfl, (AllP.cons rfl (AllP.cons (hq11.mono (by omega)) AllP.nil))⟩⟩
    apply AnyR_val [5] rfl (by kernel_rfl)
    · --
      intro y12 hy12
      have zy12 := hy12.size
      refine AllV_nil ?_
      refine O_loadA (vs := [_, _]) S24 rfl rfl rfl (hG.ext (hE.trans hy12)) rfl rfl ?_
      exact WL_nil ⟨(Ext.refl _), rfl⟩
    apply AnyR_val [8] rfl (by kernel_rfl)
    · --
      intro y13 hy13
      have zy13 := hy13.size
      refine AllV_nil ?_
      refine O_move rfl rfl rfl ?_
      exact WL_nil ⟨(Ext.refl _), rfl⟩
    apply AnyR_rel (RelP (pAgg [pEq _, pNo w9.heap.size 41 _])) [36, 37] rfl (RelP.mono (pAgg_mono (PsM.cons pEq_mono (PsM.cons pNo_mono PsM.nil)))) (by kernel_rfl)
    · --
      intro y14 hy14
      have zy14 := hy14.size
      refine AllV_v ?_
      refine AllV_v ?_
      refine AllV_nil ?_
      refine O_call enters13 rfl rfl rfl (ishr_c rfl (hX.ext (hE.trans hy14)).nl (by first | with_reducible assumption | omega) (by first | with_reducible assumption | omega)) (fun v15 w15 e15 h15 => ?_)
      have z15 := e15.size
      try simp only [val_dig] at h15
      obtain ⟨q15, rfl, hq15⟩ := h15
      exact WL_nil ⟨e15, _, rfl, ⟨_, rfl, (AllP.cons rfl (AllP.cons (hq15.mono (by omega)) AllP.nil))⟩⟩
    apply AnyR_rel (BkR _ _) [] rfl BkR.mono (by kernel_rfl)
    · --
      intro y16 hy16
      have zy16 := hy16.size
      refine AllV_nil ?_
      refine O_alloc S24 rfl rfl (fun g17 w17 b17 e17 gl17 gh17 => ?_)
      have z17 := e17.size
      exact WL_nil ⟨e17, _, rfl, _, rfl, gl17, gh17, b17⟩
    apply AnyR_rel (BkR _ _) [] rfl BkR.mono (by kernel_rfl)
    · --
      intro y18 hy18
      have zy18 := hy18.size
      refine AllV_nil ?_
      refine O_alloc S24 rfl rfl (fun g19 w19 b19 e19 gl19 gh19 => ?_)
      have z19 := e19.size
      exact WL_nil ⟨e19, _, rfl, _, rfl, gl19, gh19, b19⟩
    refine AnyR_nil fun y20 hy20 => ?_
    have zy20 := hy20.size
    refine AllV_v ?_
    refine AllV_v ?_
    refine AllV_r fun a21 b21 v21 la21 lb21 lc21 h21 ap21 => ?_
    clear ap21
    obtain ⟨_, rfl, v21_0, _, rfl, rfl, v21_1, _, rfl, h21_1, rfl⟩ := h21
    refine AllV_v ?_
    refine AllV_v ?_
    refine AllV_r fun a22 b22 v22 la22 lb22 lc22 h22 ap22 => ?_
    clear ap22
    obtain ⟨_, rfl, v22_0, _, rfl, rfl, v22_1, _, rfl, h22_1, rfl⟩ := h22
    refine AllV_r fun a23 b23 v23 la23 lb23 lc23 h23 ap23 => ?_
    clear ap23
    obtain ⟨g23, rfl, gl23, gh23, b23⟩ := h23
    refine AllV_r fun a24 b24 v24 la24 lb24 lc24 h24 ap24 => ?_
    obtain ⟨p24_23, -, -, -⟩ := ap24
    obtain ⟨g24, rfl, gl24, gh24, b24⟩ := h24
    have ne24_23 := ap_ne p24_23 gl24 gh24 gl23 gh23
    have ne23_24 := ne24_23.symm
    clear p24_23
    refine AllV_nil ?_
    refine O_storeA (cs' := [_, _]) S24 rfl rfl rfl b23 rfl rfl (one_cons rfl (one_cons (h21_1.nl).one one_nil)) rfl (fun w25 b25 q25 => ?_)
    have z25 := Nat.le_of_eq q25.size.symm
    have e25 : Ext wt w25 := q25.ext (hE.trans hy20) (by omega)
    refine O_storeA (cs' := [_, _]) S24 rfl rfl rfl (b24.chg q25 (by first | assumption | omega)) rfl rfl (one_cons rfl (one_cons ((h22_1.chgBk b23 (by decide) q25).nl).one one_nil)) rfl (fun w26 b26 q26 => ?_)
    have z26 := Nat.le_of_eq q26.size.symm
    have e26 : Ext wt w26 := q26.ext e25 (by omega)
    refine WL_end [(5, _), (8, _), (9, _), (10, _), (27, _), (28, _), (29, _)] ⟨rfl, rfl, rfl, rfl, rfl, rfl, rfl, trivial⟩ ?_
    refine WP_seq ?_
    refine WP_sub [(5, _), (8, _), (9, _), (10, _), (27, _), (28, _), (29, _)] ⟨rfl, rfl, rfl, rfl, rfl, rfl, rfl, trivial⟩ ?_
    have hS27n : ∀ g T, (g, T) ∈ (⟨[], [(24, 2)], (w26).heap.size⟩ : SS) → 41 ≠ T.1 := by
      intro g T hm; rw [mem_SS] at hm; simp only [List.mem_cons, Prod.mk.injEq, List.not_mem_nil, or_false, false_or, and_false] at hm
      rcases hm with ⟨_, rfl⟩
      · decide
    refine WP_anySR (⟨[], [(24, 2)], (w26).heap.size⟩ : SS) 13 [5, 8, 9, 10, 27, 28, 29] mixed rfl (by kernel_rfl) (Nat.le_refl _) ?_
    apply AnySR_val [5] rfl (by kernel_rfl)
    · --
      intro y28 hy28
      have zy28 := hy28.size
      have hx28 := hy28.toExt
      refine AllS_nil ?_
      refine O_loadA (vs := [_, _]) S24 rfl rfl rfl (hG.ext (e26.trans hx28)) rfl rfl ?_
      exact WL_nil ⟨(Ext.refl _), rfl⟩
    apply AnySR_rel (RelP (pAgg [pEq _, pNo w26.heap.size 41 _])) [] rfl (RelP.monoS (pAgg_monoS (PsS.cons pEq_monoS (PsS.cons (pNo_monoS hS27n) PsS.nil)))) (by kernel_rfl)
    · --
      intro y29 hy29
      have zy29 := hy29.size
      have hx29 := hy29.toExt
      refine AllS_nil ?_
      refine O_call enters15 rfl rfl rfl (iof_c (by first | with_reducible assumption | omega) (by first | with_reducible assumption | omega)) (fun v30 w30 e30 h30 => ?_)
      have z30 := e30.size
      try simp only [val_dig] at h30
      obtain ⟨q30, rfl, hq30⟩ := h30
      exact WL_nil ⟨e30, _, rfl, ⟨_, rfl, (AllP.cons rfl (AllP.cons (hq30.mono (by omega)) AllP.nil))⟩⟩
    apply AnySR_val [8] rfl (by kernel_rfl)
    · --
      intro y31 hy31
      have zy31 := hy31.size
      have hx31 := hy31.toExt
      refine AllS_nil ?_
      refine O_move rfl rfl rfl ?_
      exact WL_nil ⟨(Ext.refl _), rfl⟩
    apply AnySR_rel (RelP (pAgg [pEq _, pNo w26.heap.size 41 _])) [41, 42] rfl (RelP.monoS (pAgg_monoS (PsS.cons pEq_monoS (PsS.cons (pNo_monoS hS27n) PsS.nil)))) (by kernel_rfl)
    · --
      intro y32 hy32
      have zy32 := hy32.size
      have hx32 := hy32.toExt
      refine AllS_r fun a33 b33 v33 la33 lb33 lc33 h33 ap33 => ?_
      clear ap33
      obtain ⟨_, rfl, v33_0, _, rfl, rfl, v33_1, _, rfl, h33_1, rfl⟩ := h33
      refine AllS_v ?_
      refine AllS_nil ?_
      refine O_call enters12 rfl rfl rfl (ishl_c rfl h33_1.nl (by first | with_reducible assumption | omega) (by first | with_reducible assumption | omega)) (fun v34 w34 e34 h34 => ?_)
      have z34 := e34.size
      try simp only [val_dig] at h34
      obtain ⟨q34, rfl, hq34⟩ := h34
      exact WL_nil ⟨e34, _, rfl, ⟨_, rfl, (AllP.cons rfl (AllP.cons (hq34.mono (by omega)) AllP.nil))⟩⟩
    apply AnySR_rel (RelP (pTup [pAgg [pEq _, pNo w26.heap.size 41 _], pAgg [pEq _, pNo w26.heap.size 41 _], pEq _])) [40, 43] rfl (RelP.monoS (pTup_monoS (PsS.cons (pAgg_monoS (PsS.cons pEq_monoS (PsS.cons (pNo_monoS hS27n) PsS.nil))) (PsS.cons (pAgg_monoS (PsS.cons pEq_monoS (PsS.cons (pNo_monoS hS27n) PsS.nil))) (PsS.cons pEq_monoS PsS.nil))))) (by kernel_rfl)
    · --
      intro y35 hy35
      have zy35 := hy35.size
      have hx35 := hy35.toExt
      refine AllS_v ?_
      refine AllS_r fun a36 b36 v36 la36 lb36 lc36 h36 ap36 => ?_
      clear ap36
      obtain ⟨_, rfl, v36_0, _, rfl, rfl, v36_1, _, rfl, h36_1, rfl⟩ := h36
      refine AllS_nil ?_
      refine O_call enters14 rfl rfl rfl (idivmod_T rfl (hX.ext (e26.trans hx35)).nl rfl h36_1.nl (by first | with_reducible assumption | omega) (by first | with_reducible assumption | omega) (by first | assumption | decide | omega)) (fun v37 w37 e37 h37 => ?_)
      have z37 := e37.size
      try simp only [val_dig] at h37
      obtain ⟨q37, s37, rfl, hq37, hs37⟩ := h37
      exact WL_nil ⟨e37, _, rfl, ⟨_, rfl, (AllP.cons ⟨_, rfl, (AllP.cons rfl (AllP.cons (hq37.mono (by omega)) AllP.nil))⟩ (AllP.cons ⟨_, rfl, (AllP.cons rfl (AllP.cons (hs37.mono (by omega)) AllP.nil))⟩ (AllP.cons rfl AllP.nil)))⟩⟩
    apply AnySR_rel (RelP (pTup [pAgg [pEq _, pNo w26.heap.size 41 _], pAgg [pEq _, pNo w26.heap.size 41 _], pEq _])) [44] rfl (RelP.monoS (pTup_monoS (PsS.cons (pAgg_monoS (PsS.cons pEq_monoS (PsS.cons (pNo_monoS hS27n) PsS.nil))) (PsS.cons (pAgg_monoS (PsS.cons pEq_monoS (PsS.cons (pNo_monoS hS27n) PsS.nil))) (PsS.cons pEq_monoS PsS.nil))))) (by kernel_rfl)
    · --
      intro y38 hy38
      have zy38 := hy38.size
      have hx38 := hy38.toExt
      refine AllS_r fun a39 b39 v39 la39 lb39 lc39 h39 ap39 => ?_
      clear ap39
      obtain ⟨_, rfl, v39_0, _, rfl, ⟨_, rfl, v39_0_0, _, rfl, rfl, v39_0_1, _, rfl, h39_0_1, rfl⟩, v39_1, _, rfl, ⟨_, rfl, v39_1_0, _, rfl, rfl, v39_1_1, _, rfl, h39_1_1, rfl⟩, v39_2, _, rfl, rfl, rfl⟩ := h39
      refine AllS_nil ?_
      refine O_move rfl rfl rfl ?_
      exact WL_nil ⟨(Ext.refl _), _, rfl, ⟨_, rfl, (AllP.cons ⟨_, rfl, (AllP.cons rfl (AllP.cons (h39_0_1.mono (by omega)) AllP.nil))⟩ (AllP.cons ⟨_, rfl, (AllP.cons rfl (AllP.cons (h39_1_1.mono (by omega)) AllP.nil))⟩ (AllP.cons rfl AllP.nil)))⟩⟩
    apply AnySR_rel (RelP (pAgg [pEq _, pNo w26.heap.size 41 _])) [39] rfl (RelP.monoS (pAgg_monoS (PsS.cons pEq_monoS (PsS.cons (pNo_monoS hS27n) PsS.nil)))) (by kernel_rfl)
    · --
      intro y40 hy40
      have zy40 := hy40.size
      have hx40 := hy40.toExt
      refine AllS_r fun a41 b41 v41 la41 lb41 lc41 h41 ap41 => ?_
      clear ap41
      obtain ⟨_, rfl, v41_0, _, rfl, ⟨_, rfl, v41_0_0, _, rfl, rfl, v41_0_1, _, rfl, h41_0_1, rfl⟩, v41_1, _, rfl, ⟨_, rfl, v41_1_0, _, rfl, rfl, v41_1_1, _, rfl, h41_1_1, rfl⟩, v41_2, _, rfl, rfl, rfl⟩ := h41
      refine AllS_nil ?_
      refine O_extract rfl rfl rfl rfl ?_
      exact WL_nil ⟨(Ext.refl _), _, rfl, ⟨_, rfl, (AllP.cons rfl (AllP.cons (h41_0_1.mono (by omega)) AllP.nil))⟩⟩
    apply AnySR_rel (RelP (pAgg [pEq _, pNo w26.heap.size 41 _])) [39] rfl (RelP.monoS (pAgg_monoS (PsS.cons pEq_monoS (PsS.cons (pNo_monoS hS27n) PsS.nil)))) (by kernel_rfl)
    · --
      intro y42 hy42
      have zy42 := hy42.size
      have hx42 := hy42.toExt
      refine AllS_r fun a43 b43 v43 la43 lb43 lc43 h43 ap43 => ?_
      clear ap43
      obtain ⟨_, rfl, v43_0, _, rfl, ⟨_, rfl, v43_0_0, _, rfl, rfl, v43_0_1, _, rfl, h43_0_1, rfl⟩, v43_1, _, rfl, ⟨_, rfl, v43_1_0, _, rfl, rfl, v43_1_1, _, rfl, h43_1_1, rfl⟩, v43_2, _, rfl, rfl, rfl⟩ := h43
      refine AllS_nil ?_
      refine O_extract rfl rfl rfl rfl ?_
      exact WL_nil ⟨(Ext.refl _), _, rfl, ⟨_, rfl, (AllP.cons rfl (AllP.cons (h43_1_1.mono (by omega)) AllP.nil))⟩⟩
    apply AnySR_val [39] rfl (by kernel_rfl)
    · --
      intro y44 hy44
      have zy44 := hy44.size
      have hx44 := hy44.toExt
      refine AllS_r fun a45 b45 v45 la45 lb45 lc45 h45 ap45 => ?_
      clear ap45
      obtain ⟨_, rfl, v45_0, _, rfl, ⟨_, rfl, v45_0_0, _, rfl, rfl, v45_0_1, _, rfl, h45_0_1, rfl⟩, v45_1, _, rfl, ⟨_, rfl, v45_1_0, _, rfl, rfl, v45_1_1, _, rfl, h45_1_1, rfl⟩, v45_2, _, rfl, rfl, rfl⟩ := h45
      refine AllS_nil ?_
      refine O_extract rfl rfl rfl rfl ?_
      exact WL_nil ⟨(Ext.refl _), rfl⟩
    apply AnySR_rel (BkTR (24, 2)) [] rfl BkTR.monoS (by kernel_rfl)
    · --
      intro y46 hy46
      have zy46 := hy46.size
      have hx46 := hy46.toExt
      refine AllS_nil ?_
      refine O_alloc S24 rfl rfl (fun g47 w47 b47 e47 gl47 gh47 => ?_)
      have z47 := e47.size
      exact WL_nil ⟨e47, _, rfl, g47, rfl, gl47, gh47, _, b47, rfl⟩
    apply AnySR_rel (BkTR (24, 2)) [] rfl BkTR.monoS (by kernel_rfl)
    · --
      intro y48 hy48
      have zy48 := hy48.size
      have hx48 := hy48.toExt
      refine AllS_nil ?_
      refine O_alloc S24 rfl rfl (fun g49 w49 b49 e49 gl49 gh49 => ?_)
      have z49 := e49.size
      exact WL_nil ⟨e49, _, rfl, g49, rfl, gl49, gh49, _, b49, rfl⟩
    apply AnySR_stv 11 (24, 2) (pStv 24 [pEq _, pNo w26.heap.size 41 _]) [11, 45] rfl (by simp) rfl rfl ⟨BkTR (24, 2), (by repeat first | exact List.Mem.head _ | apply List.Mem.tail), BkTR.ptr⟩ (pStv_monoS (PsS.cons pEq_monoS (PsS.cons (pNo_monoS hS27n) PsS.nil))) (by exact (compat_cons ⟨trivial, trivial⟩ (compat_cons ⟨trivial, trivial⟩ (compat_cons ⟨trivial, trivial⟩ (compat_cons ⟨trivial, trivial⟩ (compat_cons ⟨trivial, trivial⟩ (compat_cons ⟨trivial, trivial⟩ (compat_cons ⟨trivial, trivial⟩ (compat_cons ⟨trivial, trivial⟩ (compat_cons ⟨trivial, trivial⟩ (compat_cons ⟨trivial, trivial⟩ (compat_cons ⟨trivial, trivial⟩ compat_nil)))))))))))) (by kernel_rfl)
    · --
      intro y50 hy50
      have zy50 := hy50.size
      have hx50 := hy50.toExt
      refine AllS_r fun a51 b51 v51 la51 lb51 lc51 h51 ap51 => ?_
      clear ap51
      obtain ⟨_, rfl, v51_0, _, rfl, rfl, v51_1, _, rfl, h51_1, rfl⟩ := h51
      refine AllS_r fun a52 b52 v52 la52 lb52 lc52 h52 ap52 => ?_
      clear ap52
      obtain ⟨g52, rfl, gl52, gh52, hB52⟩ := h52
      refine AllS_nil ?_
      have hB50 := hB52
      refine O_storeW S24 rfl rfl rfl hB50 rfl (one_cons rfl (one_cons (h51_1.nl).one one_nil)) (fun w50 b50 q50 => ?_)
      obtain ⟨cs50, hk50, hl50⟩ := hB50
      exact WL_nil ⟨g52, rfl, ⟨⟨cs50, hk50, hl50⟩, q50, ⟨_, b50, rfl⟩⟩, fun g' e' => by cases e'; exact ⟨_, b50, (AllP.cons rfl (AllP.cons (((h51_1).mono (by omega)).chgBk hk50 (by decide) q50) AllP.nil))⟩⟩
    apply AnySR_stv 12 (24, 2) (pStv 24 [pEq _, pNo w26.heap.size 41 _]) [12, 46] rfl (by simp) rfl rfl ⟨BkTR (24, 2), (by repeat first | exact List.Mem.head _ | apply List.Mem.tail), BkTR.ptr⟩ (pStv_monoS (PsS.cons pEq_monoS (PsS.cons (pNo_monoS hS27n) PsS.nil))) (by exact (compat_cons ⟨(show (12 : Nat) ≠ 11 from by decide), (show (11 : Nat) ≠ 12 from by decide)⟩ (compat_cons ⟨trivial, trivial⟩ (compat_cons ⟨trivial, trivial⟩ (compat_cons ⟨trivial, trivial⟩ (compat_cons ⟨trivial, trivial⟩ (compat_cons ⟨trivial, trivial⟩ (compat_cons ⟨trivial, trivial⟩ (compat_cons ⟨trivial, trivial⟩ (compat_cons ⟨trivial, trivial⟩ (compat_cons ⟨trivial, trivial⟩ (compat_cons ⟨trivial, trivial⟩ (compat_cons ⟨trivial, trivial⟩ compat_nil))))))))))))) (by kernel_rfl)
    · --
      intro y53 hy53
      have zy53 := hy53.size
      have hx53 := hy53.toExt
      refine AllS_r fun a54 b54 v54 la54 lb54 lc54 h54 ap54 => ?_
      clear ap54
      obtain ⟨_, rfl, v54_0, _, rfl, rfl, v54_1, _, rfl, h54_1, rfl⟩ := h54
      refine AllS_r fun a55 b55 v55 la55 lb55 lc55 h55 ap55 => ?_
      clear ap55
      obtain ⟨g55, rfl, gl55, gh55, hB55⟩ := h55
      refine AllS_nil ?_
      have hB53 := hB55
      refine O_storeW S24 rfl rfl rfl hB53 rfl (one_cons rfl (one_cons (h54_1.nl).one one_nil)) (fun w53 b53 q53 => ?_)
      obtain ⟨cs53, hk53, hl53⟩ := hB53
      exact WL_nil ⟨g55, rfl, ⟨⟨cs53, hk53, hl53⟩, q53, ⟨_, b53, rfl⟩⟩, fun g' e' => by cases e'; exact ⟨_, b53, (AllP.cons rfl (AllP.cons (((h54_1).mono (by omega)).chgBk hk53 (by decide) q53) AllP.nil))⟩⟩
    refine AnySR_nil fun y56 hy56 => ?_
    have zy56 := hy56.size
    have hx56 := hy56.toExt
    refine AllS_v ?_
    refine AllS_r fun a57 b57 v57 la57 lb57 lc57 h57 ap57 => ?_
    clear ap57
    obtain ⟨_, rfl, v57_0, _, rfl, rfl, v57_1, _, rfl, h57_1, rfl⟩ := h57
    refine AllS_v ?_
    refine AllS_r fun a58 b58 v58 la58 lb58 lc58 h58 ap58 => ?_
    clear ap58
    obtain ⟨_, rfl, v58_0, _, rfl, rfl, v58_1, _, rfl, h58_1, rfl⟩ := h58
    refine AllS_r fun a59 b59 v59 la59 lb59 lc59 h59 ap59 => ?_
    clear ap59
    obtain ⟨_, rfl, v59_0, _, rfl, ⟨_, rfl, v59_0_0, _, rfl, rfl, v59_0_1, _, rfl, h59_0_1, rfl⟩, v59_1, _, rfl, ⟨_, rfl, v59_1_0, _, rfl, rfl, v59_1_1, _, rfl, h59_1_1, rfl⟩, v59_2, _, rfl, rfl, rfl⟩ := h59
    refine AllS_r fun a60 b60 v60 la60 lb60 lc60 h60 ap60 => ?_
    clear ap60
    obtain ⟨_, rfl, v60_0, _, rfl, ⟨_, rfl, v60_0_0, _, rfl, rfl, v60_0_1, _, rfl, h60_0_1, rfl⟩, v60_1, _, rfl, ⟨_, rfl, v60_1_0, _, rfl, rfl, v60_1_1, _, rfl, h60_1_1, rfl⟩, v60_2, _, rfl, rfl, rfl⟩ := h60
    refine AllS_r fun a61 b61 v61 la61 lb61 lc61 h61 ap61 => ?_
    clear ap61
    obtain ⟨_, rfl, v61_0, _, rfl, rfl, v61_1, _, rfl, h61_1, rfl⟩ := h61
    refine AllS_r fun a62 b62 v62 la62 lb62 lc62 h62 ap62 => ?_
    clear ap62
    obtain ⟨_, rfl, v62_0, _, rfl, rfl, v62_1, _, rfl, h62_1, rfl⟩ := h62
    refine AllS_v ?_
    refine AllS_r fun a63 b63 v63 la63 lb63 lc63 h63 ap63 => ?_
    clear ap63
    obtain ⟨g63, rfl, gl63, gh63, hB63⟩ := h63
    refine AllS_r fun a64 b64 v64 la64 lb64 lc64 h64 ap64 => ?_
    obtain ⟨p64_63, -, -, -, -, -, -, -⟩ := ap64
    obtain ⟨g64, rfl, gl64, gh64, hB64⟩ := h64
    have ne64_63 := ap_ne p64_63 gl64 gh64 gl63 gh63
    have ne63_64 := ne64_63.symm
    clear p64_63
    refine AllS_qv rfl fun hq65 => ?_
    obtain ⟨_, hb65, u65_0, _, rfl, rfl, u65_1, _, rfl, hu65_1, rfl⟩ := hq65 g63 rfl
    refine AllS_qv rfl fun hq66 => ?_
    obtain ⟨_, hb66, u66_0, _, rfl, rfl, u66_1, _, rfl, hu66_1, rfl⟩ := hq66 g64 rfl
    refine AllS_nil ?_
    refine O_assign rfl rfl rfl ?_
    refine WL_end [(5, _), (8, _), (9, _), (10, _), (11, _), (27, _), (28, _), (29, _)] ⟨rfl, rfl, rfl, rfl, rfl, rfl, rfl, rfl, trivial⟩ ?_
    refine WP_seq ?_
    refine WP_sub [(5, _), (8, _), (9, _), (10, _), (11, _), (27, _), (28, _), (29, _)] ⟨rfl, rfl, rfl, rfl, rfl, rfl, rfl, rfl, trivial⟩ ?_
    refine WP_anyR 28 [5, 8, 9, 10, 11, 27, 28, 29] mixed rfl (by kernel_rfl) ?_
    apply AnyR_val [9] rfl (by kernel_rfl)
    · --
      intro y67 hy67
      have zy67 := hy67.size
      refine AllV_nil ?_
      refine O_loadA (vs := [_, _]) S24 rfl rfl rfl (((b25.chg q26 (by first | assumption | omega)).ext hx56).ext hy67) rfl rfl ?_
      exact WL_nil ⟨(Ext.refl _), rfl⟩
    apply AnyR_val [5] rfl (by kernel_rfl)
    · --
      intro y68 hy68
      have zy68 := hy68.size
      refine AllV_nil ?_
      refine O_loadA (vs := [_, _]) S24 rfl rfl rfl (hG.ext ((e26.trans hx56).trans hy68)) rfl rfl ?_
      exact WL_nil ⟨(Ext.refl _), rfl⟩
    apply AnyR_val [8] rfl (by kernel_rfl)
    · --
      intro y69 hy69
      have zy69 := hy69.size
      refine AllV_nil ?_
      refine O_move rfl rfl rfl ?_
      exact WL_nil ⟨(Ext.refl _), rfl⟩
    apply AnyR_rel (RelP (pAgg [pEq _, pNo y56.heap.size 41 _])) [49, 50] rfl (RelP.mono (pAgg_mono (PsM.cons pEq_mono (PsM.cons pNo_mono PsM.nil)))) (by kernel_rfl)
    · --
      intro y70 hy70
      have zy70 := hy70.size
      refine AllV_v ?_
      refine AllV_v ?_
      refine AllV_nil ?_
      refine O_call enters17 rfl rfl rfl (rishl_c rfl (hX.ext ((e26.trans hx56).trans hy70)).nl (by first | with_reducible assumption | omega) (by first | with_reducible assumption | omega)) (fun v71 w71 e71 h71 => ?_)
      have z71 := e71.size
      try simp only [val_dig] at h71
      obtain ⟨q71, rfl, hq71⟩ := h71
      exact WL_nil ⟨e71, _, rfl, ⟨_, rfl, (AllP.cons rfl (AllP.cons (hq71.mono (by omega)) AllP.nil))⟩⟩
    apply AnyR_val [48, 51] rfl (by kernel_rfl)
    · --
      intro y72 hy72
      have zy72 := hy72.size
      refine AllV_v ?_
      refine AllV_r fun a73 b73 v73 la73 lb73 lc73 h73 ap73 => ?_
      clear ap73
      obtain ⟨_, rfl, v73_0, _, rfl, rfl, v73_1, _, rfl, h73_1, rfl⟩ := h73
      refine AllV_nil ?_
      refine O_call enters16 rfl rfl rfl (isame_c rfl ((((h21_1.chgBk b23 (by decide) q25).chgBk (b24.chg q25 (by first | assumption | omega)) (by decide) q26).ext hx56).ext hy72).nl h73_1.nl (by first | with_reducible assumption | omega) (by first | with_reducible assumption | omega) rfl) (fun v74 w74 e74 h74 => ?_)
      have z74 := e74.size
      obtain rfl := h74
      exact WL_nil ⟨e74, rfl⟩
    apply AnyR_val [52] rfl (by kernel_rfl)
    · --
      intro y75 hy75
      have zy75 := hy75.size
      refine AllV_v ?_
      refine AllV_nil ?_
      refine O_not rfl rfl rfl rfl ?_
      exact WL_nil ⟨(Ext.refl _), rfl⟩
    apply AnyR_val [53] rfl (by kernel_rfl)
    · --
      intro y76 hy76
      have zy76 := hy76.size
      refine AllV_v ?_
      refine AllV_nil ?_
      refine O_move rfl rfl rfl ?_
      exact WL_nil ⟨(Ext.refl _), rfl⟩
    apply AnyR_val [54, 10] rfl (by kernel_rfl)
    · --
      intro y77 hy77
      have zy77 := hy77.size
      refine AllV_v ?_
      refine AllV_nil ?_
      refine O_loadA (vs := [_, _]) S24 rfl rfl rfl ((b26.ext hx56).ext hy77) rfl rfl ?_
      exact WL_nil ⟨(Ext.refl _), rfl⟩
    apply AnyR_val [54, 5] rfl (by kernel_rfl)
    · --
      intro y78 hy78
      have zy78 := hy78.size
      refine AllV_v ?_
      refine AllV_nil ?_
      refine O_loadA (vs := [_, _]) S24 rfl rfl rfl (hG.ext ((e26.trans hx56).trans hy78)) rfl rfl ?_
      exact WL_nil ⟨(Ext.refl _), rfl⟩
    apply AnyR_val [54, 8] rfl (by kernel_rfl)
    · --
      intro y79 hy79
      have zy79 := hy79.size
      refine AllV_v ?_
      refine AllV_nil ?_
      refine O_move rfl rfl rfl ?_
      exact WL_nil ⟨(Ext.refl _), rfl⟩
    apply AnyR_rel (RelP (pAgg [pEq _, pNo y56.heap.size 41 _])) [54, 56, 57] rfl (RelP.mono (pAgg_mono (PsM.cons pEq_mono (PsM.cons pNo_mono PsM.nil)))) (by kernel_rfl)
    · --
      intro y80 hy80
      have zy80 := hy80.size
      refine AllV_v ?_
      refine AllV_v ?_
      refine AllV_v ?_
      refine AllV_nil ?_
      refine O_call enters18 rfl rfl rfl (rishr_c rfl (hX.ext ((e26.trans hx56).trans hy80)).nl (by first | with_reducible assumption | omega) (by first | with_reducible assumption | omega)) (fun v81 w81 e81 h81 => ?_)
      have z81 := e81.size
      try simp only [val_dig] at h81
      obtain ⟨q81, rfl, hq81⟩ := h81
      exact WL_nil ⟨e81, _, rfl, ⟨_, rfl, (AllP.cons rfl (AllP.cons (hq81.mono (by omega)) AllP.nil))⟩⟩
    apply AnyR_val [54, 55, 58] rfl (by kernel_rfl)
    · --
      intro y82 hy82
      have zy82 := hy82.size
      refine AllV_v ?_
      refine AllV_v ?_
      refine AllV_r fun a83 b83 v83 la83 lb83 lc83 h83 ap83 => ?_
      clear ap83
      obtain ⟨_, rfl, v83_0, _, rfl, rfl, v83_1, _, rfl, h83_1, rfl⟩ := h83
      refine AllV_nil ?_
      refine O_call enters16 rfl rfl rfl (isame_c rfl ((((h22_1.chgBk b23 (by decide) q25).chgBk (b24.chg q25 (by first | assumption | omega)) (by decide) q26).ext hx56).ext hy82).nl h83_1.nl (by first | with_reducible assumption | omega) (by first | with_reducible assumption | omega) rfl) (fun v84 w84 e84 h84 => ?_)
      have z84 := e84.size
      obtain rfl := h84
      exact WL_nil ⟨e84, rfl⟩
    apply AnyR_val [54, 59] rfl (by kernel_rfl)
    · --
      intro y85 hy85
      have zy85 := hy85.size
      refine AllV_v ?_
      refine AllV_v ?_
      refine AllV_nil ?_
      refine O_not rfl rfl rfl rfl ?_
      exact WL_nil ⟨(Ext.refl _), rfl⟩
    apply AnyR_val [54, 60] rfl (by kernel_rfl)
    · --
      intro y86 hy86
      have zy86 := hy86.size
      refine AllV_v ?_
      refine AllV_v ?_
      refine AllV_nil ?_
      refine O_pickF rfl rfl rfl rfl ?_
      exact WL_nil ⟨(Ext.refl _), rfl⟩
    apply AnyR_val [61] rfl (by kernel_rfl)
    · --
      intro y87 hy87
      have zy87 := hy87.size
      refine AllV_v ?_
      refine AllV_nil ?_
      refine O_move rfl rfl rfl ?_
      exact WL_nil ⟨(Ext.refl _), rfl⟩
    apply AnyR_val [62, 11] rfl (by kernel_rfl)
    · --
      intro y88 hy88
      have zy88 := hy88.size
      refine AllV_v ?_
      refine AllV_nil ?_
      refine O_loadA (vs := [_, _]) S24 rfl rfl rfl (hb65.ext hy88) rfl rfl ?_
      exact WL_nil ⟨(Ext.refl _), rfl⟩
    apply AnyR_val [62, 10] rfl (by kernel_rfl)
    · --
      intro y89 hy89
      have zy89 := hy89.size
      refine AllV_v ?_
      refine AllV_nil ?_
      refine O_loadA (vs := [_, _]) S24 rfl rfl rfl ((b26.ext hx56).ext hy89) rfl rfl ?_
      exact WL_nil ⟨(Ext.refl _), rfl⟩
    apply AnyR_val [62, 63, 64] rfl (by kernel_rfl)
    · --
      intro y90 hy90
      have zy90 := hy90.size
      refine AllV_v ?_
      refine AllV_v ?_
      refine AllV_v ?_
      refine AllV_nil ?_
      simp only [hI] at *
      refine O_call enters16 rfl rfl rfl (isame_c rfl (hu65_1.ext hy90).nl ((((h22_1.chgBk b23 (by decide) q25).chgBk (b24.chg q25 (by first | assumption | omega)) (by decide) q26).ext hx56).ext hy90).nl (by first | with_reducible assumption | omega) (by first | with_reducible assumption | omega) rfl) (fun v91 w91 e91 h91 => ?_)
      have z91 := e91.size
      obtain rfl := h91
      exact WL_nil ⟨e91, rfl⟩
    apply AnyR_val [62, 65] rfl (by kernel_rfl)
    · --
      intro y92 hy92
      have zy92 := hy92.size
      refine AllV_v ?_
      refine AllV_v ?_
      refine AllV_nil ?_
      refine O_not rfl rfl rfl rfl ?_
      exact WL_nil ⟨(Ext.refl _), rfl⟩
    apply AnyR_val [62, 66] rfl (by kernel_rfl)
    · --
      intro y93 hy93
      have zy93 := hy93.size
      refine AllV_v ?_
      refine AllV_v ?_
      refine AllV_nil ?_
      refine O_pickF rfl rfl rfl rfl ?_
      exact WL_nil ⟨(Ext.refl _), rfl⟩
    apply AnyR_val [67] rfl (by kernel_rfl)
    · --
      intro y94 hy94
      have zy94 := hy94.size
      refine AllV_v ?_
      refine AllV_nil ?_
      refine O_move rfl rfl rfl ?_
      exact WL_nil ⟨(Ext.refl _), rfl⟩
    apply AnyR_val [68, 9] rfl (by kernel_rfl)
    · --
      intro y95 hy95
      have zy95 := hy95.size
      refine AllV_v ?_
      refine AllV_nil ?_
      refine O_loadA (vs := [_, _]) S24 rfl rfl rfl (((b25.chg q26 (by first | assumption | omega)).ext hx56).ext hy95) rfl rfl ?_
      exact WL_nil ⟨(Ext.refl _), rfl⟩
    apply AnyR_val [68, 8] rfl (by kernel_rfl)
    · --
      intro y96 hy96
      have zy96 := hy96.size
      refine AllV_v ?_
      refine AllV_nil ?_
      refine O_move rfl rfl rfl ?_
      exact WL_nil ⟨(Ext.refl _), rfl⟩
    apply AnyR_rel (RelP (pAgg [pEq _, pNo y56.heap.size 41 _])) [68, 69, 70] rfl (RelP.mono (pAgg_mono (PsM.cons pEq_mono (PsM.cons pNo_mono PsM.nil)))) (by kernel_rfl)
    · --
      intro y97 hy97
      have zy97 := hy97.size
      refine AllV_v ?_
      refine AllV_v ?_
      refine AllV_v ?_
      refine AllV_nil ?_
      refine O_call enters13 rfl rfl rfl (ishr_c rfl ((((h21_1.chgBk b23 (by decide) q25).chgBk (b24.chg q25 (by first | assumption | omega)) (by decide) q26).ext hx56).ext hy97).nl (by first | with_reducible assumption | omega) (by first | with_reducible assumption | omega)) (fun v98 w98 e98 h98 => ?_)
      have z98 := e98.size
      try simp only [val_dig] at h98
      obtain ⟨q98, rfl, hq98⟩ := h98
      rw [hb2] at hq98 ⊢
      exact WL_nil ⟨e98, _, rfl, ⟨_, rfl, (AllP.cons rfl (AllP.cons (hq98.mono (by omega)) AllP.nil))⟩⟩
    apply AnyR_val [68, 5] rfl (by kernel_rfl)
    · --
      intro y99 hy99
      have zy99 := hy99.size
      refine AllV_v ?_
      refine AllV_nil ?_
      refine O_loadA (vs := [_, _]) S24 rfl rfl rfl (hG.ext ((e26.trans hx56).trans hy99)) rfl rfl ?_
      exact WL_nil ⟨(Ext.refl _), rfl⟩
    apply AnyR_val [68, 71, 72] rfl (by kernel_rfl)
    · --
      intro y100 hy100
      have zy100 := hy100.size
      refine AllV_v ?_
      refine AllV_r fun a101 b101 v101 la101 lb101 lc101 h101 ap101 => ?_
      clear ap101
      obtain ⟨_, rfl, v101_0, _, rfl, rfl, v101_1, _, rfl, h101_1, rfl⟩ := h101
      refine AllV_v ?_
      refine AllV_nil ?_
      refine O_call enters16 rfl rfl rfl (isame_c rfl h101_1.nl (hX.ext ((e26.trans hx56).trans hy100)).nl (by first | with_reducible assumption | omega) (by first | with_reducible assumption | omega) rfl) (fun v102 w102 e102 h102 => ?_)
      have z102 := e102.size
      obtain rfl := h102
      exact WL_nil ⟨e102, rfl⟩
    apply AnyR_val [68, 73] rfl (by kernel_rfl)
    · --
      intro y103 hy103
      have zy103 := hy103.size
      refine AllV_v ?_
      refine AllV_v ?_
      refine AllV_nil ?_
      refine O_not rfl rfl rfl rfl ?_
      exact WL_nil ⟨(Ext.refl _), rfl⟩
    apply AnyR_val [68, 74] rfl (by kernel_rfl)
    · --
      intro y104 hy104
      have zy104 := hy104.size
      refine AllV_v ?_
      refine AllV_v ?_
      refine AllV_nil ?_
      refine O_pickF rfl rfl rfl rfl ?_
      exact WL_nil ⟨(Ext.refl _), rfl⟩
    refine AnyR_nil fun y105 hy105 => ?_
    have zy105 := hy105.size
    refine AllV_v ?_
    refine AllV_v ?_
    refine AllV_v ?_
    refine AllV_r fun a106 b106 v106 la106 lb106 lc106 h106 ap106 => ?_
    clear ap106
    obtain ⟨_, rfl, v106_0, _, rfl, rfl, v106_1, _, rfl, h106_1, rfl⟩ := h106
    refine AllV_v ?_
    refine AllV_v ?_
    refine AllV_v ?_
    refine AllV_v ?_
    refine AllV_v ?_
    refine AllV_v ?_
    refine AllV_r fun a107 b107 v107 la107 lb107 lc107 h107 ap107 => ?_
    clear ap107
    obtain ⟨_, rfl, v107_0, _, rfl, rfl, v107_1, _, rfl, h107_1, rfl⟩ := h107
    refine AllV_v ?_
    refine AllV_v ?_
    refine AllV_v ?_
    refine AllV_v ?_
    refine AllV_v ?_
    refine AllV_v ?_
    refine AllV_v ?_
    refine AllV_v ?_
    refine AllV_v ?_
    refine AllV_v ?_
    refine AllV_v ?_
    refine AllV_v ?_
    refine AllV_r fun a108 b108 v108 la108 lb108 lc108 h108 ap108 => ?_
    clear ap108
    obtain ⟨_, rfl, v108_0, _, rfl, rfl, v108_1, _, rfl, h108_1, rfl⟩ := h108
    refine AllV_v ?_
    refine AllV_v ?_
    refine AllV_v ?_
    refine AllV_v ?_
    refine AllV_nil ?_
    refine WL_end [(5, _), (27, _), (28, _), (29, _), (75, _)] ⟨rfl, rfl, rfl, rfl, rfl, trivial⟩ ?_
    refine WP_condF rfl ?_
    refine WP_skip ?_
    refine WP_region ?_
    refine O_add rfl rfl rfl rfl (wrap_i64_id (by omega) (by omega)) ?_
    refine O_move rfl rfl rfl ?_
    refine WL_end [(5, _), (27, _), (28, _), (29, _)] ⟨rfl, rfl, rfl, rfl, trivial⟩ ?_
    exact ⟨j + 1, ⟨rfl, rfl, rfl, rfl, trivial⟩, ⟨((e26.trans hx56).trans hy105), by omega⟩, by omega⟩
  · --
    refine WP_exit ?_
    refine inBlk_hit ?_
    refine WP_seq ?_
    refine WP_region ?_
    refine O_assign rfl rfl rfl ?_
    refine WL_end [(4, _)] ⟨rfl, trivial⟩ ?_
    refine WP_ret ?_
    refine ret1 Try.results3 rfl ?_
    exact ⟨_, rfl, ((((e5.trans e6).trans e7).trans et)).trans hE, rfl⟩

theorem law_IntegerShifts_F {w : World} {vx : Value} {lx : List Nat} {bx : Bool} {n : Int} (hx : Nl w vx lx) (hl : (40 : Int) < (lx.length : Int)) :
    Calls Try.prog 3 #[.agg #[.bool bx, vx], .int .i64 n] w (Ret w fun r _ => r = .bool true) := by
  refine enter (args := [_, _]) Try.func3 rfl Try.ntmps3 rfl ?_
  refine WP_seq ?_
  refine WP_region ?_
  refine O_box _ rfl rfl rfl rfl (fun g1 w1 b1 e1 gl1 gh1 => ?_)
  have z1 := e1.size
  refine O_assign rfl rfl rfl ?_
  refine WL_end [(1, _), (2, _)] ⟨rfl, rfl, trivial⟩ ?_
  refine WP_seq ?_
  refine WP_seq ?_
  refine WP_region ?_
  refine O_call enters9 rfl rfl rfl (awake5_c) (fun v2 w2 e2 h2 => ?_)
  have z2 := e2.size
  obtain rfl := h2
  refine O_not rfl rfl rfl rfl ?_
  refine WL_end [(1, _), (2, _), (15, _)] ⟨rfl, rfl, rfl, trivial⟩ ?_
  refine WP_condF rfl ?_
  refine WP_skip ?_
  refine WP_seq ?_
  refine WP_region ?_
  refine O_loadA (vs := [_, _]) S24 rfl rfl rfl (b1.ext e2) rfl rfl ?_
  refine O_call enters10 rfl rfl rfl (mint_F (hx.ext (e1.trans e2)) (by (try simp only [val_dig, List.length_take, List.length_nil, List.length_cons, List.length_append, List.length_replicate, List.length_set, List.length_map, List.length_drop]); omega) (by (try simp only [val_dig, List.length_take, List.length_nil, List.length_cons, List.length_append, List.length_replicate, List.length_set, List.length_map, List.length_drop]); omega)) (fun v3 w3 e3 h3 => ?_)
  have z3 := e3.size
  try simp only [val_dig] at h3
  obtain rfl := h3
  refine O_move rfl rfl rfl ?_
  refine O_extract rfl rfl rfl rfl ?_
  refine O_extract rfl rfl rfl rfl ?_
  refine O_alloc S24 rfl rfl (fun g4 w4 b4 e4 gl4 gh4 => ?_)
  have z4 := e4.size
  refine O_storeA (cs' := [_, _]) S24 rfl rfl rfl b4 rfl rfl (one_cons rfl (one_cons rfl one_nil)) rfl (fun w5 b5 q5 => ?_)
  have z5 := Nat.le_of_eq q5.size.symm
  have e5 : Ext w w5 := q5.ext (((e1.trans e2).trans e3).trans e4) (by omega)
  refine O_assign rfl rfl rfl ?_
  refine WL_end [(1, _), (5, _), (6, _)] ⟨rfl, rfl, rfl, trivial⟩ ?_
  refine WP_seq ?_
  refine WP_seq ?_
  refine WP_region ?_
  refine O_move rfl rfl rfl ?_
  refine O_not rfl rfl rfl rfl ?_
  refine WL_end [(1, _), (5, _), (22, _)] ⟨rfl, rfl, rfl, trivial⟩ ?_
  refine WP_condT rfl ?_
  refine WP_seq ?_
  refine WP_region ?_
  refine O_assign rfl rfl rfl ?_
  refine WL_end [(4, _)] ⟨rfl, trivial⟩ ?_
  refine WP_ret ?_
  refine ret1 Try.results3 rfl ?_
  exact ⟨_, rfl, e5, rfl⟩

theorem law_IntegerShifts {w : World} {vx : Value} {lx : List Nat} {bx : Bool} {n : Int} (hx : Nl w vx lx) : Calls Try.prog 3 #[.agg #[.bool bx, vx], .int .i64 n] w (Ret w fun r _ => r = .bool true) := by
  by_cases h1 : lx.length ≤ 40
  · exact law_IntegerShifts_T hx h1
  · exact law_IntegerShifts_F hx (by omega)

end Go.Proofs.Ythbbcnlpfjbleaa
