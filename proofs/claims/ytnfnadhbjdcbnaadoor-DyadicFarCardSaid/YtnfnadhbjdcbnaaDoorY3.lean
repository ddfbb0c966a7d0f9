/-
  Walks.
-/
import Derived.Test.YtnfnadhbjdcbnaaDoorY2
set_option linter.unusedVariables false
set_option linter.unusedSimpArgs false
set_option maxRecDepth 100000
namespace Go.Proofs.YtnfnadhbjdcbnaaDoor
open Go Go.RowKit
theorem dcode_small {x e : Int} {a m : Nat} (h : (dig x.natAbs).length ≤ a) (h1 : -(m : Int) ≤ e) (h2 : e ≤ m) (h3 : 32 * a + m ≤ 65536) : dcode x e = 0 ∧ dval (dman x e) (dexp x e) = true ∧ -(m : Int) ≤ dexp x e ∧ dexp x e ≤ m + 32 * a ∧ (dig (dman x e).natAbs).length ≤ a := by
  have ht := tz_len x
  have hc : dcode x e = 0 := by
    unfold dcode
    rw [if_neg (by omega)]
    by_cases h0 : x = 0
    · rw [if_pos h0]
    · rw [if_neg h0, if_pos ?_]
      have h4 := bl_dig (odn x).natAbs
      have h5 := odn_len h
      rw [dval_nz (odn_ne h0)]
      exact decide_eq_true ⟨by omega, by omega, by omega, odn_odd' h0⟩
  refine ⟨hc, dval_dman x e, ?_, ?_, dman_len h⟩
  · rw [(dman_ok hc).2]; split <;> omega
  · rw [(dman_ok hc).2]; split <;> omega

theorem mdy_T {w : World} {vx : Value} {lx : List Nat} {bx : Bool} {e : Int} {n m : Nat} (hx : Nl w vx lx) (h32 : 32 * n + m ≤ 65536) (hl : lx.length ≤ n) :
    Calls Tryd.prog 27 #[.agg #[.bool bx, vx, .int .i64 e], .int .i64 (n : Nat), .int .i64 (m : Nat)] w (Ret w fun r w' => ∃ z k q b, r = .tuple #[.agg #[.bool (decide ((z) < 0)), q, .int .i64 (k)], .bool b] ∧ No w.heap.size 89 w' q (dig z.natAbs) ∧ dval z k = true ∧ -(m : Int) ≤ k ∧ k ≤ m + 32 * n ∧ (dig z.natAbs).length ≤ n) := by
 have hM1 := Int.emod_nonneg e (show (2 * (m : Int) + 1) ≠ 0 by omega)
 have hM2 := Int.emod_lt_of_pos e (show (0 : Int) < 2 * (m : Int) + 1 by omega)
 refine enter (args := [_, _, _]) Tryd.func27 rfl Tryd.ntmps27 rfl ?_
 refine WP_seq ?_
 refine WP_region ?_
 refine O_box _ rfl rfl rfl rfl (fun g1 w1 b1 e1 gl1 gh1 => ?_)
 have z1 := e1.size
 refine O_alloc S26 rfl rfl (fun g2 w2 b2 e2 gl2 gh2 => ?_)
 have z2 := e2.size
 refine O_assign rfl rfl rfl ?_
 refine WL_end [(1, _), (2, _), (3, _), (6, _)] ⟨rfl, rfl, rfl, rfl, trivial⟩ ?_
 refine WP_seq ?_
 refine WP_region ?_
 refine O_field F26_0 rfl rfl rfl ?_
 refine O_loadA (vs := [_, _]) S24 rfl rfl rfl (b1.ext e2) rfl rfl ?_
 refine O_move rfl rfl rfl ?_
 refine O_call enters20 rfl rfl rfl (mint_T (hx.ext (e1.trans e2)) (by (try simp only [lens]); omega) (by (try simp only [lens]); omega)) (fun v3 w3 e3 h3 => ?_)
 have z3 := e3.size
 try simp only [val_dig] at h3
 obtain ⟨q3, rfl, hq3⟩ := h3
 have hlX := mk_len (a := n) bx hx (by omega)
 generalize mk bx (val lx) = X at hq3 hlX ⊢
 obtain ⟨hd1, hd2, hd3, hd4, hd5⟩ := dcode_small (x := X) (e := e % (2 * (m : Int) + 1) - m) (m := m) hlX (by omega) (by omega) h32
 refine O_move rfl rfl rfl ?_
 refine O_extract rfl rfl rfl rfl ?_
 refine O_extract rfl rfl rfl rfl ?_
 refine O_alloc S24 rfl rfl (fun g4 w4 b4 e4 gl4 gh4 => ?_)
 have z4 := e4.size
 refine O_storeA (cs' := [_, _]) S24 rfl rfl rfl b4 rfl rfl (one_cons rfl (one_cons ((hq3.ext e4).nl).one one_nil)) rfl (fun w5 b5 q5 => ?_)
 have z5 := Nat.le_of_eq q5.size.symm
 have e5 : Ext w w5 := q5.ext (((e1.trans e2).trans e3).trans e4) (by omega)
 refine O_assign rfl rfl rfl ?_
 refine WL_end [(2, _), (3, _), (6, _), (8, _), (9, _)] ⟨rfl, rfl, rfl, rfl, rfl, trivial⟩ ?_
 refine WP_seq ?_
 refine WP_seq ?_
 refine WP_region ?_
 refine O_move rfl rfl rfl ?_
 refine O_not rfl rfl rfl rfl ?_
 refine WL_end [(2, _), (3, _), (6, _), (8, _), (20, _)] ⟨rfl, rfl, rfl, rfl, rfl, trivial⟩ ?_
 refine WP_condF rfl ?_
 refine WP_skip ?_
 refine WP_seq ?_
 refine WP_sub [(2, _), (3, _), (6, _), (8, _)] ⟨rfl, rfl, rfl, rfl, trivial⟩ ?_
 have hS6n : ∀ g T, (g, T) ∈ (⟨[], [(26, 3)], (w5).heap.size⟩ : SS) → 89 ≠ T.1 := by
   intro g T hm; rw [mem_SS] at hm; simp only [List.mem_cons, Prod.mk.injEq, List.not_mem_nil, or_false, false_or, and_false] at hm
   rcases hm with ⟨_, rfl⟩
   · decide
 refine WP_anySR (⟨[], [(26, 3)], (w5).heap.size⟩ : SS) 15 [2, 3, 6, 8] mixed rfl (by kernel_rfl) (Nat.le_refl _) ?_
 apply AnySR_val [8] rfl (by kernel_rfl)
 · --
  intro y7 hy7
  have zy7 := hy7.size
  have hx7 := hy7.toExt
  refine AllS_nil ?_
  refine O_loadA (vs := [_, _]) S24 rfl rfl rfl (b5.ext hx7) rfl rfl ?_
  exact WL_nil ⟨(Ext.refl _), rfl⟩
 apply AnySR_val [3] rfl (by kernel_rfl)
 · --
  intro y8 hy8
  have zy8 := hy8.size
  have hx8 := hy8.toExt
  refine AllS_nil ?_
  refine O_field F26_1 rfl rfl rfl ?_
  exact WL_nil ⟨(Ext.refl _), rfl⟩
 apply AnySR_val [24] rfl (by kernel_rfl)
 · --
  intro y9 hy9
  have zy9 := hy9.size
  have hx9 := hy9.toExt
  refine AllS_v ?_
  refine AllS_nil ?_
  refine O_loadC Tryd.underlying3 rfl rfl rfl rfl (((((b1.ext e2).ext e3).ext e4).chg q5 (by first | assumption | omega)).ext hx9) rfl ?_
  exact WL_nil ⟨(Ext.refl _), rfl⟩
 apply AnySR_val [2] rfl (by kernel_rfl)
 · --
  intro y10 hy10
  have zy10 := hy10.size
  have hx10 := hy10.toExt
  refine AllS_nil ?_
  refine O_move rfl rfl rfl ?_
  exact WL_nil ⟨(Ext.refl _), rfl⟩
 apply AnySR_val [26] rfl (by kernel_rfl)
 · --
  intro y11 hy11
  have zy11 := hy11.size
  have hx11 := hy11.toExt
  refine AllS_v ?_
  refine AllS_nil ?_
  refine O_mul rfl rfl rfl rfl (wrap_i64_id (by omega) (by omega)) ?_
  exact WL_nil ⟨(Ext.refl _), rfl⟩
 apply AnySR_val [27] rfl (by kernel_rfl)
 · --
  intro y12 hy12
  have zy12 := hy12.size
  have hx12 := hy12.toExt
  refine AllS_v ?_
  refine AllS_nil ?_
  refine O_add rfl rfl rfl rfl (wrap_i64_id (by omega) (by omega)) ?_
  exact WL_nil ⟨(Ext.refl _), rfl⟩
 apply AnySR_val [25, 28] rfl (by kernel_rfl)
 · --
  intro y13 hy13
  have zy13 := hy13.size
  have hx13 := hy13.toExt
  refine AllS_v ?_
  refine AllS_v ?_
  refine AllS_nil ?_
  refine O_call enters12 rfl rfl rfl (mod_c (by (try simp only [lens]); omega) (by (try simp only [lens]); omega)) (fun v14 w14 e14 h14 => ?_)
  have z14 := e14.size
  obtain rfl := h14
  exact WL_nil ⟨e14, rfl⟩
 apply AnySR_val [2] rfl (by kernel_rfl)
 · --
  intro y15 hy15
  have zy15 := hy15.size
  have hx15 := hy15.toExt
  refine AllS_nil ?_
  refine O_move rfl rfl rfl ?_
  exact WL_nil ⟨(Ext.refl _), rfl⟩
 apply AnySR_val [29, 30] rfl (by kernel_rfl)
 · --
  intro y16 hy16
  have zy16 := hy16.size
  have hx16 := hy16.toExt
  refine AllS_v ?_
  refine AllS_v ?_
  refine AllS_nil ?_
  refine O_sub rfl rfl rfl rfl (wrap_i64_id (by omega) (by omega)) ?_
  exact WL_nil ⟨(Ext.refl _), rfl⟩
 apply AnySR_rel (RelP (pTup [pAgg [pEq _, pNo w5.heap.size 89 _, pEq _], pEq _])) [23, 31] rfl (RelP.monoS (pTup_monoS (PsS.cons (pAgg_monoS (PsS.cons pEq_monoS (PsS.cons (pNo_monoS hS6n) (PsS.cons pEq_monoS PsS.nil)))) (PsS.cons pEq_monoS PsS.nil)))) (by kernel_rfl)
 · --
  intro y17 hy17
  have zy17 := hy17.size
  have hx17 := hy17.toExt
  refine AllS_v ?_
  refine AllS_v ?_
  refine AllS_nil ?_
  refine O_call enters11 rfl rfl rfl (rdmake_c rfl (((hq3.ext e4).chgBk b4 (by decide) q5).ext hx17).nl (by (try simp only [lens]); omega)) (fun v18 w18 e18 h18 => ?_)
  have z18 := e18.size
  try simp only [val_dig] at h18
  obtain ⟨q18, rfl, hq18⟩ := h18
  exact WL_nil ⟨e18, _, rfl, ⟨_, rfl, (AllP.cons ⟨_, rfl, (AllP.cons rfl (AllP.cons (hq18.mono (by omega)) (AllP.cons rfl AllP.nil)))⟩ (AllP.cons rfl AllP.nil))⟩⟩
 apply AnySR_rel (RelP (pTup [pAgg [pEq _, pNo w5.heap.size 89 _, pEq _], pEq _])) [32] rfl (RelP.monoS (pTup_monoS (PsS.cons (pAgg_monoS (PsS.cons pEq_monoS (PsS.cons (pNo_monoS hS6n) (PsS.cons pEq_monoS PsS.nil)))) (PsS.cons pEq_monoS PsS.nil)))) (by kernel_rfl)
 · --
  intro y19 hy19
  have zy19 := hy19.size
  have hx19 := hy19.toExt
  refine AllS_r fun a20 b20 v20 la20 lb20 lc20 h20 ap20 => ?_
  clear ap20
  obtain ⟨_, rfl, v20_0, _, rfl, ⟨_, rfl, v20_0_0, _, rfl, rfl, v20_0_1, _, rfl, h20_0_1, v20_0_2, _, rfl, rfl, rfl⟩, v20_1, _, rfl, rfl, rfl⟩ := h20
  refine AllS_nil ?_
  refine O_move rfl rfl rfl ?_
  exact WL_nil ⟨(Ext.refl _), _, rfl, ⟨_, rfl, (AllP.cons ⟨_, rfl, (AllP.cons rfl (AllP.cons (h20_0_1.mono (by omega)) (AllP.cons rfl AllP.nil)))⟩ (AllP.cons rfl AllP.nil))⟩⟩
 apply AnySR_rel (RelP (pAgg [pEq _, pNo w5.heap.size 89 _, pEq _])) [22] rfl (RelP.monoS (pAgg_monoS (PsS.cons pEq_monoS (PsS.cons (pNo_monoS hS6n) (PsS.cons pEq_monoS PsS.nil))))) (by kernel_rfl)
 · --
  intro y21 hy21
  have zy21 := hy21.size
  have hx21 := hy21.toExt
  refine AllS_r fun a22 b22 v22 la22 lb22 lc22 h22 ap22 => ?_
  clear ap22
  obtain ⟨_, rfl, v22_0, _, rfl, ⟨_, rfl, v22_0_0, _, rfl, rfl, v22_0_1, _, rfl, h22_0_1, v22_0_2, _, rfl, rfl, rfl⟩, v22_1, _, rfl, rfl, rfl⟩ := h22
  refine AllS_nil ?_
  refine O_extract rfl rfl rfl rfl ?_
  exact WL_nil ⟨(Ext.refl _), _, rfl, ⟨_, rfl, (AllP.cons rfl (AllP.cons (h22_0_1.mono (by omega)) (AllP.cons rfl AllP.nil)))⟩⟩
 apply AnySR_val [22] rfl (by kernel_rfl)
 · --
  intro y23 hy23
  have zy23 := hy23.size
  have hx23 := hy23.toExt
  refine AllS_r fun a24 b24 v24 la24 lb24 lc24 h24 ap24 => ?_
  clear ap24
  obtain ⟨_, rfl, v24_0, _, rfl, ⟨_, rfl, v24_0_0, _, rfl, rfl, v24_0_1, _, rfl, h24_0_1, v24_0_2, _, rfl, rfl, rfl⟩, v24_1, _, rfl, rfl, rfl⟩ := h24
  refine AllS_nil ?_
  refine O_extract rfl rfl rfl rfl ?_
  exact WL_nil ⟨(Ext.refl _), rfl⟩
 apply AnySR_rel (BkTR (26, 3)) [] rfl BkTR.monoS (by kernel_rfl)
 · --
  intro y25 hy25
  have zy25 := hy25.size
  have hx25 := hy25.toExt
  refine AllS_nil ?_
  refine O_alloc S26 rfl rfl (fun g26 w26 b26 e26 gl26 gh26 => ?_)
  have z26 := e26.size
  exact WL_nil ⟨e26, _, rfl, g26, rfl, gl26, gh26, _, b26, rfl⟩
 apply AnySR_stv 10 (26, 3) (pStv 26 [pEq _, pNo w5.heap.size 89 _, pEq _]) [10, 33] rfl (by simp) rfl rfl ⟨BkTR (26, 3), (by repeat first | exact List.Mem.head _ | apply List.Mem.tail), BkTR.ptr⟩ (pStv_monoS (PsS.cons pEq_monoS (PsS.cons (pNo_monoS hS6n) (PsS.cons pEq_monoS PsS.nil)))) (by exact (compat_cons ⟨trivial, trivial⟩ (compat_cons ⟨trivial, trivial⟩ (compat_cons ⟨trivial, trivial⟩ (compat_cons ⟨trivial, trivial⟩ (compat_cons ⟨trivial, trivial⟩ (compat_cons ⟨trivial, trivial⟩ (compat_cons ⟨trivial, trivial⟩ (compat_cons ⟨trivial, trivial⟩ (compat_cons ⟨trivial, trivial⟩ (compat_cons ⟨trivial, trivial⟩ (compat_cons ⟨trivial, trivial⟩ (compat_cons ⟨trivial, trivial⟩ (compat_cons ⟨trivial, trivial⟩ (compat_cons ⟨trivial, trivial⟩ compat_nil))))))))))))))) (by kernel_rfl)
 · --
  intro y27 hy27
  have zy27 := hy27.size
  have hx27 := hy27.toExt
  refine AllS_r fun a28 b28 v28 la28 lb28 lc28 h28 ap28 => ?_
  clear ap28
  obtain ⟨_, rfl, v28_0, _, rfl, rfl, v28_1, _, rfl, h28_1, v28_2, _, rfl, rfl, rfl⟩ := h28
  refine AllS_r fun a29 b29 v29 la29 lb29 lc29 h29 ap29 => ?_
  clear ap29
  obtain ⟨g29, rfl, gl29, gh29, hB29⟩ := h29
  refine AllS_nil ?_
  have hB27 := hB29
  refine O_storeW S26 rfl rfl rfl hB27 rfl (one_cons rfl (one_cons (h28_1.nl).one (one_cons rfl one_nil))) (fun w27 b27 q27 => ?_)
  obtain ⟨cs27, hk27, hl27⟩ := hB27
  exact WL_nil ⟨g29, rfl, ⟨⟨cs27, hk27, hl27⟩, q27, ⟨_, b27, rfl⟩⟩, fun g' e' => by cases e'; exact ⟨_, b27, (AllP.cons rfl (AllP.cons (((h28_1).mono (by omega)).chgBk hk27 (by decide) q27) (AllP.cons rfl AllP.nil)))⟩⟩
 refine AnySR_nil fun y30 hy30 => ?_
 have zy30 := hy30.size
 have hx30 := hy30.toExt
 refine AllS_v ?_
 refine AllS_v ?_
 refine AllS_v ?_
 refine AllS_v ?_
 refine AllS_v ?_
 refine AllS_v ?_
 refine AllS_v ?_
 refine AllS_v ?_
 refine AllS_v ?_
 refine AllS_r fun a31 b31 v31 la31 lb31 lc31 h31 ap31 => ?_
 clear ap31
 obtain ⟨_, rfl, v31_0, _, rfl, ⟨_, rfl, v31_0_0, _, rfl, rfl, v31_0_1, _, rfl, h31_0_1, v31_0_2, _, rfl, rfl, rfl⟩, v31_1, _, rfl, rfl, rfl⟩ := h31
 refine AllS_r fun a32 b32 v32 la32 lb32 lc32 h32 ap32 => ?_
 clear ap32
 obtain ⟨_, rfl, v32_0, _, rfl, ⟨_, rfl, v32_0_0, _, rfl, rfl, v32_0_1, _, rfl, h32_0_1, v32_0_2, _, rfl, rfl, rfl⟩, v32_1, _, rfl, rfl, rfl⟩ := h32
 refine AllS_r fun a33 b33 v33 la33 lb33 lc33 h33 ap33 => ?_
 clear ap33
 obtain ⟨_, rfl, v33_0, _, rfl, rfl, v33_1, _, rfl, h33_1, v33_2, _, rfl, rfl, rfl⟩ := h33
 refine AllS_v ?_
 refine AllS_r fun a34 b34 v34 la34 lb34 lc34 h34 ap34 => ?_
 clear ap34
 obtain ⟨g34, rfl, gl34, gh34, hB34⟩ := h34
 refine AllS_qv rfl fun hq35 => ?_
 obtain ⟨_, hb35, u35_0, _, rfl, rfl, u35_1, _, rfl, hu35_1, u35_2, _, rfl, rfl, rfl⟩ := hq35 g34 rfl
 refine AllS_nil ?_
 refine O_assign rfl rfl rfl ?_
 refine WL_end [(6, _), (10, _), (11, _)] ⟨rfl, rfl, rfl, trivial⟩ ?_
 refine WP_seq ?_
 refine WP_region ?_
 refine O_loadA (vs := [_, _, _]) S26 rfl rfl rfl hb35 rfl rfl ?_
 refine O_move rfl rfl rfl ?_
 refine O_eql (t := true) rfl rfl rfl rfl (decide_eq_true hd1) ?_
 refine O_storeA (cs' := [_, _, _]) S26 rfl rfl rfl ((((b2.ext e3).ext e4).chg q5 (by first | assumption | omega)).ext hx30) rfl rfl (one_cons rfl (one_cons (hu35_1.nl).one (one_cons rfl one_nil))) rfl (fun w36 b36 q36 => ?_)
 have z36 := Nat.le_of_eq q36.size.symm
 have e36 : Ext w w36 := q36.ext (e5.trans hx30) (by omega)
 refine O_assign rfl rfl rfl ?_
 refine WL_end [(6, _), (7, _)] ⟨rfl, rfl, trivial⟩ ?_
 refine WP_ret ?_
 refine retL Tryd.results27 (.cell rfl S26 b36 rfl (.tmp rfl .nil)) ?_
 exact ⟨_, rfl, e36, _, _, _, _, rfl, (hu35_1.chgBk ((((b2.ext e3).ext e4).chg q5 (by first | assumption | omega)).ext hx30) (by decide) q36).mono (by omega), hd2, hd3, hd4, hd5⟩

theorem mdy_F {w : World} {vx : Value} {lx : List Nat} {bx : Bool} {e : Int} {n m : Nat} (hx : Nl w vx lx) (h32 : 32 * n + m ≤ 65536) (hl : n < lx.length) :
    Calls Tryd.prog 27 #[.agg #[.bool bx, vx, .int .i64 e], .int .i64 (n : Nat), .int .i64 (m : Nat)] w (Ret w fun r w' => ∃ z k q b, r = .tuple #[.agg #[.bool (decide ((z) < 0)), q, .int .i64 (k)], .bool b] ∧ No w.heap.size 89 w' q (dig z.natAbs) ∧ dval z k = true ∧ -(m : Int) ≤ k ∧ k ≤ m + 32 * n ∧ (dig z.natAbs).length ≤ n) := by
 refine enter (args := [_, _, _]) Tryd.func27 rfl Tryd.ntmps27 rfl ?_
 refine WP_seq ?_
 refine WP_region ?_
 refine O_box _ rfl rfl rfl rfl (fun g1 w1 b1 e1 gl1 gh1 => ?_)
 have z1 := e1.size
 refine O_alloc S26 rfl rfl (fun g2 w2 b2 e2 gl2 gh2 => ?_)
 have z2 := e2.size
 refine O_assign rfl rfl rfl ?_
 refine WL_end [(1, _), (2, _), (3, _), (6, _)] ⟨rfl, rfl, rfl, rfl, trivial⟩ ?_
 refine WP_seq ?_
 refine WP_region ?_
 refine O_field F26_0 rfl rfl rfl ?_
 refine O_loadA (vs := [_, _]) S24 rfl rfl rfl (b1.ext e2) rfl rfl ?_
 refine O_move rfl rfl rfl ?_
 refine O_call enters20 rfl rfl rfl (mint_F (hx.ext (e1.trans e2)) (by (try simp only [lens]); omega) (by (try simp only [lens]); omega)) (fun v3 w3 e3 h3 => ?_)
 have z3 := e3.size
 try simp only [val_dig] at h3
 obtain rfl := h3
 refine O_move rfl rfl rfl ?_
 refine O_extract rfl rfl rfl rfl ?_
 refine O_extract rfl rfl rfl rfl ?_
 refine O_alloc S24 rfl rfl (fun g4 w4 b4 e4 gl4 gh4 => ?_)
 have z4 := e4.size
 refine O_storeA (cs' := [_, _]) S24 rfl rfl rfl b4 rfl rfl (one_cons rfl (one_cons rfl one_nil)) rfl (fun w5 b5 q5 => ?_)
 have z5 := Nat.le_of_eq q5.size.symm
 have e5 : Ext w w5 := q5.ext (((e1.trans e2).trans e3).trans e4) (by omega)
 refine O_assign rfl rfl rfl ?_
 refine WL_end [(2, _), (3, _), (6, _), (8, _), (9, _)] ⟨rfl, rfl, rfl, rfl, rfl, trivial⟩ ?_
 refine WP_seq ?_
 refine WP_seq ?_
 refine WP_region ?_
 refine O_move rfl rfl rfl ?_
 refine O_not rfl rfl rfl rfl ?_
 refine WL_end [(2, _), (3, _), (6, _), (8, _), (20, _)] ⟨rfl, rfl, rfl, rfl, rfl, trivial⟩ ?_
 refine WP_condT rfl ?_
 refine WP_seq ?_
 refine WP_region ?_
 refine O_build (cs := [_, _, _]) B26 rfl rfl rfl cells_nil rfl ?_
 refine O_storeA (cs' := [_, _, _]) S26 rfl rfl rfl (((b2.ext e3).ext e4).chg q5 (by first | assumption | omega)) rfl rfl (one_cons rfl (one_cons rfl (one_cons rfl one_nil))) rfl (fun w6 b6 q6 => ?_)
 have z6 := Nat.le_of_eq q6.size.symm
 have e6 : Ext w w6 := q6.ext e5 (by omega)
 refine O_assign rfl rfl rfl ?_
 refine WL_end [(6, _), (7, _)] ⟨rfl, rfl, trivial⟩ ?_
 refine WP_ret ?_
 refine retL Tryd.results27 (.cell rfl S26 b6 rfl (.tmp rfl .nil)) ?_
 exact ⟨_, rfl, e6, 0, 0, _, _, rfl, by rw [dig0]; exact No.nil _ _ _, rfl, by omega, by omega, by rw [dig0]; exact Nat.zero_le _⟩

theorem mdy_c {w : World} {vx : Value} {lx : List Nat} {bx : Bool} {e : Int} {n m : Nat} (hx : Nl w vx lx) (h32 : 32 * n + m ≤ 65536) : Calls Tryd.prog 27 #[.agg #[.bool bx, vx, .int .i64 e], .int .i64 (n : Nat), .int .i64 (m : Nat)] w (Ret w fun r w' => ∃ z k q b, r = .tuple #[.agg #[.bool (decide ((z) < 0)), q, .int .i64 (k)], .bool b] ∧ No w.heap.size 89 w' q (dig z.natAbs) ∧ dval z k = true ∧ -(m : Int) ≤ k ∧ k ≤ m + 32 * n ∧ (dig z.natAbs).length ≤ n) := by
  by_cases hl : lx.length ≤ n
  · exact mdy_T hx h32 hl
  · exact mdy_F hx h32 (by omega)

end Go.Proofs.YtnfnadhbjdcbnaaDoor
