/-
  Walks.
-/
import Derived.Test.YtoccimigjjndpaaV15
set_option linter.unusedVariables false
set_option linter.unusedSimpArgs false
set_option maxRecDepth 100000
namespace Go.Proofs.Ytoccimigjjndpaa
open Go Go.RowKit
set_option maxHeartbeats 1000000 in
theorem compose_c {w : World} {u v : Value} {l1 l2 : List Ch} (hs1 : SlC w u l1) (hs2 : SlC w v l2) (hl1 : l1.length ≤ 10000) (hl2 : l2.length ≤ 10000) :
    Calls Try.prog 52 #[u, v] w (Ret w fun r w' => ((cmpU l1 l2).any (clash l1 l2) = false ∧ ∃ x, r = .tuple #[x, .int .i64 0] ∧ OwC w.heap.size w' x (cmpL l1 l2)) ∨ ((cmpU l1 l2).any (clash l1 l2) = true ∧ r = .tuple #[.slice none 0 0, .int .i64 1])) := by
 refine enter (args := [u, v]) Try.func52 rfl Try.ntmps52 rfl ?_
 refine WP_seq ?_
 refine WP_region ?_
 refine O_box _ rfl rfl rfl (hs1).cells1 (fun g1 w1 b1 e1 gl1 gh1 => ?_)
 have z1 := e1.size
 refine O_box _ rfl rfl rfl ((hs2.ext e1)).cells1 (fun g2 w2 b2 e2 gl2 gh2 => ?_)
 have z2 := e2.size
 refine O_assign rfl rfl rfl ?_
 refine O_assign rfl rfl rfl ?_
 refine WL_end [(2, _), (3, _)] ⟨rfl, rfl, trivial⟩ ?_
 refine WP_seq ?_
 refine WP_region ?_
 refine O_alloc1 Z66 rfl rfl rfl (fun g3 w3 b3 e3 gl3 gh3 => ?_)
 have z3 := e3.size
 refine WL_end [(2, _), (3, _), (6, _)] ⟨rfl, rfl, rfl, trivial⟩ ?_
 refine WP_seq ?_
 refine WP_region ?_
 refine O_alloc1 Z61 rfl rfl rfl (fun g4 w4 b4 e4 gl4 gh4 => ?_)
 have z4 := e4.size
 refine O_storeC (cs' := [_]) one61 rfl rfl rfl rfl b4 rfl rfl (fun w5 b5 q5 => ?_)
 have z5 := Nat.le_of_eq q5.size.symm
 have e5 : Ext w w5 := q5.ext (((e1.trans e2).trans e3).trans e4) (by omega)
 have m6 := q5.ext e4 (by omega)
 refine WL_end [(2, _), (3, _), (6, _), (7, _)] ⟨rfl, rfl, rfl, rfl, trivial⟩ ?_
 refine WP_seq ?_
 refine WP_sub [(2, _), (3, _), (6, _), (7, _)] ⟨rfl, rfl, rfl, rfl, trivial⟩ ?_
 refine WP_anyR 6 [2, 3, 6, 7] mixed rfl (by kernel_rfl) ?_
 apply AnyR_val [2, 3, 7, 6] rfl (by kernel_rfl)
 · --
  intro y7 hy7
  have zy7 := hy7.size
  refine AllV_nil ?_
  refine O_makeFunc rfl rfl rfl ?_
  exact WL_nil ⟨(Ext.refl _), rfl⟩
 apply AnyR_val [2] rfl (by kernel_rfl)
 · --
  intro y8 hy8
  have zy8 := hy8.size
  refine AllV_nil ?_
  refine O_loadC Try.underlying66 rfl rfl rfl rfl ((((b1.ext e2).ext e3).ext m6).ext hy8) rfl ?_
  exact WL_nil ⟨(Ext.refl _), rfl⟩
 apply AnyR_rel (SlSR (cnms l1)) [9] rfl SlSR.mono (by kernel_rfl)
 · --
  intro y9 hy9
  have zy9 := hy9.size
  refine AllV_v ?_
  refine AllV_nil ?_
  refine O_call enters82 rfl rfl rfl (changed_c (hs1.ext (e5.trans hy9)) (by (try simp only [lens]); omega)) (fun v10 w10 e10 h10 => ?_)
  have z10 := e10.size
  exact WL_nil ⟨e10, _, rfl, (h10).toS⟩
 apply AnyR_val [3] rfl (by kernel_rfl)
 · --
  intro y11 hy11
  have zy11 := hy11.size
  refine AllV_nil ?_
  refine O_loadC Try.underlying66 rfl rfl rfl rfl (((b2.ext e3).ext m6).ext hy11) rfl ?_
  exact WL_nil ⟨(Ext.refl _), rfl⟩
 apply AnyR_rel (SlSR (cnms l2)) [11] rfl SlSR.mono (by kernel_rfl)
 · --
  intro y12 hy12
  have zy12 := hy12.size
  refine AllV_v ?_
  refine AllV_nil ?_
  refine O_call enters82 rfl rfl rfl (changed_c (hs2.ext (e5.trans hy12)) (by (try simp only [lens]); omega)) (fun v13 w13 e13 h13 => ?_)
  have z13 := e13.size
  exact WL_nil ⟨e13, _, rfl, (h13).toS⟩
 apply AnyR_rel (LSR w.heap.size (cnms l1) (cnms l2)) [10, 12] rfl LSR.mono (by kernel_rfl)
 · --
  intro y14 hy14
  have zy14 := hy14.size
  refine AllV_r fun a15 b15 v15 la15 lb15 lc15 h15 ap15 => ?_
  clear ap15
  have h15 : SlS _ v15 _ := h15
  refine AllV_r fun a16 b16 v16 la16 lb16 lc16 h16 ap16 => ?_
  clear ap16
  have h16 : SlS _ v16 _ := h16
  refine AllV_nil ?_
  refine M_lit M121 rfl rfl fV [_, _] (by intro a ha; simp only [List.mem_cons, List.not_mem_nil, or_false] at ha; rcases ha with rfl | rfl; exact h15.one; exact h16.one) rfl rfl rfl rfl rfl (fun v17 w17 o17 e17 => ?_)
  have z17 := e17.size
  exact WL_nil ⟨e17, _, rfl, ⟨_, _, (o17).mono (by omega), (h15.ext e17), (h16.ext e17)⟩⟩
 refine AnyR_nil fun y18 hy18 => ?_
 have zy18 := hy18.size
 refine AllV_v ?_
 refine AllV_v ?_
 refine AllV_r fun a19 b19 v19 la19 lb19 lc19 h19 ap19 => ?_
 clear ap19
 have h19 : SlS _ v19 _ := h19
 refine AllV_v ?_
 refine AllV_r fun a20 b20 v20 la20 lb20 lc20 h20 ap20 => ?_
 clear ap20
 have h20 : SlS _ v20 _ := h20
 refine AllV_r fun a21 b21 v21 la21 lb21 lc21 h21 ap21 => ?_
 clear ap21
 obtain ⟨xa, xb, hO13, hSa, hSb⟩ : LSR _ _ _ _ _ v21 _ := h21
 refine AllV_nil ?_
 have zz : w.heap.size ≤ y18.heap.size := ((e5.trans hy18)).size
 have hat := (hO13).at_le (by simp)
 refine O_callR enters72 rfl rfl rfl (each_c (wE := y18) (vals := [xa, xb]) (ls := [cnms l1, cnms l2]) (BL := w.heap.size) (K := KC w y18 g1 g2 g4 g3 u v l1 l2) enters80 hO13 (LS.two hSa hSb) (by simp) ⟨(e5.trans hy18), ExtT.refl _ _, ⟨((((b1.ext e2).ext e3).ext m6).ext hy18), (((b2.ext e3).ext m6).ext hy18), (b5.ext hy18)⟩, _, ((b3.ext m6).ext hy18), OwC.nil _ _⟩ (fun vs w v l hK h => h.extT hK.2.1 (by decide)) (fun vs w w1 cs hK hb hc => hK.chg hat.1 hb hc) (fun vs s r he w8 cs hK hb => compose1_c hs1 hs2 (by omega) (by omega) (by omega) (by omega) (by omega) (by omega) hK hb (by
   have h8 := before_len he
   have h9 : totN [cnms l1, cnms l2] = l1.length + l2.length := by simp [totN, cnms]
   rw [h9] at h8
   omega)) (by simp)) (fun e9 w9 h9 => ?_)
 obtain ⟨rfl, hE9, hT9, ⟨hq1, hq2, hq3⟩, v9, hq4, hO9⟩ := h9
 refine ⟨_, rfl, ?_⟩
 refine WL_end [(6, _), (7, _)] ⟨rfl, rfl, trivial⟩ ?_
 refine WP_seq ?_
 refine WP_seq ?_
 by_cases hcl : (mergeN [cnms l1, cnms l2]).any (clash l1 l2) = true
 · --
  rw [if_pos hcl] at hq3
  refine WP_region ?_
  refine O_loadC Try.underlying61 rfl rfl rfl rfl hq3 rfl ?_
  refine O_neq (t := true) rfl rfl rfl rfl (decide_eq_true (by decide)) ?_
  refine WL_end [(6, _), (7, _), (16, _)] ⟨rfl, rfl, rfl, trivial⟩ ?_
  refine WP_condT rfl ?_
  refine WP_seq ?_
  refine WP_sub [(7, _)] ⟨rfl, trivial⟩ ?_
  refine WP_anyR 2 [7] mixed rfl (by kernel_rfl) ?_
  apply AnyR_val [7] rfl (by kernel_rfl)
  · --
   intro y22 hy22
   have zy22 := hy22.size
   refine AllV_nil ?_
   refine O_loadC Try.underlying61 rfl rfl rfl rfl (hq3.ext hy22) rfl ?_
   exact WL_nil ⟨(Ext.refl _), rfl⟩
  apply AnyR_val [] rfl (by kernel_rfl)
  · --
   intro y23 hy23
   have zy23 := hy23.size
   refine AllV_nil ?_
   refine O_assign rfl rfl rfl ?_
   exact WL_nil ⟨(Ext.refl _), rfl⟩
  refine AnyR_nil fun y24 hy24 => ?_
  have zy24 := hy24.size
  refine AllV_v ?_
  refine AllV_v ?_
  refine AllV_nil ?_
  refine O_assign rfl rfl rfl ?_
  refine WL_end [(4, _), (5, _)] ⟨rfl, rfl, trivial⟩ ?_
  refine WP_ret ?_
  refine ret2 Try.results52 rfl rfl ?_
  first
    | exact ⟨_, rfl, (hE9.trans hy24), .inr ⟨hcl, rfl⟩⟩
    | exact ⟨_, rfl, (hE9.trans hy24), .inl ⟨Bool.eq_false_iff.2 hcl, _, rfl, hO9⟩⟩
 · --
  rw [if_neg hcl] at hq3
  refine WP_region ?_
  refine O_loadC Try.underlying61 rfl rfl rfl rfl hq3 rfl ?_
  refine O_neq (t := false) rfl rfl rfl rfl (decide_eq_false (fun h => h rfl)) ?_
  refine WL_end [(6, _), (7, _), (16, _)] ⟨rfl, rfl, rfl, trivial⟩ ?_
  refine WP_condF rfl ?_
  refine WP_skip ?_
  refine WP_seq ?_
  refine WP_region ?_
  refine O_loadC Try.underlying66 rfl rfl rfl rfl hq4 rfl ?_
  refine O_assign rfl rfl rfl ?_
  refine O_assign rfl rfl rfl ?_
  refine WL_end [(4, _), (5, _)] ⟨rfl, rfl, trivial⟩ ?_
  refine WP_ret ?_
  refine ret2 Try.results52 rfl rfl ?_
  first
    | exact ⟨_, rfl, hE9, .inr ⟨hcl, rfl⟩⟩
    | exact ⟨_, rfl, hE9, .inl ⟨Bool.eq_false_iff.2 hcl, _, rfl, hO9⟩⟩

end Go.Proofs.Ytoccimigjjndpaa
