/-
  Walks.
-/
import Derived.Test.YtoccimigjjndpaaV10
import Derived.Test.YtoccimigjjndpaaW8
set_option linter.unusedVariables false
set_option linter.unusedSimpArgs false
set_option maxRecDepth 100000
namespace Go.Proofs.Ytoccimigjjndpaa
open Go Go.RowKit
theorem rcvalid_T {w : World} {v : Value} {l : List Ch} (hs : SlC w v l) (hl : l.length ≤ 1000000000) (hv : validB l = true) : Calls Try.prog 51 #[v] w (Ret w fun r _ => r = .bool true) :=
  (rcvalid_c hs hl).mono fun _ w' ⟨r, he, hx', hr⟩ => ⟨r, he, hx', by rw [hr, hv]⟩
theorem rcvalid_F {w : World} {v : Value} {l : List Ch} (hs : SlC w v l) (hl : l.length ≤ 1000000000) (hv : ¬ validB l = true) : Calls Try.prog 51 #[v] w (Ret w fun r _ => r = .bool false) :=
  (rcvalid_c hs hl).mono fun _ w' ⟨r, he, hx', hr⟩ => ⟨r, he, hx', by rw [hr, Bool.eq_false_iff.2 hv]⟩
theorem rapL_step {E : Env} {l : List Ch} {i : Nat} (hi : i < l.length) (h : nodev E l[i].2.1 = l[i].2.2.1) : rapL E (l.drop i) = rapL (apE E l[i]) (l.drop (i + 1)) := by
  rw [List.drop_eq_getElem_cons hi, rapL, if_pos h]
theorem rapL_stop {E : Env} {l : List Ch} {i : Nat} (hi : i < l.length) (h : ¬ nodev E l[i].2.1 = l[i].2.2.1) : rapL E (l.drop i) = none := by
  rw [List.drop_eq_getElem_cons hi, rapL, if_neg h]
theorem rapL_end {E : Env} {l : List Ch} {i : Nat} (hi : l.length ≤ i) : rapL E (l.drop i) = some E := by
  rw [List.drop_of_length_le hi, rapL]

set_option maxHeartbeats 1000000 in
theorem rapply_c {w : World} {u v : Value} {E : Env} {l : List Ch} (hu : SlB w u E) (hv : SlC w v l) (hl : l.length ≤ 1000) (hl2 : E.length ≤ 1000) :
    Calls Try.prog 58 #[u, v] w (Ret w fun r w' => (validB l = true ∧ ∃ E2, rapL E l = some E2 ∧ ∃ x, r = .tuple #[x, .bool true] ∧ SlB w' x E2) ∨ (¬ (validB l = true ∧ (rapL E l).isSome = true) ∧ r = .tuple #[.slice none 0 0, .bool false])) := by
 refine enter (args := [u, v]) Try.func58 rfl Try.ntmps58 rfl ?_
 refine WP_seq ?_
 refine WP_region ?_
 refine O_assign rfl rfl rfl ?_
 refine O_assign rfl rfl rfl ?_
 refine WL_end [(0, _), (1, _)] ⟨rfl, rfl, trivial⟩ ?_
 refine WP_seq ?_
 refine WP_seq ?_
 by_cases hvb : validB l = true
 · --
  skip
  refine WP_region ?_
  refine O_move rfl rfl rfl ?_
  refine O_call enters51 rfl rfl rfl (rcvalid_T hv (by (try simp only [lens]); omega) hvb) (fun v1 w1 e1 h1 => ?_)
  have z1 := e1.size
  obtain rfl := h1
  refine O_not rfl rfl rfl rfl ?_
  refine WL_end [(0, _), (1, _), (10, _)] ⟨rfl, rfl, rfl, trivial⟩ ?_
  refine WP_condF rfl ?_
  refine WP_skip ?_
  refine WP_seq ?_
  refine WP_seq ?_
  refine WP_region ?_
  refine O_move rfl rfl rfl ?_
  refine C_len Echange rfl rfl rfl (hv.ext e1) ?_
  refine O_move rfl rfl rfl ?_
  refine WL_end [(0, _), (11, _), (12, _), (13, _)] ⟨rfl, rfl, rfl, rfl, trivial⟩ ?_
  refine WP_block ?_
  refine WP_loop (S := Nat × Value × Env) (fun (i, cur, E1) => [(0, cur), (11, v), (12, .int .i64 (l.length : Nat)), (13, .int .i64 (i : Nat))]) (fun (i, cur, E1) w' => Ext w w' ∧ SlB w' cur E1 ∧ rapL E l = rapL E1 (l.drop i) ∧ E1.length ≤ E.length + i ∧ i ≤ l.length) (fun (i, cur, E1) => l.length - i) (0, u, E) ⟨rfl, rfl, rfl, rfl, trivial⟩ ⟨e1, (hu.ext e1), rfl, Nat.le_refl _, Nat.zero_le _⟩ ?_
  rintro ⟨i, cur, E1⟩ w9 ⟨hE, hcur, hra, hle1, hi⟩
  show WP _ _ _ _ _ [(0, cur), (11, v), (12, .int .i64 (l.length : Nat)), (13, .int .i64 (i : Nat))] _
  have zE := hE.size
  refine WP_seq ?_
  refine WP_region ?_
  refine O_lss rfl rfl rfl rfl rfl ?_
  refine WL_end [(0, _), (11, _), (12, _), (13, _), (14, _)] ⟨rfl, rfl, rfl, rfl, rfl, trivial⟩ ?_
  refine WP_seq ?_
  refine WP_condD rfl (fun c14 => ?_) (fun c14 => ?_)
  · --
   refine WP_skip ?_
   refine WP_seq ?_
   refine WP_block ?_
   refine WP_seq ?_
   have hilt : i < l.length := by omega
   · --
    skip
    refine WP_region ?_
    refine C_index Echange rfl rfl rfl rfl (hv.ext hE) i rfl hilt (fun _ => ?_)
    refine K_load S74 rfl rfl rfl (SlC.row (j := i) (hv.ext hE) hilt) rfl ?_
    refine O_alloc S74 rfl rfl (fun g2 w2 b2 e2 gl2 gh2 => ?_)
    have z2 := e2.size
    refine O_storeA (cs' := [_, _, _, _]) S74 rfl rfl rfl b2 rfl rfl (one_cons rfl (one_cons rfl (one_cons rfl (one_cons rfl one_nil)))) rfl (fun w3 b3 q3 => ?_)
    have z3 := Nat.le_of_eq q3.size.symm
    have e3 : Ext w w3 := q3.ext (hE.trans e2) (by omega)
    have m4 := q3.ext e2 (by omega)
    refine WL_end [(0, _), (7, _), (11, _), (12, _), (13, _)] ⟨rfl, rfl, rfl, rfl, rfl, trivial⟩ ?_
    refine WP_seq ?_
    refine WP_seq ?_
    refine WP_sub [(0, _), (7, _), (11, _), (12, _), (13, _)] ⟨rfl, rfl, rfl, rfl, rfl, trivial⟩ ?_
    refine WP_anyR 6 [0, 7, 11, 12, 13] mixed rfl (by kernel_rfl) ?_
    apply AnyR_val [0] rfl (by kernel_rfl)
    · --
     intro y5 hy5
     have zy5 := hy5.size
     refine AllV_nil ?_
     refine O_move rfl rfl rfl ?_
     exact WL_nil ⟨(Ext.refl _), rfl⟩
    apply AnyR_val [7] rfl (by kernel_rfl)
    · --
     intro y6 hy6
     have zy6 := hy6.size
     refine AllV_nil ?_
     refine O_field F74_1 rfl rfl rfl ?_
     exact WL_nil ⟨(Ext.refl _), rfl⟩
    apply AnyR_val [18] rfl (by kernel_rfl)
    · --
     intro y7 hy7
     have zy7 := hy7.size
     refine AllV_v ?_
     refine AllV_nil ?_
     refine O_loadC Try.underlying9 rfl rfl rfl rfl (b3.ext hy7) rfl ?_
     exact WL_nil ⟨(Ext.refl _), rfl⟩
    apply AnyR_val [17, 19] rfl (by kernel_rfl)
    · --
     intro y8 hy8
     have zy8 := hy8.size
     refine AllV_v ?_
     refine AllV_v ?_
     refine AllV_nil ?_
     refine O_call enters78 rfl rfl rfl (rnode_c ((hcur.ext m4).ext hy8) (by (try simp only [lens]); omega)) (fun v9 w9 e9 h9 => ?_)
     have z9 := e9.size
     obtain rfl := h9
     exact WL_nil ⟨e9, rfl⟩
    apply AnyR_val [7] rfl (by kernel_rfl)
    · --
     intro y10 hy10
     have zy10 := hy10.size
     refine AllV_nil ?_
     refine O_field F74_2 rfl rfl rfl ?_
     exact WL_nil ⟨(Ext.refl _), rfl⟩
    apply AnyR_val [21] rfl (by kernel_rfl)
    · --
     intro y11 hy11
     have zy11 := hy11.size
     refine AllV_v ?_
     refine AllV_nil ?_
     refine O_loadC Try.underlying3 rfl rfl rfl rfl (b3.ext hy11) rfl ?_
     exact WL_nil ⟨(Ext.refl _), rfl⟩
    refine AnyR_nil fun y12 hy12 => ?_
    have zy12 := hy12.size
    refine AllV_v ?_
    refine AllV_v ?_
    refine AllV_v ?_
    refine AllV_v ?_
    refine AllV_v ?_
    refine AllV_v ?_
    refine AllV_nil ?_
    refine O_neq rfl rfl rfl rfl rfl ?_
    refine WL_end [(0, _), (7, _), (11, _), (12, _), (13, _), (23, _)] ⟨rfl, rfl, rfl, rfl, rfl, rfl, trivial⟩ ?_
    refine WP_condN rfl (fun c23 => ?_) (fun c23 => ?_)
    · --
     refine WP_seq ?_
     refine WP_region ?_
     refine O_assign rfl rfl rfl ?_
     refine O_assign rfl rfl rfl ?_
     refine WL_end [(4, _), (5, _)] ⟨rfl, rfl, trivial⟩ ?_
     refine WP_ret ?_
     refine inBlk_ret ?_
     refine inBlk_ret ?_
     refine ret2 Try.results58 rfl rfl ?_
     first
       | exact ⟨_, rfl, (e3.trans hy12), .inr ⟨fun h => hvb h.1, rfl⟩⟩
       | exact ⟨_, rfl, (e3.trans hy12), .inr ⟨(fun h => by have := h.2; rw [hra, rapL_stop (E := E1) hilt (by assumption)] at this; cases this), rfl⟩⟩
       | exact ⟨_, rfl, (e3.trans hy12), .inl ⟨hvb, E1, hra.trans (rapL_end (by omega)), _, rfl, ((hcur.ext m4).ext hy12)⟩⟩
    · --
     refine WP_skip ?_
     refine WP_seq ?_
     refine WP_region ?_
     refine O_field F74_0 rfl rfl rfl ?_
     refine O_loadC Try.underlying3 rfl rfl rfl rfl (b3.ext hy12) rfl ?_
     refine O_eql rfl rfl rfl rfl rfl ?_
     refine WL_end [(0, _), (7, _), (11, _), (12, _), (13, _), (26, _)] ⟨rfl, rfl, rfl, rfl, rfl, rfl, trivial⟩ ?_
     refine WP_condD rfl (fun c26 => ?_) (fun c26 => ?_)
     · --
      skip
      · --
       skip
       refine WP_region ?_
       refine O_move rfl rfl rfl ?_
       refine O_field F74_1 rfl rfl rfl ?_
       refine O_loadC Try.underlying9 rfl rfl rfl rfl (b3.ext hy12) rfl ?_
       refine O_field F74_3 rfl rfl rfl ?_
       refine O_loadC Try.underlying3 rfl rfl rfl rfl (b3.ext hy12) rfl ?_
       refine O_call enters29 rfl rfl rfl (RSet_c ((hcur.ext m4).ext hy12) (by (try simp only [lens]); omega)) (fun v13 w13 e13 h13 => ?_)
       have z13 := e13.size
       refine O_assign rfl rfl rfl ?_
       refine WL_end [(0, _), (11, _), (12, _), (13, _)] ⟨rfl, rfl, rfl, rfl, trivial⟩ ?_
       refine WP_region ?_
       refine O_add rfl rfl rfl rfl (wrap_i64_id (by omega) (by omega)) ?_
       refine O_move rfl rfl rfl ?_
       refine WL_end [(0, _), (11, _), (12, _), (13, _)] ⟨rfl, rfl, rfl, rfl, trivial⟩ ?_
       have hap := apE_S (E := E1) (show  l[i].1 = 1 by assumption)
       have hln := apE_len E1 l[i]
       have hr9 := hra.trans (rapL_step hilt (show nodev E1 l[i].2.1 = l[i].2.2.1 by first | assumption | exact Decidable.not_not.1 (by assumption)))
       exact ⟨(i + 1, _, apE E1 l[i]), ⟨rfl, rfl, rfl, rfl, trivial⟩, ⟨((e3.trans hy12).trans e13), by rw [hap]; exact (h13).sl, hr9, by omega, by omega⟩, by dsimp only; omega⟩
     · --
      by_cases hgs : egot E1 l[i].2.1
      · --
       skip
       refine WP_region ?_
       refine O_move rfl rfl rfl ?_
       refine O_field F74_1 rfl rfl rfl ?_
       refine O_loadC Try.underlying9 rfl rfl rfl rfl (b3.ext hy12) rfl ?_
       refine O_call enters31 rfl rfl rfl (RDrop_some ((hcur.ext m4).ext hy12) (by (try simp only [lens]); omega) hgs) (fun v14 w14 e14 h14 => ?_)
       have z14 := e14.size
       try simp only [val_dig] at h14
       obtain ⟨e9, rfl, he9⟩ := h14
       refine O_move rfl rfl rfl ?_
       refine O_extract rfl rfl rfl rfl ?_
       refine O_extract rfl rfl rfl rfl ?_
       refine O_assign rfl rfl rfl ?_
       refine WL_end [(0, _), (11, _), (12, _), (13, _)] ⟨rfl, rfl, rfl, rfl, trivial⟩ ?_
       refine WP_region ?_
       refine O_add rfl rfl rfl rfl (wrap_i64_id (by omega) (by omega)) ?_
       refine O_move rfl rfl rfl ?_
       refine WL_end [(0, _), (11, _), (12, _), (13, _)] ⟨rfl, rfl, rfl, rfl, trivial⟩ ?_
       have hap := apE_D (E := E1) (show ¬ l[i].1 = 1 by assumption)
       have hln := apE_len E1 l[i]
       have hr9 := hra.trans (rapL_step hilt (show nodev E1 l[i].2.1 = l[i].2.2.1 by first | assumption | exact Decidable.not_not.1 (by assumption)))
       exact ⟨(i + 1, _, apE E1 l[i]), ⟨rfl, rfl, rfl, rfl, trivial⟩, ⟨((e3.trans hy12).trans e14), by rw [hap]; exact (he9).sl, hr9, by omega, by omega⟩, by dsimp only; omega⟩
      · --
       skip
       refine WP_region ?_
       refine O_move rfl rfl rfl ?_
       refine O_field F74_1 rfl rfl rfl ?_
       refine O_loadC Try.underlying9 rfl rfl rfl rfl (b3.ext hy12) rfl ?_
       refine O_call enters31 rfl rfl rfl (RDrop_none ((hcur.ext m4).ext hy12) (by (try simp only [lens]); omega) hgs) (fun v15 w15 e15 h15 => ?_)
       have z15 := e15.size
       try simp only [val_dig] at h15
       obtain rfl := h15
       refine O_move rfl rfl rfl ?_
       refine O_extract rfl rfl rfl rfl ?_
       refine O_extract rfl rfl rfl rfl ?_
       refine O_assign rfl rfl rfl ?_
       refine WL_end [(0, _), (11, _), (12, _), (13, _)] ⟨rfl, rfl, rfl, rfl, trivial⟩ ?_
       refine WP_region ?_
       refine O_add rfl rfl rfl rfl (wrap_i64_id (by omega) (by omega)) ?_
       refine O_move rfl rfl rfl ?_
       refine WL_end [(0, _), (11, _), (12, _), (13, _)] ⟨rfl, rfl, rfl, rfl, trivial⟩ ?_
       have hap := apE_D (E := E1) (show ¬ l[i].1 = 1 by assumption)
       have hln := apE_len E1 l[i]
       have hr9 := hra.trans (rapL_step hilt (show nodev E1 l[i].2.1 = l[i].2.2.1 by first | assumption | exact Decidable.not_not.1 (by assumption)))
       exact ⟨(i + 1, _, apE E1 l[i]), ⟨rfl, rfl, rfl, rfl, trivial⟩, ⟨((e3.trans hy12).trans e15), by rw [hap, edrop_same hgs]; exact (((hcur.ext m4).ext hy12).ext e15), hr9, by omega, by omega⟩, by dsimp only; omega⟩
  · --
   refine WP_exit ?_
   refine inBlk_hit ?_
   refine WP_seq ?_
   refine WP_region ?_
   refine O_move rfl rfl rfl ?_
   refine O_assign rfl rfl rfl ?_
   refine O_assign rfl rfl rfl ?_
   refine WL_end [(4, _), (5, _)] ⟨rfl, rfl, trivial⟩ ?_
   refine WP_ret ?_
   refine ret2 Try.results58 rfl rfl ?_
   first
     | exact ⟨_, rfl, hE, .inr ⟨fun h => hvb h.1, rfl⟩⟩
     | exact ⟨_, rfl, hE, .inr ⟨(fun h => by have := h.2; rw [hra, rapL_stop (E := E1) hilt (by assumption)] at this; cases this), rfl⟩⟩
     | exact ⟨_, rfl, hE, .inl ⟨hvb, E1, hra.trans (rapL_end (by omega)), _, rfl, hcur⟩⟩
 · --
  skip
  refine WP_region ?_
  refine O_move rfl rfl rfl ?_
  refine O_call enters51 rfl rfl rfl (rcvalid_F hv (by (try simp only [lens]); omega) hvb) (fun v16 w16 e16 h16 => ?_)
  have z16 := e16.size
  obtain rfl := h16
  refine O_not rfl rfl rfl rfl ?_
  refine WL_end [(0, _), (1, _), (10, _)] ⟨rfl, rfl, rfl, trivial⟩ ?_
  refine WP_condT rfl ?_
  refine WP_seq ?_
  refine WP_region ?_
  refine O_assign rfl rfl rfl ?_
  refine O_assign rfl rfl rfl ?_
  refine WL_end [(4, _), (5, _)] ⟨rfl, rfl, trivial⟩ ?_
  refine WP_ret ?_
  refine ret2 Try.results58 rfl rfl ?_
  first
    | exact ⟨_, rfl, e16, .inr ⟨fun h => hvb h.1, rfl⟩⟩
    | exact ⟨_, rfl, e16, .inr ⟨(fun h => by have := h.2; rw [hra, rapL_stop (E := E1) hilt (by assumption)] at this; cases this), rfl⟩⟩
    | exact ⟨_, rfl, e16, .inl ⟨hvb, E1, hra.trans (rapL_end (by omega)), _, rfl, (by assumption)⟩⟩

end Go.Proofs.Ytoccimigjjndpaa
