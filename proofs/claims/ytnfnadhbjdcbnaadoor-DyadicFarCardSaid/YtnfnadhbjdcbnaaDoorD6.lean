/-
  Walks.
-/
import Derived.Test.YtnfnadhbjdcbnaaDoorD5
import Derived.Test.YtnfnadhbjdcbnaaDoorY3
set_option linter.unusedVariables false
set_option linter.unusedSimpArgs false
set_option maxRecDepth 100000
namespace Go.Proofs.YtnfnadhbjdcbnaaDoor
open Go Go.RowKit
set_option maxHeartbeats 1000000 in
theorem iparse_c {w : World} {l : List UInt8} :
    Calls Tryd.prog 69 #[.string (bs l)] w (Ret w fun r w' => ∃ q, r = .tuple #[.agg #[.bool (decide (dpz l < 0)), q], .int .i64 (dpc l)] ∧ No w.heap.size 89 w' q (dig (dpz l).natAbs)) := by
 refine enter (args := [_]) Tryd.func69 rfl Tryd.ntmps69 rfl ?_
 refine WP_seq ?_
 refine WP_region ?_
 refine O_alloc S24 rfl rfl (fun g1 w1 b1 e1 gl1 gh1 => ?_)
 have z1 := e1.size
 refine O_assign rfl rfl rfl ?_
 refine WL_end [(0, _), (2, _)] ⟨rfl, rfl, trivial⟩ ?_
 refine WP_seq ?_
 refine WP_seq ?_
 refine WP_region ?_
 refine O_move rfl rfl rfl ?_
 refine S_len Tryd.underlying9 rfl rfl rfl ?_
 refine O_gtr rfl rfl rfl rfl rfl ?_
 refine WL_end [(0, _), (2, _), (10, _)] ⟨rfl, rfl, rfl, trivial⟩ ?_
 refine WP_condD rfl (fun c10 => ?_) (fun c10 => ?_)
 · --
  refine WP_seq ?_
  refine WP_region ?_
  refine O_build (cs := [_, _]) B24 rfl rfl rfl cells_nil rfl ?_
  refine O_storeA (cs' := [_, _]) S24 rfl rfl rfl b1 rfl rfl (one_cons rfl (one_cons rfl one_nil)) rfl (fun w2 b2 q2 => ?_)
  have z2 := Nat.le_of_eq q2.size.symm
  have e2 : Ext w w2 := q2.ext e1 (by omega)
  refine O_assign rfl rfl rfl ?_
  refine WL_end [(2, _), (3, _)] ⟨rfl, rfl, trivial⟩ ?_
  refine WP_ret ?_
  refine retL Tryd.results69 (.cell rfl S24 b2 rfl (.tmp rfl .nil)) ?_
  obtain ⟨hc, hz⟩ := dpc_big (l := l) (by omega)
  rw [hc, hz]
  exact ⟨_, rfl, e2, _, rfl, by rw [dig0]; exact No.nil _ _ _⟩
 · --
  refine WP_skip ?_
  refine WP_seq ?_
  rcases pcases l with hl0 | ⟨hl0, hs, h1, h2⟩ | ⟨hl0, hs, h1, h2⟩ | ⟨hl0, hs, h1⟩ | ⟨hl0, hs, h1⟩ | ⟨hl0, hs, h1⟩
  · --
   have hni : ¬ natok l := fun h => h.1 hl0
   have hs : sgn l = false := by rw [hl0]; rfl
   obtain ⟨hc, hz⟩ := dpc_bad (l := l) (by omega) (intok_not_pos hs hni)
   refine WP_region ?_
   refine O_move rfl rfl rfl ?_
   refine S_len Tryd.underlying9 rfl rfl rfl ?_
   refine O_gtr (t := false) rfl rfl rfl rfl (decide_eq_false (by rw [hl0]; simp)) ?_
   refine O_move rfl rfl rfl ?_
   refine O_skip rfl rfl ?_
   refine O_skip rfl rfl ?_
   refine O_skip rfl rfl ?_
   refine O_pickF rfl rfl rfl rfl ?_
   refine O_assign rfl rfl rfl ?_
   refine WL_end [(0, _), (2, _), (4, _)] ⟨rfl, rfl, rfl, trivial⟩ ?_
   refine WP_seq ?_
   refine WP_region ?_
   refine O_move rfl rfl rfl ?_
   refine O_assign rfl rfl rfl ?_
   refine WL_end [(0, _), (2, _), (4, _), (5, _)] ⟨rfl, rfl, rfl, rfl, trivial⟩ ?_
   refine WP_seq ?_
   refine WP_seq ?_
   refine WP_region ?_
   refine O_move rfl rfl rfl ?_
   refine WL_end [(0, _), (2, _), (4, _), (5, _), (21, _)] ⟨rfl, rfl, rfl, rfl, rfl, trivial⟩ ?_
   refine WP_condF rfl ?_
   refine WP_skip ?_
   refine WP_seq ?_
   refine WP_region ?_
   refine O_move rfl rfl rfl ?_
   refine O_call enters104 rfl rfl rfl (nat10_N (by skip; omega) hni) (fun v3 w3 e3 h3 => ?_)
   have z3 := e3.size
   try simp only [val_dig] at h3
   obtain rfl := h3
   refine O_move rfl rfl rfl ?_
   refine O_extract rfl rfl rfl rfl ?_
   refine O_extract rfl rfl rfl rfl ?_
   refine O_assign rfl rfl rfl ?_
   refine O_assign rfl rfl rfl ?_
   refine WL_end [(2, _), (4, _), (6, _), (7, _)] ⟨rfl, rfl, rfl, rfl, trivial⟩ ?_
   refine WP_seq ?_
   refine WP_seq ?_
   refine WP_region ?_
   refine O_move rfl rfl rfl ?_
   refine O_neq (t := true) rfl rfl rfl rfl (decide_eq_true (by decide)) ?_
   refine O_move rfl rfl rfl ?_
   refine O_skip rfl rfl ?_
   refine O_skip rfl rfl ?_
   refine O_skipU rfl rfl rfl ?_
   refine O_skipU rfl rfl rfl ?_
   refine O_skipU rfl rfl rfl ?_
   refine O_skip rfl rfl ?_
   refine O_pickT rfl rfl rfl rfl ?_
   refine WL_end [(2, _), (4, _), (6, _), (38, _)] ⟨rfl, rfl, rfl, rfl, trivial⟩ ?_
   refine WP_condT rfl ?_
   refine WP_seq ?_
   refine WP_region ?_
   refine O_build (cs := [_, _]) B24 rfl rfl rfl cells_nil rfl ?_
   refine O_storeA (cs' := [_, _]) S24 rfl rfl rfl (b1.ext e3) rfl rfl (one_cons rfl (one_cons rfl one_nil)) rfl (fun w4 b4 q4 => ?_)
   have z4 := Nat.le_of_eq q4.size.symm
   have e4 : Ext w w4 := q4.ext (e1.trans e3) (by omega)
   refine O_assign rfl rfl rfl ?_
   refine WL_end [(2, _), (3, _)] ⟨rfl, rfl, trivial⟩ ?_
   refine WP_ret ?_
   refine retL Tryd.results69 (.cell rfl S24 b4 rfl (.tmp rfl .nil)) ?_
   rw [hc, hz]
   exact ⟨_, rfl, e4, _, rfl, by rw [dig0]; exact No.nil _ _ _⟩
  · --
   have hne : 0 < l.length := List.length_pos_iff.2 hl0
   obtain ⟨b0, hb0⟩ : ∃ b, l[0]? = some b := ⟨l[0], List.getElem?_eq_getElem hne⟩
   have hb0lt := b0.toNat_lt
   have h45 : b0.toNat = 45 := by
     rcases Nat.decEq b0.toNat 45 with h | h
     · rw [sgn_cons' hb0 h] at hs; cases hs
     · exact h
   obtain ⟨hc, hz⟩ := dpc_bad (l := l) (by omega) (intok_not_neg hs (.inr h2))
   refine WP_region ?_
   refine O_move rfl rfl rfl ?_
   refine S_len Tryd.underlying9 rfl rfl rfl ?_
   refine O_gtr (t := true) rfl rfl rfl rfl (decide_eq_true (by omega)) ?_
   refine O_move rfl rfl rfl ?_
   refine O_move rfl rfl rfl ?_
   refine S_idx Tryd.underlying9 rfl rfl rfl rfl 0 rfl hb0 ?_
   refine O_eql (t := true) rfl rfl rfl rfl (decide_eq_true (by omega)) ?_
   refine O_pickT rfl rfl rfl rfl ?_
   refine O_assign rfl rfl rfl ?_
   refine WL_end [(0, _), (2, _), (4, _)] ⟨rfl, rfl, rfl, trivial⟩ ?_
   refine WP_seq ?_
   refine WP_region ?_
   refine O_move rfl rfl rfl ?_
   refine O_assign rfl rfl rfl ?_
   refine WL_end [(0, _), (2, _), (4, _), (5, _)] ⟨rfl, rfl, rfl, rfl, trivial⟩ ?_
   refine WP_seq ?_
   refine WP_seq ?_
   refine WP_region ?_
   refine O_move rfl rfl rfl ?_
   refine WL_end [(0, _), (2, _), (4, _), (5, _), (21, _)] ⟨rfl, rfl, rfl, rfl, rfl, trivial⟩ ?_
   refine WP_condT rfl ?_
   refine WP_region ?_
   refine O_move rfl rfl rfl ?_
   refine S_from Tryd.underlying9 rfl rfl rfl rfl 1 rfl hne ?_
   refine O_assign rfl rfl rfl ?_
   refine WL_end [(2, _), (4, _), (5, _)] ⟨rfl, rfl, rfl, trivial⟩ ?_
   refine WP_seq ?_
   refine WP_region ?_
   refine O_move rfl rfl rfl ?_
   refine O_call enters104 rfl rfl rfl (nat10_T (by simp only [List.length_drop]; omega) h1) (fun v5 w5 e5 h5 => ?_)
   have z5 := e5.size
   try simp only [val_dig] at h5
   obtain ⟨q5, rfl, hq5⟩ := h5
   refine O_move rfl rfl rfl ?_
   refine O_extract rfl rfl rfl rfl ?_
   refine O_extract rfl rfl rfl rfl ?_
   refine O_assign rfl rfl rfl ?_
   refine O_assign rfl rfl rfl ?_
   refine WL_end [(2, _), (4, _), (6, _), (7, _)] ⟨rfl, rfl, rfl, rfl, trivial⟩ ?_
   refine WP_seq ?_
   refine WP_seq ?_
   refine WP_region ?_
   refine O_move rfl rfl rfl ?_
   refine O_neq (t := false) rfl rfl rfl rfl (decide_eq_false (by decide)) ?_
   refine O_move rfl rfl rfl ?_
   refine O_move rfl rfl rfl ?_
   refine O_move rfl rfl rfl ?_
   refine O_move rfl rfl rfl ?_
   refine N_len T22 rfl rfl rfl hq5.nl ?_
   refine O_eql (t := true) rfl rfl rfl rfl (decide_eq_true (by rw [h2, dig_zero]; rfl)) ?_
   refine O_pickT rfl rfl rfl rfl ?_
   refine O_pickF rfl rfl rfl rfl ?_
   refine WL_end [(2, _), (4, _), (6, _), (38, _)] ⟨rfl, rfl, rfl, rfl, trivial⟩ ?_
   refine WP_condT rfl ?_
   refine WP_seq ?_
   refine WP_region ?_
   refine O_build (cs := [_, _]) B24 rfl rfl rfl cells_nil rfl ?_
   refine O_storeA (cs' := [_, _]) S24 rfl rfl rfl (b1.ext e5) rfl rfl (one_cons rfl (one_cons rfl one_nil)) rfl (fun w6 b6 q6 => ?_)
   have z6 := Nat.le_of_eq q6.size.symm
   have e6 : Ext w w6 := q6.ext (e1.trans e5) (by omega)
   refine O_assign rfl rfl rfl ?_
   refine WL_end [(2, _), (3, _)] ⟨rfl, rfl, trivial⟩ ?_
   refine WP_ret ?_
   refine retL Tryd.results69 (.cell rfl S24 b6 rfl (.tmp rfl .nil)) ?_
   rw [hc, hz]
   exact ⟨_, rfl, e6, _, rfl, by rw [dig0]; exact No.nil _ _ _⟩
  · --
   have hne : 0 < l.length := List.length_pos_iff.2 hl0
   obtain ⟨b0, hb0⟩ : ∃ b, l[0]? = some b := ⟨l[0], List.getElem?_eq_getElem hne⟩
   have hb0lt := b0.toNat_lt
   have h45 : b0.toNat = 45 := by
     rcases Nat.decEq b0.toNat 45 with h | h
     · rw [sgn_cons' hb0 h] at hs; cases hs
     · exact h
   obtain ⟨hio, hpi⟩ := intok_neg hs h1 h2
   obtain ⟨hc, hz⟩ := dpc_ok (l := l) (by omega) hio
   rw [hpi] at hz
   have hdl := dnum_dlen h1.2.1
   have hdl2 : (l.drop 1).length ≤ l.length := by simp
   refine WP_region ?_
   refine O_move rfl rfl rfl ?_
   refine S_len Tryd.underlying9 rfl rfl rfl ?_
   refine O_gtr (t := true) rfl rfl rfl rfl (decide_eq_true (by omega)) ?_
   refine O_move rfl rfl rfl ?_
   refine O_move rfl rfl rfl ?_
   refine S_idx Tryd.underlying9 rfl rfl rfl rfl 0 rfl hb0 ?_
   refine O_eql (t := true) rfl rfl rfl rfl (decide_eq_true (by omega)) ?_
   refine O_pickT rfl rfl rfl rfl ?_
   refine O_assign rfl rfl rfl ?_
   refine WL_end [(0, _), (2, _), (4, _)] ⟨rfl, rfl, rfl, trivial⟩ ?_
   refine WP_seq ?_
   refine WP_region ?_
   refine O_move rfl rfl rfl ?_
   refine O_assign rfl rfl rfl ?_
   refine WL_end [(0, _), (2, _), (4, _), (5, _)] ⟨rfl, rfl, rfl, rfl, trivial⟩ ?_
   refine WP_seq ?_
   refine WP_seq ?_
   refine WP_region ?_
   refine O_move rfl rfl rfl ?_
   refine WL_end [(0, _), (2, _), (4, _), (5, _), (21, _)] ⟨rfl, rfl, rfl, rfl, rfl, trivial⟩ ?_
   refine WP_condT rfl ?_
   refine WP_region ?_
   refine O_move rfl rfl rfl ?_
   refine S_from Tryd.underlying9 rfl rfl rfl rfl 1 rfl hne ?_
   refine O_assign rfl rfl rfl ?_
   refine WL_end [(2, _), (4, _), (5, _)] ⟨rfl, rfl, rfl, trivial⟩ ?_
   refine WP_seq ?_
   refine WP_region ?_
   refine O_move rfl rfl rfl ?_
   refine O_call enters104 rfl rfl rfl (nat10_T (by simp only [List.length_drop]; omega) h1) (fun v7 w7 e7 h7 => ?_)
   have z7 := e7.size
   try simp only [val_dig] at h7
   obtain ⟨q7, rfl, hq7⟩ := h7
   refine O_move rfl rfl rfl ?_
   refine O_extract rfl rfl rfl rfl ?_
   refine O_extract rfl rfl rfl rfl ?_
   refine O_assign rfl rfl rfl ?_
   refine O_assign rfl rfl rfl ?_
   refine WL_end [(2, _), (4, _), (6, _), (7, _)] ⟨rfl, rfl, rfl, rfl, trivial⟩ ?_
   refine WP_seq ?_
   refine WP_seq ?_
   refine WP_region ?_
   refine O_move rfl rfl rfl ?_
   refine O_neq (t := false) rfl rfl rfl rfl (decide_eq_false (by decide)) ?_
   refine O_move rfl rfl rfl ?_
   refine O_move rfl rfl rfl ?_
   refine O_move rfl rfl rfl ?_
   refine O_move rfl rfl rfl ?_
   refine N_len T22 rfl rfl rfl hq7.nl ?_
   refine O_eql (t := false) rfl rfl rfl rfl (decide_eq_false (fun h => h2 (dig_len_zero.1 (by omega)))) ?_
   refine O_pickT rfl rfl rfl rfl ?_
   refine O_pickF rfl rfl rfl rfl ?_
   refine WL_end [(2, _), (4, _), (6, _), (38, _)] ⟨rfl, rfl, rfl, rfl, trivial⟩ ?_
   refine WP_condF rfl ?_
   refine WP_skip ?_
   refine WP_seq ?_
   refine WP_region ?_
   refine O_move rfl rfl rfl ?_
   refine O_move rfl rfl rfl ?_
   refine O_call enters60 rfl rfl rfl (inat_c hq7.nl (by (try simp only [lens]); omega)) (fun v8 w8 e8 h8 => ?_)
   have z8 := e8.size
   try simp only [val_dig] at h8
   obtain ⟨q8, rfl, hq8⟩ := h8
   refine O_storeA (cs' := [_, _]) S24 rfl rfl rfl ((b1.ext e7).ext e8) rfl rfl (one_cons rfl (one_cons (hq8.nl).one one_nil)) rfl (fun w9 b9 q9 => ?_)
   have z9 := Nat.le_of_eq q9.size.symm
   have e9 : Ext w w9 := q9.ext ((e1.trans e7).trans e8) (by omega)
   refine O_assign rfl rfl rfl ?_
   refine WL_end [(2, _), (3, _)] ⟨rfl, rfl, trivial⟩ ?_
   refine WP_ret ?_
   refine retL Tryd.results69 (.cell rfl S24 b9 rfl (.tmp rfl .nil)) ?_
   rw [hc, hz]
   exact ⟨_, rfl, e9, _, rfl, (hq8.chgBk ((b1.ext e7).ext e8) (by decide) q9).mono (by omega)⟩
  · --
   have hne : 0 < l.length := List.length_pos_iff.2 hl0
   obtain ⟨b0, hb0⟩ : ∃ b, l[0]? = some b := ⟨l[0], List.getElem?_eq_getElem hne⟩
   have hb0lt := b0.toNat_lt
   have h45 : b0.toNat = 45 := by
     rcases Nat.decEq b0.toNat 45 with h | h
     · rw [sgn_cons' hb0 h] at hs; cases hs
     · exact h
   obtain ⟨hc, hz⟩ := dpc_bad (l := l) (by omega) (intok_not_neg hs (.inl h1))
   refine WP_region ?_
   refine O_move rfl rfl rfl ?_
   refine S_len Tryd.underlying9 rfl rfl rfl ?_
   refine O_gtr (t := true) rfl rfl rfl rfl (decide_eq_true (by omega)) ?_
   refine O_move rfl rfl rfl ?_
   refine O_move rfl rfl rfl ?_
   refine S_idx Tryd.underlying9 rfl rfl rfl rfl 0 rfl hb0 ?_
   refine O_eql (t := true) rfl rfl rfl rfl (decide_eq_true (by omega)) ?_
   refine O_pickT rfl rfl rfl rfl ?_
   refine O_assign rfl rfl rfl ?_
   refine WL_end [(0, _), (2, _), (4, _)] ⟨rfl, rfl, rfl, trivial⟩ ?_
   refine WP_seq ?_
   refine WP_region ?_
   refine O_move rfl rfl rfl ?_
   refine O_assign rfl rfl rfl ?_
   refine WL_end [(0, _), (2, _), (4, _), (5, _)] ⟨rfl, rfl, rfl, rfl, trivial⟩ ?_
   refine WP_seq ?_
   refine WP_seq ?_
   refine WP_region ?_
   refine O_move rfl rfl rfl ?_
   refine WL_end [(0, _), (2, _), (4, _), (5, _), (21, _)] ⟨rfl, rfl, rfl, rfl, rfl, trivial⟩ ?_
   refine WP_condT rfl ?_
   refine WP_region ?_
   refine O_move rfl rfl rfl ?_
   refine S_from Tryd.underlying9 rfl rfl rfl rfl 1 rfl hne ?_
   refine O_assign rfl rfl rfl ?_
   refine WL_end [(2, _), (4, _), (5, _)] ⟨rfl, rfl, rfl, trivial⟩ ?_
   refine WP_seq ?_
   refine WP_region ?_
   refine O_move rfl rfl rfl ?_
   refine O_call enters104 rfl rfl rfl (nat10_N (by simp only [List.length_drop]; omega) h1) (fun v10 w10 e10 h10 => ?_)
   have z10 := e10.size
   try simp only [val_dig] at h10
   obtain rfl := h10
   refine O_move rfl rfl rfl ?_
   refine O_extract rfl rfl rfl rfl ?_
   refine O_extract rfl rfl rfl rfl ?_
   refine O_assign rfl rfl rfl ?_
   refine O_assign rfl rfl rfl ?_
   refine WL_end [(2, _), (4, _), (6, _), (7, _)] ⟨rfl, rfl, rfl, rfl, trivial⟩ ?_
   refine WP_seq ?_
   refine WP_seq ?_
   refine WP_region ?_
   refine O_move rfl rfl rfl ?_
   refine O_neq (t := true) rfl rfl rfl rfl (decide_eq_true (by decide)) ?_
   refine O_move rfl rfl rfl ?_
   refine O_skip rfl rfl ?_
   refine O_skip rfl rfl ?_
   refine O_skipU rfl rfl rfl ?_
   refine O_skipU rfl rfl rfl ?_
   refine O_skipU rfl rfl rfl ?_
   refine O_skip rfl rfl ?_
   refine O_pickT rfl rfl rfl rfl ?_
   refine WL_end [(2, _), (4, _), (6, _), (38, _)] ⟨rfl, rfl, rfl, rfl, trivial⟩ ?_
   refine WP_condT rfl ?_
   refine WP_seq ?_
   refine WP_region ?_
   refine O_build (cs := [_, _]) B24 rfl rfl rfl cells_nil rfl ?_
   refine O_storeA (cs' := [_, _]) S24 rfl rfl rfl (b1.ext e10) rfl rfl (one_cons rfl (one_cons rfl one_nil)) rfl (fun w11 b11 q11 => ?_)
   have z11 := Nat.le_of_eq q11.size.symm
   have e11 : Ext w w11 := q11.ext (e1.trans e10) (by omega)
   refine O_assign rfl rfl rfl ?_
   refine WL_end [(2, _), (3, _)] ⟨rfl, rfl, trivial⟩ ?_
   refine WP_ret ?_
   refine retL Tryd.results69 (.cell rfl S24 b11 rfl (.tmp rfl .nil)) ?_
   rw [hc, hz]
   exact ⟨_, rfl, e11, _, rfl, by rw [dig0]; exact No.nil _ _ _⟩
  · --
   have hne : 0 < l.length := List.length_pos_iff.2 hl0
   obtain ⟨b0, hb0⟩ : ∃ b, l[0]? = some b := ⟨l[0], List.getElem?_eq_getElem hne⟩
   have hb0lt := b0.toNat_lt
   have h45 : ¬ b0.toNat = 45 := fun h => by rw [sgn_cons hb0 h] at hs; cases hs
   obtain ⟨hio, hpi⟩ := intok_pos hs h1
   obtain ⟨hc, hz⟩ := dpc_ok (l := l) (by omega) hio
   rw [hpi] at hz
   have hdl := dnum_dlen h1.2.1
   refine WP_region ?_
   refine O_move rfl rfl rfl ?_
   refine S_len Tryd.underlying9 rfl rfl rfl ?_
   refine O_gtr (t := true) rfl rfl rfl rfl (decide_eq_true (by omega)) ?_
   refine O_move rfl rfl rfl ?_
   refine O_move rfl rfl rfl ?_
   refine S_idx Tryd.underlying9 rfl rfl rfl rfl 0 rfl hb0 ?_
   refine O_eql (t := false) rfl rfl rfl rfl (decide_eq_false (by omega)) ?_
   refine O_pickT rfl rfl rfl rfl ?_
   refine O_assign rfl rfl rfl ?_
   refine WL_end [(0, _), (2, _), (4, _)] ⟨rfl, rfl, rfl, trivial⟩ ?_
   refine WP_seq ?_
   refine WP_region ?_
   refine O_move rfl rfl rfl ?_
   refine O_assign rfl rfl rfl ?_
   refine WL_end [(0, _), (2, _), (4, _), (5, _)] ⟨rfl, rfl, rfl, rfl, trivial⟩ ?_
   refine WP_seq ?_
   refine WP_seq ?_
   refine WP_region ?_
   refine O_move rfl rfl rfl ?_
   refine WL_end [(0, _), (2, _), (4, _), (5, _), (21, _)] ⟨rfl, rfl, rfl, rfl, rfl, trivial⟩ ?_
   refine WP_condF rfl ?_
   refine WP_skip ?_
   refine WP_seq ?_
   refine WP_region ?_
   refine O_move rfl rfl rfl ?_
   refine O_call enters104 rfl rfl rfl (nat10_T (by skip; omega) h1) (fun v12 w12 e12 h12 => ?_)
   have z12 := e12.size
   try simp only [val_dig] at h12
   obtain ⟨q12, rfl, hq12⟩ := h12
   refine O_move rfl rfl rfl ?_
   refine O_extract rfl rfl rfl rfl ?_
   refine O_extract rfl rfl rfl rfl ?_
   refine O_assign rfl rfl rfl ?_
   refine O_assign rfl rfl rfl ?_
   refine WL_end [(2, _), (4, _), (6, _), (7, _)] ⟨rfl, rfl, rfl, rfl, trivial⟩ ?_
   refine WP_seq ?_
   refine WP_seq ?_
   refine WP_region ?_
   refine O_move rfl rfl rfl ?_
   refine O_neq (t := false) rfl rfl rfl rfl (decide_eq_false (by decide)) ?_
   refine O_move rfl rfl rfl ?_
   refine O_move rfl rfl rfl ?_
   refine O_move rfl rfl rfl ?_
   refine O_skip rfl rfl ?_
   refine O_skip rfl rfl ?_
   refine O_skip rfl rfl ?_
   refine O_pickF rfl rfl rfl rfl ?_
   refine O_pickF rfl rfl rfl rfl ?_
   refine WL_end [(2, _), (4, _), (6, _), (38, _)] ⟨rfl, rfl, rfl, rfl, trivial⟩ ?_
   refine WP_condF rfl ?_
   refine WP_skip ?_
   refine WP_seq ?_
   refine WP_region ?_
   refine O_move rfl rfl rfl ?_
   refine O_move rfl rfl rfl ?_
   refine O_call enters60 rfl rfl rfl (inat_c hq12.nl (by (try simp only [lens]); omega)) (fun v13 w13 e13 h13 => ?_)
   have z13 := e13.size
   try simp only [val_dig] at h13
   obtain ⟨q13, rfl, hq13⟩ := h13
   refine O_storeA (cs' := [_, _]) S24 rfl rfl rfl ((b1.ext e12).ext e13) rfl rfl (one_cons rfl (one_cons (hq13.nl).one one_nil)) rfl (fun w14 b14 q14 => ?_)
   have z14 := Nat.le_of_eq q14.size.symm
   have e14 : Ext w w14 := q14.ext ((e1.trans e12).trans e13) (by omega)
   refine O_assign rfl rfl rfl ?_
   refine WL_end [(2, _), (3, _)] ⟨rfl, rfl, trivial⟩ ?_
   refine WP_ret ?_
   refine retL Tryd.results69 (.cell rfl S24 b14 rfl (.tmp rfl .nil)) ?_
   rw [hc, hz]
   exact ⟨_, rfl, e14, _, rfl, (hq13.chgBk ((b1.ext e12).ext e13) (by decide) q14).mono (by omega)⟩
  · --
   have hne : 0 < l.length := List.length_pos_iff.2 hl0
   obtain ⟨b0, hb0⟩ : ∃ b, l[0]? = some b := ⟨l[0], List.getElem?_eq_getElem hne⟩
   have hb0lt := b0.toNat_lt
   have h45 : ¬ b0.toNat = 45 := fun h => by rw [sgn_cons hb0 h] at hs; cases hs
   obtain ⟨hc, hz⟩ := dpc_bad (l := l) (by omega) (intok_not_pos hs h1)
   refine WP_region ?_
   refine O_move rfl rfl rfl ?_
   refine S_len Tryd.underlying9 rfl rfl rfl ?_
   refine O_gtr (t := true) rfl rfl rfl rfl (decide_eq_true (by omega)) ?_
   refine O_move rfl rfl rfl ?_
   refine O_move rfl rfl rfl ?_
   refine S_idx Tryd.underlying9 rfl rfl rfl rfl 0 rfl hb0 ?_
   refine O_eql (t := false) rfl rfl rfl rfl (decide_eq_false (by omega)) ?_
   refine O_pickT rfl rfl rfl rfl ?_
   refine O_assign rfl rfl rfl ?_
   refine WL_end [(0, _), (2, _), (4, _)] ⟨rfl, rfl, rfl, trivial⟩ ?_
   refine WP_seq ?_
   refine WP_region ?_
   refine O_move rfl rfl rfl ?_
   refine O_assign rfl rfl rfl ?_
   refine WL_end [(0, _), (2, _), (4, _), (5, _)] ⟨rfl, rfl, rfl, rfl, trivial⟩ ?_
   refine WP_seq ?_
   refine WP_seq ?_
   refine WP_region ?_
   refine O_move rfl rfl rfl ?_
   refine WL_end [(0, _), (2, _), (4, _), (5, _), (21, _)] ⟨rfl, rfl, rfl, rfl, rfl, trivial⟩ ?_
   refine WP_condF rfl ?_
   refine WP_skip ?_
   refine WP_seq ?_
   refine WP_region ?_
   refine O_move rfl rfl rfl ?_
   refine O_call enters104 rfl rfl rfl (nat10_N (by skip; omega) h1) (fun v15 w15 e15 h15 => ?_)
   have z15 := e15.size
   try simp only [val_dig] at h15
   obtain rfl := h15
   refine O_move rfl rfl rfl ?_
   refine O_extract rfl rfl rfl rfl ?_
   refine O_extract rfl rfl rfl rfl ?_
   refine O_assign rfl rfl rfl ?_
   refine O_assign rfl rfl rfl ?_
   refine WL_end [(2, _), (4, _), (6, _), (7, _)] ⟨rfl, rfl, rfl, rfl, trivial⟩ ?_
   refine WP_seq ?_
   refine WP_seq ?_
   refine WP_region ?_
   refine O_move rfl rfl rfl ?_
   refine O_neq (t := true) rfl rfl rfl rfl (decide_eq_true (by decide)) ?_
   refine O_move rfl rfl rfl ?_
   refine O_skip rfl rfl ?_
   refine O_skip rfl rfl ?_
   refine O_skipU rfl rfl rfl ?_
   refine O_skipU rfl rfl rfl ?_
   refine O_skipU rfl rfl rfl ?_
   refine O_skip rfl rfl ?_
   refine O_pickT rfl rfl rfl rfl ?_
   refine WL_end [(2, _), (4, _), (6, _), (38, _)] ⟨rfl, rfl, rfl, rfl, trivial⟩ ?_
   refine WP_condT rfl ?_
   refine WP_seq ?_
   refine WP_region ?_
   refine O_build (cs := [_, _]) B24 rfl rfl rfl cells_nil rfl ?_
   refine O_storeA (cs' := [_, _]) S24 rfl rfl rfl (b1.ext e15) rfl rfl (one_cons rfl (one_cons rfl one_nil)) rfl (fun w16 b16 q16 => ?_)
   have z16 := Nat.le_of_eq q16.size.symm
   have e16 : Ext w w16 := q16.ext (e1.trans e15) (by omega)
   refine O_assign rfl rfl rfl ?_
   refine WL_end [(2, _), (3, _)] ⟨rfl, rfl, trivial⟩ ?_
   refine WP_ret ?_
   refine retL Tryd.results69 (.cell rfl S24 b16 rfl (.tmp rfl .nil)) ?_
   rw [hc, hz]
   exact ⟨_, rfl, e16, _, rfl, by rw [dig0]; exact No.nil _ _ _⟩

set_option maxHeartbeats 1000000 in
theorem riparse_c {w : World} {l : List UInt8} :
    Calls Tryd.prog 73 #[.string (bs l)] w (Ret w fun r w' => ∃ q, r = .tuple #[.agg #[.bool (decide (dpz l < 0)), q], .int .i64 (dpc l)] ∧ No w.heap.size 89 w' q (dig (dpz l).natAbs)) := by
 refine enter (args := [_]) Tryd.func73 rfl Tryd.ntmps73 rfl ?_
 refine WP_seq ?_
 refine WP_region ?_
 refine O_alloc S24 rfl rfl (fun g1 w1 b1 e1 gl1 gh1 => ?_)
 have z1 := e1.size
 refine O_assign rfl rfl rfl ?_
 refine WL_end [(0, _), (2, _)] ⟨rfl, rfl, trivial⟩ ?_
 refine WP_seq ?_
 refine WP_seq ?_
 refine WP_region ?_
 refine O_move rfl rfl rfl ?_
 refine S_len Tryd.underlying9 rfl rfl rfl ?_
 refine O_gtr rfl rfl rfl rfl rfl ?_
 refine WL_end [(0, _), (2, _), (9, _)] ⟨rfl, rfl, rfl, trivial⟩ ?_
 refine WP_condD rfl (fun c9 => ?_) (fun c9 => ?_)
 · --
  refine WP_seq ?_
  refine WP_region ?_
  refine O_build (cs := [_, _]) B24 rfl rfl rfl cells_nil rfl ?_
  refine O_storeA (cs' := [_, _]) S24 rfl rfl rfl b1 rfl rfl (one_cons rfl (one_cons rfl one_nil)) rfl (fun w2 b2 q2 => ?_)
  have z2 := Nat.le_of_eq q2.size.symm
  have e2 : Ext w w2 := q2.ext e1 (by omega)
  refine O_assign rfl rfl rfl ?_
  refine WL_end [(2, _), (3, _)] ⟨rfl, rfl, trivial⟩ ?_
  refine WP_ret ?_
  refine retL Tryd.results73 (.cell rfl S24 b2 rfl (.tmp rfl .nil)) ?_
  obtain ⟨hc, hz⟩ := dpc_big (l := l) (by omega)
  rw [hc, hz]
  exact ⟨_, rfl, e2, _, rfl, by rw [dig0]; exact No.nil _ _ _⟩
 · --
  refine WP_skip ?_
  refine WP_seq ?_
  rcases pcases l with hl0 | ⟨hl0, hs, h1, h2⟩ | ⟨hl0, hs, h1, h2⟩ | ⟨hl0, hs, h1⟩ | ⟨hl0, hs, h1⟩ | ⟨hl0, hs, h1⟩
  · --
   have hni : ¬ natok l := fun h => h.1 hl0
   have hs : sgn l = false := by rw [hl0]; rfl
   obtain ⟨hc, hz⟩ := dpc_bad (l := l) (by omega) (intok_not_pos hs hni)
   refine WP_region ?_
   refine O_move rfl rfl rfl ?_
   refine S_len Tryd.underlying9 rfl rfl rfl ?_
   refine O_gtr (t := false) rfl rfl rfl rfl (decide_eq_false (by rw [hl0]; simp)) ?_
   refine O_move rfl rfl rfl ?_
   refine O_skip rfl rfl ?_
   refine O_skip rfl rfl ?_
   refine O_skip rfl rfl ?_
   refine O_pickF rfl rfl rfl rfl ?_
   refine O_assign rfl rfl rfl ?_
   refine WL_end [(0, _), (2, _), (4, _)] ⟨rfl, rfl, rfl, trivial⟩ ?_
   refine WP_seq ?_
   refine WP_seq ?_
   refine WP_region ?_
   refine O_move rfl rfl rfl ?_
   refine WL_end [(0, _), (2, _), (4, _), (19, _)] ⟨rfl, rfl, rfl, rfl, trivial⟩ ?_
   refine WP_condF rfl ?_
   refine WP_skip ?_
   refine WP_seq ?_
   refine WP_region ?_
   refine O_move rfl rfl rfl ?_
   refine O_call enters108 rfl rfl rfl (rnat10_N (by skip; omega) hni) (fun v3 w3 e3 h3 => ?_)
   have z3 := e3.size
   try simp only [val_dig] at h3
   obtain rfl := h3
   refine O_move rfl rfl rfl ?_
   refine O_extract rfl rfl rfl rfl ?_
   refine O_extract rfl rfl rfl rfl ?_
   refine O_assign rfl rfl rfl ?_
   refine O_assign rfl rfl rfl ?_
   refine WL_end [(2, _), (4, _), (5, _), (6, _)] ⟨rfl, rfl, rfl, rfl, trivial⟩ ?_
   refine WP_seq ?_
   refine WP_seq ?_
   refine WP_region ?_
   refine O_move rfl rfl rfl ?_
   refine O_neq (t := true) rfl rfl rfl rfl (decide_eq_true (by decide)) ?_
   refine O_move rfl rfl rfl ?_
   refine O_skip rfl rfl ?_
   refine O_skip rfl rfl ?_
   refine O_skipU rfl rfl rfl ?_
   refine O_skipU rfl rfl rfl ?_
   refine O_skipU rfl rfl rfl ?_
   refine O_skip rfl rfl ?_
   refine O_pickT rfl rfl rfl rfl ?_
   refine WL_end [(2, _), (4, _), (5, _), (36, _)] ⟨rfl, rfl, rfl, rfl, trivial⟩ ?_
   refine WP_condT rfl ?_
   refine WP_seq ?_
   refine WP_region ?_
   refine O_build (cs := [_, _]) B24 rfl rfl rfl cells_nil rfl ?_
   refine O_storeA (cs' := [_, _]) S24 rfl rfl rfl (b1.ext e3) rfl rfl (one_cons rfl (one_cons rfl one_nil)) rfl (fun w4 b4 q4 => ?_)
   have z4 := Nat.le_of_eq q4.size.symm
   have e4 : Ext w w4 := q4.ext (e1.trans e3) (by omega)
   refine O_assign rfl rfl rfl ?_
   refine WL_end [(2, _), (3, _)] ⟨rfl, rfl, trivial⟩ ?_
   refine WP_ret ?_
   refine retL Tryd.results73 (.cell rfl S24 b4 rfl (.tmp rfl .nil)) ?_
   rw [hc, hz]
   exact ⟨_, rfl, e4, _, rfl, by rw [dig0]; exact No.nil _ _ _⟩
  · --
   have hne : 0 < l.length := List.length_pos_iff.2 hl0
   obtain ⟨b0, hb0⟩ : ∃ b, l[0]? = some b := ⟨l[0], List.getElem?_eq_getElem hne⟩
   have hb0lt := b0.toNat_lt
   have h45 : b0.toNat = 45 := by
     rcases Nat.decEq b0.toNat 45 with h | h
     · rw [sgn_cons' hb0 h] at hs; cases hs
     · exact h
   obtain ⟨hc, hz⟩ := dpc_bad (l := l) (by omega) (intok_not_neg hs (.inr h2))
   refine WP_region ?_
   refine O_move rfl rfl rfl ?_
   refine S_len Tryd.underlying9 rfl rfl rfl ?_
   refine O_gtr (t := true) rfl rfl rfl rfl (decide_eq_true (by omega)) ?_
   refine O_move rfl rfl rfl ?_
   refine O_move rfl rfl rfl ?_
   refine S_idx Tryd.underlying9 rfl rfl rfl rfl 0 rfl hb0 ?_
   refine O_eql (t := true) rfl rfl rfl rfl (decide_eq_true (by omega)) ?_
   refine O_pickT rfl rfl rfl rfl ?_
   refine O_assign rfl rfl rfl ?_
   refine WL_end [(0, _), (2, _), (4, _)] ⟨rfl, rfl, rfl, trivial⟩ ?_
   refine WP_seq ?_
   refine WP_seq ?_
   refine WP_region ?_
   refine O_move rfl rfl rfl ?_
   refine WL_end [(0, _), (2, _), (4, _), (19, _)] ⟨rfl, rfl, rfl, rfl, trivial⟩ ?_
   refine WP_condT rfl ?_
   refine WP_region ?_
   refine O_move rfl rfl rfl ?_
   refine S_from Tryd.underlying9 rfl rfl rfl rfl 1 rfl hne ?_
   refine O_assign rfl rfl rfl ?_
   refine WL_end [(0, _), (2, _), (4, _)] ⟨rfl, rfl, rfl, trivial⟩ ?_
   refine WP_seq ?_
   refine WP_region ?_
   refine O_move rfl rfl rfl ?_
   refine O_call enters108 rfl rfl rfl (rnat10_T (by simp only [List.length_drop]; omega) h1) (fun v5 w5 e5 h5 => ?_)
   have z5 := e5.size
   try simp only [val_dig] at h5
   obtain ⟨q5, rfl, hq5⟩ := h5
   refine O_move rfl rfl rfl ?_
   refine O_extract rfl rfl rfl rfl ?_
   refine O_extract rfl rfl rfl rfl ?_
   refine O_assign rfl rfl rfl ?_
   refine O_assign rfl rfl rfl ?_
   refine WL_end [(2, _), (4, _), (5, _), (6, _)] ⟨rfl, rfl, rfl, rfl, trivial⟩ ?_
   refine WP_seq ?_
   refine WP_seq ?_
   refine WP_region ?_
   refine O_move rfl rfl rfl ?_
   refine O_neq (t := false) rfl rfl rfl rfl (decide_eq_false (by decide)) ?_
   refine O_move rfl rfl rfl ?_
   refine O_move rfl rfl rfl ?_
   refine O_move rfl rfl rfl ?_
   refine O_move rfl rfl rfl ?_
   refine N_len T22 rfl rfl rfl hq5.nl ?_
   refine O_eql (t := true) rfl rfl rfl rfl (decide_eq_true (by rw [h2, dig_zero]; rfl)) ?_
   refine O_pickT rfl rfl rfl rfl ?_
   refine O_pickF rfl rfl rfl rfl ?_
   refine WL_end [(2, _), (4, _), (5, _), (36, _)] ⟨rfl, rfl, rfl, rfl, trivial⟩ ?_
   refine WP_condT rfl ?_
   refine WP_seq ?_
   refine WP_region ?_
   refine O_build (cs := [_, _]) B24 rfl rfl rfl cells_nil rfl ?_
   refine O_storeA (cs' := [_, _]) S24 rfl rfl rfl (b1.ext e5) rfl rfl (one_cons rfl (one_cons rfl one_nil)) rfl (fun w6 b6 q6 => ?_)
   have z6 := Nat.le_of_eq q6.size.symm
   have e6 : Ext w w6 := q6.ext (e1.trans e5) (by omega)
   refine O_assign rfl rfl rfl ?_
   refine WL_end [(2, _), (3, _)] ⟨rfl, rfl, trivial⟩ ?_
   refine WP_ret ?_
   refine retL Tryd.results73 (.cell rfl S24 b6 rfl (.tmp rfl .nil)) ?_
   rw [hc, hz]
   exact ⟨_, rfl, e6, _, rfl, by rw [dig0]; exact No.nil _ _ _⟩
  · --
   have hne : 0 < l.length := List.length_pos_iff.2 hl0
   obtain ⟨b0, hb0⟩ : ∃ b, l[0]? = some b := ⟨l[0], List.getElem?_eq_getElem hne⟩
   have hb0lt := b0.toNat_lt
   have h45 : b0.toNat = 45 := by
     rcases Nat.decEq b0.toNat 45 with h | h
     · rw [sgn_cons' hb0 h] at hs; cases hs
     · exact h
   obtain ⟨hio, hpi⟩ := intok_neg hs h1 h2
   obtain ⟨hc, hz⟩ := dpc_ok (l := l) (by omega) hio
   rw [hpi] at hz
   have hdl := dnum_dlen h1.2.1
   have hdl2 : (l.drop 1).length ≤ l.length := by simp
   refine WP_region ?_
   refine O_move rfl rfl rfl ?_
   refine S_len Tryd.underlying9 rfl rfl rfl ?_
   refine O_gtr (t := true) rfl rfl rfl rfl (decide_eq_true (by omega)) ?_
   refine O_move rfl rfl rfl ?_
   refine O_move rfl rfl rfl ?_
   refine S_idx Tryd.underlying9 rfl rfl rfl rfl 0 rfl hb0 ?_
   refine O_eql (t := true) rfl rfl rfl rfl (decide_eq_true (by omega)) ?_
   refine O_pickT rfl rfl rfl rfl ?_
   refine O_assign rfl rfl rfl ?_
   refine WL_end [(0, _), (2, _), (4, _)] ⟨rfl, rfl, rfl, trivial⟩ ?_
   refine WP_seq ?_
   refine WP_seq ?_
   refine WP_region ?_
   refine O_move rfl rfl rfl ?_
   refine WL_end [(0, _), (2, _), (4, _), (19, _)] ⟨rfl, rfl, rfl, rfl, trivial⟩ ?_
   refine WP_condT rfl ?_
   refine WP_region ?_
   refine O_move rfl rfl rfl ?_
   refine S_from Tryd.underlying9 rfl rfl rfl rfl 1 rfl hne ?_
   refine O_assign rfl rfl rfl ?_
   refine WL_end [(0, _), (2, _), (4, _)] ⟨rfl, rfl, rfl, trivial⟩ ?_
   refine WP_seq ?_
   refine WP_region ?_
   refine O_move rfl rfl rfl ?_
   refine O_call enters108 rfl rfl rfl (rnat10_T (by simp only [List.length_drop]; omega) h1) (fun v7 w7 e7 h7 => ?_)
   have z7 := e7.size
   try simp only [val_dig] at h7
   obtain ⟨q7, rfl, hq7⟩ := h7
   refine O_move rfl rfl rfl ?_
   refine O_extract rfl rfl rfl rfl ?_
   refine O_extract rfl rfl rfl rfl ?_
   refine O_assign rfl rfl rfl ?_
   refine O_assign rfl rfl rfl ?_
   refine WL_end [(2, _), (4, _), (5, _), (6, _)] ⟨rfl, rfl, rfl, rfl, trivial⟩ ?_
   refine WP_seq ?_
   refine WP_seq ?_
   refine WP_region ?_
   refine O_move rfl rfl rfl ?_
   refine O_neq (t := false) rfl rfl rfl rfl (decide_eq_false (by decide)) ?_
   refine O_move rfl rfl rfl ?_
   refine O_move rfl rfl rfl ?_
   refine O_move rfl rfl rfl ?_
   refine O_move rfl rfl rfl ?_
   refine N_len T22 rfl rfl rfl hq7.nl ?_
   refine O_eql (t := false) rfl rfl rfl rfl (decide_eq_false (fun h => h2 (dig_len_zero.1 (by omega)))) ?_
   refine O_pickT rfl rfl rfl rfl ?_
   refine O_pickF rfl rfl rfl rfl ?_
   refine WL_end [(2, _), (4, _), (5, _), (36, _)] ⟨rfl, rfl, rfl, rfl, trivial⟩ ?_
   refine WP_condF rfl ?_
   refine WP_skip ?_
   refine WP_seq ?_
   refine WP_region ?_
   refine O_move rfl rfl rfl ?_
   refine O_move rfl rfl rfl ?_
   refine O_call enters47 rfl rfl rfl (rinat_c hq7.nl (by (try simp only [lens]); omega)) (fun v8 w8 e8 h8 => ?_)
   have z8 := e8.size
   try simp only [val_dig] at h8
   obtain ⟨q8, rfl, hq8⟩ := h8
   refine O_storeA (cs' := [_, _]) S24 rfl rfl rfl ((b1.ext e7).ext e8) rfl rfl (one_cons rfl (one_cons (hq8.nl).one one_nil)) rfl (fun w9 b9 q9 => ?_)
   have z9 := Nat.le_of_eq q9.size.symm
   have e9 : Ext w w9 := q9.ext ((e1.trans e7).trans e8) (by omega)
   refine O_assign rfl rfl rfl ?_
   refine WL_end [(2, _), (3, _)] ⟨rfl, rfl, trivial⟩ ?_
   refine WP_ret ?_
   refine retL Tryd.results73 (.cell rfl S24 b9 rfl (.tmp rfl .nil)) ?_
   rw [hc, hz]
   exact ⟨_, rfl, e9, _, rfl, (hq8.chgBk ((b1.ext e7).ext e8) (by decide) q9).mono (by omega)⟩
  · --
   have hne : 0 < l.length := List.length_pos_iff.2 hl0
   obtain ⟨b0, hb0⟩ : ∃ b, l[0]? = some b := ⟨l[0], List.getElem?_eq_getElem hne⟩
   have hb0lt := b0.toNat_lt
   have h45 : b0.toNat = 45 := by
     rcases Nat.decEq b0.toNat 45 with h | h
     · rw [sgn_cons' hb0 h] at hs; cases hs
     · exact h
   obtain ⟨hc, hz⟩ := dpc_bad (l := l) (by omega) (intok_not_neg hs (.inl h1))
   refine WP_region ?_
   refine O_move rfl rfl rfl ?_
   refine S_len Tryd.underlying9 rfl rfl rfl ?_
   refine O_gtr (t := true) rfl rfl rfl rfl (decide_eq_true (by omega)) ?_
   refine O_move rfl rfl rfl ?_
   refine O_move rfl rfl rfl ?_
   refine S_idx Tryd.underlying9 rfl rfl rfl rfl 0 rfl hb0 ?_
   refine O_eql (t := true) rfl rfl rfl rfl (decide_eq_true (by omega)) ?_
   refine O_pickT rfl rfl rfl rfl ?_
   refine O_assign rfl rfl rfl ?_
   refine WL_end [(0, _), (2, _), (4, _)] ⟨rfl, rfl, rfl, trivial⟩ ?_
   refine WP_seq ?_
   refine WP_seq ?_
   refine WP_region ?_
   refine O_move rfl rfl rfl ?_
   refine WL_end [(0, _), (2, _), (4, _), (19, _)] ⟨rfl, rfl, rfl, rfl, trivial⟩ ?_
   refine WP_condT rfl ?_
   refine WP_region ?_
   refine O_move rfl rfl rfl ?_
   refine S_from Tryd.underlying9 rfl rfl rfl rfl 1 rfl hne ?_
   refine O_assign rfl rfl rfl ?_
   refine WL_end [(0, _), (2, _), (4, _)] ⟨rfl, rfl, rfl, trivial⟩ ?_
   refine WP_seq ?_
   refine WP_region ?_
   refine O_move rfl rfl rfl ?_
   refine O_call enters108 rfl rfl rfl (rnat10_N (by simp only [List.length_drop]; omega) h1) (fun v10 w10 e10 h10 => ?_)
   have z10 := e10.size
   try simp only [val_dig] at h10
   obtain rfl := h10
   refine O_move rfl rfl rfl ?_
   refine O_extract rfl rfl rfl rfl ?_
   refine O_extract rfl rfl rfl rfl ?_
   refine O_assign rfl rfl rfl ?_
   refine O_assign rfl rfl rfl ?_
   refine WL_end [(2, _), (4, _), (5, _), (6, _)] ⟨rfl, rfl, rfl, rfl, trivial⟩ ?_
   refine WP_seq ?_
   refine WP_seq ?_
   refine WP_region ?_
   refine O_move rfl rfl rfl ?_
   refine O_neq (t := true) rfl rfl rfl rfl (decide_eq_true (by decide)) ?_
   refine O_move rfl rfl rfl ?_
   refine O_skip rfl rfl ?_
   refine O_skip rfl rfl ?_
   refine O_skipU rfl rfl rfl ?_
   refine O_skipU rfl rfl rfl ?_
   refine O_skipU rfl rfl rfl ?_
   refine O_skip rfl rfl ?_
   refine O_pickT rfl rfl rfl rfl ?_
   refine WL_end [(2, _), (4, _), (5, _), (36, _)] ⟨rfl, rfl, rfl, rfl, trivial⟩ ?_
   refine WP_condT rfl ?_
   refine WP_seq ?_
   refine WP_region ?_
   refine O_build (cs := [_, _]) B24 rfl rfl rfl cells_nil rfl ?_
   refine O_storeA (cs' := [_, _]) S24 rfl rfl rfl (b1.ext e10) rfl rfl (one_cons rfl (one_cons rfl one_nil)) rfl (fun w11 b11 q11 => ?_)
   have z11 := Nat.le_of_eq q11.size.symm
   have e11 : Ext w w11 := q11.ext (e1.trans e10) (by omega)
   refine O_assign rfl rfl rfl ?_
   refine WL_end [(2, _), (3, _)] ⟨rfl, rfl, trivial⟩ ?_
   refine WP_ret ?_
   refine retL Tryd.results73 (.cell rfl S24 b11 rfl (.tmp rfl .nil)) ?_
   rw [hc, hz]
   exact ⟨_, rfl, e11, _, rfl, by rw [dig0]; exact No.nil _ _ _⟩
  · --
   have hne : 0 < l.length := List.length_pos_iff.2 hl0
   obtain ⟨b0, hb0⟩ : ∃ b, l[0]? = some b := ⟨l[0], List.getElem?_eq_getElem hne⟩
   have hb0lt := b0.toNat_lt
   have h45 : ¬ b0.toNat = 45 := fun h => by rw [sgn_cons hb0 h] at hs; cases hs
   obtain ⟨hio, hpi⟩ := intok_pos hs h1
   obtain ⟨hc, hz⟩ := dpc_ok (l := l) (by omega) hio
   rw [hpi] at hz
   have hdl := dnum_dlen h1.2.1
   refine WP_region ?_
   refine O_move rfl rfl rfl ?_
   refine S_len Tryd.underlying9 rfl rfl rfl ?_
   refine O_gtr (t := true) rfl rfl rfl rfl (decide_eq_true (by omega)) ?_
   refine O_move rfl rfl rfl ?_
   refine O_move rfl rfl rfl ?_
   refine S_idx Tryd.underlying9 rfl rfl rfl rfl 0 rfl hb0 ?_
   refine O_eql (t := false) rfl rfl rfl rfl (decide_eq_false (by omega)) ?_
   refine O_pickT rfl rfl rfl rfl ?_
   refine O_assign rfl rfl rfl ?_
   refine WL_end [(0, _), (2, _), (4, _)] ⟨rfl, rfl, rfl, trivial⟩ ?_
   refine WP_seq ?_
   refine WP_seq ?_
   refine WP_region ?_
   refine O_move rfl rfl rfl ?_
   refine WL_end [(0, _), (2, _), (4, _), (19, _)] ⟨rfl, rfl, rfl, rfl, trivial⟩ ?_
   refine WP_condF rfl ?_
   refine WP_skip ?_
   refine WP_seq ?_
   refine WP_region ?_
   refine O_move rfl rfl rfl ?_
   refine O_call enters108 rfl rfl rfl (rnat10_T (by skip; omega) h1) (fun v12 w12 e12 h12 => ?_)
   have z12 := e12.size
   try simp only [val_dig] at h12
   obtain ⟨q12, rfl, hq12⟩ := h12
   refine O_move rfl rfl rfl ?_
   refine O_extract rfl rfl rfl rfl ?_
   refine O_extract rfl rfl rfl rfl ?_
   refine O_assign rfl rfl rfl ?_
   refine O_assign rfl rfl rfl ?_
   refine WL_end [(2, _), (4, _), (5, _), (6, _)] ⟨rfl, rfl, rfl, rfl, trivial⟩ ?_
   refine WP_seq ?_
   refine WP_seq ?_
   refine WP_region ?_
   refine O_move rfl rfl rfl ?_
   refine O_neq (t := false) rfl rfl rfl rfl (decide_eq_false (by decide)) ?_
   refine O_move rfl rfl rfl ?_
   refine O_move rfl rfl rfl ?_
   refine O_move rfl rfl rfl ?_
   refine O_skip rfl rfl ?_
   refine O_skip rfl rfl ?_
   refine O_skip rfl rfl ?_
   refine O_pickF rfl rfl rfl rfl ?_
   refine O_pickF rfl rfl rfl rfl ?_
   refine WL_end [(2, _), (4, _), (5, _), (36, _)] ⟨rfl, rfl, rfl, rfl, trivial⟩ ?_
   refine WP_condF rfl ?_
   refine WP_skip ?_
   refine WP_seq ?_
   refine WP_region ?_
   refine O_move rfl rfl rfl ?_
   refine O_move rfl rfl rfl ?_
   refine O_call enters47 rfl rfl rfl (rinat_c hq12.nl (by (try simp only [lens]); omega)) (fun v13 w13 e13 h13 => ?_)
   have z13 := e13.size
   try simp only [val_dig] at h13
   obtain ⟨q13, rfl, hq13⟩ := h13
   refine O_storeA (cs' := [_, _]) S24 rfl rfl rfl ((b1.ext e12).ext e13) rfl rfl (one_cons rfl (one_cons (hq13.nl).one one_nil)) rfl (fun w14 b14 q14 => ?_)
   have z14 := Nat.le_of_eq q14.size.symm
   have e14 : Ext w w14 := q14.ext ((e1.trans e12).trans e13) (by omega)
   refine O_assign rfl rfl rfl ?_
   refine WL_end [(2, _), (3, _)] ⟨rfl, rfl, trivial⟩ ?_
   refine WP_ret ?_
   refine retL Tryd.results73 (.cell rfl S24 b14 rfl (.tmp rfl .nil)) ?_
   rw [hc, hz]
   exact ⟨_, rfl, e14, _, rfl, (hq13.chgBk ((b1.ext e12).ext e13) (by decide) q14).mono (by omega)⟩
  · --
   have hne : 0 < l.length := List.length_pos_iff.2 hl0
   obtain ⟨b0, hb0⟩ : ∃ b, l[0]? = some b := ⟨l[0], List.getElem?_eq_getElem hne⟩
   have hb0lt := b0.toNat_lt
   have h45 : ¬ b0.toNat = 45 := fun h => by rw [sgn_cons hb0 h] at hs; cases hs
   obtain ⟨hc, hz⟩ := dpc_bad (l := l) (by omega) (intok_not_pos hs h1)
   refine WP_region ?_
   refine O_move rfl rfl rfl ?_
   refine S_len Tryd.underlying9 rfl rfl rfl ?_
   refine O_gtr (t := true) rfl rfl rfl rfl (decide_eq_true (by omega)) ?_
   refine O_move rfl rfl rfl ?_
   refine O_move rfl rfl rfl ?_
   refine S_idx Tryd.underlying9 rfl rfl rfl rfl 0 rfl hb0 ?_
   refine O_eql (t := false) rfl rfl rfl rfl (decide_eq_false (by omega)) ?_
   refine O_pickT rfl rfl rfl rfl ?_
   refine O_assign rfl rfl rfl ?_
   refine WL_end [(0, _), (2, _), (4, _)] ⟨rfl, rfl, rfl, trivial⟩ ?_
   refine WP_seq ?_
   refine WP_seq ?_
   refine WP_region ?_
   refine O_move rfl rfl rfl ?_
   refine WL_end [(0, _), (2, _), (4, _), (19, _)] ⟨rfl, rfl, rfl, rfl, trivial⟩ ?_
   refine WP_condF rfl ?_
   refine WP_skip ?_
   refine WP_seq ?_
   refine WP_region ?_
   refine O_move rfl rfl rfl ?_
   refine O_call enters108 rfl rfl rfl (rnat10_N (by skip; omega) h1) (fun v15 w15 e15 h15 => ?_)
   have z15 := e15.size
   try simp only [val_dig] at h15
   obtain rfl := h15
   refine O_move rfl rfl rfl ?_
   refine O_extract rfl rfl rfl rfl ?_
   refine O_extract rfl rfl rfl rfl ?_
   refine O_assign rfl rfl rfl ?_
   refine O_assign rfl rfl rfl ?_
   refine WL_end [(2, _), (4, _), (5, _), (6, _)] ⟨rfl, rfl, rfl, rfl, trivial⟩ ?_
   refine WP_seq ?_
   refine WP_seq ?_
   refine WP_region ?_
   refine O_move rfl rfl rfl ?_
   refine O_neq (t := true) rfl rfl rfl rfl (decide_eq_true (by decide)) ?_
   refine O_move rfl rfl rfl ?_
   refine O_skip rfl rfl ?_
   refine O_skip rfl rfl ?_
   refine O_skipU rfl rfl rfl ?_
   refine O_skipU rfl rfl rfl ?_
   refine O_skipU rfl rfl rfl ?_
   refine O_skip rfl rfl ?_
   refine O_pickT rfl rfl rfl rfl ?_
   refine WL_end [(2, _), (4, _), (5, _), (36, _)] ⟨rfl, rfl, rfl, rfl, trivial⟩ ?_
   refine WP_condT rfl ?_
   refine WP_seq ?_
   refine WP_region ?_
   refine O_build (cs := [_, _]) B24 rfl rfl rfl cells_nil rfl ?_
   refine O_storeA (cs' := [_, _]) S24 rfl rfl rfl (b1.ext e15) rfl rfl (one_cons rfl (one_cons rfl one_nil)) rfl (fun w16 b16 q16 => ?_)
   have z16 := Nat.le_of_eq q16.size.symm
   have e16 : Ext w w16 := q16.ext (e1.trans e15) (by omega)
   refine O_assign rfl rfl rfl ?_
   refine WL_end [(2, _), (3, _)] ⟨rfl, rfl, trivial⟩ ?_
   refine WP_ret ?_
   refine retL Tryd.results73 (.cell rfl S24 b16 rfl (.tmp rfl .nil)) ?_
   rw [hc, hz]
   exact ⟨_, rfl, e16, _, rfl, by rw [dig0]; exact No.nil _ _ _⟩

theorem ifmt_c {w : World} {vx : Value} {x : Int} {bx : Bool} (hbx : bx = decide (x < 0)) (hx : Nl w vx (dig x.natAbs)) (hlx : (dig x.natAbs).length ≤ 100000) :
    Calls Tryd.prog 71 #[.agg #[.bool bx, vx]] w (Ret w fun r _ => r = .string (bs (fint x))) := by
 subst hbx
 have hdl := dstr_dlen hlx (by decide)
 refine enter (args := [_]) Tryd.func71 rfl Tryd.ntmps71 rfl ?_
 refine WP_seq ?_
 refine WP_region ?_
 refine O_box _ rfl rfl rfl rfl (fun g1 w1 b1 e1 gl1 gh1 => ?_)
 have z1 := e1.size
 refine O_assign rfl rfl rfl ?_
 refine WL_end [(1, _)] ⟨rfl, trivial⟩ ?_
 refine WP_seq ?_
 refine WP_seq ?_
 refine WP_region ?_
 refine O_field F24_0 rfl rfl rfl ?_
 refine O_loadC Tryd.underlying4 rfl rfl rfl rfl b1 rfl ?_
 refine WL_end [(1, _), (4, _)] ⟨rfl, rfl, trivial⟩ ?_
 refine WP_condD rfl (fun c4 => ?_) (fun c4 => ?_)
 · --
  refine WP_seq ?_
  refine WP_region ?_
  refine O_field F24_1 rfl rfl rfl ?_
  refine O_loadC Tryd.underlying22 rfl rfl rfl rfl b1 rfl ?_
  refine O_call enters106 rfl rfl rfl (digits_c (hx.ext e1) (by (try simp only [lens]); omega)) (fun v2 w2 e2 h2 => ?_)
  have z2 := e2.size
  obtain rfl := h2
  refine S_add rfl rfl rfl rfl (by (try simp only [List.length_append, List.length_cons, List.length_nil]); omega) ?_
  refine O_assign rfl rfl rfl ?_
  refine WL_end [(2, _)] ⟨rfl, trivial⟩ ?_
  refine WP_ret ?_
  refine ret1 Tryd.results71 rfl ?_
  first
    | exact ⟨_, rfl, (e1.trans e2), by unfold fint; rw [if_pos (by assumption)]; rfl⟩
    | exact ⟨_, rfl, (e1.trans e2), by unfold fint; rw [if_neg (by assumption)]⟩
 · --
  refine WP_skip ?_
  refine WP_seq ?_
  refine WP_region ?_
  refine O_field F24_1 rfl rfl rfl ?_
  refine O_loadC Tryd.underlying22 rfl rfl rfl rfl b1 rfl ?_
  refine O_call enters106 rfl rfl rfl (digits_c (hx.ext e1) (by (try simp only [lens]); omega)) (fun v3 w3 e3 h3 => ?_)
  have z3 := e3.size
  obtain rfl := h3
  refine O_assign rfl rfl rfl ?_
  refine WL_end [(2, _)] ⟨rfl, trivial⟩ ?_
  refine WP_ret ?_
  refine ret1 Tryd.results71 rfl ?_
  first
    | exact ⟨_, rfl, (e1.trans e3), by unfold fint; rw [if_pos (by assumption)]; rfl⟩
    | exact ⟨_, rfl, (e1.trans e3), by unfold fint; rw [if_neg (by assumption)]⟩

theorem rifmt_c {w : World} {vx : Value} {x : Int} {bx : Bool} (hbx : bx = decide (x < 0)) (hx : Nl w vx (dig x.natAbs)) (hlx : (dig x.natAbs).length ≤ 100000) :
    Calls Tryd.prog 72 #[.agg #[.bool bx, vx]] w (Ret w fun r _ => r = .string (bs (fint x))) := by
 subst hbx
 have hdl := dstr_dlen hlx (by decide)
 refine enter (args := [_]) Tryd.func72 rfl Tryd.ntmps72 rfl ?_
 refine WP_seq ?_
 refine WP_region ?_
 refine O_box _ rfl rfl rfl rfl (fun g1 w1 b1 e1 gl1 gh1 => ?_)
 have z1 := e1.size
 refine O_assign rfl rfl rfl ?_
 refine WL_end [(1, _)] ⟨rfl, trivial⟩ ?_
 refine WP_seq ?_
 refine WP_seq ?_
 refine WP_region ?_
 refine O_field F24_0 rfl rfl rfl ?_
 refine O_loadC Tryd.underlying4 rfl rfl rfl rfl b1 rfl ?_
 refine WL_end [(1, _), (4, _)] ⟨rfl, rfl, trivial⟩ ?_
 refine WP_condD rfl (fun c4 => ?_) (fun c4 => ?_)
 · --
  refine WP_seq ?_
  refine WP_region ?_
  refine O_field F24_1 rfl rfl rfl ?_
  refine O_loadC Tryd.underlying22 rfl rfl rfl rfl b1 rfl ?_
  refine O_call enters107 rfl rfl rfl (rdigits_c (hx.ext e1) (by (try simp only [lens]); omega)) (fun v2 w2 e2 h2 => ?_)
  have z2 := e2.size
  obtain rfl := h2
  refine S_add rfl rfl rfl rfl (by (try simp only [List.length_append, List.length_cons, List.length_nil]); omega) ?_
  refine O_assign rfl rfl rfl ?_
  refine WL_end [(2, _)] ⟨rfl, trivial⟩ ?_
  refine WP_ret ?_
  refine ret1 Tryd.results72 rfl ?_
  first
    | exact ⟨_, rfl, (e1.trans e2), by unfold fint; rw [if_pos (by assumption)]; rfl⟩
    | exact ⟨_, rfl, (e1.trans e2), by unfold fint; rw [if_neg (by assumption)]⟩
 · --
  refine WP_skip ?_
  refine WP_seq ?_
  refine WP_region ?_
  refine O_field F24_1 rfl rfl rfl ?_
  refine O_loadC Tryd.underlying22 rfl rfl rfl rfl b1 rfl ?_
  refine O_call enters107 rfl rfl rfl (rdigits_c (hx.ext e1) (by (try simp only [lens]); omega)) (fun v3 w3 e3 h3 => ?_)
  have z3 := e3.size
  obtain rfl := h3
  refine O_assign rfl rfl rfl ?_
  refine WL_end [(2, _)] ⟨rfl, trivial⟩ ?_
  refine WP_ret ?_
  refine ret1 Tryd.results72 rfl ?_
  first
    | exact ⟨_, rfl, (e1.trans e3), by unfold fint; rw [if_pos (by assumption)]; rfl⟩
    | exact ⟨_, rfl, (e1.trans e3), by unfold fint; rw [if_neg (by assumption)]⟩

end Go.Proofs.YtnfnadhbjdcbnaaDoor
