/-
  Walks.
-/
import Derived.Test.YtoccimigjjndpaaV8
set_option linter.unusedVariables false
set_option linter.unusedSimpArgs false
set_option maxRecDepth 100000
namespace Go.Proofs.Ytoccimigjjndpaa
open Go Go.RowKit
theorem cvalid_F {w : World} {v : Value} {l : List Ch} (hs : SlC w v l) (hl : l.length ≤ 1000000000) (hv : ¬ validB l = true) : Calls Try.prog 48 #[v] w (Ret w fun r _ => r = .bool false) :=
  (cvalid_c hs hl).mono fun _ w' ⟨r, he, hx', hr⟩ => ⟨r, he, hx', by rw [hr, Bool.eq_false_iff.2 hv]⟩
theorem apL_snoc {E : Env} {l : List Ch} {i : Nat} (hi : i < l.length) : apL E (l.take (i + 1)) = apE (apL E (l.take i)) l[i] := by
  unfold apL
  rw [List.take_add_one, List.getElem?_eq_getElem hi, Option.toList_some, List.foldl_append]
  rfl
theorem apL_len : ∀ (l : List Ch) (E : Env), (apL E l).length ≤ E.length + l.length
  | [], E => Nat.le_refl _
  | c :: l, E => by
    have h1 := apL_len l (apE E c)
    have h2 := apE_len E c
    show (apL (apE E c) l).length ≤ _
    rw [List.length_cons]
    omega
theorem chkE_T {E : Env} {l : List Ch} (h : ∀ j (hj : j < l.length), nodev E l[j].2.1 = l[j].2.2.1) : chkE E l = true := by
  unfold chkE
  rw [List.all_eq_true]
  intro c hc
  obtain ⟨j, hj, rfl⟩ := List.mem_iff_getElem.1 hc
  exact decide_eq_true (h j hj)
theorem chkE_F {E : Env} {l : List Ch} {i : Nat} (hi : i < l.length) (h : ¬ nodev E l[i].2.1 = l[i].2.2.1) : ¬ chkE E l = true := fun k => by
  unfold chkE at k
  rw [List.all_eq_true] at k
  exact h (of_decide_eq_true (k l[i] (List.getElem_mem hi)))
theorem apE_S {E : Env} {c : Ch} (h : c.1 = 1) : apE E c = eset E c.2.1 c.2.2.2 := if_pos h
theorem apE_D {E : Env} {c : Ch} (h : ¬ c.1 = 1) : apE E c = edrop E c.2.1 := if_neg h
theorem edrop_same {E : Env} {s : ByteArray} (h : ¬ egot E s) : edrop E s = E := edrop_none (egot_none h)
/-- What Apply makes. -/
def RAp (w0 w : World) (g : Nat) (ps : List Part) (E : Env) (l : List Ch) (e : Ending) (w' : World) : Prop :=
  (ExtT TFP w w' ∧ Ext w0 w') ∧ (((validB l = true ∧ chkE E l = true) ∧ ∃ qs i u, e = .returned (.tuple #[.int .i64 i, .int .i64 0]) ∧ FG w0.heap.size w' g (ps ++ qs) ∧ qs.length ≤ 13000 ∧ Rep (ps ++ qs) i u ∧ Tr.Ord u ∧ Tr.Avl u ∧ u.env = apL E l) ∨
    (¬ (validB l = true ∧ chkE E l = true) ∧ e = .returned (.tuple #[.int .i64 (-1), .int .i64 1]) ∧ FG w0.heap.size w' g ps))

set_option maxHeartbeats 1000000 in
theorem apply_c {w0 w : World} {g : Nat} {ps : List Part} {i : Int} {t : Tr} {v : Value} {l : List Ch} (hE : Ext w0 w) (hF : FG w0.heap.size w g ps) (hR : Rep ps i t) (ho : t.Ord) (hA : t.Avl) (hs : ∀ w1, Ext w0 w1 → ExtT TFP w w1 → SlC w1 v l) (hl : l.length ≤ 100) (hc : t.cnt ≤ 1000) (hp : ps.length ≤ 1000000) :
    Calls Try.prog 57 #[.pointer (some ⟨g, 0, none⟩), .int .i64 i, v] w (RAp w0 w g ps t.env l) := by
 have zW := hE.size
 refine enter (args := [_, _, v]) Try.func57 rfl Try.ntmps57 rfl ?_
 refine WP_seq ?_
 refine WP_region ?_
 refine O_assign rfl rfl rfl ?_
 refine O_assign rfl rfl rfl ?_
 refine WL_end [(0, _), (1, _), (2, _)] ⟨rfl, rfl, rfl, trivial⟩ ?_
 refine WP_seq ?_
 refine WP_seq ?_
 by_cases hvb : validB l = true
 · --
  skip
  refine WP_region ?_
  refine O_move rfl rfl rfl ?_
  refine O_call enters48 rfl rfl rfl (cvalid_T (hs _ hE (show ExtT TFP _ _ from ExtT.refl _ _)) (by (try simp only [lens]); omega) hvb) (fun v1 w1 e1 h1 => ?_)
  have z1 := e1.size
  obtain rfl := h1
  refine O_not rfl rfl rfl rfl ?_
  refine WL_end [(0, _), (1, _), (2, _), (14, _)] ⟨rfl, rfl, rfl, rfl, trivial⟩ ?_
  refine WP_condF rfl ?_
  refine WP_skip ?_
  refine WP_seq ?_
  refine WP_seq ?_
  refine WP_region ?_
  refine O_move rfl rfl rfl ?_
  refine C_len Echange rfl rfl rfl (hs _ (hE.trans e1) (show ExtT TFP _ _ from (Ext.toT e1))) ?_
  refine O_move rfl rfl rfl ?_
  refine WL_end [(0, _), (1, _), (2, _), (15, _), (16, _), (17, _)] ⟨rfl, rfl, rfl, rfl, rfl, rfl, trivial⟩ ?_
  refine WP_block ?_
  refine WP_loop (S := Nat) (fun k => [(0, .pointer (some ⟨g, 0, none⟩)), (1, .int .i64 i), (2, v), (15, v), (16, .int .i64 (l.length : Nat)), (17, .int .i64 (k : Nat))]) (fun k w' => (Ext w0 w' ∧ ExtT TFP w w' ∧ FG w0.heap.size w' g ps) ∧ k ≤ l.length ∧ ∀ j (hj : j < l.length), j < k → nodev t.env l[j].2.1 = l[j].2.2.1) (fun k => l.length - k) 0 ⟨rfl, rfl, rfl, rfl, rfl, rfl, trivial⟩ ⟨⟨(hE.trans e1), (show ExtT TFP _ _ from (Ext.toT e1)), (hF.ext e1)⟩, Nat.zero_le _, fun j hj h0 => by omega⟩ ?_
  rintro k w9 ⟨⟨hE9, hT9, hF9⟩, hk, hal⟩
  have zE := hE9.size
  refine WP_seq ?_
  refine WP_region ?_
  refine O_lss rfl rfl rfl rfl rfl ?_
  refine WL_end [(0, _), (1, _), (2, _), (15, _), (16, _), (17, _), (18, _)] ⟨rfl, rfl, rfl, rfl, rfl, rfl, rfl, trivial⟩ ?_
  refine WP_seq ?_
  refine WP_condD rfl (fun c18 => ?_) (fun c18 => ?_)
  · --
   refine WP_skip ?_
   refine WP_seq ?_
   refine WP_block ?_
   refine WP_seq ?_
   have hlt : k < l.length := by omega
   · --
    skip
    refine WP_region ?_
    refine C_index Echange rfl rfl rfl rfl (hs _ hE9 (hT9.trans (show ExtT TFP _ _ from ExtT.refl _ _))) k rfl hlt (fun _ => ?_)
    refine K_load S74 rfl rfl rfl (SlC.row (j := k) (hs _ hE9 (hT9.trans (show ExtT TFP _ _ from ExtT.refl _ _))) hlt) rfl ?_
    refine O_alloc S74 rfl rfl (fun g2 w2 b2 e2 gl2 gh2 => ?_)
    have z2 := e2.size
    refine O_storeA (cs' := [_, _, _, _]) S74 rfl rfl rfl b2 rfl rfl (one_cons rfl (one_cons rfl (one_cons rfl (one_cons rfl one_nil)))) rfl (fun w3 b3 q3 => ?_)
    have z3 := Nat.le_of_eq q3.size.symm
    have e3 : Ext w0 w3 := q3.ext (hE9.trans e2) (by omega)
    have m4 := q3.ext e2 (by omega)
    refine WL_end [(0, _), (1, _), (2, _), (9, _), (15, _), (16, _), (17, _)] ⟨rfl, rfl, rfl, rfl, rfl, rfl, rfl, trivial⟩ ?_
    refine WP_seq ?_
    refine WP_sub [(0, _), (1, _), (2, _), (9, _), (15, _), (16, _), (17, _)] ⟨rfl, rfl, rfl, rfl, rfl, rfl, rfl, trivial⟩ ?_
    refine WP_anyR 7 [0, 1, 2, 9, 15, 16, 17] mixed rfl (by kernel_rfl) ?_
    apply AnyR_val [0] rfl (by kernel_rfl)
    · --
     intro y5 hy5
     have zy5 := hy5.size
     refine AllV_nil ?_
     refine O_move rfl rfl rfl ?_
     exact WL_nil ⟨(Ext.refl _), rfl⟩
    apply AnyR_val [1] rfl (by kernel_rfl)
    · --
     intro y6 hy6
     have zy6 := hy6.size
     refine AllV_nil ?_
     refine O_move rfl rfl rfl ?_
     exact WL_nil ⟨(Ext.refl _), rfl⟩
    apply AnyR_val [9] rfl (by kernel_rfl)
    · --
     intro y7 hy7
     have zy7 := hy7.size
     refine AllV_nil ?_
     refine O_field F74_1 rfl rfl rfl ?_
     exact WL_nil ⟨(Ext.refl _), rfl⟩
    apply AnyR_val [23] rfl (by kernel_rfl)
    · --
     intro y8 hy8
     have zy8 := hy8.size
     refine AllV_v ?_
     refine AllV_nil ?_
     refine O_loadC Try.underlying9 rfl rfl rfl rfl (b3.ext hy8) rfl ?_
     exact WL_nil ⟨(Ext.refl _), rfl⟩
    apply AnyR_val [21, 22, 24] rfl (by kernel_rfl)
    · --
     intro y9 hy9
     have zy9 := hy9.size
     refine AllV_v ?_
     refine AllV_v ?_
     refine AllV_v ?_
     refine AllV_nil ?_
     refine O_call enters75 rfl rfl rfl (node_c ((hF9.ext m4).ext hy9) hR ho) (fun v10 w10 e10 h10 => ?_)
     have z10 := e10.size
     obtain rfl := h10
     exact WL_nil ⟨e10, rfl⟩
    apply AnyR_val [9] rfl (by kernel_rfl)
    · --
     intro y11 hy11
     have zy11 := hy11.size
     refine AllV_nil ?_
     refine O_field F74_2 rfl rfl rfl ?_
     exact WL_nil ⟨(Ext.refl _), rfl⟩
    apply AnyR_val [26] rfl (by kernel_rfl)
    · --
     intro y12 hy12
     have zy12 := hy12.size
     refine AllV_v ?_
     refine AllV_nil ?_
     refine O_loadC Try.underlying3 rfl rfl rfl rfl (b3.ext hy12) rfl ?_
     exact WL_nil ⟨(Ext.refl _), rfl⟩
    refine AnyR_nil fun y13 hy13 => ?_
    have zy13 := hy13.size
    refine AllV_v ?_
    refine AllV_v ?_
    refine AllV_v ?_
    refine AllV_v ?_
    refine AllV_v ?_
    refine AllV_v ?_
    refine AllV_v ?_
    refine AllV_nil ?_
    refine O_neq rfl rfl rfl rfl rfl ?_
    refine WL_end [(0, _), (1, _), (2, _), (15, _), (16, _), (17, _), (28, _)] ⟨rfl, rfl, rfl, rfl, rfl, rfl, rfl, trivial⟩ ?_
    refine WP_condN rfl (fun c28 => ?_) (fun c28 => ?_)
    · --
     refine WP_seq ?_
     refine WP_region ?_
     refine O_assign rfl rfl rfl ?_
     refine O_assign rfl rfl rfl ?_
     refine WL_end [(6, _), (7, _)] ⟨rfl, rfl, trivial⟩ ?_
     refine WP_ret ?_
     refine inBlk_ret ?_
     refine inBlk_ret ?_
     refine ret2 Try.results57 rfl rfl ?_
     exact ⟨⟨(hT9.trans (show ExtT TFP _ _ from (ExtT.trans (Ext.toT m4) (Ext.toT hy13)))), (e3.trans hy13)⟩, .inr ⟨fun h => chkE_F hlt (by assumption) h.2, rfl, ((hF9.ext m4).ext hy13)⟩⟩
    · --
     refine WP_skip ?_
     refine WP_region ?_
     refine O_add rfl rfl rfl rfl (wrap_i64_id (by omega) (by omega)) ?_
     refine O_move rfl rfl rfl ?_
     refine WL_end [(0, _), (1, _), (2, _), (15, _), (16, _), (17, _)] ⟨rfl, rfl, rfl, rfl, rfl, rfl, trivial⟩ ?_
     exact ⟨k + 1, ⟨rfl, rfl, rfl, rfl, rfl, rfl, trivial⟩, ⟨⟨(e3.trans hy13), (hT9.trans (show ExtT TFP _ _ from (ExtT.trans (Ext.toT m4) (Ext.toT hy13)))), ((hF9.ext m4).ext hy13)⟩, by omega, fun j hj hjk => by
       rcases Nat.lt_or_ge j k with q | q
       · exact hal j hj q
       · obtain rfl : j = k := by omega
         assumption⟩, by omega⟩
  · --
   refine WP_exit ?_
   refine inBlk_hit ?_
   refine WP_seq ?_
   refine WP_seq ?_
   have hck : chkE t.env l = true := chkE_T fun j hj => hal j hj (by omega)
   · --
    skip
    refine WP_region ?_
    refine O_move rfl rfl rfl ?_
    refine C_len Echange rfl rfl rfl (hs _ hE9 (hT9.trans (show ExtT TFP _ _ from ExtT.refl _ _))) ?_
    refine O_move rfl rfl rfl ?_
    refine WL_end [(0, _), (1, _), (30, _), (31, _), (32, _)] ⟨rfl, rfl, rfl, rfl, rfl, trivial⟩ ?_
    refine WP_block ?_
    refine WP_loop (S := Nat × Int × List Part × Tr) (fun (k2, r, qs, u) => [(0, .pointer (some ⟨g, 0, none⟩)), (1, .int .i64 r), (30, v), (31, .int .i64 (l.length : Nat)), (32, .int .i64 (k2 : Nat))]) (fun (k2, r, qs, u) w' => (Ext w0 w' ∧ ExtT TFP w w' ∧ FG w0.heap.size w' g (ps ++ qs)) ∧ (Rep (ps ++ qs) r u ∧ Tr.Ord u ∧ Tr.Avl u ∧ u.env = apL t.env (l.take k2)) ∧ qs.length ≤ 130 * k2 ∧ k2 ≤ l.length) (fun (k2, r, qs, u) => l.length - k2) (0, i, [], t) ⟨rfl, rfl, rfl, rfl, rfl, trivial⟩ ⟨⟨hE9, (hT9.trans (show ExtT TFP _ _ from ExtT.refl _ _)), (by rw [List.append_nil]; exact hF9)⟩, ⟨(by rw [List.append_nil]; exact hR), ho, hA, rfl⟩, Nat.le_refl _, Nat.zero_le _⟩ ?_
    rintro ⟨k2, r, qs, u⟩ w8 ⟨⟨hE8, hT8, hF8⟩, ⟨hR8, hO8, hA8, hv8⟩, hq8, hk2⟩
    show WP _ _ _ _ _ [(0, .pointer (some ⟨g, 0, none⟩)), (1, .int .i64 r), (30, v), (31, .int .i64 (l.length : Nat)), (32, .int .i64 (k2 : Nat))] _
    have zE8 := hE8.size
    have hcn := Tr.env_length u
    have hal8 := apL_len (l.take k2) t.env
    rw [← hv8, List.length_take] at hal8
    have hct := Tr.env_length t
    have h40 := bigB u hA8 (by omega)
    refine WP_seq ?_
    refine WP_region ?_
    refine O_lss rfl rfl rfl rfl rfl ?_
    refine WL_end [(0, _), (1, _), (30, _), (31, _), (32, _), (33, _)] ⟨rfl, rfl, rfl, rfl, rfl, rfl, trivial⟩ ?_
    refine WP_seq ?_
    refine WP_condD rfl (fun c33 => ?_) (fun c33 => ?_)
    · --
     refine WP_skip ?_
     refine WP_seq ?_
     refine WP_block ?_
     refine WP_seq ?_
     have hlt : k2 < l.length := by omega
     · --
      skip
      refine WP_region ?_
      refine C_index Echange rfl rfl rfl rfl (hs _ hE8 (hT8.trans (show ExtT TFP _ _ from ExtT.refl _ _))) k2 rfl hlt (fun _ => ?_)
      refine K_load S74 rfl rfl rfl (SlC.row (j := k2) (hs _ hE8 (hT8.trans (show ExtT TFP _ _ from ExtT.refl _ _))) hlt) rfl ?_
      refine O_alloc S74 rfl rfl (fun g14 w14 b14 e14 gl14 gh14 => ?_)
      have z14 := e14.size
      refine O_storeA (cs' := [_, _, _, _]) S74 rfl rfl rfl b14 rfl rfl (one_cons rfl (one_cons rfl (one_cons rfl (one_cons rfl one_nil)))) rfl (fun w15 b15 q15 => ?_)
      have z15 := Nat.le_of_eq q15.size.symm
      have e15 : Ext w0 w15 := q15.ext (hE8.trans e14) (by omega)
      have m16 := q15.ext e14 (by omega)
      refine WL_end [(0, _), (1, _), (11, _), (30, _), (31, _), (32, _)] ⟨rfl, rfl, rfl, rfl, rfl, rfl, trivial⟩ ?_
      refine WP_seq ?_
      refine WP_region ?_
      refine O_field F74_0 rfl rfl rfl ?_
      refine O_loadC Try.underlying3 rfl rfl rfl rfl b15 rfl ?_
      refine O_eql rfl rfl rfl rfl rfl ?_
      refine WL_end [(0, _), (1, _), (11, _), (30, _), (31, _), (32, _), (38, _)] ⟨rfl, rfl, rfl, rfl, rfl, rfl, rfl, trivial⟩ ?_
      refine WP_condD rfl (fun c38 => ?_) (fun c38 => ?_)
      · --
       skip
       · --
        skip
        refine WP_region ?_
        refine O_move rfl rfl rfl ?_
        refine O_move rfl rfl rfl ?_
        refine O_field F74_1 rfl rfl rfl ?_
        refine O_loadC Try.underlying9 rfl rfl rfl rfl b15 rfl ?_
        refine O_field F74_3 rfl rfl rfl ?_
        refine O_loadC Try.underlying3 rfl rfl rfl rfl b15 rfl ?_
        refine O_callU enters28 rfl rfl rfl (Set_U (hF8.ext m16) (by omega) hR8 hO8 hA8 (by omega) (by rw [List.length_append]; omega) _ _) (fun qs7 r7 u7 w7 hT7 hb7 hF7 hq7 hR7 hO7 hA7 hv7 hs7 => ?_)
        have zT7 := hT7.size
        refine O_assign rfl rfl rfl ?_
        refine WL_end [(0, _), (1, _), (30, _), (31, _), (32, _)] ⟨rfl, rfl, rfl, rfl, rfl, trivial⟩ ?_
        refine WP_region ?_
        refine O_add rfl rfl rfl rfl (wrap_i64_id (by omega) (by omega)) ?_
        refine O_move rfl rfl rfl ?_
        refine WL_end [(0, _), (1, _), (30, _), (31, _), (32, _)] ⟨rfl, rfl, rfl, rfl, rfl, trivial⟩ ?_
        rw [hv8, ← apE_S (by assumption), ← apL_snoc hlt] at hv7
        exact ⟨(k2 + 1, r7, qs ++ qs7, u7), ⟨rfl, rfl, rfl, rfl, rfl, trivial⟩, ⟨⟨(hb7 _ e15 (Nat.le_refl _)), (hT8.trans (show ExtT TFP _ _ from (ExtT.trans (Ext.toT m16) (hT7.mono (by decide))))), by rw [← List.append_assoc]; exact hF7⟩, ⟨by rw [← List.append_assoc]; exact hR7, hO7, hA7, hv7⟩, by rw [List.length_append]; omega, by omega⟩, by dsimp only; omega⟩
      · --
       by_cases hgs : egot u.env l[k2].2.1
       · --
        skip
        refine WP_region ?_
        refine O_move rfl rfl rfl ?_
        refine O_move rfl rfl rfl ?_
        refine O_field F74_1 rfl rfl rfl ?_
        refine O_loadC Try.underlying9 rfl rfl rfl rfl b15 rfl ?_
        refine O_callU enters30 rfl rfl rfl (Drop_UT (hF8.ext m16) (by omega) hR8 hO8 hA8 (by omega) (by rw [List.length_append]; omega) _ hgs) (fun qs7 r7 u7 w7 hT7 hb7 hF7 hq7 hR7 hO7 hA7 hv7 hs7 => ?_)
        have zT7 := hT7.size
        refine O_move rfl rfl rfl ?_
        refine O_extract rfl rfl rfl rfl ?_
        refine O_extract rfl rfl rfl rfl ?_
        refine O_assign rfl rfl rfl ?_
        refine WL_end [(0, _), (1, _), (30, _), (31, _), (32, _)] ⟨rfl, rfl, rfl, rfl, rfl, trivial⟩ ?_
        refine WP_region ?_
        refine O_add rfl rfl rfl rfl (wrap_i64_id (by omega) (by omega)) ?_
        refine O_move rfl rfl rfl ?_
        refine WL_end [(0, _), (1, _), (30, _), (31, _), (32, _)] ⟨rfl, rfl, rfl, rfl, rfl, trivial⟩ ?_
        rw [hv8, ← apE_D (by assumption), ← apL_snoc hlt] at hv7
        exact ⟨(k2 + 1, r7, qs ++ qs7, u7), ⟨rfl, rfl, rfl, rfl, rfl, trivial⟩, ⟨⟨(hb7 _ e15 (Nat.le_refl _)), (hT8.trans (show ExtT TFP _ _ from (ExtT.trans (Ext.toT m16) (hT7.mono (by decide))))), by rw [← List.append_assoc]; exact hF7⟩, ⟨by rw [← List.append_assoc]; exact hR7, hO7, hA7, hv7⟩, by rw [List.length_append]; omega, by omega⟩, by dsimp only; omega⟩
       · --
        skip
        refine WP_region ?_
        refine O_move rfl rfl rfl ?_
        refine O_move rfl rfl rfl ?_
        refine O_field F74_1 rfl rfl rfl ?_
        refine O_loadC Try.underlying9 rfl rfl rfl rfl b15 rfl ?_
        refine O_call enters30 rfl rfl rfl (Drop_UF (hF8.ext m16) hR8 hO8 _ hgs) (fun v17 w17 e17 h17 => ?_)
        have z17 := e17.size
        try simp only [val_dig] at h17
        obtain rfl := h17
        refine O_move rfl rfl rfl ?_
        refine O_extract rfl rfl rfl rfl ?_
        refine O_extract rfl rfl rfl rfl ?_
        refine O_assign rfl rfl rfl ?_
        refine WL_end [(0, _), (1, _), (30, _), (31, _), (32, _)] ⟨rfl, rfl, rfl, rfl, rfl, trivial⟩ ?_
        refine WP_region ?_
        refine O_add rfl rfl rfl rfl (wrap_i64_id (by omega) (by omega)) ?_
        refine O_move rfl rfl rfl ?_
        refine WL_end [(0, _), (1, _), (30, _), (31, _), (32, _)] ⟨rfl, rfl, rfl, rfl, rfl, trivial⟩ ?_
        have hv7 : u.env = apL t.env (l.take (k2 + 1)) := by rw [apL_snoc hlt, apE_D (by assumption), ← hv8, edrop_same hgs]
        exact ⟨(k2 + 1, r, qs, u), ⟨rfl, rfl, rfl, rfl, rfl, trivial⟩, ⟨⟨(e15.trans e17), (hT8.trans (show ExtT TFP _ _ from (ExtT.trans (Ext.toT m16) (Ext.toT e17)))), ((hF8.ext m16).ext e17)⟩, ⟨hR8, hO8, hA8, hv7⟩, by omega, by omega⟩, by dsimp only; omega⟩
    · --
     refine WP_exit ?_
     refine inBlk_hit ?_
     refine WP_seq ?_
     refine WP_region ?_
     refine O_move rfl rfl rfl ?_
     refine O_assign rfl rfl rfl ?_
     refine O_assign rfl rfl rfl ?_
     refine WL_end [(6, _), (7, _)] ⟨rfl, rfl, trivial⟩ ?_
     refine WP_ret ?_
     refine ret2 Try.results57 rfl rfl ?_
     have hie : k2 = l.length := by omega
     subst hie
     rw [List.take_length] at hv8
     exact ⟨⟨(hT8.trans (show ExtT TFP _ _ from ExtT.refl _ _)), hE8⟩, .inl ⟨⟨hvb, hck⟩, qs, r, u, rfl, hF8, by omega, hR8, hO8, hA8, hv8⟩⟩
 · --
  skip
  refine WP_region ?_
  refine O_move rfl rfl rfl ?_
  refine O_call enters48 rfl rfl rfl (cvalid_F (hs _ hE (show ExtT TFP _ _ from ExtT.refl _ _)) (by (try simp only [lens]); omega) hvb) (fun v18 w18 e18 h18 => ?_)
  have z18 := e18.size
  obtain rfl := h18
  refine O_not rfl rfl rfl rfl ?_
  refine WL_end [(0, _), (1, _), (2, _), (14, _)] ⟨rfl, rfl, rfl, rfl, trivial⟩ ?_
  refine WP_condT rfl ?_
  refine WP_seq ?_
  refine WP_region ?_
  refine O_assign rfl rfl rfl ?_
  refine O_assign rfl rfl rfl ?_
  refine WL_end [(6, _), (7, _)] ⟨rfl, rfl, trivial⟩ ?_
  refine WP_ret ?_
  refine ret2 Try.results57 rfl rfl ?_
  exact ⟨⟨(show ExtT TFP _ _ from (Ext.toT e18)), (hE.trans e18)⟩, .inr ⟨fun h => hvb h.1, rfl, (hF.ext e18)⟩⟩

end Go.Proofs.Ytoccimigjjndpaa
