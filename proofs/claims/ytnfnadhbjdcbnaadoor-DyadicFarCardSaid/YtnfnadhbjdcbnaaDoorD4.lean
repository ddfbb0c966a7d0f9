/-
  Walks.
-/
import Derived.Test.YtnfnadhbjdcbnaaDoorD3
set_option linter.unusedVariables false
set_option linter.unusedSimpArgs false
set_option maxRecDepth 100000
namespace Go.Proofs.YtnfnadhbjdcbnaaDoor
open Go Go.RowKit
theorem rnat10_L {w : World} {l : List UInt8} (hl : 20001 < l.length) :
    Calls Tryd.prog 108 #[.string (bs l)] w (Ret w fun r _ => r = .tuple #[.slice none 0 0, .int .i64 7]) := by
 refine enter (args := [_]) Tryd.func108 rfl Tryd.ntmps108 rfl ?_
 refine WP_seq ?_
 refine WP_region ?_
 refine O_assign rfl rfl rfl ?_
 refine O_assign rfl rfl rfl ?_
 refine WL_end [(0, _)] ⟨rfl, trivial⟩ ?_
 refine WP_seq ?_
 refine WP_seq ?_
 refine WP_region ?_
 refine O_move rfl rfl rfl ?_
 refine S_len Tryd.underlying9 rfl rfl rfl ?_
 refine O_gtr (t := true) rfl rfl rfl rfl (decide_eq_true (by omega)) ?_
 refine WL_end [(0, _), (8, _)] ⟨rfl, rfl, trivial⟩ ?_
 refine WP_condT rfl ?_
 refine WP_seq ?_
 refine WP_region ?_
 refine O_assign rfl rfl rfl ?_
 refine O_assign rfl rfl rfl ?_
 refine WL_end [(2, _), (3, _)] ⟨rfl, rfl, trivial⟩ ?_
 refine WP_ret ?_
 refine ret2 Tryd.results108 rfl rfl ?_
 exact ⟨_, rfl, (Ext.refl _), rfl⟩
set_option maxHeartbeats 1000000 in
theorem rnat10_T {w : World} {l : List UInt8} (hl : l.length ≤ 20001) (hok : natok l) :
    Calls Tryd.prog 108 #[.string (bs l)] w (Ret w fun r w' => ∃ q, r = .tuple #[q, .int .i64 0] ∧ No w.heap.size 89 w' q (dig (dnum l))) := by
 refine enter (args := [_]) Tryd.func108 rfl Tryd.ntmps108 rfl ?_
 refine WP_seq ?_
 refine WP_region ?_
 refine O_assign rfl rfl rfl ?_
 refine O_assign rfl rfl rfl ?_
 refine WL_end [(0, _)] ⟨rfl, trivial⟩ ?_
 refine WP_seq ?_
 refine WP_seq ?_
 refine WP_region ?_
 refine O_move rfl rfl rfl ?_
 refine S_len Tryd.underlying9 rfl rfl rfl ?_
 refine O_gtr (t := false) rfl rfl rfl rfl (decide_eq_false (by omega)) ?_
 refine WL_end [(0, _), (8, _)] ⟨rfl, rfl, trivial⟩ ?_
 refine WP_condF rfl ?_
 refine WP_skip ?_
 refine WP_seq ?_
 refine WP_seq ?_
 have hne : 0 < l.length := List.length_pos_iff.2 hok.1
 obtain ⟨b0, hb0⟩ : ∃ b, l[0]? = some b := ⟨l[0], List.getElem?_eq_getElem hne⟩
 have hb0lt := b0.toNat_lt
 have hz48 : b0.toNat = 48 → b0 = 48 := fun h => UInt8.toNat_inj.1 (by rw [h]; rfl)
 have hnz : ¬ (1 < l.length ∧ b0.toNat = 48) := fun h => hok.2.2 ⟨h.1, by rw [hb0, hz48 h.2]⟩
 by_cases h1 : 1 < l.length
 · --
  skip
  refine WP_region ?_
  refine O_move rfl rfl rfl ?_
  refine S_eql (b := []) rfl rfl rfl rfl (decide_eq_false hok.1) ?_
  refine O_move rfl rfl rfl ?_
  refine O_move rfl rfl rfl ?_
  refine S_len Tryd.underlying9 rfl rfl rfl ?_
  refine O_gtr (t := true) rfl rfl rfl rfl (decide_eq_true (by omega)) ?_
  refine O_move rfl rfl rfl ?_
  refine O_move rfl rfl rfl ?_
  refine S_idx Tryd.underlying9 rfl rfl rfl rfl 0 rfl hb0 ?_
  refine O_eql (t := false) rfl rfl rfl rfl (decide_eq_false (by omega)) ?_
  refine O_pickT rfl rfl rfl rfl ?_
  refine O_pickF rfl rfl rfl rfl ?_
  refine WL_end [(0, _), (20, _)] ⟨rfl, rfl, trivial⟩ ?_
  refine WP_condF rfl ?_
  refine WP_skip ?_
  refine WP_seq ?_
  refine WP_region ?_
  refine O_assign rfl rfl rfl ?_
  refine WL_end [(0, _), (4, _)] ⟨rfl, rfl, trivial⟩ ?_
  refine WP_seq ?_
  refine WP_seq ?_
  refine WP_region ?_
  refine O_assign rfl rfl rfl ?_
  refine WL_end [(0, _), (4, _), (5, _)] ⟨rfl, rfl, rfl, trivial⟩ ?_
  refine WP_block ?_
  refine WP_loop (S := Nat × Value) (fun (i, ov) => [(0, .string (bs l)), (4, ov), (5, .int .i64 (i : Nat))]) (fun (i, ov) w' => Ext w w' ∧ No w.heap.size 89 w' ov (dig (dnum (l.take i))) ∧ i ≤ l.length ∧ ∀ x ∈ l.take i, isd x) (fun (i, ov) => l.length - i) (0, .slice none 0 0) ⟨rfl, rfl, rfl, trivial⟩ ⟨(Ext.refl _), (by simpa [dnum, dig_zero] using No.nil _ _ _), Nat.zero_le _, by simp⟩ ?_
  rintro ⟨i, ov⟩ w9 ⟨hE, hov, hi, hdi⟩
  show WP _ _ _ _ _ [(0, .string (bs l)), (4, ov), (5, .int .i64 (i : Nat))] _
  have zE := hE.size
  have hdl := dnum_dlen (l := l.take i) hdi
  have hdl2 : (l.take i).length ≤ l.length := by rw [List.length_take]; exact Nat.min_le_right _ _
  refine WP_seq ?_
  refine WP_seq ?_
  refine WP_region ?_
  refine O_move rfl rfl rfl ?_
  refine O_move rfl rfl rfl ?_
  refine S_len Tryd.underlying9 rfl rfl rfl ?_
  refine O_lss rfl rfl rfl rfl rfl ?_
  refine WL_end [(0, _), (4, _), (5, _), (24, _)] ⟨rfl, rfl, rfl, rfl, trivial⟩ ?_
  refine WP_condD rfl (fun c24 => ?_) (fun c24 => ?_)
  · --
   refine WP_skip ?_
   refine WP_seq ?_
   refine WP_block ?_
   refine WP_seq ?_
   refine WP_seq ?_
   have hil : i < l.length := by omega
   obtain ⟨b, hbi⟩ : ∃ b, l[i]? = some b := ⟨l[i], List.getElem?_eq_getElem hil⟩
   have hb255 := b.toNat_lt
   have hdb : isd b := hok.2.1 b (List.mem_of_getElem? hbi)
   have hdb2 := hdb
   unfold isd at hdb2
   · --
    skip
    refine WP_region ?_
    refine O_move rfl rfl rfl ?_
    refine O_move rfl rfl rfl ?_
    refine S_idx Tryd.underlying9 rfl rfl rfl rfl i rfl hbi ?_
    refine O_lss (t := false) rfl rfl rfl rfl (decide_eq_false (by omega)) ?_
    refine O_move rfl rfl rfl ?_
    refine O_move rfl rfl rfl ?_
    refine O_move rfl rfl rfl ?_
    refine S_idx Tryd.underlying9 rfl rfl rfl rfl i rfl hbi ?_
    refine O_gtr (t := false) rfl rfl rfl rfl (decide_eq_false (by omega)) ?_
    refine O_pickF rfl rfl rfl rfl ?_
    refine WL_end [(0, _), (4, _), (5, _), (36, _)] ⟨rfl, rfl, rfl, rfl, trivial⟩ ?_
    refine WP_condF rfl ?_
    refine WP_skip ?_
    refine WP_region ?_
    refine O_move rfl rfl rfl ?_
    refine O_move rfl rfl rfl ?_
    refine O_move rfl rfl rfl ?_
    refine S_idx Tryd.underlying9 rfl rfl rfl rfl i rfl hbi ?_
    refine O_sub (r := ((b.toNat - 48 : Nat) : Int)) rfl rfl rfl rfl (by rw [wrap_u8]; omega) ?_
    refine O_conv Tryd.underlying5 Tryd.underlying89 (r := ((b.toNat - 48 : Nat) : Int)) rfl rfl rfl (by rw [wrap_u32]; omega) ?_
    refine O_call enters120 rfl rfl rfl (rsmall_c hov.nl (by (try simp only [lens]); omega) (by (try simp only [lens]); omega) (by (try simp only [lens]); omega)) (fun v1 w1 e1 h1 => ?_)
    have z1 := e1.size
    try simp only [val_dig] at h1
    refine O_assign rfl rfl rfl ?_
    refine WL_end [(0, _), (4, _), (5, _)] ⟨rfl, rfl, rfl, trivial⟩ ?_
    refine WP_region ?_
    refine O_move rfl rfl rfl ?_
    refine O_add rfl rfl rfl rfl (wrap_i64_id (by omega) (by omega)) ?_
    refine O_assign rfl rfl rfl ?_
    refine WL_end [(0, _), (4, _), (5, _)] ⟨rfl, rfl, rfl, trivial⟩ ?_
    exact ⟨(i + 1, _), ⟨rfl, rfl, rfl, trivial⟩, ⟨(hE.trans e1), (by rw [dnum_take hbi, Nat.mul_comm 10]; exact (h1).mono (by omega)), by omega, isd_take hdi hbi hdb⟩, by dsimp only; omega⟩
  · --
   refine WP_exit ?_
   refine inBlk_hit ?_
   refine WP_seq ?_
   refine WP_region ?_
   refine O_move rfl rfl rfl ?_
   refine O_assign rfl rfl rfl ?_
   refine O_assign rfl rfl rfl ?_
   refine WL_end [(2, _), (3, _)] ⟨rfl, rfl, trivial⟩ ?_
   refine WP_ret ?_
   refine ret2 Tryd.results108 rfl rfl ?_
   have hie : i = l.length := by omega
   subst hie
   rw [List.take_length] at hov
   exact ⟨_, rfl, hE, _, rfl, hov⟩
 · --
  skip
  refine WP_region ?_
  refine O_move rfl rfl rfl ?_
  refine S_eql (b := []) rfl rfl rfl rfl (decide_eq_false hok.1) ?_
  refine O_move rfl rfl rfl ?_
  refine O_move rfl rfl rfl ?_
  refine S_len Tryd.underlying9 rfl rfl rfl ?_
  refine O_gtr (t := false) rfl rfl rfl rfl (decide_eq_false (by omega)) ?_
  refine O_move rfl rfl rfl ?_
  refine O_skip rfl rfl ?_
  refine O_skip rfl rfl ?_
  refine O_skip rfl rfl ?_
  refine O_pickF rfl rfl rfl rfl ?_
  refine O_pickF rfl rfl rfl rfl ?_
  refine WL_end [(0, _), (20, _)] ⟨rfl, rfl, trivial⟩ ?_
  refine WP_condF rfl ?_
  refine WP_skip ?_
  refine WP_seq ?_
  refine WP_region ?_
  refine O_assign rfl rfl rfl ?_
  refine WL_end [(0, _), (4, _)] ⟨rfl, rfl, trivial⟩ ?_
  refine WP_seq ?_
  refine WP_seq ?_
  refine WP_region ?_
  refine O_assign rfl rfl rfl ?_
  refine WL_end [(0, _), (4, _), (5, _)] ⟨rfl, rfl, rfl, trivial⟩ ?_
  refine WP_block ?_
  refine WP_loop (S := Nat × Value) (fun (i, ov) => [(0, .string (bs l)), (4, ov), (5, .int .i64 (i : Nat))]) (fun (i, ov) w' => Ext w w' ∧ No w.heap.size 89 w' ov (dig (dnum (l.take i))) ∧ i ≤ l.length ∧ ∀ x ∈ l.take i, isd x) (fun (i, ov) => l.length - i) (0, .slice none 0 0) ⟨rfl, rfl, rfl, trivial⟩ ⟨(Ext.refl _), (by simpa [dnum, dig_zero] using No.nil _ _ _), Nat.zero_le _, by simp⟩ ?_
  rintro ⟨i, ov⟩ w9 ⟨hE, hov, hi, hdi⟩
  show WP _ _ _ _ _ [(0, .string (bs l)), (4, ov), (5, .int .i64 (i : Nat))] _
  have zE := hE.size
  have hdl := dnum_dlen (l := l.take i) hdi
  have hdl2 : (l.take i).length ≤ l.length := by rw [List.length_take]; exact Nat.min_le_right _ _
  refine WP_seq ?_
  refine WP_seq ?_
  refine WP_region ?_
  refine O_move rfl rfl rfl ?_
  refine O_move rfl rfl rfl ?_
  refine S_len Tryd.underlying9 rfl rfl rfl ?_
  refine O_lss rfl rfl rfl rfl rfl ?_
  refine WL_end [(0, _), (4, _), (5, _), (24, _)] ⟨rfl, rfl, rfl, rfl, trivial⟩ ?_
  refine WP_condD rfl (fun c24 => ?_) (fun c24 => ?_)
  · --
   refine WP_skip ?_
   refine WP_seq ?_
   refine WP_block ?_
   refine WP_seq ?_
   refine WP_seq ?_
   have hil : i < l.length := by omega
   obtain ⟨b, hbi⟩ : ∃ b, l[i]? = some b := ⟨l[i], List.getElem?_eq_getElem hil⟩
   have hb255 := b.toNat_lt
   have hdb : isd b := hok.2.1 b (List.mem_of_getElem? hbi)
   have hdb2 := hdb
   unfold isd at hdb2
   · --
    skip
    refine WP_region ?_
    refine O_move rfl rfl rfl ?_
    refine O_move rfl rfl rfl ?_
    refine S_idx Tryd.underlying9 rfl rfl rfl rfl i rfl hbi ?_
    refine O_lss (t := false) rfl rfl rfl rfl (decide_eq_false (by omega)) ?_
    refine O_move rfl rfl rfl ?_
    refine O_move rfl rfl rfl ?_
    refine O_move rfl rfl rfl ?_
    refine S_idx Tryd.underlying9 rfl rfl rfl rfl i rfl hbi ?_
    refine O_gtr (t := false) rfl rfl rfl rfl (decide_eq_false (by omega)) ?_
    refine O_pickF rfl rfl rfl rfl ?_
    refine WL_end [(0, _), (4, _), (5, _), (36, _)] ⟨rfl, rfl, rfl, rfl, trivial⟩ ?_
    refine WP_condF rfl ?_
    refine WP_skip ?_
    refine WP_region ?_
    refine O_move rfl rfl rfl ?_
    refine O_move rfl rfl rfl ?_
    refine O_move rfl rfl rfl ?_
    refine S_idx Tryd.underlying9 rfl rfl rfl rfl i rfl hbi ?_
    refine O_sub (r := ((b.toNat - 48 : Nat) : Int)) rfl rfl rfl rfl (by rw [wrap_u8]; omega) ?_
    refine O_conv Tryd.underlying5 Tryd.underlying89 (r := ((b.toNat - 48 : Nat) : Int)) rfl rfl rfl (by rw [wrap_u32]; omega) ?_
    refine O_call enters120 rfl rfl rfl (rsmall_c hov.nl (by (try simp only [lens]); omega) (by (try simp only [lens]); omega) (by (try simp only [lens]); omega)) (fun v2 w2 e2 h2 => ?_)
    have z2 := e2.size
    try simp only [val_dig] at h2
    refine O_assign rfl rfl rfl ?_
    refine WL_end [(0, _), (4, _), (5, _)] ⟨rfl, rfl, rfl, trivial⟩ ?_
    refine WP_region ?_
    refine O_move rfl rfl rfl ?_
    refine O_add rfl rfl rfl rfl (wrap_i64_id (by omega) (by omega)) ?_
    refine O_assign rfl rfl rfl ?_
    refine WL_end [(0, _), (4, _), (5, _)] ⟨rfl, rfl, rfl, trivial⟩ ?_
    exact ⟨(i + 1, _), ⟨rfl, rfl, rfl, trivial⟩, ⟨(hE.trans e2), (by rw [dnum_take hbi, Nat.mul_comm 10]; exact (h2).mono (by omega)), by omega, isd_take hdi hbi hdb⟩, by dsimp only; omega⟩
  · --
   refine WP_exit ?_
   refine inBlk_hit ?_
   refine WP_seq ?_
   refine WP_region ?_
   refine O_move rfl rfl rfl ?_
   refine O_assign rfl rfl rfl ?_
   refine O_assign rfl rfl rfl ?_
   refine WL_end [(2, _), (3, _)] ⟨rfl, rfl, trivial⟩ ?_
   refine WP_ret ?_
   refine ret2 Tryd.results108 rfl rfl ?_
   have hie : i = l.length := by omega
   subst hie
   rw [List.take_length] at hov
   exact ⟨_, rfl, hE, _, rfl, hov⟩
set_option maxHeartbeats 1000000 in
theorem rnat10_N {w : World} {l : List UInt8} (hl : l.length ≤ 20001) (hok : ¬ natok l) :
    Calls Tryd.prog 108 #[.string (bs l)] w (Ret w fun r _ => r = .tuple #[.slice none 0 0, .int .i64 6]) := by
 refine enter (args := [_]) Tryd.func108 rfl Tryd.ntmps108 rfl ?_
 refine WP_seq ?_
 refine WP_region ?_
 refine O_assign rfl rfl rfl ?_
 refine O_assign rfl rfl rfl ?_
 refine WL_end [(0, _)] ⟨rfl, trivial⟩ ?_
 refine WP_seq ?_
 refine WP_seq ?_
 refine WP_region ?_
 refine O_move rfl rfl rfl ?_
 refine S_len Tryd.underlying9 rfl rfl rfl ?_
 refine O_gtr (t := false) rfl rfl rfl rfl (decide_eq_false (by omega)) ?_
 refine WL_end [(0, _), (8, _)] ⟨rfl, rfl, trivial⟩ ?_
 refine WP_condF rfl ?_
 refine WP_skip ?_
 refine WP_seq ?_
 refine WP_seq ?_
 by_cases hl0 : l = []
 rotate_left
 by_cases h2 : 1 < l.length ∧ l[0]? = some 48
 rotate_left
 rcases Nat.lt_or_ge 1 l.length with h1 | h1
 · --
  have hne : 0 < l.length := List.length_pos_iff.2 hl0
  obtain ⟨b0, hb0⟩ : ∃ b, l[0]? = some b := ⟨l[0], List.getElem?_eq_getElem hne⟩
  have hb0lt := b0.toNat_lt
  have hz48 : b0.toNat = 48 → b0 = 48 := fun h => UInt8.toNat_inj.1 (by rw [h]; rfl)
  have hx : ¬ (1 < l.length ∧ b0.toNat = 48) := fun h => h2 ⟨h.1, by rw [hb0, hz48 h.2]⟩
  
  refine WP_region ?_
  refine O_move rfl rfl rfl ?_
  refine S_eql (b := []) rfl rfl rfl rfl (decide_eq_false hl0) ?_
  refine O_move rfl rfl rfl ?_
  refine O_move rfl rfl rfl ?_
  refine S_len Tryd.underlying9 rfl rfl rfl ?_
  refine O_gtr (t := true) rfl rfl rfl rfl (decide_eq_true (by omega)) ?_
  refine O_move rfl rfl rfl ?_
  refine O_move rfl rfl rfl ?_
  refine S_idx Tryd.underlying9 rfl rfl rfl rfl 0 rfl hb0 ?_
  refine O_eql (t := false) rfl rfl rfl rfl (decide_eq_false (by omega)) ?_
  refine O_pickT rfl rfl rfl rfl ?_
  refine O_pickF rfl rfl rfl rfl ?_
  refine WL_end [(0, _), (20, _)] ⟨rfl, rfl, trivial⟩ ?_
  refine WP_condF rfl ?_
  refine WP_skip ?_
  refine WP_seq ?_
  refine WP_region ?_
  refine O_assign rfl rfl rfl ?_
  refine WL_end [(0, _), (4, _)] ⟨rfl, rfl, trivial⟩ ?_
  refine WP_seq ?_
  refine WP_seq ?_
  refine WP_region ?_
  refine O_assign rfl rfl rfl ?_
  refine WL_end [(0, _), (4, _), (5, _)] ⟨rfl, rfl, rfl, trivial⟩ ?_
  refine WP_block ?_
  refine WP_loop (S := Nat × Value) (fun (i, ov) => [(0, .string (bs l)), (4, ov), (5, .int .i64 (i : Nat))]) (fun (i, ov) w' => Ext w w' ∧ No w.heap.size 89 w' ov (dig (dnum (l.take i))) ∧ i ≤ l.length ∧ ∀ x ∈ l.take i, isd x) (fun (i, ov) => l.length - i) (0, .slice none 0 0) ⟨rfl, rfl, rfl, trivial⟩ ⟨(Ext.refl _), (by simpa [dnum, dig_zero] using No.nil _ _ _), Nat.zero_le _, by simp⟩ ?_
  rintro ⟨i, ov⟩ w9 ⟨hE, hov, hi, hdi⟩
  show WP _ _ _ _ _ [(0, .string (bs l)), (4, ov), (5, .int .i64 (i : Nat))] _
  have zE := hE.size
  have hdl := dnum_dlen (l := l.take i) hdi
  have hdl2 : (l.take i).length ≤ l.length := by rw [List.length_take]; exact Nat.min_le_right _ _
  refine WP_seq ?_
  refine WP_seq ?_
  refine WP_region ?_
  refine O_move rfl rfl rfl ?_
  refine O_move rfl rfl rfl ?_
  refine S_len Tryd.underlying9 rfl rfl rfl ?_
  refine O_lss rfl rfl rfl rfl rfl ?_
  refine WL_end [(0, _), (4, _), (5, _), (24, _)] ⟨rfl, rfl, rfl, rfl, trivial⟩ ?_
  refine WP_condD rfl (fun c24 => ?_) (fun c24 => ?_)
  · --
   refine WP_skip ?_
   refine WP_seq ?_
   refine WP_block ?_
   refine WP_seq ?_
   refine WP_seq ?_
   have hil : i < l.length := by omega
   obtain ⟨b, hbi⟩ : ∃ b, l[i]? = some b := ⟨l[i], List.getElem?_eq_getElem hil⟩
   have hb255 := b.toNat_lt
   by_cases hdb : isd b
   rotate_left
   by_cases h48 : b.toNat < 48
   · --
    skip
    refine WP_region ?_
    refine O_move rfl rfl rfl ?_
    refine O_move rfl rfl rfl ?_
    refine S_idx Tryd.underlying9 rfl rfl rfl rfl i rfl hbi ?_
    refine O_lss (t := true) rfl rfl rfl rfl (decide_eq_true (by omega)) ?_
    refine O_move rfl rfl rfl ?_
    refine O_skip rfl rfl ?_
    refine O_skip rfl rfl ?_
    refine O_skip rfl rfl ?_
    refine O_skip rfl rfl ?_
    refine O_pickT rfl rfl rfl rfl ?_
    refine WL_end [(0, _), (4, _), (5, _), (36, _)] ⟨rfl, rfl, rfl, rfl, trivial⟩ ?_
    refine WP_condT rfl ?_
    refine WP_seq ?_
    refine WP_region ?_
    refine O_assign rfl rfl rfl ?_
    refine O_assign rfl rfl rfl ?_
    refine WL_end [(2, _), (3, _)] ⟨rfl, rfl, trivial⟩ ?_
    refine WP_ret ?_
    refine inBlk_ret ?_
    refine inBlk_ret ?_
    refine ret2 Tryd.results108 rfl rfl ?_
    first
      | exact ⟨_, rfl, hE, rfl⟩
      | (exfalso; have hie : i = l.length := by omega
         rw [hie, List.take_length] at hdi
         exact hok ⟨hl0, hdi, h2⟩)
   · --
    have h57 : 57 < b.toNat := by unfold isd at hdb; omega
    refine WP_region ?_
    refine O_move rfl rfl rfl ?_
    refine O_move rfl rfl rfl ?_
    refine S_idx Tryd.underlying9 rfl rfl rfl rfl i rfl hbi ?_
    refine O_lss (t := false) rfl rfl rfl rfl (decide_eq_false (by omega)) ?_
    refine O_move rfl rfl rfl ?_
    refine O_move rfl rfl rfl ?_
    refine O_move rfl rfl rfl ?_
    refine S_idx Tryd.underlying9 rfl rfl rfl rfl i rfl hbi ?_
    refine O_gtr (t := true) rfl rfl rfl rfl (decide_eq_true (by omega)) ?_
    refine O_pickF rfl rfl rfl rfl ?_
    refine WL_end [(0, _), (4, _), (5, _), (36, _)] ⟨rfl, rfl, rfl, rfl, trivial⟩ ?_
    refine WP_condT rfl ?_
    refine WP_seq ?_
    refine WP_region ?_
    refine O_assign rfl rfl rfl ?_
    refine O_assign rfl rfl rfl ?_
    refine WL_end [(2, _), (3, _)] ⟨rfl, rfl, trivial⟩ ?_
    refine WP_ret ?_
    refine inBlk_ret ?_
    refine inBlk_ret ?_
    refine ret2 Tryd.results108 rfl rfl ?_
    first
      | exact ⟨_, rfl, hE, rfl⟩
      | (exfalso; have hie : i = l.length := by omega
         rw [hie, List.take_length] at hdi
         exact hok ⟨hl0, hdi, h2⟩)
   · --
    have hdb2 := hdb
    unfold isd at hdb2
    refine WP_region ?_
    refine O_move rfl rfl rfl ?_
    refine O_move rfl rfl rfl ?_
    refine S_idx Tryd.underlying9 rfl rfl rfl rfl i rfl hbi ?_
    refine O_lss (t := false) rfl rfl rfl rfl (decide_eq_false (by omega)) ?_
    refine O_move rfl rfl rfl ?_
    refine O_move rfl rfl rfl ?_
    refine O_move rfl rfl rfl ?_
    refine S_idx Tryd.underlying9 rfl rfl rfl rfl i rfl hbi ?_
    refine O_gtr (t := false) rfl rfl rfl rfl (decide_eq_false (by omega)) ?_
    refine O_pickF rfl rfl rfl rfl ?_
    refine WL_end [(0, _), (4, _), (5, _), (36, _)] ⟨rfl, rfl, rfl, rfl, trivial⟩ ?_
    refine WP_condF rfl ?_
    refine WP_skip ?_
    refine WP_region ?_
    refine O_move rfl rfl rfl ?_
    refine O_move rfl rfl rfl ?_
    refine O_move rfl rfl rfl ?_
    refine S_idx Tryd.underlying9 rfl rfl rfl rfl i rfl hbi ?_
    refine O_sub (r := ((b.toNat - 48 : Nat) : Int)) rfl rfl rfl rfl (by rw [wrap_u8]; omega) ?_
    refine O_conv Tryd.underlying5 Tryd.underlying89 (r := ((b.toNat - 48 : Nat) : Int)) rfl rfl rfl (by rw [wrap_u32]; omega) ?_
    refine O_call enters120 rfl rfl rfl (rsmall_c hov.nl (by (try simp only [lens]); omega) (by (try simp only [lens]); omega) (by (try simp only [lens]); omega)) (fun v1 w1 e1 h1 => ?_)
    have z1 := e1.size
    try simp only [val_dig] at h1
    refine O_assign rfl rfl rfl ?_
    refine WL_end [(0, _), (4, _), (5, _)] ⟨rfl, rfl, rfl, trivial⟩ ?_
    refine WP_region ?_
    refine O_move rfl rfl rfl ?_
    refine O_add rfl rfl rfl rfl (wrap_i64_id (by omega) (by omega)) ?_
    refine O_assign rfl rfl rfl ?_
    refine WL_end [(0, _), (4, _), (5, _)] ⟨rfl, rfl, rfl, trivial⟩ ?_
    exact ⟨(i + 1, _), ⟨rfl, rfl, rfl, trivial⟩, ⟨(hE.trans e1), (by rw [dnum_take hbi, Nat.mul_comm 10]; exact (h1).mono (by omega)), by omega, isd_take hdi hbi hdb⟩, by dsimp only; omega⟩
  · --
   refine WP_exit ?_
   refine inBlk_hit ?_
   refine WP_seq ?_
   refine WP_region ?_
   refine O_move rfl rfl rfl ?_
   refine O_assign rfl rfl rfl ?_
   refine O_assign rfl rfl rfl ?_
   refine WL_end [(2, _), (3, _)] ⟨rfl, rfl, trivial⟩ ?_
   refine WP_ret ?_
   refine ret2 Tryd.results108 rfl rfl ?_
   first
     | exact ⟨_, rfl, hE, rfl⟩
     | (exfalso; have hie : i = l.length := by omega
        rw [hie, List.take_length] at hdi
        exact hok ⟨hl0, hdi, h2⟩)
 · --
  have hne : 0 < l.length := List.length_pos_iff.2 hl0
  obtain ⟨b0, hb0⟩ : ∃ b, l[0]? = some b := ⟨l[0], List.getElem?_eq_getElem hne⟩
  have hb0lt := b0.toNat_lt
  have hz48 : b0.toNat = 48 → b0 = 48 := fun h => UInt8.toNat_inj.1 (by rw [h]; rfl)
  have hx : ¬ (1 < l.length ∧ b0.toNat = 48) := fun h => h2 ⟨h.1, by rw [hb0, hz48 h.2]⟩
  
  refine WP_region ?_
  refine O_move rfl rfl rfl ?_
  refine S_eql (b := []) rfl rfl rfl rfl (decide_eq_false hl0) ?_
  refine O_move rfl rfl rfl ?_
  refine O_move rfl rfl rfl ?_
  refine S_len Tryd.underlying9 rfl rfl rfl ?_
  refine O_gtr (t := false) rfl rfl rfl rfl (decide_eq_false (by omega)) ?_
  refine O_move rfl rfl rfl ?_
  refine O_skip rfl rfl ?_
  refine O_skip rfl rfl ?_
  refine O_skip rfl rfl ?_
  refine O_pickF rfl rfl rfl rfl ?_
  refine O_pickF rfl rfl rfl rfl ?_
  refine WL_end [(0, _), (20, _)] ⟨rfl, rfl, trivial⟩ ?_
  refine WP_condF rfl ?_
  refine WP_skip ?_
  refine WP_seq ?_
  refine WP_region ?_
  refine O_assign rfl rfl rfl ?_
  refine WL_end [(0, _), (4, _)] ⟨rfl, rfl, trivial⟩ ?_
  refine WP_seq ?_
  refine WP_seq ?_
  refine WP_region ?_
  refine O_assign rfl rfl rfl ?_
  refine WL_end [(0, _), (4, _), (5, _)] ⟨rfl, rfl, rfl, trivial⟩ ?_
  refine WP_block ?_
  refine WP_loop (S := Nat × Value) (fun (i, ov) => [(0, .string (bs l)), (4, ov), (5, .int .i64 (i : Nat))]) (fun (i, ov) w' => Ext w w' ∧ No w.heap.size 89 w' ov (dig (dnum (l.take i))) ∧ i ≤ l.length ∧ ∀ x ∈ l.take i, isd x) (fun (i, ov) => l.length - i) (0, .slice none 0 0) ⟨rfl, rfl, rfl, trivial⟩ ⟨(Ext.refl _), (by simpa [dnum, dig_zero] using No.nil _ _ _), Nat.zero_le _, by simp⟩ ?_
  rintro ⟨i, ov⟩ w9 ⟨hE, hov, hi, hdi⟩
  show WP _ _ _ _ _ [(0, .string (bs l)), (4, ov), (5, .int .i64 (i : Nat))] _
  have zE := hE.size
  have hdl := dnum_dlen (l := l.take i) hdi
  have hdl2 : (l.take i).length ≤ l.length := by rw [List.length_take]; exact Nat.min_le_right _ _
  refine WP_seq ?_
  refine WP_seq ?_
  refine WP_region ?_
  refine O_move rfl rfl rfl ?_
  refine O_move rfl rfl rfl ?_
  refine S_len Tryd.underlying9 rfl rfl rfl ?_
  refine O_lss rfl rfl rfl rfl rfl ?_
  refine WL_end [(0, _), (4, _), (5, _), (24, _)] ⟨rfl, rfl, rfl, rfl, trivial⟩ ?_
  refine WP_condD rfl (fun c24 => ?_) (fun c24 => ?_)
  · --
   refine WP_skip ?_
   refine WP_seq ?_
   refine WP_block ?_
   refine WP_seq ?_
   refine WP_seq ?_
   have hil : i < l.length := by omega
   obtain ⟨b, hbi⟩ : ∃ b, l[i]? = some b := ⟨l[i], List.getElem?_eq_getElem hil⟩
   have hb255 := b.toNat_lt
   by_cases hdb : isd b
   rotate_left
   by_cases h48 : b.toNat < 48
   · --
    skip
    refine WP_region ?_
    refine O_move rfl rfl rfl ?_
    refine O_move rfl rfl rfl ?_
    refine S_idx Tryd.underlying9 rfl rfl rfl rfl i rfl hbi ?_
    refine O_lss (t := true) rfl rfl rfl rfl (decide_eq_true (by omega)) ?_
    refine O_move rfl rfl rfl ?_
    refine O_skip rfl rfl ?_
    refine O_skip rfl rfl ?_
    refine O_skip rfl rfl ?_
    refine O_skip rfl rfl ?_
    refine O_pickT rfl rfl rfl rfl ?_
    refine WL_end [(0, _), (4, _), (5, _), (36, _)] ⟨rfl, rfl, rfl, rfl, trivial⟩ ?_
    refine WP_condT rfl ?_
    refine WP_seq ?_
    refine WP_region ?_
    refine O_assign rfl rfl rfl ?_
    refine O_assign rfl rfl rfl ?_
    refine WL_end [(2, _), (3, _)] ⟨rfl, rfl, trivial⟩ ?_
    refine WP_ret ?_
    refine inBlk_ret ?_
    refine inBlk_ret ?_
    refine ret2 Tryd.results108 rfl rfl ?_
    first
      | exact ⟨_, rfl, hE, rfl⟩
      | (exfalso; have hie : i = l.length := by omega
         rw [hie, List.take_length] at hdi
         exact hok ⟨hl0, hdi, h2⟩)
   · --
    have h57 : 57 < b.toNat := by unfold isd at hdb; omega
    refine WP_region ?_
    refine O_move rfl rfl rfl ?_
    refine O_move rfl rfl rfl ?_
    refine S_idx Tryd.underlying9 rfl rfl rfl rfl i rfl hbi ?_
    refine O_lss (t := false) rfl rfl rfl rfl (decide_eq_false (by omega)) ?_
    refine O_move rfl rfl rfl ?_
    refine O_move rfl rfl rfl ?_
    refine O_move rfl rfl rfl ?_
    refine S_idx Tryd.underlying9 rfl rfl rfl rfl i rfl hbi ?_
    refine O_gtr (t := true) rfl rfl rfl rfl (decide_eq_true (by omega)) ?_
    refine O_pickF rfl rfl rfl rfl ?_
    refine WL_end [(0, _), (4, _), (5, _), (36, _)] ⟨rfl, rfl, rfl, rfl, trivial⟩ ?_
    refine WP_condT rfl ?_
    refine WP_seq ?_
    refine WP_region ?_
    refine O_assign rfl rfl rfl ?_
    refine O_assign rfl rfl rfl ?_
    refine WL_end [(2, _), (3, _)] ⟨rfl, rfl, trivial⟩ ?_
    refine WP_ret ?_
    refine inBlk_ret ?_
    refine inBlk_ret ?_
    refine ret2 Tryd.results108 rfl rfl ?_
    first
      | exact ⟨_, rfl, hE, rfl⟩
      | (exfalso; have hie : i = l.length := by omega
         rw [hie, List.take_length] at hdi
         exact hok ⟨hl0, hdi, h2⟩)
   · --
    have hdb2 := hdb
    unfold isd at hdb2
    refine WP_region ?_
    refine O_move rfl rfl rfl ?_
    refine O_move rfl rfl rfl ?_
    refine S_idx Tryd.underlying9 rfl rfl rfl rfl i rfl hbi ?_
    refine O_lss (t := false) rfl rfl rfl rfl (decide_eq_false (by omega)) ?_
    refine O_move rfl rfl rfl ?_
    refine O_move rfl rfl rfl ?_
    refine O_move rfl rfl rfl ?_
    refine S_idx Tryd.underlying9 rfl rfl rfl rfl i rfl hbi ?_
    refine O_gtr (t := false) rfl rfl rfl rfl (decide_eq_false (by omega)) ?_
    refine O_pickF rfl rfl rfl rfl ?_
    refine WL_end [(0, _), (4, _), (5, _), (36, _)] ⟨rfl, rfl, rfl, rfl, trivial⟩ ?_
    refine WP_condF rfl ?_
    refine WP_skip ?_
    refine WP_region ?_
    refine O_move rfl rfl rfl ?_
    refine O_move rfl rfl rfl ?_
    refine O_move rfl rfl rfl ?_
    refine S_idx Tryd.underlying9 rfl rfl rfl rfl i rfl hbi ?_
    refine O_sub (r := ((b.toNat - 48 : Nat) : Int)) rfl rfl rfl rfl (by rw [wrap_u8]; omega) ?_
    refine O_conv Tryd.underlying5 Tryd.underlying89 (r := ((b.toNat - 48 : Nat) : Int)) rfl rfl rfl (by rw [wrap_u32]; omega) ?_
    refine O_call enters120 rfl rfl rfl (rsmall_c hov.nl (by (try simp only [lens]); omega) (by (try simp only [lens]); omega) (by (try simp only [lens]); omega)) (fun v2 w2 e2 h2 => ?_)
    have z2 := e2.size
    try simp only [val_dig] at h2
    refine O_assign rfl rfl rfl ?_
    refine WL_end [(0, _), (4, _), (5, _)] ⟨rfl, rfl, rfl, trivial⟩ ?_
    refine WP_region ?_
    refine O_move rfl rfl rfl ?_
    refine O_add rfl rfl rfl rfl (wrap_i64_id (by omega) (by omega)) ?_
    refine O_assign rfl rfl rfl ?_
    refine WL_end [(0, _), (4, _), (5, _)] ⟨rfl, rfl, rfl, trivial⟩ ?_
    exact ⟨(i + 1, _), ⟨rfl, rfl, rfl, trivial⟩, ⟨(hE.trans e2), (by rw [dnum_take hbi, Nat.mul_comm 10]; exact (h2).mono (by omega)), by omega, isd_take hdi hbi hdb⟩, by dsimp only; omega⟩
  · --
   refine WP_exit ?_
   refine inBlk_hit ?_
   refine WP_seq ?_
   refine WP_region ?_
   refine O_move rfl rfl rfl ?_
   refine O_assign rfl rfl rfl ?_
   refine O_assign rfl rfl rfl ?_
   refine WL_end [(2, _), (3, _)] ⟨rfl, rfl, trivial⟩ ?_
   refine WP_ret ?_
   refine ret2 Tryd.results108 rfl rfl ?_
   first
     | exact ⟨_, rfl, hE, rfl⟩
     | (exfalso; have hie : i = l.length := by omega
        rw [hie, List.take_length] at hdi
        exact hok ⟨hl0, hdi, h2⟩)
 · --
  skip
  refine WP_region ?_
  refine O_move rfl rfl rfl ?_
  refine S_eql (b := []) rfl rfl rfl rfl (decide_eq_true hl0) ?_
  refine O_move rfl rfl rfl ?_
  refine O_skip rfl rfl ?_
  refine O_skip rfl rfl ?_
  refine O_skip rfl rfl ?_
  refine O_skip rfl rfl ?_
  refine O_skipU rfl rfl rfl ?_
  refine O_skipU rfl rfl rfl ?_
  refine O_skipU rfl rfl rfl ?_
  refine O_skip rfl rfl ?_
  refine O_pickT rfl rfl rfl rfl ?_
  refine WL_end [(0, _), (20, _)] ⟨rfl, rfl, trivial⟩ ?_
  refine WP_condT rfl ?_
  refine WP_seq ?_
  refine WP_region ?_
  refine O_assign rfl rfl rfl ?_
  refine O_assign rfl rfl rfl ?_
  refine WL_end [(2, _), (3, _)] ⟨rfl, rfl, trivial⟩ ?_
  refine WP_ret ?_
  refine ret2 Tryd.results108 rfl rfl ?_
  first
    | exact ⟨_, rfl, (Ext.refl _), rfl⟩
    | (exfalso; have hie : i = l.length := by omega
       rw [hie, List.take_length] at hdi
       exact hok ⟨hl0, hdi, h2⟩)
 · --
  have hne : 0 < l.length := List.length_pos_iff.2 hl0
  obtain ⟨b0, hb0⟩ : ∃ b, l[0]? = some b := ⟨l[0], List.getElem?_eq_getElem hne⟩
  have hb0lt := b0.toNat_lt
  have hz48 : b0.toNat = 48 → b0 = 48 := fun h => UInt8.toNat_inj.1 (by rw [h]; rfl)
  have hx : 1 < l.length ∧ b0 = 48 := ⟨h2.1, by rw [hb0] at h2; exact Option.some.inj h2.2⟩
  refine WP_region ?_
  refine O_move rfl rfl rfl ?_
  refine S_eql (b := []) rfl rfl rfl rfl (decide_eq_false hl0) ?_
  refine O_move rfl rfl rfl ?_
  refine O_move rfl rfl rfl ?_
  refine S_len Tryd.underlying9 rfl rfl rfl ?_
  refine O_gtr (t := true) rfl rfl rfl rfl (decide_eq_true (by omega)) ?_
  refine O_move rfl rfl rfl ?_
  refine O_move rfl rfl rfl ?_
  refine S_idx Tryd.underlying9 rfl rfl rfl rfl 0 rfl hb0 ?_
  refine O_eql (t := true) rfl rfl rfl rfl (decide_eq_true (by rw [hx.2]; rfl)) ?_
  refine O_pickT rfl rfl rfl rfl ?_
  refine O_pickF rfl rfl rfl rfl ?_
  refine WL_end [(0, _), (20, _)] ⟨rfl, rfl, trivial⟩ ?_
  refine WP_condT rfl ?_
  refine WP_seq ?_
  refine WP_region ?_
  refine O_assign rfl rfl rfl ?_
  refine O_assign rfl rfl rfl ?_
  refine WL_end [(2, _), (3, _)] ⟨rfl, rfl, trivial⟩ ?_
  refine WP_ret ?_
  refine ret2 Tryd.results108 rfl rfl ?_
  first
    | exact ⟨_, rfl, (Ext.refl _), rfl⟩
    | (exfalso; have hie : i = l.length := by omega
       rw [hie, List.take_length] at hdi
       exact hok ⟨hl0, hdi, h2⟩)

theorem nat10_L {w : World} {l : List UInt8} (hl : 20001 < l.length) :
    Calls Tryd.prog 104 #[.string (bs l)] w (Ret w fun r _ => r = .tuple #[.slice none 0 0, .int .i64 7]) := by
 refine enter (args := [_]) Tryd.func104 rfl Tryd.ntmps104 rfl ?_
 refine WP_seq ?_
 refine WP_region ?_
 refine O_assign rfl rfl rfl ?_
 refine O_assign rfl rfl rfl ?_
 refine WL_end [(0, _)] ⟨rfl, trivial⟩ ?_
 refine WP_seq ?_
 refine WP_seq ?_
 refine WP_region ?_
 refine O_move rfl rfl rfl ?_
 refine S_len Tryd.underlying9 rfl rfl rfl ?_
 refine O_gtr (t := true) rfl rfl rfl rfl (decide_eq_true (by omega)) ?_
 refine WL_end [(0, _), (10, _)] ⟨rfl, rfl, trivial⟩ ?_
 refine WP_condT rfl ?_
 refine WP_seq ?_
 refine WP_region ?_
 refine O_assign rfl rfl rfl ?_
 refine O_assign rfl rfl rfl ?_
 refine WL_end [(2, _), (3, _)] ⟨rfl, rfl, trivial⟩ ?_
 refine WP_ret ?_
 refine ret2 Tryd.results104 rfl rfl ?_
 exact ⟨_, rfl, (Ext.refl _), rfl⟩
set_option maxHeartbeats 1000000 in
theorem nat10_T {w : World} {l : List UInt8} (hl : l.length ≤ 20001) (hok : natok l) :
    Calls Tryd.prog 104 #[.string (bs l)] w (Ret w fun r w' => ∃ q, r = .tuple #[q, .int .i64 0] ∧ No w.heap.size 89 w' q (dig (dnum l))) := by
 refine enter (args := [_]) Tryd.func104 rfl Tryd.ntmps104 rfl ?_
 refine WP_seq ?_
 refine WP_region ?_
 refine O_assign rfl rfl rfl ?_
 refine O_assign rfl rfl rfl ?_
 refine WL_end [(0, _)] ⟨rfl, trivial⟩ ?_
 refine WP_seq ?_
 refine WP_seq ?_
 refine WP_region ?_
 refine O_move rfl rfl rfl ?_
 refine S_len Tryd.underlying9 rfl rfl rfl ?_
 refine O_gtr (t := false) rfl rfl rfl rfl (decide_eq_false (by omega)) ?_
 refine WL_end [(0, _), (10, _)] ⟨rfl, rfl, trivial⟩ ?_
 refine WP_condF rfl ?_
 refine WP_skip ?_
 refine WP_seq ?_
 refine WP_seq ?_
 have hne : 0 < l.length := List.length_pos_iff.2 hok.1
 obtain ⟨b0, hb0⟩ : ∃ b, l[0]? = some b := ⟨l[0], List.getElem?_eq_getElem hne⟩
 have hb0lt := b0.toNat_lt
 have hz48 : b0.toNat = 48 → b0 = 48 := fun h => UInt8.toNat_inj.1 (by rw [h]; rfl)
 have hnz : ¬ (1 < l.length ∧ b0.toNat = 48) := fun h => hok.2.2 ⟨h.1, by rw [hb0, hz48 h.2]⟩
 by_cases h48 : b0.toNat = 48
 · --
  skip
  refine WP_region ?_
  refine O_move rfl rfl rfl ?_
  refine S_eql (b := []) rfl rfl rfl rfl (decide_eq_false hok.1) ?_
  refine O_move rfl rfl rfl ?_
  refine O_move rfl rfl rfl ?_
  refine S_idx Tryd.underlying9 rfl rfl rfl rfl 0 rfl hb0 ?_
  refine O_eql (t := true) rfl rfl rfl rfl (decide_eq_true (by omega)) ?_
  refine O_move rfl rfl rfl ?_
  refine O_move rfl rfl rfl ?_
  refine S_len Tryd.underlying9 rfl rfl rfl ?_
  refine O_gtr (t := false) rfl rfl rfl rfl (decide_eq_false (by omega)) ?_
  refine O_pickT rfl rfl rfl rfl ?_
  refine O_pickF rfl rfl rfl rfl ?_
  refine WL_end [(0, _), (22, _)] ⟨rfl, rfl, trivial⟩ ?_
  refine WP_condF rfl ?_
  refine WP_skip ?_
  refine WP_seq ?_
  refine WP_region ?_
  refine O_assign rfl rfl rfl ?_
  refine WL_end [(0, _), (4, _)] ⟨rfl, rfl, trivial⟩ ?_
  refine WP_seq ?_
  refine WP_region ?_
  refine O_assign rfl rfl rfl ?_
  refine O_assign rfl rfl rfl ?_
  refine WL_end [(0, _), (4, _), (5, _), (6, _)] ⟨rfl, rfl, rfl, rfl, trivial⟩ ?_
  refine WP_seq ?_
  refine WP_seq ?_
  refine WP_region ?_
  refine O_move rfl rfl rfl ?_
  refine S_len Tryd.underlying9 rfl rfl rfl ?_
  refine O_move rfl rfl rfl ?_
  refine WL_end [(0, _), (4, _), (5, _), (6, _), (24, _), (25, _)] ⟨rfl, rfl, rfl, rfl, rfl, rfl, trivial⟩ ?_
  refine WP_block ?_
  refine WP_loop (S := Nat × Nat × Nat × Value) (fun (i, p, c, ov) => [(0, .string (bs l)), (4, ov), (5, .int .u32 (c : Nat)), (6, .int .u32 ((10 ^ (i - p) : Nat) : Int)), (24, .int .i64 (l.length : Nat)), (25, .int .i64 (i : Nat))]) (fun (i, p, c, ov) w' => Ext w w' ∧ No w.heap.size 89 w' ov (dig (dnum (l.take p))) ∧ i ≤ l.length ∧ p ≤ i ∧ i - p ≤ 8 ∧ (i = l.length → p = i) ∧ dnum (l.take i) = dnum (l.take p) * 10 ^ (i - p) + c ∧ c < 10 ^ (i - p) ∧ (dig (dnum (l.take p))).length ≤ 20001 ∧ ∀ x ∈ l.take i, isd x) (fun (i, p, c, ov) => l.length - i) (0, 0, 0, .slice none 0 0) ⟨rfl, rfl, rfl, rfl, rfl, rfl, trivial⟩ ⟨(Ext.refl _), (by simpa [dnum, dig_zero] using No.nil _ _ _), Nat.zero_le _, Nat.le_refl _, by omega, fun _ => rfl, by simp, by simp, by simp [dnum, dig_zero], by simp⟩ ?_
  rintro ⟨i, p, c, ov⟩ w9 ⟨hE, hov, hi, hpi, hip, hend, hnum, hc, hdp, hdi⟩
  show WP _ _ _ _ _ [(0, .string (bs l)), (4, ov), (5, .int .u32 (c : Nat)), (6, .int .u32 ((10 ^ (i - p) : Nat) : Int)), (24, .int .i64 (l.length : Nat)), (25, .int .i64 (i : Nat))] _
  have zE := hE.size
  have hdl := dnum_dlen (l := l.take i) hdi
  have hdl2 : (l.take i).length ≤ l.length := by rw [List.length_take]; exact Nat.min_le_right _ _
  have hp8 : (10 : Nat) ^ (i - p) ≤ 10 ^ 8 := Nat.pow_le_pow_right (by decide) hip
  have hp1 : (10 : Nat) ^ (i + 1 - p) = 10 ^ (i - p) * 10 := by rw [show i + 1 - p = (i - p) + 1 from by omega, Nat.pow_succ]
  generalize hQ : (10 : Nat) ^ (i - p) = Q at *
  refine WP_seq ?_
  refine WP_region ?_
  refine O_lss rfl rfl rfl rfl rfl ?_
  refine WL_end [(0, _), (4, _), (5, _), (6, _), (24, _), (25, _), (26, _)] ⟨rfl, rfl, rfl, rfl, rfl, rfl, rfl, trivial⟩ ?_
  refine WP_seq ?_
  refine WP_condD rfl (fun c26 => ?_) (fun c26 => ?_)
  · --
   refine WP_skip ?_
   refine WP_seq ?_
   refine WP_block ?_
   refine WP_seq ?_
   refine WP_region ?_
   refine O_move rfl rfl rfl ?_
   refine O_assign rfl rfl rfl ?_
   refine WL_end [(0, _), (4, _), (5, _), (6, _), (7, _), (24, _), (25, _)] ⟨rfl, rfl, rfl, rfl, rfl, rfl, rfl, trivial⟩ ?_
   refine WP_seq ?_
   refine WP_seq ?_
   have hil : i < l.length := by omega
   obtain ⟨b, hbi⟩ : ∃ b, l[i]? = some b := ⟨l[i], List.getElem?_eq_getElem hil⟩
   have hb255 := b.toNat_lt
   have hdb : isd b := hok.2.1 b (List.mem_of_getElem? hbi)
   have hdb2 := hdb
   unfold isd at hdb2
   · --
    skip
    refine WP_region ?_
    refine O_move rfl rfl rfl ?_
    refine O_move rfl rfl rfl ?_
    refine S_idx Tryd.underlying9 rfl rfl rfl rfl i rfl hbi ?_
    refine O_lss (t := false) rfl rfl rfl rfl (decide_eq_false (by omega)) ?_
    refine O_move rfl rfl rfl ?_
    refine O_move rfl rfl rfl ?_
    refine O_move rfl rfl rfl ?_
    refine S_idx Tryd.underlying9 rfl rfl rfl rfl i rfl hbi ?_
    refine O_gtr (t := false) rfl rfl rfl rfl (decide_eq_false (by omega)) ?_
    refine O_pickF rfl rfl rfl rfl ?_
    refine WL_end [(0, _), (4, _), (5, _), (6, _), (7, _), (24, _), (25, _), (37, _)] ⟨rfl, rfl, rfl, rfl, rfl, rfl, rfl, rfl, trivial⟩ ?_
    refine WP_condF rfl ?_
    refine WP_skip ?_
    refine WP_seq ?_
    refine WP_region ?_
    refine O_move rfl rfl rfl ?_
    refine O_mul (r := ((10 * c : Nat) : Int)) rfl rfl rfl rfl (by rw [wrap_u32]; omega) ?_
    refine O_move rfl rfl rfl ?_
    refine O_move rfl rfl rfl ?_
    refine S_idx Tryd.underlying9 rfl rfl rfl rfl i rfl hbi ?_
    refine O_sub (r := ((b.toNat - 48 : Nat) : Int)) rfl rfl rfl rfl (by rw [wrap_u8]; omega) ?_
    refine O_conv Tryd.underlying5 Tryd.underlying89 (r := ((b.toNat - 48 : Nat) : Int)) rfl rfl rfl (by rw [wrap_u32]; omega) ?_
    refine O_add (r := ((10 * c + (b.toNat - 48) : Nat) : Int)) rfl rfl rfl rfl (by rw [wrap_u32]; omega) ?_
    refine O_assign rfl rfl rfl ?_
    refine WL_end [(0, _), (4, _), (5, _), (6, _), (7, _), (24, _), (25, _)] ⟨rfl, rfl, rfl, rfl, rfl, rfl, rfl, trivial⟩ ?_
    refine WP_seq ?_
    refine WP_region ?_
    refine O_move rfl rfl rfl ?_
    refine O_mul (r := ((Q * 10 : Nat) : Int)) rfl rfl rfl rfl (by rw [wrap_u32]; omega) ?_
    refine O_assign rfl rfl rfl ?_
    refine WL_end [(0, _), (4, _), (5, _), (6, _), (7, _), (24, _), (25, _)] ⟨rfl, rfl, rfl, rfl, rfl, rfl, rfl, trivial⟩ ?_
    refine WP_seq ?_
    have hnew0 := dnum_take hbi
    have hnum2 : dnum (l.take (i + 1)) = dnum (l.take p) * (Q * 10) + (10 * c + (b.toNat - 48)) := by
      rw [hnew0, hnum, Nat.mul_add, ← Nat.mul_assoc (dnum (l.take p)) Q 10, Nat.mul_comm (dnum (l.take p) * Q) 10]
      omega
    by_cases h9 : Q * 10 = 1000000000
    rotate_left
    by_cases hlast : i = l.length - 1
    rotate_left
    rotate_right
    rotate_right
    · --
     have hnew : dig (dnum (l.take (i + 1))) = dig (dnum (l.take p) * (Q * 10) + (10 * c + (b.toNat - 48))) := by rw [hnum2]
     refine WP_region ?_
     refine O_move rfl rfl rfl ?_
     refine O_eql (t := true) rfl rfl rfl rfl (decide_eq_true (by rw [h9]; rfl)) ?_
     refine O_move rfl rfl rfl ?_
     refine O_skip rfl rfl ?_
     refine O_skip rfl rfl ?_
     refine O_skip rfl rfl ?_
     refine O_skip rfl rfl ?_
     refine O_skip rfl rfl ?_
     refine O_pickT rfl rfl rfl rfl ?_
     refine WL_end [(0, _), (4, _), (5, _), (6, _), (24, _), (25, _), (56, _)] ⟨rfl, rfl, rfl, rfl, rfl, rfl, rfl, trivial⟩ ?_
     refine WP_condT rfl ?_
     refine WP_seq ?_
     refine WP_region ?_
     refine O_move rfl rfl rfl ?_
     refine O_move rfl rfl rfl ?_
     refine O_move rfl rfl rfl ?_
     refine O_call enters116 rfl rfl rfl (small_c hov.nl (by (try simp only [lens]); omega) (by (try simp only [lens]); omega) (by (try simp only [lens]); omega)) (fun v1 w1 e1 h1 => ?_)
     have z1 := e1.size
     try simp only [val_dig] at h1
     refine O_assign rfl rfl rfl ?_
     refine WL_end [(0, _), (4, _), (24, _), (25, _)] ⟨rfl, rfl, rfl, rfl, trivial⟩ ?_
     refine WP_region ?_
     refine O_assign rfl rfl rfl ?_
     refine O_assign rfl rfl rfl ?_
     refine WL_end [(0, _), (4, _), (5, _), (6, _), (24, _), (25, _)] ⟨rfl, rfl, rfl, rfl, rfl, rfl, trivial⟩ ?_
     refine WP_region ?_
     refine O_add rfl rfl rfl rfl (wrap_i64_id (by omega) (by omega)) ?_
     refine O_move rfl rfl rfl ?_
     refine WL_end [(0, _), (4, _), (5, _), (6, _), (24, _), (25, _)] ⟨rfl, rfl, rfl, rfl, rfl, rfl, trivial⟩ ?_
     refine ⟨(i + 1, i + 1, 0, _), ⟨rfl, rfl, rfl, (by rw [Nat.sub_self]; rfl), rfl, rfl, trivial⟩, ⟨(hE.trans e1), (by rw [hnew]; exact (h1).mono (by omega)), by omega, Nat.le_refl _, by omega, fun _ => rfl, by simp, by simp, Nat.le_trans (dnum_dlen (isd_take hdi hbi hdb)) (by rw [List.length_take]; omega), isd_take hdi hbi hdb⟩, by dsimp only; omega⟩
    · --
     have hnew : dig (dnum (l.take (i + 1))) = dig (dnum (l.take p) * (Q * 10) + (10 * c + (b.toNat - 48))) := by rw [hnum2]
     refine WP_region ?_
     refine O_move rfl rfl rfl ?_
     refine O_eql (t := false) rfl rfl rfl rfl (decide_eq_false (fun h => h9 (by omega))) ?_
     refine O_move rfl rfl rfl ?_
     refine O_move rfl rfl rfl ?_
     refine O_move rfl rfl rfl ?_
     refine S_len Tryd.underlying9 rfl rfl rfl ?_
     refine O_sub (r := ((l.length : Int) - 1)) rfl rfl rfl rfl (by rw [IntKind.wrap_i64]; omega) ?_
     refine O_eql (t := true) rfl rfl rfl rfl (decide_eq_true (by omega)) ?_
     refine O_pickF rfl rfl rfl rfl ?_
     refine WL_end [(0, _), (4, _), (5, _), (6, _), (24, _), (25, _), (56, _)] ⟨rfl, rfl, rfl, rfl, rfl, rfl, rfl, trivial⟩ ?_
     refine WP_condT rfl ?_
     refine WP_seq ?_
     refine WP_region ?_
     refine O_move rfl rfl rfl ?_
     refine O_move rfl rfl rfl ?_
     refine O_move rfl rfl rfl ?_
     refine O_call enters116 rfl rfl rfl (small_c hov.nl (by (try simp only [lens]); omega) (by (try simp only [lens]); omega) (by (try simp only [lens]); omega)) (fun v2 w2 e2 h2 => ?_)
     have z2 := e2.size
     try simp only [val_dig] at h2
     refine O_assign rfl rfl rfl ?_
     refine WL_end [(0, _), (4, _), (24, _), (25, _)] ⟨rfl, rfl, rfl, rfl, trivial⟩ ?_
     refine WP_region ?_
     refine O_assign rfl rfl rfl ?_
     refine O_assign rfl rfl rfl ?_
     refine WL_end [(0, _), (4, _), (5, _), (6, _), (24, _), (25, _)] ⟨rfl, rfl, rfl, rfl, rfl, rfl, trivial⟩ ?_
     refine WP_region ?_
     refine O_add rfl rfl rfl rfl (wrap_i64_id (by omega) (by omega)) ?_
     refine O_move rfl rfl rfl ?_
     refine WL_end [(0, _), (4, _), (5, _), (6, _), (24, _), (25, _)] ⟨rfl, rfl, rfl, rfl, rfl, rfl, trivial⟩ ?_
     refine ⟨(i + 1, i + 1, 0, _), ⟨rfl, rfl, rfl, (by rw [Nat.sub_self]; rfl), rfl, rfl, trivial⟩, ⟨(hE.trans e2), (by rw [hnew]; exact (h2).mono (by omega)), by omega, Nat.le_refl _, by omega, fun _ => rfl, by simp, by simp, Nat.le_trans (dnum_dlen (isd_take hdi hbi hdb)) (by rw [List.length_take]; omega), isd_take hdi hbi hdb⟩, by dsimp only; omega⟩
    · --
     have hnew : dnum (l.take (i + 1)) = dnum (l.take p) * 10 ^ (i + 1 - p) + (10 * c + (b.toNat - 48)) := by rw [hp1]; exact hnum2
     have hip7 : i - p ≤ 7 := by
       rcases Nat.lt_or_ge 7 (i - p) with h | h
       · exfalso; apply h9; rw [← hQ, show i - p = 8 from by omega]
       · exact h
     refine WP_region ?_
     refine O_move rfl rfl rfl ?_
     refine O_eql (t := false) rfl rfl rfl rfl (decide_eq_false (fun h => h9 (by omega))) ?_
     refine O_move rfl rfl rfl ?_
     refine O_move rfl rfl rfl ?_
     refine O_move rfl rfl rfl ?_
     refine S_len Tryd.underlying9 rfl rfl rfl ?_
     refine O_sub (r := ((l.length : Int) - 1)) rfl rfl rfl rfl (by rw [IntKind.wrap_i64]; omega) ?_
     refine O_eql (t := false) rfl rfl rfl rfl (decide_eq_false (by omega)) ?_
     refine O_pickF rfl rfl rfl rfl ?_
     refine WL_end [(0, _), (4, _), (5, _), (6, _), (24, _), (25, _), (56, _)] ⟨rfl, rfl, rfl, rfl, rfl, rfl, rfl, trivial⟩ ?_
     refine WP_condF rfl ?_
     refine WP_skip ?_
     refine WP_region ?_
     refine O_add rfl rfl rfl rfl (wrap_i64_id (by omega) (by omega)) ?_
     refine O_move rfl rfl rfl ?_
     refine WL_end [(0, _), (4, _), (5, _), (6, _), (24, _), (25, _)] ⟨rfl, rfl, rfl, rfl, rfl, rfl, trivial⟩ ?_
     refine ⟨(i + 1, p, 10 * c + (b.toNat - 48), ov), ⟨rfl, rfl, rfl, (by rw [hp1]; rfl), rfl, rfl, trivial⟩, ⟨hE, hov, by omega, by omega, by omega, fun h => by omega, hnew, by rw [hp1]; omega, hdp, isd_take hdi hbi hdb⟩, by dsimp only; omega⟩
  · --
   refine WP_exit ?_
   refine inBlk_hit ?_
   refine WP_seq ?_
   refine WP_region ?_
   refine O_move rfl rfl rfl ?_
   refine O_assign rfl rfl rfl ?_
   refine O_assign rfl rfl rfl ?_
   refine WL_end [(2, _), (3, _)] ⟨rfl, rfl, trivial⟩ ?_
   refine WP_ret ?_
   refine ret2 Tryd.results104 rfl rfl ?_
   have hie : i = l.length := by omega
   have hpe := hend hie
   subst hpe
   rw [hie, List.take_length] at hov
   exact ⟨_, rfl, hE, _, rfl, hov⟩
 · --
  skip
  refine WP_region ?_
  refine O_move rfl rfl rfl ?_
  refine S_eql (b := []) rfl rfl rfl rfl (decide_eq_false hok.1) ?_
  refine O_move rfl rfl rfl ?_
  refine O_move rfl rfl rfl ?_
  refine S_idx Tryd.underlying9 rfl rfl rfl rfl 0 rfl hb0 ?_
  refine O_eql (t := false) rfl rfl rfl rfl (decide_eq_false (by omega)) ?_
  refine O_move rfl rfl rfl ?_
  refine O_skip rfl rfl ?_
  refine O_skip rfl rfl ?_
  refine O_skip rfl rfl ?_
  refine O_pickF rfl rfl rfl rfl ?_
  refine O_pickF rfl rfl rfl rfl ?_
  refine WL_end [(0, _), (22, _)] ⟨rfl, rfl, trivial⟩ ?_
  refine WP_condF rfl ?_
  refine WP_skip ?_
  refine WP_seq ?_
  refine WP_region ?_
  refine O_assign rfl rfl rfl ?_
  refine WL_end [(0, _), (4, _)] ⟨rfl, rfl, trivial⟩ ?_
  refine WP_seq ?_
  refine WP_region ?_
  refine O_assign rfl rfl rfl ?_
  refine O_assign rfl rfl rfl ?_
  refine WL_end [(0, _), (4, _), (5, _), (6, _)] ⟨rfl, rfl, rfl, rfl, trivial⟩ ?_
  refine WP_seq ?_
  refine WP_seq ?_
  refine WP_region ?_
  refine O_move rfl rfl rfl ?_
  refine S_len Tryd.underlying9 rfl rfl rfl ?_
  refine O_move rfl rfl rfl ?_
  refine WL_end [(0, _), (4, _), (5, _), (6, _), (24, _), (25, _)] ⟨rfl, rfl, rfl, rfl, rfl, rfl, trivial⟩ ?_
  refine WP_block ?_
  refine WP_loop (S := Nat × Nat × Nat × Value) (fun (i, p, c, ov) => [(0, .string (bs l)), (4, ov), (5, .int .u32 (c : Nat)), (6, .int .u32 ((10 ^ (i - p) : Nat) : Int)), (24, .int .i64 (l.length : Nat)), (25, .int .i64 (i : Nat))]) (fun (i, p, c, ov) w' => Ext w w' ∧ No w.heap.size 89 w' ov (dig (dnum (l.take p))) ∧ i ≤ l.length ∧ p ≤ i ∧ i - p ≤ 8 ∧ (i = l.length → p = i) ∧ dnum (l.take i) = dnum (l.take p) * 10 ^ (i - p) + c ∧ c < 10 ^ (i - p) ∧ (dig (dnum (l.take p))).length ≤ 20001 ∧ ∀ x ∈ l.take i, isd x) (fun (i, p, c, ov) => l.length - i) (0, 0, 0, .slice none 0 0) ⟨rfl, rfl, rfl, rfl, rfl, rfl, trivial⟩ ⟨(Ext.refl _), (by simpa [dnum, dig_zero] using No.nil _ _ _), Nat.zero_le _, Nat.le_refl _, by omega, fun _ => rfl, by simp, by simp, by simp [dnum, dig_zero], by simp⟩ ?_
  rintro ⟨i, p, c, ov⟩ w9 ⟨hE, hov, hi, hpi, hip, hend, hnum, hc, hdp, hdi⟩
  show WP _ _ _ _ _ [(0, .string (bs l)), (4, ov), (5, .int .u32 (c : Nat)), (6, .int .u32 ((10 ^ (i - p) : Nat) : Int)), (24, .int .i64 (l.length : Nat)), (25, .int .i64 (i : Nat))] _
  have zE := hE.size
  have hdl := dnum_dlen (l := l.take i) hdi
  have hdl2 : (l.take i).length ≤ l.length := by rw [List.length_take]; exact Nat.min_le_right _ _
  have hp8 : (10 : Nat) ^ (i - p) ≤ 10 ^ 8 := Nat.pow_le_pow_right (by decide) hip
  have hp1 : (10 : Nat) ^ (i + 1 - p) = 10 ^ (i - p) * 10 := by rw [show i + 1 - p = (i - p) + 1 from by omega, Nat.pow_succ]
  generalize hQ : (10 : Nat) ^ (i - p) = Q at *
  refine WP_seq ?_
  refine WP_region ?_
  refine O_lss rfl rfl rfl rfl rfl ?_
  refine WL_end [(0, _), (4, _), (5, _), (6, _), (24, _), (25, _), (26, _)] ⟨rfl, rfl, rfl, rfl, rfl, rfl, rfl, trivial⟩ ?_
  refine WP_seq ?_
  refine WP_condD rfl (fun c26 => ?_) (fun c26 => ?_)
  · --
   refine WP_skip ?_
   refine WP_seq ?_
   refine WP_block ?_
   refine WP_seq ?_
   refine WP_region ?_
   refine O_move rfl rfl rfl ?_
   refine O_assign rfl rfl rfl ?_
   refine WL_end [(0, _), (4, _), (5, _), (6, _), (7, _), (24, _), (25, _)] ⟨rfl, rfl, rfl, rfl, rfl, rfl, rfl, trivial⟩ ?_
   refine WP_seq ?_
   refine WP_seq ?_
   have hil : i < l.length := by omega
   obtain ⟨b, hbi⟩ : ∃ b, l[i]? = some b := ⟨l[i], List.getElem?_eq_getElem hil⟩
   have hb255 := b.toNat_lt
   have hdb : isd b := hok.2.1 b (List.mem_of_getElem? hbi)
   have hdb2 := hdb
   unfold isd at hdb2
   · --
    skip
    refine WP_region ?_
    refine O_move rfl rfl rfl ?_
    refine O_move rfl rfl rfl ?_
    refine S_idx Tryd.underlying9 rfl rfl rfl rfl i rfl hbi ?_
    refine O_lss (t := false) rfl rfl rfl rfl (decide_eq_false (by omega)) ?_
    refine O_move rfl rfl rfl ?_
    refine O_move rfl rfl rfl ?_
    refine O_move rfl rfl rfl ?_
    refine S_idx Tryd.underlying9 rfl rfl rfl rfl i rfl hbi ?_
    refine O_gtr (t := false) rfl rfl rfl rfl (decide_eq_false (by omega)) ?_
    refine O_pickF rfl rfl rfl rfl ?_
    refine WL_end [(0, _), (4, _), (5, _), (6, _), (7, _), (24, _), (25, _), (37, _)] ⟨rfl, rfl, rfl, rfl, rfl, rfl, rfl, rfl, trivial⟩ ?_
    refine WP_condF rfl ?_
    refine WP_skip ?_
    refine WP_seq ?_
    refine WP_region ?_
    refine O_move rfl rfl rfl ?_
    refine O_mul (r := ((10 * c : Nat) : Int)) rfl rfl rfl rfl (by rw [wrap_u32]; omega) ?_
    refine O_move rfl rfl rfl ?_
    refine O_move rfl rfl rfl ?_
    refine S_idx Tryd.underlying9 rfl rfl rfl rfl i rfl hbi ?_
    refine O_sub (r := ((b.toNat - 48 : Nat) : Int)) rfl rfl rfl rfl (by rw [wrap_u8]; omega) ?_
    refine O_conv Tryd.underlying5 Tryd.underlying89 (r := ((b.toNat - 48 : Nat) : Int)) rfl rfl rfl (by rw [wrap_u32]; omega) ?_
    refine O_add (r := ((10 * c + (b.toNat - 48) : Nat) : Int)) rfl rfl rfl rfl (by rw [wrap_u32]; omega) ?_
    refine O_assign rfl rfl rfl ?_
    refine WL_end [(0, _), (4, _), (5, _), (6, _), (7, _), (24, _), (25, _)] ⟨rfl, rfl, rfl, rfl, rfl, rfl, rfl, trivial⟩ ?_
    refine WP_seq ?_
    refine WP_region ?_
    refine O_move rfl rfl rfl ?_
    refine O_mul (r := ((Q * 10 : Nat) : Int)) rfl rfl rfl rfl (by rw [wrap_u32]; omega) ?_
    refine O_assign rfl rfl rfl ?_
    refine WL_end [(0, _), (4, _), (5, _), (6, _), (7, _), (24, _), (25, _)] ⟨rfl, rfl, rfl, rfl, rfl, rfl, rfl, trivial⟩ ?_
    refine WP_seq ?_
    have hnew0 := dnum_take hbi
    have hnum2 : dnum (l.take (i + 1)) = dnum (l.take p) * (Q * 10) + (10 * c + (b.toNat - 48)) := by
      rw [hnew0, hnum, Nat.mul_add, ← Nat.mul_assoc (dnum (l.take p)) Q 10, Nat.mul_comm (dnum (l.take p) * Q) 10]
      omega
    by_cases h9 : Q * 10 = 1000000000
    rotate_left
    by_cases hlast : i = l.length - 1
    rotate_left
    rotate_right
    rotate_right
    · --
     have hnew : dig (dnum (l.take (i + 1))) = dig (dnum (l.take p) * (Q * 10) + (10 * c + (b.toNat - 48))) := by rw [hnum2]
     refine WP_region ?_
     refine O_move rfl rfl rfl ?_
     refine O_eql (t := true) rfl rfl rfl rfl (decide_eq_true (by rw [h9]; rfl)) ?_
     refine O_move rfl rfl rfl ?_
     refine O_skip rfl rfl ?_
     refine O_skip rfl rfl ?_
     refine O_skip rfl rfl ?_
     refine O_skip rfl rfl ?_
     refine O_skip rfl rfl ?_
     refine O_pickT rfl rfl rfl rfl ?_
     refine WL_end [(0, _), (4, _), (5, _), (6, _), (24, _), (25, _), (56, _)] ⟨rfl, rfl, rfl, rfl, rfl, rfl, rfl, trivial⟩ ?_
     refine WP_condT rfl ?_
     refine WP_seq ?_
     refine WP_region ?_
     refine O_move rfl rfl rfl ?_
     refine O_move rfl rfl rfl ?_
     refine O_move rfl rfl rfl ?_
     refine O_call enters116 rfl rfl rfl (small_c hov.nl (by (try simp only [lens]); omega) (by (try simp only [lens]); omega) (by (try simp only [lens]); omega)) (fun v3 w3 e3 h3 => ?_)
     have z3 := e3.size
     try simp only [val_dig] at h3
     refine O_assign rfl rfl rfl ?_
     refine WL_end [(0, _), (4, _), (24, _), (25, _)] ⟨rfl, rfl, rfl, rfl, trivial⟩ ?_
     refine WP_region ?_
     refine O_assign rfl rfl rfl ?_
     refine O_assign rfl rfl rfl ?_
     refine WL_end [(0, _), (4, _), (5, _), (6, _), (24, _), (25, _)] ⟨rfl, rfl, rfl, rfl, rfl, rfl, trivial⟩ ?_
     refine WP_region ?_
     refine O_add rfl rfl rfl rfl (wrap_i64_id (by omega) (by omega)) ?_
     refine O_move rfl rfl rfl ?_
     refine WL_end [(0, _), (4, _), (5, _), (6, _), (24, _), (25, _)] ⟨rfl, rfl, rfl, rfl, rfl, rfl, trivial⟩ ?_
     refine ⟨(i + 1, i + 1, 0, _), ⟨rfl, rfl, rfl, (by rw [Nat.sub_self]; rfl), rfl, rfl, trivial⟩, ⟨(hE.trans e3), (by rw [hnew]; exact (h3).mono (by omega)), by omega, Nat.le_refl _, by omega, fun _ => rfl, by simp, by simp, Nat.le_trans (dnum_dlen (isd_take hdi hbi hdb)) (by rw [List.length_take]; omega), isd_take hdi hbi hdb⟩, by dsimp only; omega⟩
    · --
     have hnew : dig (dnum (l.take (i + 1))) = dig (dnum (l.take p) * (Q * 10) + (10 * c + (b.toNat - 48))) := by rw [hnum2]
     refine WP_region ?_
     refine O_move rfl rfl rfl ?_
     refine O_eql (t := false) rfl rfl rfl rfl (decide_eq_false (fun h => h9 (by omega))) ?_
     refine O_move rfl rfl rfl ?_
     refine O_move rfl rfl rfl ?_
     refine O_move rfl rfl rfl ?_
     refine S_len Tryd.underlying9 rfl rfl rfl ?_
     refine O_sub (r := ((l.length : Int) - 1)) rfl rfl rfl rfl (by rw [IntKind.wrap_i64]; omega) ?_
     refine O_eql (t := true) rfl rfl rfl rfl (decide_eq_true (by omega)) ?_
     refine O_pickF rfl rfl rfl rfl ?_
     refine WL_end [(0, _), (4, _), (5, _), (6, _), (24, _), (25, _), (56, _)] ⟨rfl, rfl, rfl, rfl, rfl, rfl, rfl, trivial⟩ ?_
     refine WP_condT rfl ?_
     refine WP_seq ?_
     refine WP_region ?_
     refine O_move rfl rfl rfl ?_
     refine O_move rfl rfl rfl ?_
     refine O_move rfl rfl rfl ?_
     refine O_call enters116 rfl rfl rfl (small_c hov.nl (by (try simp only [lens]); omega) (by (try simp only [lens]); omega) (by (try simp only [lens]); omega)) (fun v4 w4 e4 h4 => ?_)
     have z4 := e4.size
     try simp only [val_dig] at h4
     refine O_assign rfl rfl rfl ?_
     refine WL_end [(0, _), (4, _), (24, _), (25, _)] ⟨rfl, rfl, rfl, rfl, trivial⟩ ?_
     refine WP_region ?_
     refine O_assign rfl rfl rfl ?_
     refine O_assign rfl rfl rfl ?_
     refine WL_end [(0, _), (4, _), (5, _), (6, _), (24, _), (25, _)] ⟨rfl, rfl, rfl, rfl, rfl, rfl, trivial⟩ ?_
     refine WP_region ?_
     refine O_add rfl rfl rfl rfl (wrap_i64_id (by omega) (by omega)) ?_
     refine O_move rfl rfl rfl ?_
     refine WL_end [(0, _), (4, _), (5, _), (6, _), (24, _), (25, _)] ⟨rfl, rfl, rfl, rfl, rfl, rfl, trivial⟩ ?_
     refine ⟨(i + 1, i + 1, 0, _), ⟨rfl, rfl, rfl, (by rw [Nat.sub_self]; rfl), rfl, rfl, trivial⟩, ⟨(hE.trans e4), (by rw [hnew]; exact (h4).mono (by omega)), by omega, Nat.le_refl _, by omega, fun _ => rfl, by simp, by simp, Nat.le_trans (dnum_dlen (isd_take hdi hbi hdb)) (by rw [List.length_take]; omega), isd_take hdi hbi hdb⟩, by dsimp only; omega⟩
    · --
     have hnew : dnum (l.take (i + 1)) = dnum (l.take p) * 10 ^ (i + 1 - p) + (10 * c + (b.toNat - 48)) := by rw [hp1]; exact hnum2
     have hip7 : i - p ≤ 7 := by
       rcases Nat.lt_or_ge 7 (i - p) with h | h
       · exfalso; apply h9; rw [← hQ, show i - p = 8 from by omega]
       · exact h
     refine WP_region ?_
     refine O_move rfl rfl rfl ?_
     refine O_eql (t := false) rfl rfl rfl rfl (decide_eq_false (fun h => h9 (by omega))) ?_
     refine O_move rfl rfl rfl ?_
     refine O_move rfl rfl rfl ?_
     refine O_move rfl rfl rfl ?_
     refine S_len Tryd.underlying9 rfl rfl rfl ?_
     refine O_sub (r := ((l.length : Int) - 1)) rfl rfl rfl rfl (by rw [IntKind.wrap_i64]; omega) ?_
     refine O_eql (t := false) rfl rfl rfl rfl (decide_eq_false (by omega)) ?_
     refine O_pickF rfl rfl rfl rfl ?_
     refine WL_end [(0, _), (4, _), (5, _), (6, _), (24, _), (25, _), (56, _)] ⟨rfl, rfl, rfl, rfl, rfl, rfl, rfl, trivial⟩ ?_
     refine WP_condF rfl ?_
     refine WP_skip ?_
     refine WP_region ?_
     refine O_add rfl rfl rfl rfl (wrap_i64_id (by omega) (by omega)) ?_
     refine O_move rfl rfl rfl ?_
     refine WL_end [(0, _), (4, _), (5, _), (6, _), (24, _), (25, _)] ⟨rfl, rfl, rfl, rfl, rfl, rfl, trivial⟩ ?_
     refine ⟨(i + 1, p, 10 * c + (b.toNat - 48), ov), ⟨rfl, rfl, rfl, (by rw [hp1]; rfl), rfl, rfl, trivial⟩, ⟨hE, hov, by omega, by omega, by omega, fun h => by omega, hnew, by rw [hp1]; omega, hdp, isd_take hdi hbi hdb⟩, by dsimp only; omega⟩
  · --
   refine WP_exit ?_
   refine inBlk_hit ?_
   refine WP_seq ?_
   refine WP_region ?_
   refine O_move rfl rfl rfl ?_
   refine O_assign rfl rfl rfl ?_
   refine O_assign rfl rfl rfl ?_
   refine WL_end [(2, _), (3, _)] ⟨rfl, rfl, trivial⟩ ?_
   refine WP_ret ?_
   refine ret2 Tryd.results104 rfl rfl ?_
   have hie : i = l.length := by omega
   have hpe := hend hie
   subst hpe
   rw [hie, List.take_length] at hov
   exact ⟨_, rfl, hE, _, rfl, hov⟩
set_option maxHeartbeats 1000000 in
theorem nat10_N {w : World} {l : List UInt8} (hl : l.length ≤ 20001) (hok : ¬ natok l) :
    Calls Tryd.prog 104 #[.string (bs l)] w (Ret w fun r _ => r = .tuple #[.slice none 0 0, .int .i64 6]) := by
 refine enter (args := [_]) Tryd.func104 rfl Tryd.ntmps104 rfl ?_
 refine WP_seq ?_
 refine WP_region ?_
 refine O_assign rfl rfl rfl ?_
 refine O_assign rfl rfl rfl ?_
 refine WL_end [(0, _)] ⟨rfl, trivial⟩ ?_
 refine WP_seq ?_
 refine WP_seq ?_
 refine WP_region ?_
 refine O_move rfl rfl rfl ?_
 refine S_len Tryd.underlying9 rfl rfl rfl ?_
 refine O_gtr (t := false) rfl rfl rfl rfl (decide_eq_false (by omega)) ?_
 refine WL_end [(0, _), (10, _)] ⟨rfl, rfl, trivial⟩ ?_
 refine WP_condF rfl ?_
 refine WP_skip ?_
 refine WP_seq ?_
 refine WP_seq ?_
 by_cases hl0 : l = []
 rotate_left
 by_cases h2 : 1 < l.length ∧ l[0]? = some 48
 rotate_left
 rcases Nat.decEq (l[0]?.map UInt8.toNat |>.getD 0) 48 with h48 | h48
 · --
  have hne : 0 < l.length := List.length_pos_iff.2 hl0
  obtain ⟨b0, hb0⟩ : ∃ b, l[0]? = some b := ⟨l[0], List.getElem?_eq_getElem hne⟩
  have hb0lt := b0.toNat_lt
  have hz48 : b0.toNat = 48 → b0 = 48 := fun h => UInt8.toNat_inj.1 (by rw [h]; rfl)
  have hx : ¬ (1 < l.length ∧ b0.toNat = 48) := fun h => h2 ⟨h.1, by rw [hb0, hz48 h.2]⟩
  have h48b : ¬ b0.toNat = 48 := by rw [hb0] at h48; simpa using h48
  refine WP_region ?_
  refine O_move rfl rfl rfl ?_
  refine S_eql (b := []) rfl rfl rfl rfl (decide_eq_false hl0) ?_
  refine O_move rfl rfl rfl ?_
  refine O_move rfl rfl rfl ?_
  refine S_idx Tryd.underlying9 rfl rfl rfl rfl 0 rfl hb0 ?_
  refine O_eql (t := false) rfl rfl rfl rfl (decide_eq_false (by omega)) ?_
  refine O_move rfl rfl rfl ?_
  refine O_skip rfl rfl ?_
  refine O_skip rfl rfl ?_
  refine O_skip rfl rfl ?_
  refine O_pickF rfl rfl rfl rfl ?_
  refine O_pickF rfl rfl rfl rfl ?_
  refine WL_end [(0, _), (22, _)] ⟨rfl, rfl, trivial⟩ ?_
  refine WP_condF rfl ?_
  refine WP_skip ?_
  refine WP_seq ?_
  refine WP_region ?_
  refine O_assign rfl rfl rfl ?_
  refine WL_end [(0, _), (4, _)] ⟨rfl, rfl, trivial⟩ ?_
  refine WP_seq ?_
  refine WP_region ?_
  refine O_assign rfl rfl rfl ?_
  refine O_assign rfl rfl rfl ?_
  refine WL_end [(0, _), (4, _), (5, _), (6, _)] ⟨rfl, rfl, rfl, rfl, trivial⟩ ?_
  refine WP_seq ?_
  refine WP_seq ?_
  refine WP_region ?_
  refine O_move rfl rfl rfl ?_
  refine S_len Tryd.underlying9 rfl rfl rfl ?_
  refine O_move rfl rfl rfl ?_
  refine WL_end [(0, _), (4, _), (5, _), (6, _), (24, _), (25, _)] ⟨rfl, rfl, rfl, rfl, rfl, rfl, trivial⟩ ?_
  refine WP_block ?_
  refine WP_loop (S := Nat × Nat × Nat × Value) (fun (i, p, c, ov) => [(0, .string (bs l)), (4, ov), (5, .int .u32 (c : Nat)), (6, .int .u32 ((10 ^ (i - p) : Nat) : Int)), (24, .int .i64 (l.length : Nat)), (25, .int .i64 (i : Nat))]) (fun (i, p, c, ov) w' => Ext w w' ∧ No w.heap.size 89 w' ov (dig (dnum (l.take p))) ∧ i ≤ l.length ∧ p ≤ i ∧ i - p ≤ 8 ∧ (i = l.length → p = i) ∧ dnum (l.take i) = dnum (l.take p) * 10 ^ (i - p) + c ∧ c < 10 ^ (i - p) ∧ (dig (dnum (l.take p))).length ≤ 20001 ∧ ∀ x ∈ l.take i, isd x) (fun (i, p, c, ov) => l.length - i) (0, 0, 0, .slice none 0 0) ⟨rfl, rfl, rfl, rfl, rfl, rfl, trivial⟩ ⟨(Ext.refl _), (by simpa [dnum, dig_zero] using No.nil _ _ _), Nat.zero_le _, Nat.le_refl _, by omega, fun _ => rfl, by simp, by simp, by simp [dnum, dig_zero], by simp⟩ ?_
  rintro ⟨i, p, c, ov⟩ w9 ⟨hE, hov, hi, hpi, hip, hend, hnum, hc, hdp, hdi⟩
  show WP _ _ _ _ _ [(0, .string (bs l)), (4, ov), (5, .int .u32 (c : Nat)), (6, .int .u32 ((10 ^ (i - p) : Nat) : Int)), (24, .int .i64 (l.length : Nat)), (25, .int .i64 (i : Nat))] _
  have zE := hE.size
  have hdl := dnum_dlen (l := l.take i) hdi
  have hdl2 : (l.take i).length ≤ l.length := by rw [List.length_take]; exact Nat.min_le_right _ _
  have hp8 : (10 : Nat) ^ (i - p) ≤ 10 ^ 8 := Nat.pow_le_pow_right (by decide) hip
  have hp1 : (10 : Nat) ^ (i + 1 - p) = 10 ^ (i - p) * 10 := by rw [show i + 1 - p = (i - p) + 1 from by omega, Nat.pow_succ]
  generalize hQ : (10 : Nat) ^ (i - p) = Q at *
  refine WP_seq ?_
  refine WP_region ?_
  refine O_lss rfl rfl rfl rfl rfl ?_
  refine WL_end [(0, _), (4, _), (5, _), (6, _), (24, _), (25, _), (26, _)] ⟨rfl, rfl, rfl, rfl, rfl, rfl, rfl, trivial⟩ ?_
  refine WP_seq ?_
  refine WP_condD rfl (fun c26 => ?_) (fun c26 => ?_)
  · --
   refine WP_skip ?_
   refine WP_seq ?_
   refine WP_block ?_
   refine WP_seq ?_
   refine WP_region ?_
   refine O_move rfl rfl rfl ?_
   refine O_assign rfl rfl rfl ?_
   refine WL_end [(0, _), (4, _), (5, _), (6, _), (7, _), (24, _), (25, _)] ⟨rfl, rfl, rfl, rfl, rfl, rfl, rfl, trivial⟩ ?_
   refine WP_seq ?_
   refine WP_seq ?_
   have hil : i < l.length := by omega
   obtain ⟨b, hbi⟩ : ∃ b, l[i]? = some b := ⟨l[i], List.getElem?_eq_getElem hil⟩
   have hb255 := b.toNat_lt
   by_cases hdb : isd b
   rotate_left
   by_cases h48 : b.toNat < 48
   · --
    skip
    refine WP_region ?_
    refine O_move rfl rfl rfl ?_
    refine O_move rfl rfl rfl ?_
    refine S_idx Tryd.underlying9 rfl rfl rfl rfl i rfl hbi ?_
    refine O_lss (t := true) rfl rfl rfl rfl (decide_eq_true (by omega)) ?_
    refine O_move rfl rfl rfl ?_
    refine O_skip rfl rfl ?_
    refine O_skip rfl rfl ?_
    refine O_skip rfl rfl ?_
    refine O_skip rfl rfl ?_
    refine O_pickT rfl rfl rfl rfl ?_
    refine WL_end [(0, _), (4, _), (5, _), (6, _), (7, _), (24, _), (25, _), (37, _)] ⟨rfl, rfl, rfl, rfl, rfl, rfl, rfl, rfl, trivial⟩ ?_
    refine WP_condT rfl ?_
    refine WP_seq ?_
    refine WP_region ?_
    refine O_assign rfl rfl rfl ?_
    refine O_assign rfl rfl rfl ?_
    refine WL_end [(2, _), (3, _)] ⟨rfl, rfl, trivial⟩ ?_
    refine WP_ret ?_
    refine inBlk_ret ?_
    refine inBlk_ret ?_
    refine ret2 Tryd.results104 rfl rfl ?_
    first
      | exact ⟨_, rfl, hE, rfl⟩
      | (exfalso; have hie : i = l.length := by omega
         rw [hie, List.take_length] at hdi
         exact hok ⟨hl0, hdi, h2⟩)
   · --
    have h57 : 57 < b.toNat := by unfold isd at hdb; omega
    refine WP_region ?_
    refine O_move rfl rfl rfl ?_
    refine O_move rfl rfl rfl ?_
    refine S_idx Tryd.underlying9 rfl rfl rfl rfl i rfl hbi ?_
    refine O_lss (t := false) rfl rfl rfl rfl (decide_eq_false (by omega)) ?_
    refine O_move rfl rfl rfl ?_
    refine O_move rfl rfl rfl ?_
    refine O_move rfl rfl rfl ?_
    refine S_idx Tryd.underlying9 rfl rfl rfl rfl i rfl hbi ?_
    refine O_gtr (t := true) rfl rfl rfl rfl (decide_eq_true (by omega)) ?_
    refine O_pickF rfl rfl rfl rfl ?_
    refine WL_end [(0, _), (4, _), (5, _), (6, _), (7, _), (24, _), (25, _), (37, _)] ⟨rfl, rfl, rfl, rfl, rfl, rfl, rfl, rfl, trivial⟩ ?_
    refine WP_condT rfl ?_
    refine WP_seq ?_
    refine WP_region ?_
    refine O_assign rfl rfl rfl ?_
    refine O_assign rfl rfl rfl ?_
    refine WL_end [(2, _), (3, _)] ⟨rfl, rfl, trivial⟩ ?_
    refine WP_ret ?_
    refine inBlk_ret ?_
    refine inBlk_ret ?_
    refine ret2 Tryd.results104 rfl rfl ?_
    first
      | exact ⟨_, rfl, hE, rfl⟩
      | (exfalso; have hie : i = l.length := by omega
         rw [hie, List.take_length] at hdi
         exact hok ⟨hl0, hdi, h2⟩)
   · --
    have hdb2 := hdb
    unfold isd at hdb2
    refine WP_region ?_
    refine O_move rfl rfl rfl ?_
    refine O_move rfl rfl rfl ?_
    refine S_idx Tryd.underlying9 rfl rfl rfl rfl i rfl hbi ?_
    refine O_lss (t := false) rfl rfl rfl rfl (decide_eq_false (by omega)) ?_
    refine O_move rfl rfl rfl ?_
    refine O_move rfl rfl rfl ?_
    refine O_move rfl rfl rfl ?_
    refine S_idx Tryd.underlying9 rfl rfl rfl rfl i rfl hbi ?_
    refine O_gtr (t := false) rfl rfl rfl rfl (decide_eq_false (by omega)) ?_
    refine O_pickF rfl rfl rfl rfl ?_
    refine WL_end [(0, _), (4, _), (5, _), (6, _), (7, _), (24, _), (25, _), (37, _)] ⟨rfl, rfl, rfl, rfl, rfl, rfl, rfl, rfl, trivial⟩ ?_
    refine WP_condF rfl ?_
    refine WP_skip ?_
    refine WP_seq ?_
    refine WP_region ?_
    refine O_move rfl rfl rfl ?_
    refine O_mul (r := ((10 * c : Nat) : Int)) rfl rfl rfl rfl (by rw [wrap_u32]; omega) ?_
    refine O_move rfl rfl rfl ?_
    refine O_move rfl rfl rfl ?_
    refine S_idx Tryd.underlying9 rfl rfl rfl rfl i rfl hbi ?_
    refine O_sub (r := ((b.toNat - 48 : Nat) : Int)) rfl rfl rfl rfl (by rw [wrap_u8]; omega) ?_
    refine O_conv Tryd.underlying5 Tryd.underlying89 (r := ((b.toNat - 48 : Nat) : Int)) rfl rfl rfl (by rw [wrap_u32]; omega) ?_
    refine O_add (r := ((10 * c + (b.toNat - 48) : Nat) : Int)) rfl rfl rfl rfl (by rw [wrap_u32]; omega) ?_
    refine O_assign rfl rfl rfl ?_
    refine WL_end [(0, _), (4, _), (5, _), (6, _), (7, _), (24, _), (25, _)] ⟨rfl, rfl, rfl, rfl, rfl, rfl, rfl, trivial⟩ ?_
    refine WP_seq ?_
    refine WP_region ?_
    refine O_move rfl rfl rfl ?_
    refine O_mul (r := ((Q * 10 : Nat) : Int)) rfl rfl rfl rfl (by rw [wrap_u32]; omega) ?_
    refine O_assign rfl rfl rfl ?_
    refine WL_end [(0, _), (4, _), (5, _), (6, _), (7, _), (24, _), (25, _)] ⟨rfl, rfl, rfl, rfl, rfl, rfl, rfl, trivial⟩ ?_
    refine WP_seq ?_
    have hnew0 := dnum_take hbi
    have hnum2 : dnum (l.take (i + 1)) = dnum (l.take p) * (Q * 10) + (10 * c + (b.toNat - 48)) := by
      rw [hnew0, hnum, Nat.mul_add, ← Nat.mul_assoc (dnum (l.take p)) Q 10, Nat.mul_comm (dnum (l.take p) * Q) 10]
      omega
    by_cases h9 : Q * 10 = 1000000000
    rotate_left
    by_cases hlast : i = l.length - 1
    rotate_left
    rotate_right
    rotate_right
    · --
     have hnew : dig (dnum (l.take (i + 1))) = dig (dnum (l.take p) * (Q * 10) + (10 * c + (b.toNat - 48))) := by rw [hnum2]
     refine WP_region ?_
     refine O_move rfl rfl rfl ?_
     refine O_eql (t := true) rfl rfl rfl rfl (decide_eq_true (by rw [h9]; rfl)) ?_
     refine O_move rfl rfl rfl ?_
     refine O_skip rfl rfl ?_
     refine O_skip rfl rfl ?_
     refine O_skip rfl rfl ?_
     refine O_skip rfl rfl ?_
     refine O_skip rfl rfl ?_
     refine O_pickT rfl rfl rfl rfl ?_
     refine WL_end [(0, _), (4, _), (5, _), (6, _), (24, _), (25, _), (56, _)] ⟨rfl, rfl, rfl, rfl, rfl, rfl, rfl, trivial⟩ ?_
     refine WP_condT rfl ?_
     refine WP_seq ?_
     refine WP_region ?_
     refine O_move rfl rfl rfl ?_
     refine O_move rfl rfl rfl ?_
     refine O_move rfl rfl rfl ?_
     refine O_call enters116 rfl rfl rfl (small_c hov.nl (by (try simp only [lens]); omega) (by (try simp only [lens]); omega) (by (try simp only [lens]); omega)) (fun v1 w1 e1 h1 => ?_)
     have z1 := e1.size
     try simp only [val_dig] at h1
     refine O_assign rfl rfl rfl ?_
     refine WL_end [(0, _), (4, _), (24, _), (25, _)] ⟨rfl, rfl, rfl, rfl, trivial⟩ ?_
     refine WP_region ?_
     refine O_assign rfl rfl rfl ?_
     refine O_assign rfl rfl rfl ?_
     refine WL_end [(0, _), (4, _), (5, _), (6, _), (24, _), (25, _)] ⟨rfl, rfl, rfl, rfl, rfl, rfl, trivial⟩ ?_
     refine WP_region ?_
     refine O_add rfl rfl rfl rfl (wrap_i64_id (by omega) (by omega)) ?_
     refine O_move rfl rfl rfl ?_
     refine WL_end [(0, _), (4, _), (5, _), (6, _), (24, _), (25, _)] ⟨rfl, rfl, rfl, rfl, rfl, rfl, trivial⟩ ?_
     refine ⟨(i + 1, i + 1, 0, _), ⟨rfl, rfl, rfl, (by rw [Nat.sub_self]; rfl), rfl, rfl, trivial⟩, ⟨(hE.trans e1), (by rw [hnew]; exact (h1).mono (by omega)), by omega, Nat.le_refl _, by omega, fun _ => rfl, by simp, by simp, Nat.le_trans (dnum_dlen (isd_take hdi hbi hdb)) (by rw [List.length_take]; omega), isd_take hdi hbi hdb⟩, by dsimp only; omega⟩
    · --
     have hnew : dig (dnum (l.take (i + 1))) = dig (dnum (l.take p) * (Q * 10) + (10 * c + (b.toNat - 48))) := by rw [hnum2]
     refine WP_region ?_
     refine O_move rfl rfl rfl ?_
     refine O_eql (t := false) rfl rfl rfl rfl (decide_eq_false (fun h => h9 (by omega))) ?_
     refine O_move rfl rfl rfl ?_
     refine O_move rfl rfl rfl ?_
     refine O_move rfl rfl rfl ?_
     refine S_len Tryd.underlying9 rfl rfl rfl ?_
     refine O_sub (r := ((l.length : Int) - 1)) rfl rfl rfl rfl (by rw [IntKind.wrap_i64]; omega) ?_
     refine O_eql (t := true) rfl rfl rfl rfl (decide_eq_true (by omega)) ?_
     refine O_pickF rfl rfl rfl rfl ?_
     refine WL_end [(0, _), (4, _), (5, _), (6, _), (24, _), (25, _), (56, _)] ⟨rfl, rfl, rfl, rfl, rfl, rfl, rfl, trivial⟩ ?_
     refine WP_condT rfl ?_
     refine WP_seq ?_
     refine WP_region ?_
     refine O_move rfl rfl rfl ?_
     refine O_move rfl rfl rfl ?_
     refine O_move rfl rfl rfl ?_
     refine O_call enters116 rfl rfl rfl (small_c hov.nl (by (try simp only [lens]); omega) (by (try simp only [lens]); omega) (by (try simp only [lens]); omega)) (fun v2 w2 e2 h2 => ?_)
     have z2 := e2.size
     try simp only [val_dig] at h2
     refine O_assign rfl rfl rfl ?_
     refine WL_end [(0, _), (4, _), (24, _), (25, _)] ⟨rfl, rfl, rfl, rfl, trivial⟩ ?_
     refine WP_region ?_
     refine O_assign rfl rfl rfl ?_
     refine O_assign rfl rfl rfl ?_
     refine WL_end [(0, _), (4, _), (5, _), (6, _), (24, _), (25, _)] ⟨rfl, rfl, rfl, rfl, rfl, rfl, trivial⟩ ?_
     refine WP_region ?_
     refine O_add rfl rfl rfl rfl (wrap_i64_id (by omega) (by omega)) ?_
     refine O_move rfl rfl rfl ?_
     refine WL_end [(0, _), (4, _), (5, _), (6, _), (24, _), (25, _)] ⟨rfl, rfl, rfl, rfl, rfl, rfl, trivial⟩ ?_
     refine ⟨(i + 1, i + 1, 0, _), ⟨rfl, rfl, rfl, (by rw [Nat.sub_self]; rfl), rfl, rfl, trivial⟩, ⟨(hE.trans e2), (by rw [hnew]; exact (h2).mono (by omega)), by omega, Nat.le_refl _, by omega, fun _ => rfl, by simp, by simp, Nat.le_trans (dnum_dlen (isd_take hdi hbi hdb)) (by rw [List.length_take]; omega), isd_take hdi hbi hdb⟩, by dsimp only; omega⟩
    · --
     have hnew : dnum (l.take (i + 1)) = dnum (l.take p) * 10 ^ (i + 1 - p) + (10 * c + (b.toNat - 48)) := by rw [hp1]; exact hnum2
     have hip7 : i - p ≤ 7 := by
       rcases Nat.lt_or_ge 7 (i - p) with h | h
       · exfalso; apply h9; rw [← hQ, show i - p = 8 from by omega]
       · exact h
     refine WP_region ?_
     refine O_move rfl rfl rfl ?_
     refine O_eql (t := false) rfl rfl rfl rfl (decide_eq_false (fun h => h9 (by omega))) ?_
     refine O_move rfl rfl rfl ?_
     refine O_move rfl rfl rfl ?_
     refine O_move rfl rfl rfl ?_
     refine S_len Tryd.underlying9 rfl rfl rfl ?_
     refine O_sub (r := ((l.length : Int) - 1)) rfl rfl rfl rfl (by rw [IntKind.wrap_i64]; omega) ?_
     refine O_eql (t := false) rfl rfl rfl rfl (decide_eq_false (by omega)) ?_
     refine O_pickF rfl rfl rfl rfl ?_
     refine WL_end [(0, _), (4, _), (5, _), (6, _), (24, _), (25, _), (56, _)] ⟨rfl, rfl, rfl, rfl, rfl, rfl, rfl, trivial⟩ ?_
     refine WP_condF rfl ?_
     refine WP_skip ?_
     refine WP_region ?_
     refine O_add rfl rfl rfl rfl (wrap_i64_id (by omega) (by omega)) ?_
     refine O_move rfl rfl rfl ?_
     refine WL_end [(0, _), (4, _), (5, _), (6, _), (24, _), (25, _)] ⟨rfl, rfl, rfl, rfl, rfl, rfl, trivial⟩ ?_
     refine ⟨(i + 1, p, 10 * c + (b.toNat - 48), ov), ⟨rfl, rfl, rfl, (by rw [hp1]; rfl), rfl, rfl, trivial⟩, ⟨hE, hov, by omega, by omega, by omega, fun h => by omega, hnew, by rw [hp1]; omega, hdp, isd_take hdi hbi hdb⟩, by dsimp only; omega⟩
  · --
   refine WP_exit ?_
   refine inBlk_hit ?_
   refine WP_seq ?_
   refine WP_region ?_
   refine O_move rfl rfl rfl ?_
   refine O_assign rfl rfl rfl ?_
   refine O_assign rfl rfl rfl ?_
   refine WL_end [(2, _), (3, _)] ⟨rfl, rfl, trivial⟩ ?_
   refine WP_ret ?_
   refine ret2 Tryd.results104 rfl rfl ?_
   first
     | exact ⟨_, rfl, hE, rfl⟩
     | (exfalso; have hie : i = l.length := by omega
        rw [hie, List.take_length] at hdi
        exact hok ⟨hl0, hdi, h2⟩)
 · --
  have hne : 0 < l.length := List.length_pos_iff.2 hl0
  obtain ⟨b0, hb0⟩ : ∃ b, l[0]? = some b := ⟨l[0], List.getElem?_eq_getElem hne⟩
  have hb0lt := b0.toNat_lt
  have hz48 : b0.toNat = 48 → b0 = 48 := fun h => UInt8.toNat_inj.1 (by rw [h]; rfl)
  have hx : ¬ (1 < l.length ∧ b0.toNat = 48) := fun h => h2 ⟨h.1, by rw [hb0, hz48 h.2]⟩
  have h48b : b0.toNat = 48 := by rw [hb0] at h48; simpa using h48
  refine WP_region ?_
  refine O_move rfl rfl rfl ?_
  refine S_eql (b := []) rfl rfl rfl rfl (decide_eq_false hl0) ?_
  refine O_move rfl rfl rfl ?_
  refine O_move rfl rfl rfl ?_
  refine S_idx Tryd.underlying9 rfl rfl rfl rfl 0 rfl hb0 ?_
  refine O_eql (t := true) rfl rfl rfl rfl (decide_eq_true (by omega)) ?_
  refine O_move rfl rfl rfl ?_
  refine O_move rfl rfl rfl ?_
  refine S_len Tryd.underlying9 rfl rfl rfl ?_
  refine O_gtr (t := false) rfl rfl rfl rfl (decide_eq_false (by omega)) ?_
  refine O_pickT rfl rfl rfl rfl ?_
  refine O_pickF rfl rfl rfl rfl ?_
  refine WL_end [(0, _), (22, _)] ⟨rfl, rfl, trivial⟩ ?_
  refine WP_condF rfl ?_
  refine WP_skip ?_
  refine WP_seq ?_
  refine WP_region ?_
  refine O_assign rfl rfl rfl ?_
  refine WL_end [(0, _), (4, _)] ⟨rfl, rfl, trivial⟩ ?_
  refine WP_seq ?_
  refine WP_region ?_
  refine O_assign rfl rfl rfl ?_
  refine O_assign rfl rfl rfl ?_
  refine WL_end [(0, _), (4, _), (5, _), (6, _)] ⟨rfl, rfl, rfl, rfl, trivial⟩ ?_
  refine WP_seq ?_
  refine WP_seq ?_
  refine WP_region ?_
  refine O_move rfl rfl rfl ?_
  refine S_len Tryd.underlying9 rfl rfl rfl ?_
  refine O_move rfl rfl rfl ?_
  refine WL_end [(0, _), (4, _), (5, _), (6, _), (24, _), (25, _)] ⟨rfl, rfl, rfl, rfl, rfl, rfl, trivial⟩ ?_
  refine WP_block ?_
  refine WP_loop (S := Nat × Nat × Nat × Value) (fun (i, p, c, ov) => [(0, .string (bs l)), (4, ov), (5, .int .u32 (c : Nat)), (6, .int .u32 ((10 ^ (i - p) : Nat) : Int)), (24, .int .i64 (l.length : Nat)), (25, .int .i64 (i : Nat))]) (fun (i, p, c, ov) w' => Ext w w' ∧ No w.heap.size 89 w' ov (dig (dnum (l.take p))) ∧ i ≤ l.length ∧ p ≤ i ∧ i - p ≤ 8 ∧ (i = l.length → p = i) ∧ dnum (l.take i) = dnum (l.take p) * 10 ^ (i - p) + c ∧ c < 10 ^ (i - p) ∧ (dig (dnum (l.take p))).length ≤ 20001 ∧ ∀ x ∈ l.take i, isd x) (fun (i, p, c, ov) => l.length - i) (0, 0, 0, .slice none 0 0) ⟨rfl, rfl, rfl, rfl, rfl, rfl, trivial⟩ ⟨(Ext.refl _), (by simpa [dnum, dig_zero] using No.nil _ _ _), Nat.zero_le _, Nat.le_refl _, by omega, fun _ => rfl, by simp, by simp, by simp [dnum, dig_zero], by simp⟩ ?_
  rintro ⟨i, p, c, ov⟩ w9 ⟨hE, hov, hi, hpi, hip, hend, hnum, hc, hdp, hdi⟩
  show WP _ _ _ _ _ [(0, .string (bs l)), (4, ov), (5, .int .u32 (c : Nat)), (6, .int .u32 ((10 ^ (i - p) : Nat) : Int)), (24, .int .i64 (l.length : Nat)), (25, .int .i64 (i : Nat))] _
  have zE := hE.size
  have hdl := dnum_dlen (l := l.take i) hdi
  have hdl2 : (l.take i).length ≤ l.length := by rw [List.length_take]; exact Nat.min_le_right _ _
  have hp8 : (10 : Nat) ^ (i - p) ≤ 10 ^ 8 := Nat.pow_le_pow_right (by decide) hip
  have hp1 : (10 : Nat) ^ (i + 1 - p) = 10 ^ (i - p) * 10 := by rw [show i + 1 - p = (i - p) + 1 from by omega, Nat.pow_succ]
  generalize hQ : (10 : Nat) ^ (i - p) = Q at *
  refine WP_seq ?_
  refine WP_region ?_
  refine O_lss rfl rfl rfl rfl rfl ?_
  refine WL_end [(0, _), (4, _), (5, _), (6, _), (24, _), (25, _), (26, _)] ⟨rfl, rfl, rfl, rfl, rfl, rfl, rfl, trivial⟩ ?_
  refine WP_seq ?_
  refine WP_condD rfl (fun c26 => ?_) (fun c26 => ?_)
  · --
   refine WP_skip ?_
   refine WP_seq ?_
   refine WP_block ?_
   refine WP_seq ?_
   refine WP_region ?_
   refine O_move rfl rfl rfl ?_
   refine O_assign rfl rfl rfl ?_
   refine WL_end [(0, _), (4, _), (5, _), (6, _), (7, _), (24, _), (25, _)] ⟨rfl, rfl, rfl, rfl, rfl, rfl, rfl, trivial⟩ ?_
   refine WP_seq ?_
   refine WP_seq ?_
   have hil : i < l.length := by omega
   obtain ⟨b, hbi⟩ : ∃ b, l[i]? = some b := ⟨l[i], List.getElem?_eq_getElem hil⟩
   have hb255 := b.toNat_lt
   by_cases hdb : isd b
   rotate_left
   by_cases h48 : b.toNat < 48
   · --
    skip
    refine WP_region ?_
    refine O_move rfl rfl rfl ?_
    refine O_move rfl rfl rfl ?_
    refine S_idx Tryd.underlying9 rfl rfl rfl rfl i rfl hbi ?_
    refine O_lss (t := true) rfl rfl rfl rfl (decide_eq_true (by omega)) ?_
    refine O_move rfl rfl rfl ?_
    refine O_skip rfl rfl ?_
    refine O_skip rfl rfl ?_
    refine O_skip rfl rfl ?_
    refine O_skip rfl rfl ?_
    refine O_pickT rfl rfl rfl rfl ?_
    refine WL_end [(0, _), (4, _), (5, _), (6, _), (7, _), (24, _), (25, _), (37, _)] ⟨rfl, rfl, rfl, rfl, rfl, rfl, rfl, rfl, trivial⟩ ?_
    refine WP_condT rfl ?_
    refine WP_seq ?_
    refine WP_region ?_
    refine O_assign rfl rfl rfl ?_
    refine O_assign rfl rfl rfl ?_
    refine WL_end [(2, _), (3, _)] ⟨rfl, rfl, trivial⟩ ?_
    refine WP_ret ?_
    refine inBlk_ret ?_
    refine inBlk_ret ?_
    refine ret2 Tryd.results104 rfl rfl ?_
    first
      | exact ⟨_, rfl, hE, rfl⟩
      | (exfalso; have hie : i = l.length := by omega
         rw [hie, List.take_length] at hdi
         exact hok ⟨hl0, hdi, h2⟩)
   · --
    have h57 : 57 < b.toNat := by unfold isd at hdb; omega
    refine WP_region ?_
    refine O_move rfl rfl rfl ?_
    refine O_move rfl rfl rfl ?_
    refine S_idx Tryd.underlying9 rfl rfl rfl rfl i rfl hbi ?_
    refine O_lss (t := false) rfl rfl rfl rfl (decide_eq_false (by omega)) ?_
    refine O_move rfl rfl rfl ?_
    refine O_move rfl rfl rfl ?_
    refine O_move rfl rfl rfl ?_
    refine S_idx Tryd.underlying9 rfl rfl rfl rfl i rfl hbi ?_
    refine O_gtr (t := true) rfl rfl rfl rfl (decide_eq_true (by omega)) ?_
    refine O_pickF rfl rfl rfl rfl ?_
    refine WL_end [(0, _), (4, _), (5, _), (6, _), (7, _), (24, _), (25, _), (37, _)] ⟨rfl, rfl, rfl, rfl, rfl, rfl, rfl, rfl, trivial⟩ ?_
    refine WP_condT rfl ?_
    refine WP_seq ?_
    refine WP_region ?_
    refine O_assign rfl rfl rfl ?_
    refine O_assign rfl rfl rfl ?_
    refine WL_end [(2, _), (3, _)] ⟨rfl, rfl, trivial⟩ ?_
    refine WP_ret ?_
    refine inBlk_ret ?_
    refine inBlk_ret ?_
    refine ret2 Tryd.results104 rfl rfl ?_
    first
      | exact ⟨_, rfl, hE, rfl⟩
      | (exfalso; have hie : i = l.length := by omega
         rw [hie, List.take_length] at hdi
         exact hok ⟨hl0, hdi, h2⟩)
   · --
    have hdb2 := hdb
    unfold isd at hdb2
    refine WP_region ?_
    refine O_move rfl rfl rfl ?_
    refine O_move rfl rfl rfl ?_
    refine S_idx Tryd.underlying9 rfl rfl rfl rfl i rfl hbi ?_
    refine O_lss (t := false) rfl rfl rfl rfl (decide_eq_false (by omega)) ?_
    refine O_move rfl rfl rfl ?_
    refine O_move rfl rfl rfl ?_
    refine O_move rfl rfl rfl ?_
    refine S_idx Tryd.underlying9 rfl rfl rfl rfl i rfl hbi ?_
    refine O_gtr (t := false) rfl rfl rfl rfl (decide_eq_false (by omega)) ?_
    refine O_pickF rfl rfl rfl rfl ?_
    refine WL_end [(0, _), (4, _), (5, _), (6, _), (7, _), (24, _), (25, _), (37, _)] ⟨rfl, rfl, rfl, rfl, rfl, rfl, rfl, rfl, trivial⟩ ?_
    refine WP_condF rfl ?_
    refine WP_skip ?_
    refine WP_seq ?_
    refine WP_region ?_
    refine O_move rfl rfl rfl ?_
    refine O_mul (r := ((10 * c : Nat) : Int)) rfl rfl rfl rfl (by rw [wrap_u32]; omega) ?_
    refine O_move rfl rfl rfl ?_
    refine O_move rfl rfl rfl ?_
    refine S_idx Tryd.underlying9 rfl rfl rfl rfl i rfl hbi ?_
    refine O_sub (r := ((b.toNat - 48 : Nat) : Int)) rfl rfl rfl rfl (by rw [wrap_u8]; omega) ?_
    refine O_conv Tryd.underlying5 Tryd.underlying89 (r := ((b.toNat - 48 : Nat) : Int)) rfl rfl rfl (by rw [wrap_u32]; omega) ?_
    refine O_add (r := ((10 * c + (b.toNat - 48) : Nat) : Int)) rfl rfl rfl rfl (by rw [wrap_u32]; omega) ?_
    refine O_assign rfl rfl rfl ?_
    refine WL_end [(0, _), (4, _), (5, _), (6, _), (7, _), (24, _), (25, _)] ⟨rfl, rfl, rfl, rfl, rfl, rfl, rfl, trivial⟩ ?_
    refine WP_seq ?_
    refine WP_region ?_
    refine O_move rfl rfl rfl ?_
    refine O_mul (r := ((Q * 10 : Nat) : Int)) rfl rfl rfl rfl (by rw [wrap_u32]; omega) ?_
    refine O_assign rfl rfl rfl ?_
    refine WL_end [(0, _), (4, _), (5, _), (6, _), (7, _), (24, _), (25, _)] ⟨rfl, rfl, rfl, rfl, rfl, rfl, rfl, trivial⟩ ?_
    refine WP_seq ?_
    have hnew0 := dnum_take hbi
    have hnum2 : dnum (l.take (i + 1)) = dnum (l.take p) * (Q * 10) + (10 * c + (b.toNat - 48)) := by
      rw [hnew0, hnum, Nat.mul_add, ← Nat.mul_assoc (dnum (l.take p)) Q 10, Nat.mul_comm (dnum (l.take p) * Q) 10]
      omega
    by_cases h9 : Q * 10 = 1000000000
    rotate_left
    by_cases hlast : i = l.length - 1
    rotate_left
    rotate_right
    rotate_right
    · --
     have hnew : dig (dnum (l.take (i + 1))) = dig (dnum (l.take p) * (Q * 10) + (10 * c + (b.toNat - 48))) := by rw [hnum2]
     refine WP_region ?_
     refine O_move rfl rfl rfl ?_
     refine O_eql (t := true) rfl rfl rfl rfl (decide_eq_true (by rw [h9]; rfl)) ?_
     refine O_move rfl rfl rfl ?_
     refine O_skip rfl rfl ?_
     refine O_skip rfl rfl ?_
     refine O_skip rfl rfl ?_
     refine O_skip rfl rfl ?_
     refine O_skip rfl rfl ?_
     refine O_pickT rfl rfl rfl rfl ?_
     refine WL_end [(0, _), (4, _), (5, _), (6, _), (24, _), (25, _), (56, _)] ⟨rfl, rfl, rfl, rfl, rfl, rfl, rfl, trivial⟩ ?_
     refine WP_condT rfl ?_
     refine WP_seq ?_
     refine WP_region ?_
     refine O_move rfl rfl rfl ?_
     refine O_move rfl rfl rfl ?_
     refine O_move rfl rfl rfl ?_
     refine O_call enters116 rfl rfl rfl (small_c hov.nl (by (try simp only [lens]); omega) (by (try simp only [lens]); omega) (by (try simp only [lens]); omega)) (fun v3 w3 e3 h3 => ?_)
     have z3 := e3.size
     try simp only [val_dig] at h3
     refine O_assign rfl rfl rfl ?_
     refine WL_end [(0, _), (4, _), (24, _), (25, _)] ⟨rfl, rfl, rfl, rfl, trivial⟩ ?_
     refine WP_region ?_
     refine O_assign rfl rfl rfl ?_
     refine O_assign rfl rfl rfl ?_
     refine WL_end [(0, _), (4, _), (5, _), (6, _), (24, _), (25, _)] ⟨rfl, rfl, rfl, rfl, rfl, rfl, trivial⟩ ?_
     refine WP_region ?_
     refine O_add rfl rfl rfl rfl (wrap_i64_id (by omega) (by omega)) ?_
     refine O_move rfl rfl rfl ?_
     refine WL_end [(0, _), (4, _), (5, _), (6, _), (24, _), (25, _)] ⟨rfl, rfl, rfl, rfl, rfl, rfl, trivial⟩ ?_
     refine ⟨(i + 1, i + 1, 0, _), ⟨rfl, rfl, rfl, (by rw [Nat.sub_self]; rfl), rfl, rfl, trivial⟩, ⟨(hE.trans e3), (by rw [hnew]; exact (h3).mono (by omega)), by omega, Nat.le_refl _, by omega, fun _ => rfl, by simp, by simp, Nat.le_trans (dnum_dlen (isd_take hdi hbi hdb)) (by rw [List.length_take]; omega), isd_take hdi hbi hdb⟩, by dsimp only; omega⟩
    · --
     have hnew : dig (dnum (l.take (i + 1))) = dig (dnum (l.take p) * (Q * 10) + (10 * c + (b.toNat - 48))) := by rw [hnum2]
     refine WP_region ?_
     refine O_move rfl rfl rfl ?_
     refine O_eql (t := false) rfl rfl rfl rfl (decide_eq_false (fun h => h9 (by omega))) ?_
     refine O_move rfl rfl rfl ?_
     refine O_move rfl rfl rfl ?_
     refine O_move rfl rfl rfl ?_
     refine S_len Tryd.underlying9 rfl rfl rfl ?_
     refine O_sub (r := ((l.length : Int) - 1)) rfl rfl rfl rfl (by rw [IntKind.wrap_i64]; omega) ?_
     refine O_eql (t := true) rfl rfl rfl rfl (decide_eq_true (by omega)) ?_
     refine O_pickF rfl rfl rfl rfl ?_
     refine WL_end [(0, _), (4, _), (5, _), (6, _), (24, _), (25, _), (56, _)] ⟨rfl, rfl, rfl, rfl, rfl, rfl, rfl, trivial⟩ ?_
     refine WP_condT rfl ?_
     refine WP_seq ?_
     refine WP_region ?_
     refine O_move rfl rfl rfl ?_
     refine O_move rfl rfl rfl ?_
     refine O_move rfl rfl rfl ?_
     refine O_call enters116 rfl rfl rfl (small_c hov.nl (by (try simp only [lens]); omega) (by (try simp only [lens]); omega) (by (try simp only [lens]); omega)) (fun v4 w4 e4 h4 => ?_)
     have z4 := e4.size
     try simp only [val_dig] at h4
     refine O_assign rfl rfl rfl ?_
     refine WL_end [(0, _), (4, _), (24, _), (25, _)] ⟨rfl, rfl, rfl, rfl, trivial⟩ ?_
     refine WP_region ?_
     refine O_assign rfl rfl rfl ?_
     refine O_assign rfl rfl rfl ?_
     refine WL_end [(0, _), (4, _), (5, _), (6, _), (24, _), (25, _)] ⟨rfl, rfl, rfl, rfl, rfl, rfl, trivial⟩ ?_
     refine WP_region ?_
     refine O_add rfl rfl rfl rfl (wrap_i64_id (by omega) (by omega)) ?_
     refine O_move rfl rfl rfl ?_
     refine WL_end [(0, _), (4, _), (5, _), (6, _), (24, _), (25, _)] ⟨rfl, rfl, rfl, rfl, rfl, rfl, trivial⟩ ?_
     refine ⟨(i + 1, i + 1, 0, _), ⟨rfl, rfl, rfl, (by rw [Nat.sub_self]; rfl), rfl, rfl, trivial⟩, ⟨(hE.trans e4), (by rw [hnew]; exact (h4).mono (by omega)), by omega, Nat.le_refl _, by omega, fun _ => rfl, by simp, by simp, Nat.le_trans (dnum_dlen (isd_take hdi hbi hdb)) (by rw [List.length_take]; omega), isd_take hdi hbi hdb⟩, by dsimp only; omega⟩
    · --
     have hnew : dnum (l.take (i + 1)) = dnum (l.take p) * 10 ^ (i + 1 - p) + (10 * c + (b.toNat - 48)) := by rw [hp1]; exact hnum2
     have hip7 : i - p ≤ 7 := by
       rcases Nat.lt_or_ge 7 (i - p) with h | h
       · exfalso; apply h9; rw [← hQ, show i - p = 8 from by omega]
       · exact h
     refine WP_region ?_
     refine O_move rfl rfl rfl ?_
     refine O_eql (t := false) rfl rfl rfl rfl (decide_eq_false (fun h => h9 (by omega))) ?_
     refine O_move rfl rfl rfl ?_
     refine O_move rfl rfl rfl ?_
     refine O_move rfl rfl rfl ?_
     refine S_len Tryd.underlying9 rfl rfl rfl ?_
     refine O_sub (r := ((l.length : Int) - 1)) rfl rfl rfl rfl (by rw [IntKind.wrap_i64]; omega) ?_
     refine O_eql (t := false) rfl rfl rfl rfl (decide_eq_false (by omega)) ?_
     refine O_pickF rfl rfl rfl rfl ?_
     refine WL_end [(0, _), (4, _), (5, _), (6, _), (24, _), (25, _), (56, _)] ⟨rfl, rfl, rfl, rfl, rfl, rfl, rfl, trivial⟩ ?_
     refine WP_condF rfl ?_
     refine WP_skip ?_
     refine WP_region ?_
     refine O_add rfl rfl rfl rfl (wrap_i64_id (by omega) (by omega)) ?_
     refine O_move rfl rfl rfl ?_
     refine WL_end [(0, _), (4, _), (5, _), (6, _), (24, _), (25, _)] ⟨rfl, rfl, rfl, rfl, rfl, rfl, trivial⟩ ?_
     refine ⟨(i + 1, p, 10 * c + (b.toNat - 48), ov), ⟨rfl, rfl, rfl, (by rw [hp1]; rfl), rfl, rfl, trivial⟩, ⟨hE, hov, by omega, by omega, by omega, fun h => by omega, hnew, by rw [hp1]; omega, hdp, isd_take hdi hbi hdb⟩, by dsimp only; omega⟩
  · --
   refine WP_exit ?_
   refine inBlk_hit ?_
   refine WP_seq ?_
   refine WP_region ?_
   refine O_move rfl rfl rfl ?_
   refine O_assign rfl rfl rfl ?_
   refine O_assign rfl rfl rfl ?_
   refine WL_end [(2, _), (3, _)] ⟨rfl, rfl, trivial⟩ ?_
   refine WP_ret ?_
   refine ret2 Tryd.results104 rfl rfl ?_
   first
     | exact ⟨_, rfl, hE, rfl⟩
     | (exfalso; have hie : i = l.length := by omega
        rw [hie, List.take_length] at hdi
        exact hok ⟨hl0, hdi, h2⟩)
 · --
  skip
  refine WP_region ?_
  refine O_move rfl rfl rfl ?_
  refine S_eql (b := []) rfl rfl rfl rfl (decide_eq_true hl0) ?_
  refine O_move rfl rfl rfl ?_
  refine O_skip rfl rfl ?_
  refine O_skip rfl rfl ?_
  refine O_skip rfl rfl ?_
  refine O_skip rfl rfl ?_
  refine O_skipU rfl rfl rfl ?_
  refine O_skipU rfl rfl rfl ?_
  refine O_skipU rfl rfl rfl ?_
  refine O_skip rfl rfl ?_
  refine O_pickT rfl rfl rfl rfl ?_
  refine WL_end [(0, _), (22, _)] ⟨rfl, rfl, trivial⟩ ?_
  refine WP_condT rfl ?_
  refine WP_seq ?_
  refine WP_region ?_
  refine O_assign rfl rfl rfl ?_
  refine O_assign rfl rfl rfl ?_
  refine WL_end [(2, _), (3, _)] ⟨rfl, rfl, trivial⟩ ?_
  refine WP_ret ?_
  refine ret2 Tryd.results104 rfl rfl ?_
  first
    | exact ⟨_, rfl, (Ext.refl _), rfl⟩
    | (exfalso; have hie : i = l.length := by omega
       rw [hie, List.take_length] at hdi
       exact hok ⟨hl0, hdi, h2⟩)
 · --
  have hne : 0 < l.length := List.length_pos_iff.2 hl0
  obtain ⟨b0, hb0⟩ : ∃ b, l[0]? = some b := ⟨l[0], List.getElem?_eq_getElem hne⟩
  have hb0lt := b0.toNat_lt
  have hz48 : b0.toNat = 48 → b0 = 48 := fun h => UInt8.toNat_inj.1 (by rw [h]; rfl)
  have hx : 1 < l.length ∧ b0 = 48 := ⟨h2.1, by rw [hb0] at h2; exact Option.some.inj h2.2⟩
  refine WP_region ?_
  refine O_move rfl rfl rfl ?_
  refine S_eql (b := []) rfl rfl rfl rfl (decide_eq_false hl0) ?_
  refine O_move rfl rfl rfl ?_
  refine O_move rfl rfl rfl ?_
  refine S_idx Tryd.underlying9 rfl rfl rfl rfl 0 rfl hb0 ?_
  refine O_eql (t := true) rfl rfl rfl rfl (decide_eq_true (by rw [hx.2]; rfl)) ?_
  refine O_move rfl rfl rfl ?_
  refine O_move rfl rfl rfl ?_
  refine S_len Tryd.underlying9 rfl rfl rfl ?_
  refine O_gtr (t := true) rfl rfl rfl rfl (decide_eq_true (by omega)) ?_
  refine O_pickT rfl rfl rfl rfl ?_
  refine O_pickF rfl rfl rfl rfl ?_
  refine WL_end [(0, _), (22, _)] ⟨rfl, rfl, trivial⟩ ?_
  refine WP_condT rfl ?_
  refine WP_seq ?_
  refine WP_region ?_
  refine O_assign rfl rfl rfl ?_
  refine O_assign rfl rfl rfl ?_
  refine WL_end [(2, _), (3, _)] ⟨rfl, rfl, trivial⟩ ?_
  refine WP_ret ?_
  refine ret2 Tryd.results104 rfl rfl ?_
  first
    | exact ⟨_, rfl, (Ext.refl _), rfl⟩
    | (exfalso; have hie : i = l.length := by omega
       rw [hie, List.take_length] at hdi
       exact hok ⟨hl0, hdi, h2⟩)

end Go.Proofs.YtnfnadhbjdcbnaaDoor
