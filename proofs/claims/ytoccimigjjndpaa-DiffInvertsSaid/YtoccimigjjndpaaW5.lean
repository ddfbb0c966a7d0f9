/-
  Walks.
-/
import Derived.Test.YtoccimigjjndpaaW3
import Derived.Test.YtoccimigjjndpaaJoin
import Derived.Test.YtoccimigjjndpaaMore
set_option linter.unusedVariables false
set_option linter.unusedSimpArgs false
set_option maxRecDepth 100000
namespace Go.Proofs.Ytoccimigjjndpaa
open Go Go.RowKit
theorem joinO_c {B : Nat} {e : TypeId} {w : World} {v : Value} {xs : List ByteArray} {sep : ByteArray} (h : OwM fS B e w v xs) (hN : xs.length ≤ 140737488355328) (hlen : (Lib.join (xs.map (·.data.toList)) sep.data.toList).length ≤ 140737488355328) :
    Calls Try.prog 79 #[v, .string sep] w (Ret w fun r _ => r = .string ⟨(Lib.join (xs.map (·.data.toList)) sep.data.toList).toArray⟩) := by
  have hs := h.sl
  obtain ⟨h1, h2⟩ := h
  rcases h2 with ⟨rfl, h0⟩ | ⟨g, cap, cur, rfl, hb, hh, hcap, _⟩
  · have hx : xs = [] := by simpa using h0
    subst hx
    exact sjoin_none
  · obtain ⟨a, cap', e1, hle, hm, h0, hc⟩ := hs
    injection e1 with e1a e1b e1c
    subst e1a
    rw [List.length_map] at hcap ⊢
    have hlt : g < w.heap.size := by
      rcases Nat.lt_or_ge g w.heap.size with k | k
      · exact k
      · rw [Array.getElem?_eq_none k] at hh; cases hh
    exact sjoin_c (bk := g) (o := 0) (c := cap) (xs := xs) (fun j x hx => by
      obtain ⟨y, hy, hcell⟩ := hc j (.string x) (by rw [List.getElem?_map, hx]; rfl)
      cases hy
      by_cases hj : j = 0
      · subst hj; simpa [Addr.add] using hcell
      · simpa [Addr.add, hj] using hcell) hlt hN (by omega) hlen
/-- A change's word. -/
def wordB (c : Ch) : ByteArray := if c.1 = 2 then ⟨#[45]⟩ ++ c.2.1 else if c.2.2.1 = -1 then ⟨#[43]⟩ ++ c.2.1 else ⟨#[126]⟩ ++ c.2.1
theorem wordB_2 {c : Ch} (h : c.1 = 2) : wordB c = ⟨#[45]⟩ ++ c.2.1 := if_pos h
theorem wordB_n {c : Ch} (h : ¬ c.1 = 2) (h2 : c.2.2.1 = -1) : wordB c = ⟨#[43]⟩ ++ c.2.1 := by unfold wordB; rw [if_neg h, if_pos h2]
theorem wordB_o {c : Ch} (h : ¬ c.1 = 2) (h2 : ¬ c.2.2.1 = -1) : wordB c = ⟨#[126]⟩ ++ c.2.1 := by unfold wordB; rw [if_neg h, if_neg h2]
theorem size1 (b : UInt8) : (⟨#[b]⟩ : ByteArray).size = 1 := rfl
def fmtB (l : List Ch) : ByteArray := ⟨(Lib.join ((l.map wordB).map (·.data.toList)) [32]).toArray⟩

set_option maxHeartbeats 1000000 in
theorem format_c {w : World} {v : Value} {l : List Ch} (hs : SlC w v l) (hl : l.length ≤ 1000000) (hn : ∀ c ∈ l, c.2.1.size ≤ 140737488355328) (hlen : (Lib.join ((l.map wordB).map (·.data.toList)) [32]).length ≤ 140737488355328) :
    Calls Try.prog 49 #[v] w (Ret w fun r _ => r = .string (fmtB l)) := by
 refine enter (args := [v]) Try.func49 rfl Try.ntmps49 rfl ?_
 refine WP_seq ?_
 refine WP_region ?_
 refine O_assign rfl rfl rfl ?_
 refine WL_end [(0, _)] ⟨rfl, trivial⟩ ?_
 refine WP_seq ?_
 refine WP_region ?_
 refine O_assign rfl rfl rfl ?_
 refine WL_end [(0, _), (3, _)] ⟨rfl, rfl, trivial⟩ ?_
 refine WP_seq ?_
 refine WP_seq ?_
 refine WP_region ?_
 refine O_move rfl rfl rfl ?_
 refine C_len Echange rfl rfl rfl hs ?_
 refine O_move rfl rfl rfl ?_
 refine WL_end [(3, _), (6, _), (7, _), (8, _)] ⟨rfl, rfl, rfl, rfl, trivial⟩ ?_
 refine WP_block ?_
 refine WP_loop (S := Nat × Value) (fun (i, ov) => [(3, ov), (6, v), (7, .int .i64 (l.length : Nat)), (8, .int .i64 (i : Nat))]) (fun (i, ov) w' => Ext w w' ∧ OwM fS w.heap.size 9 w' ov ((l.take i).map wordB) ∧ i ≤ l.length) (fun (i, ov) => l.length - i) (0, .slice none 0 0) ⟨rfl, rfl, rfl, rfl, trivial⟩ ⟨(Ext.refl _), OwM.nil _ _ _, Nat.zero_le _⟩ ?_
 rintro ⟨i, ov⟩ w9 ⟨hE, hov, hi⟩
 show WP _ _ _ _ _ [(3, ov), (6, v), (7, .int .i64 (l.length : Nat)), (8, .int .i64 (i : Nat))] _
 have zE := hE.size
 refine WP_seq ?_
 refine WP_region ?_
 refine O_lss rfl rfl rfl rfl rfl ?_
 refine WL_end [(3, _), (6, _), (7, _), (8, _), (9, _)] ⟨rfl, rfl, rfl, rfl, rfl, trivial⟩ ?_
 refine WP_seq ?_
 refine WP_condD rfl (fun c9 => ?_) (fun c9 => ?_)
 · --
  refine WP_skip ?_
  refine WP_seq ?_
  refine WP_block ?_
  refine WP_seq ?_
  have hilt : i < l.length := by omega
  have hnz := hn l[i] (List.getElem_mem hilt)
  · --
   skip
   refine WP_region ?_
   refine C_index Echange rfl rfl rfl rfl (hs.ext hE) i rfl hilt (fun _ => ?_)
   refine K_load S74 rfl rfl rfl (SlC.row (j := i) (hs.ext hE) hilt) rfl ?_
   refine O_alloc S74 rfl rfl (fun g1 w1 b1 e1 gl1 gh1 => ?_)
   have z1 := e1.size
   refine O_storeA (cs' := [_, _, _, _]) S74 rfl rfl rfl b1 rfl rfl (one_cons rfl (one_cons rfl (one_cons rfl (one_cons rfl one_nil)))) rfl (fun w2 b2 q2 => ?_)
   have z2 := Nat.le_of_eq q2.size.symm
   have e2 : Ext w w2 := q2.ext (hE.trans e1) (by omega)
   have m3 := q2.ext e1 (by omega)
   refine WL_end [(3, _), (5, _), (6, _), (7, _), (8, _)] ⟨rfl, rfl, rfl, rfl, rfl, trivial⟩ ?_
   refine WP_block ?_
   refine WP_seq ?_
   refine WP_region ?_
   refine O_field F74_0 rfl rfl rfl ?_
   refine O_loadC Try.underlying3 rfl rfl rfl rfl b2 rfl ?_
   refine O_eql rfl rfl rfl rfl rfl ?_
   refine O_assign rfl rfl rfl ?_
   refine WL_end [(3, _), (5, _), (6, _), (7, _), (8, _), (18, _)] ⟨rfl, rfl, rfl, rfl, rfl, rfl, trivial⟩ ?_
   refine WP_condD rfl (fun c18 => ?_) (fun c18 => ?_)
   · --
    refine WP_region ?_
    refine O_move rfl rfl rfl ?_
    refine O_field F74_1 rfl rfl rfl ?_
    refine O_loadC Try.underlying9 rfl rfl rfl rfl b2 rfl ?_
    refine O_saddX rfl rfl rfl rfl (by rw [size1]; omega) ?_
    refine M_lit M52 rfl rfl fS [_] (by intro a _; rfl) rfl rfl rfl rfl rfl (fun v4 w4 o4 e4 => ?_)
    have z4 := e4.size
    refine M_append M52 rfl rfl rfl rfl rfl ((hov.ext m3).ext e4) o4.sl (by simp) (by simp [Value.oneCell']) (by simp only [List.length_map, List.length_take, List.length_singleton]; omega) rfl (by omega) (fun v5 w5 o5 r5 q5 => ?_)
    have e5 : Ext w w5 := ((hov.ext m3).ext e4).ext_grown r5 (e2.trans e4) (by omega)
    have z5 := r5.size
    have x5 := OwM.grownT ((hov.ext m3).ext e4) r5
    refine O_assign rfl rfl rfl ?_
    refine WL_end [(3, _), (6, _), (7, _), (8, _)] ⟨rfl, rfl, rfl, rfl, trivial⟩ ?_
    refine WP_region ?_
    refine O_add rfl rfl rfl rfl (wrap_i64_id (by omega) (by omega)) ?_
    refine O_move rfl rfl rfl ?_
    refine WL_end [(3, _), (6, _), (7, _), (8, _)] ⟨rfl, rfl, rfl, rfl, trivial⟩ ?_
    refine ⟨(i + 1, _), ⟨rfl, rfl, rfl, rfl, trivial⟩, ⟨e5, ?_, by omega⟩, by dsimp only; omega⟩
    rw [List.take_add_one, List.getElem?_eq_getElem hilt]
    simp only [List.map_append, Option.toList_some, List.map_cons, List.map_nil]
    first
      | (rw [wordB_2 (by assumption)]; exact o5)
      | (rw [wordB_n (by assumption) (by assumption)]; exact o5)
      | (rw [wordB_o (by assumption) (by assumption)]; exact o5)
   · --
    refine WP_seq ?_
    refine WP_region ?_
    refine O_field F74_2 rfl rfl rfl ?_
    refine O_loadC Try.underlying3 rfl rfl rfl rfl b2 rfl ?_
    refine O_eql rfl rfl rfl rfl rfl ?_
    refine O_assign rfl rfl rfl ?_
    refine WL_end [(3, _), (5, _), (6, _), (7, _), (8, _), (28, _)] ⟨rfl, rfl, rfl, rfl, rfl, rfl, trivial⟩ ?_
    refine WP_condD rfl (fun c28 => ?_) (fun c28 => ?_)
    · --
     refine WP_region ?_
     refine O_move rfl rfl rfl ?_
     refine O_field F74_1 rfl rfl rfl ?_
     refine O_loadC Try.underlying9 rfl rfl rfl rfl b2 rfl ?_
     refine O_saddX rfl rfl rfl rfl (by rw [size1]; omega) ?_
     refine M_lit M52 rfl rfl fS [_] (by intro a _; rfl) rfl rfl rfl rfl rfl (fun v6 w6 o6 e6 => ?_)
     have z6 := e6.size
     refine M_append M52 rfl rfl rfl rfl rfl ((hov.ext m3).ext e6) o6.sl (by simp) (by simp [Value.oneCell']) (by simp only [List.length_map, List.length_take, List.length_singleton]; omega) rfl (by omega) (fun v7 w7 o7 r7 q7 => ?_)
     have e7 : Ext w w7 := ((hov.ext m3).ext e6).ext_grown r7 (e2.trans e6) (by omega)
     have z7 := r7.size
     have x7 := OwM.grownT ((hov.ext m3).ext e6) r7
     refine O_assign rfl rfl rfl ?_
     refine WL_end [(3, _), (6, _), (7, _), (8, _)] ⟨rfl, rfl, rfl, rfl, trivial⟩ ?_
     refine WP_region ?_
     refine O_add rfl rfl rfl rfl (wrap_i64_id (by omega) (by omega)) ?_
     refine O_move rfl rfl rfl ?_
     refine WL_end [(3, _), (6, _), (7, _), (8, _)] ⟨rfl, rfl, rfl, rfl, trivial⟩ ?_
     refine ⟨(i + 1, _), ⟨rfl, rfl, rfl, rfl, trivial⟩, ⟨e7, ?_, by omega⟩, by dsimp only; omega⟩
     rw [List.take_add_one, List.getElem?_eq_getElem hilt]
     simp only [List.map_append, Option.toList_some, List.map_cons, List.map_nil]
     first
       | (rw [wordB_2 (by assumption)]; exact o7)
       | (rw [wordB_n (by assumption) (by assumption)]; exact o7)
       | (rw [wordB_o (by assumption) (by assumption)]; exact o7)
    · --
     refine WP_region ?_
     refine O_move rfl rfl rfl ?_
     refine O_field F74_1 rfl rfl rfl ?_
     refine O_loadC Try.underlying9 rfl rfl rfl rfl b2 rfl ?_
     refine O_saddX rfl rfl rfl rfl (by rw [size1]; omega) ?_
     refine M_lit M52 rfl rfl fS [_] (by intro a _; rfl) rfl rfl rfl rfl rfl (fun v8 w8 o8 e8 => ?_)
     have z8 := e8.size
     refine M_append M52 rfl rfl rfl rfl rfl ((hov.ext m3).ext e8) o8.sl (by simp) (by simp [Value.oneCell']) (by simp only [List.length_map, List.length_take, List.length_singleton]; omega) rfl (by omega) (fun v9 w9 o9 r9 q9 => ?_)
     have e9 : Ext w w9 := ((hov.ext m3).ext e8).ext_grown r9 (e2.trans e8) (by omega)
     have z9 := r9.size
     have x9 := OwM.grownT ((hov.ext m3).ext e8) r9
     refine O_assign rfl rfl rfl ?_
     refine WL_end [(3, _), (6, _), (7, _), (8, _)] ⟨rfl, rfl, rfl, rfl, trivial⟩ ?_
     refine WP_region ?_
     refine O_add rfl rfl rfl rfl (wrap_i64_id (by omega) (by omega)) ?_
     refine O_move rfl rfl rfl ?_
     refine WL_end [(3, _), (6, _), (7, _), (8, _)] ⟨rfl, rfl, rfl, rfl, trivial⟩ ?_
     refine ⟨(i + 1, _), ⟨rfl, rfl, rfl, rfl, trivial⟩, ⟨e9, ?_, by omega⟩, by dsimp only; omega⟩
     rw [List.take_add_one, List.getElem?_eq_getElem hilt]
     simp only [List.map_append, Option.toList_some, List.map_cons, List.map_nil]
     first
       | (rw [wordB_2 (by assumption)]; exact o9)
       | (rw [wordB_n (by assumption) (by assumption)]; exact o9)
       | (rw [wordB_o (by assumption) (by assumption)]; exact o9)
 · --
  refine WP_exit ?_
  refine inBlk_hit ?_
  refine WP_seq ?_
  have hie : i = l.length := by omega
  subst hie
  rw [List.take_length] at hov
  have hlen9 := hlen
  · --
   skip
   refine WP_region ?_
   refine O_move rfl rfl rfl ?_
   refine O_call enters79 rfl rfl rfl (joinO_c hov (by simp only [List.length_map, List.length_take]; omega) hlen9) (fun v10 w10 e10 h10 => ?_)
   have z10 := e10.size
   obtain rfl := h10
   refine O_assign rfl rfl rfl ?_
   refine WL_end [(2, _)] ⟨rfl, trivial⟩ ?_
   refine WP_ret ?_
   refine ret1 Try.results49 rfl ?_
   exact ⟨_, rfl, (hE.trans e10), rfl⟩

end Go.Proofs.Ytoccimigjjndpaa

set_option linter.unusedVariables false
set_option linter.unusedSimpArgs false
set_option maxRecDepth 100000
namespace Go.Proofs.Ytoccimigjjndpaa
open Go Go.RowKit
/-- Whether a change is well made. -/
def okB (c : Ch) : Bool := if c.1 = 1 then !(decide (c.2.2.2 < 0) || decide (c.2.2.1 < -1) || decide (c.2.2.1 = c.2.2.2)) else if c.1 = 2 then !(decide (c.2.2.1 < 0) || !decide (c.2.2.2 = -1)) else false
def stepB (l : List Ch) (i : Nat) : Bool := match l[i]?, l[i - 1]? with
  | some c, some p => okB c && (decide (i = 0) || nlt p.2.1 c.2.1)
  | _, _ => true
def validB (l : List Ch) : Bool := (List.range l.length).all (stepB l)
theorem stepB_at {l : List Ch} {i : Nat} (h : i < l.length) : stepB l i = (okB l[i] && (decide (i = 0) || nlt (l[i - 1]'(by omega)).2.1 l[i].2.1)) := by
  unfold stepB
  rw [List.getElem?_eq_getElem h, List.getElem?_eq_getElem (show i - 1 < l.length by omega)]
theorem validB_T {l : List Ch} {i : Nat} (h : ∀ j, j < i → stepB l j = true) (hi : l.length ≤ i) : validB l = true := by
  unfold validB
  rw [List.all_eq_true]
  intro j hj
  exact h j (by have := List.mem_range.1 hj; omega)
theorem validB_F {l : List Ch} {i : Nat} (h : i < l.length) (hs : stepB l i = false) : validB l = false := by
  unfold validB
  rw [Bool.eq_false_iff]
  intro ht
  rw [List.all_eq_true] at ht
  rw [ht i (List.mem_range.2 h)] at hs; cases hs

set_option maxHeartbeats 1000000 in
theorem cvalid_c {w : World} {v : Value} {l : List Ch} (hs : SlC w v l) (hl : l.length ≤ 1000000000) :
    Calls Try.prog 48 #[v] w (Ret w fun r _ => r = .bool (validB l)) := by
 refine enter (args := [v]) Try.func48 rfl Try.ntmps48 rfl ?_
 refine WP_seq ?_
 refine WP_region ?_
 refine O_assign rfl rfl rfl ?_
 refine WL_end [(0, _)] ⟨rfl, trivial⟩ ?_
 refine WP_seq ?_
 refine WP_seq ?_
 refine WP_region ?_
 refine O_move rfl rfl rfl ?_
 refine C_len Echange rfl rfl rfl hs ?_
 refine O_move rfl rfl rfl ?_
 refine WL_end [(0, _), (5, _), (6, _), (7, _)] ⟨rfl, rfl, rfl, rfl, trivial⟩ ?_
 refine WP_block ?_
 refine WP_loop (S := Nat) (fun i => [(0, v), (5, v), (6, .int .i64 (l.length : Nat)), (7, .int .i64 (i : Nat))]) (fun i w' => Ext w w' ∧ i ≤ l.length ∧ ∀ j, j < i → stepB l j = true) (fun i => l.length - i) 0 ⟨rfl, rfl, rfl, rfl, trivial⟩ ⟨(Ext.refl _), Nat.zero_le _, fun j hj => by omega⟩ ?_
 rintro i w9 ⟨hE, hi, hal⟩
 have zE := hE.size
 refine WP_seq ?_
 refine WP_region ?_
 refine O_lss rfl rfl rfl rfl rfl ?_
 refine WL_end [(0, _), (5, _), (6, _), (7, _), (8, _)] ⟨rfl, rfl, rfl, rfl, rfl, trivial⟩ ?_
 refine WP_seq ?_
 refine WP_condD rfl (fun c8 => ?_) (fun c8 => ?_)
 · --
  refine WP_skip ?_
  refine WP_seq ?_
  refine WP_block ?_
  refine WP_seq ?_
  have hilt : i < l.length := by omega
  · --
   skip
   refine WP_region ?_
   refine O_move rfl rfl rfl ?_
   refine C_index Echange rfl rfl rfl rfl (hs.ext hE) i rfl hilt (fun _ => ?_)
   refine K_load S74 rfl rfl rfl (SlC.row (j := i) (hs.ext hE) hilt) rfl ?_
   refine O_alloc S74 rfl rfl (fun g1 w1 b1 e1 gl1 gh1 => ?_)
   have z1 := e1.size
   refine O_assign rfl rfl rfl ?_
   refine O_storeA (cs' := [_, _, _, _]) S74 rfl rfl rfl b1 rfl rfl (one_cons rfl (one_cons rfl (one_cons rfl (one_cons rfl one_nil)))) rfl (fun w2 b2 q2 => ?_)
   have z2 := Nat.le_of_eq q2.size.symm
   have e2 : Ext w w2 := q2.ext (hE.trans e1) (by omega)
   refine WL_end [(0, _), (3, _), (4, _), (5, _), (6, _), (7, _)] ⟨rfl, rfl, rfl, rfl, rfl, rfl, trivial⟩ ?_
   refine WP_seq ?_
   refine WP_seq ?_
   have hlt1 : i - 1 < l.length := by omega
   by_cases h0 : 0 < i
   · --
    skip
    refine WP_sub [(0, _), (3, _), (4, _), (5, _), (6, _), (7, _)] ⟨rfl, rfl, rfl, rfl, rfl, rfl, trivial⟩ ?_
    refine WP_anyR 11 [0, 3, 4, 5, 6, 7] mixed rfl (by kernel_rfl) ?_
    apply AnyR_val [3] rfl (by kernel_rfl)
    · --
     intro y3 hy3
     have zy3 := hy3.size
     refine AllV_nil ?_
     refine O_move rfl rfl rfl ?_
     exact WL_nil ⟨(Ext.refl _), rfl⟩
    apply AnyR_val [12] rfl (by kernel_rfl)
    · --
     intro y4 hy4
     have zy4 := hy4.size
     refine AllV_v ?_
     refine AllV_nil ?_
     refine O_gtr (t := true) rfl rfl rfl rfl (decide_eq_true (by omega)) ?_
     exact WL_nil ⟨(Ext.refl _), rfl⟩
    apply AnyR_val [13] rfl (by kernel_rfl)
    · --
     intro y5 hy5
     have zy5 := hy5.size
     refine AllV_v ?_
     refine AllV_nil ?_
     refine O_move rfl rfl rfl ?_
     exact WL_nil ⟨(Ext.refl _), rfl⟩
    apply AnyR_val [14, 0] rfl (by kernel_rfl)
    · --
     intro y6 hy6
     have zy6 := hy6.size
     refine AllV_v ?_
     refine AllV_nil ?_
     refine O_move rfl rfl rfl ?_
     exact WL_nil ⟨(Ext.refl _), rfl⟩
    apply AnyR_val [14, 3] rfl (by kernel_rfl)
    · --
     intro y7 hy7
     have zy7 := hy7.size
     refine AllV_v ?_
     refine AllV_nil ?_
     refine O_move rfl rfl rfl ?_
     exact WL_nil ⟨(Ext.refl _), rfl⟩
    apply AnyR_val [14, 16] rfl (by kernel_rfl)
    · --
     intro y8 hy8
     have zy8 := hy8.size
     refine AllV_v ?_
     refine AllV_v ?_
     refine AllV_nil ?_
     refine O_sub (r := ((i - 1 : Nat) : Int)) rfl rfl rfl rfl (by rw [IntKind.wrap_i64]; omega) ?_
     exact WL_nil ⟨(Ext.refl _), rfl⟩
    apply AnyR_val [14, 15, 17] rfl (by kernel_rfl)
    · --
     intro y9 hy9
     have zy9 := hy9.size
     refine AllV_v ?_
     refine AllV_v ?_
     refine AllV_v ?_
     refine AllV_nil ?_
     refine C_index Echange rfl rfl rfl rfl (hs.ext (e2.trans hy9)) (i - 1) rfl hlt1 (fun _ => ?_)
     exact WL_nil ⟨(Ext.refl _), rfl⟩
    apply AnyR_val [14, 18] rfl (by kernel_rfl)
    · --
     intro y10 hy10
     have zy10 := hy10.size
     refine AllV_v ?_
     refine AllV_v ?_
     refine AllV_nil ?_
     refine K_field F74_1 rfl rfl rfl ?_
     exact WL_nil ⟨(Ext.refl _), rfl⟩
    apply AnyR_val [14, 19] rfl (by kernel_rfl)
    · --
     intro y11 hy11
     have zy11 := hy11.size
     refine AllV_v ?_
     refine AllV_v ?_
     refine AllV_nil ?_
     refine B_cell Try.underlying9 rfl rfl rfl rfl (SlC.row (j := (i - 1)) (hs.ext (e2.trans hy11)) hlt1) rfl ?_
     exact WL_nil ⟨(Ext.refl _), rfl⟩
    apply AnyR_val [14, 4] rfl (by kernel_rfl)
    · --
     intro y12 hy12
     have zy12 := hy12.size
     refine AllV_v ?_
     refine AllV_nil ?_
     refine O_field F74_1 rfl rfl rfl ?_
     exact WL_nil ⟨(Ext.refl _), rfl⟩
    apply AnyR_val [14, 21] rfl (by kernel_rfl)
    · --
     intro y13 hy13
     have zy13 := hy13.size
     refine AllV_v ?_
     refine AllV_v ?_
     refine AllV_nil ?_
     refine O_loadC Try.underlying9 rfl rfl rfl rfl (b2.ext hy13) rfl ?_
     exact WL_nil ⟨(Ext.refl _), rfl⟩
    refine AnyR_nil fun y14 hy14 => ?_
    have zy14 := hy14.size
    refine AllV_v ?_
    refine AllV_v ?_
    refine AllV_v ?_
    refine AllV_v ?_
    refine AllV_v ?_
    refine AllV_v ?_
    refine AllV_v ?_
    refine AllV_v ?_
    refine AllV_v ?_
    refine AllV_v ?_
    refine AllV_v ?_
    refine AllV_nil ?_
    refine O_sgeq rfl rfl rfl rfl ?_
    refine O_pickT rfl rfl rfl rfl ?_
    refine WL_end [(0, _), (4, _), (5, _), (6, _), (7, _), (24, _)] ⟨rfl, rfl, rfl, rfl, rfl, rfl, trivial⟩ ?_
    refine WP_cond rfl (fun c24 => ?_) (fun c24 => ?_)
    · --
     refine WP_seq ?_
     refine WP_region ?_
     refine O_assign rfl rfl rfl ?_
     refine WL_end [(2, _)] ⟨rfl, trivial⟩ ?_
     refine WP_ret ?_
     refine inBlk_ret ?_
     refine inBlk_ret ?_
     refine ret1 Try.results48 rfl ?_
     first
       | exact ⟨_, rfl, (e2.trans hy14), by rw [validB_T hal (by omega)]⟩
       | (have hst : stepB l i = false := by
            rw [stepB_at hilt]; unfold okB
            first | (simp_all; done) | (simp_all; omega)
          exact ⟨_, rfl, (e2.trans hy14), by rw [validB_F hilt hst]⟩)
    · --
     refine WP_skip ?_
     refine WP_seq ?_
     refine WP_region ?_
     refine O_field F74_0 rfl rfl rfl ?_
     refine O_loadC Try.underlying3 rfl rfl rfl rfl (b2.ext hy14) rfl ?_
     refine WL_end [(0, _), (4, _), (5, _), (6, _), (7, _), (26, _)] ⟨rfl, rfl, rfl, rfl, rfl, rfl, trivial⟩ ?_
     refine WP_block ?_
     refine WP_seq ?_
     refine WP_region ?_
     refine O_eql rfl rfl rfl rfl rfl ?_
     refine O_assign rfl rfl rfl ?_
     refine WL_end [(0, _), (4, _), (5, _), (6, _), (7, _), (26, _), (27, _)] ⟨rfl, rfl, rfl, rfl, rfl, rfl, rfl, trivial⟩ ?_
     refine WP_condD rfl (fun c27 => ?_) (fun c27 => ?_)
     · --
      refine WP_seq ?_
      refine WP_region ?_
      refine O_field F74_3 rfl rfl rfl ?_
      refine O_loadC Try.underlying3 rfl rfl rfl rfl (b2.ext hy14) rfl ?_
      refine O_lss rfl rfl rfl rfl rfl ?_
      refine O_move rfl rfl rfl ?_
      refine WL_dec 32 rfl (fun g32 => ?_) (fun g32 => ?_)
      · --
       refine O_skip rfl rfl ?_
       refine O_skip rfl rfl ?_
       refine O_skip rfl rfl ?_
       refine O_pickT rfl rfl rfl rfl ?_
       refine O_move rfl rfl rfl ?_
       refine O_skip rfl rfl ?_
       refine O_skip rfl rfl ?_
       refine O_skip rfl rfl ?_
       refine O_skip rfl rfl ?_
       refine O_skip rfl rfl ?_
       refine O_pickT rfl rfl rfl rfl ?_
       refine WL_end [(0, _), (5, _), (6, _), (7, _), (43, _)] ⟨rfl, rfl, rfl, rfl, rfl, trivial⟩ ?_
       refine WP_condT rfl ?_
       refine WP_seq ?_
       refine WP_region ?_
       refine O_assign rfl rfl rfl ?_
       refine WL_end [(2, _)] ⟨rfl, trivial⟩ ?_
       refine WP_ret ?_
       refine inBlk_ret ?_
       refine inBlk_ret ?_
       refine inBlk_ret ?_
       refine ret1 Try.results48 rfl ?_
       first
         | exact ⟨_, rfl, (e2.trans hy14), by rw [validB_T hal (by omega)]⟩
         | (have hst : stepB l i = false := by
              rw [stepB_at hilt]; unfold okB
              first | (simp_all; done) | (simp_all; omega)
            exact ⟨_, rfl, (e2.trans hy14), by rw [validB_F hilt hst]⟩)
      · --
       refine O_field F74_2 rfl rfl rfl ?_
       refine O_loadC Try.underlying3 rfl rfl rfl rfl (b2.ext hy14) rfl ?_
       refine O_lss rfl rfl rfl rfl rfl ?_
       refine O_pickF rfl rfl rfl rfl ?_
       refine O_move rfl rfl rfl ?_
       refine WL_dec 37 rfl (fun g37 => ?_) (fun g37 => ?_)
       · --
        refine O_skip rfl rfl ?_
        refine O_skip rfl rfl ?_
        refine O_skip rfl rfl ?_
        refine O_skip rfl rfl ?_
        refine O_skip rfl rfl ?_
        refine O_pickT rfl rfl rfl rfl ?_
        refine WL_end [(0, _), (5, _), (6, _), (7, _), (43, _)] ⟨rfl, rfl, rfl, rfl, rfl, trivial⟩ ?_
        refine WP_condT rfl ?_
        refine WP_seq ?_
        refine WP_region ?_
        refine O_assign rfl rfl rfl ?_
        refine WL_end [(2, _)] ⟨rfl, trivial⟩ ?_
        refine WP_ret ?_
        refine inBlk_ret ?_
        refine inBlk_ret ?_
        refine inBlk_ret ?_
        refine ret1 Try.results48 rfl ?_
        first
          | exact ⟨_, rfl, (e2.trans hy14), by rw [validB_T hal (by omega)]⟩
          | (have hst : stepB l i = false := by
               rw [stepB_at hilt]; unfold okB
               first | (simp_all; done) | (simp_all; omega)
             exact ⟨_, rfl, (e2.trans hy14), by rw [validB_F hilt hst]⟩)
       · --
        refine O_field F74_2 rfl rfl rfl ?_
        refine O_loadC Try.underlying3 rfl rfl rfl rfl (b2.ext hy14) rfl ?_
        refine O_field F74_3 rfl rfl rfl ?_
        refine O_loadC Try.underlying3 rfl rfl rfl rfl (b2.ext hy14) rfl ?_
        refine O_eql rfl rfl rfl rfl rfl ?_
        refine O_pickF rfl rfl rfl rfl ?_
        refine WL_end [(0, _), (5, _), (6, _), (7, _), (43, _)] ⟨rfl, rfl, rfl, rfl, rfl, trivial⟩ ?_
        refine WP_condD rfl (fun c43 => ?_) (fun c43 => ?_)
        · --
         refine WP_seq ?_
         refine WP_region ?_
         refine O_assign rfl rfl rfl ?_
         refine WL_end [(2, _)] ⟨rfl, trivial⟩ ?_
         refine WP_ret ?_
         refine inBlk_ret ?_
         refine inBlk_ret ?_
         refine inBlk_ret ?_
         refine ret1 Try.results48 rfl ?_
         first
           | exact ⟨_, rfl, (e2.trans hy14), by rw [validB_T hal (by omega)]⟩
           | (have hst : stepB l i = false := by
                rw [stepB_at hilt]; unfold okB
                first | (simp_all; done) | (simp_all; omega)
              exact ⟨_, rfl, (e2.trans hy14), by rw [validB_F hilt hst]⟩)
        · --
         refine WP_skip ?_
         refine WP_region ?_
         refine O_add rfl rfl rfl rfl (wrap_i64_id (by omega) (by omega)) ?_
         refine O_move rfl rfl rfl ?_
         refine WL_end [(0, _), (5, _), (6, _), (7, _)] ⟨rfl, rfl, rfl, rfl, trivial⟩ ?_
         have hst : stepB l i = true := by
           rw [stepB_at hilt]; unfold okB
           first | (simp_all; done) | (simp_all; omega)
         exact ⟨i + 1, ⟨rfl, rfl, rfl, rfl, trivial⟩, ⟨(e2.trans hy14), by omega, fun j hj => by
           rcases Nat.lt_or_ge j i with k | k
           · exact hal j k
           · rw [show j = i from by omega]; exact hst⟩, by omega⟩
     · --
      refine WP_seq ?_
      refine WP_region ?_
      refine O_eql rfl rfl rfl rfl rfl ?_
      refine O_assign rfl rfl rfl ?_
      refine WL_end [(0, _), (4, _), (5, _), (6, _), (7, _), (44, _)] ⟨rfl, rfl, rfl, rfl, rfl, rfl, trivial⟩ ?_
      refine WP_condD rfl (fun c44 => ?_) (fun c44 => ?_)
      · --
       refine WP_seq ?_
       refine WP_region ?_
       refine O_field F74_2 rfl rfl rfl ?_
       refine O_loadC Try.underlying3 rfl rfl rfl rfl (b2.ext hy14) rfl ?_
       refine O_lss rfl rfl rfl rfl rfl ?_
       refine O_move rfl rfl rfl ?_
       refine WL_dec 49 rfl (fun g49 => ?_) (fun g49 => ?_)
       · --
        refine O_skip rfl rfl ?_
        refine O_skip rfl rfl ?_
        refine O_skip rfl rfl ?_
        refine O_pickT rfl rfl rfl rfl ?_
        refine WL_end [(0, _), (5, _), (6, _), (7, _), (53, _)] ⟨rfl, rfl, rfl, rfl, rfl, trivial⟩ ?_
        refine WP_condT rfl ?_
        refine WP_seq ?_
        refine WP_region ?_
        refine O_assign rfl rfl rfl ?_
        refine WL_end [(2, _)] ⟨rfl, trivial⟩ ?_
        refine WP_ret ?_
        refine inBlk_ret ?_
        refine inBlk_ret ?_
        refine inBlk_ret ?_
        refine ret1 Try.results48 rfl ?_
        first
          | exact ⟨_, rfl, (e2.trans hy14), by rw [validB_T hal (by omega)]⟩
          | (have hst : stepB l i = false := by
               rw [stepB_at hilt]; unfold okB
               first | (simp_all; done) | (simp_all; omega)
             exact ⟨_, rfl, (e2.trans hy14), by rw [validB_F hilt hst]⟩)
       · --
        refine O_field F74_3 rfl rfl rfl ?_
        refine O_loadC Try.underlying3 rfl rfl rfl rfl (b2.ext hy14) rfl ?_
        refine O_neq rfl rfl rfl rfl rfl ?_
        refine O_pickF rfl rfl rfl rfl ?_
        refine WL_end [(0, _), (5, _), (6, _), (7, _), (53, _)] ⟨rfl, rfl, rfl, rfl, rfl, trivial⟩ ?_
        refine WP_condN rfl (fun c53 => ?_) (fun c53 => ?_)
        · --
         refine WP_seq ?_
         refine WP_region ?_
         refine O_assign rfl rfl rfl ?_
         refine WL_end [(2, _)] ⟨rfl, trivial⟩ ?_
         refine WP_ret ?_
         refine inBlk_ret ?_
         refine inBlk_ret ?_
         refine inBlk_ret ?_
         refine ret1 Try.results48 rfl ?_
         first
           | exact ⟨_, rfl, (e2.trans hy14), by rw [validB_T hal (by omega)]⟩
           | (have hst : stepB l i = false := by
                rw [stepB_at hilt]; unfold okB
                first | (simp_all; done) | (simp_all; omega)
              exact ⟨_, rfl, (e2.trans hy14), by rw [validB_F hilt hst]⟩)
        · --
         refine WP_skip ?_
         refine WP_region ?_
         refine O_add rfl rfl rfl rfl (wrap_i64_id (by omega) (by omega)) ?_
         refine O_move rfl rfl rfl ?_
         refine WL_end [(0, _), (5, _), (6, _), (7, _)] ⟨rfl, rfl, rfl, rfl, trivial⟩ ?_
         have hst : stepB l i = true := by
           rw [stepB_at hilt]; unfold okB
           first | (simp_all; done) | (simp_all; omega)
         exact ⟨i + 1, ⟨rfl, rfl, rfl, rfl, trivial⟩, ⟨(e2.trans hy14), by omega, fun j hj => by
           rcases Nat.lt_or_ge j i with k | k
           · exact hal j k
           · rw [show j = i from by omega]; exact hst⟩, by omega⟩
      · --
       refine WP_seq ?_
       refine WP_region ?_
       refine O_assign rfl rfl rfl ?_
       refine WL_end [(2, _)] ⟨rfl, trivial⟩ ?_
       refine WP_ret ?_
       refine inBlk_ret ?_
       refine inBlk_ret ?_
       refine inBlk_ret ?_
       refine ret1 Try.results48 rfl ?_
       first
         | exact ⟨_, rfl, (e2.trans hy14), by rw [validB_T hal (by omega)]⟩
         | (have hst : stepB l i = false := by
              rw [stepB_at hilt]; unfold okB
              first | (simp_all; done) | (simp_all; omega)
            exact ⟨_, rfl, (e2.trans hy14), by rw [validB_F hilt hst]⟩)
   · --
    have h00 : i = 0 := by omega
    refine WP_sub [(0, _), (3, _), (4, _), (5, _), (6, _), (7, _)] ⟨rfl, rfl, rfl, rfl, rfl, rfl, trivial⟩ ?_
    refine WP_anyR 11 [0, 3, 4, 5, 6, 7] mixed rfl (by kernel_rfl) ?_
    apply AnyR_val [3] rfl (by kernel_rfl)
    · --
     intro y15 hy15
     have zy15 := hy15.size
     refine AllV_nil ?_
     refine O_move rfl rfl rfl ?_
     exact WL_nil ⟨(Ext.refl _), rfl⟩
    apply AnyR_val [12] rfl (by kernel_rfl)
    · --
     intro y16 hy16
     have zy16 := hy16.size
     refine AllV_v ?_
     refine AllV_nil ?_
     refine O_gtr (t := false) rfl rfl rfl rfl (decide_eq_false (by omega)) ?_
     exact WL_nil ⟨(Ext.refl _), rfl⟩
    apply AnyR_val [13] rfl (by kernel_rfl)
    · --
     intro y17 hy17
     have zy17 := hy17.size
     refine AllV_v ?_
     refine AllV_nil ?_
     refine O_move rfl rfl rfl ?_
     exact WL_nil ⟨(Ext.refl _), rfl⟩
    apply AnyR_val [14, 0] rfl (by kernel_rfl)
    · --
     intro y18 hy18
     have zy18 := hy18.size
     refine AllV_v ?_
     refine AllV_nil ?_
     refine O_skip rfl rfl ?_
     exact WL_nil ⟨(Ext.refl _), rfl⟩
    apply AnyR_val [14, 3] rfl (by kernel_rfl)
    · --
     intro y19 hy19
     have zy19 := hy19.size
     refine AllV_v ?_
     refine AllV_nil ?_
     refine O_skip rfl rfl ?_
     exact WL_nil ⟨(Ext.refl _), rfl⟩
    apply AnyR_val [14, 16] rfl (by kernel_rfl)
    · --
     intro y20 hy20
     have zy20 := hy20.size
     refine AllV_v ?_
     refine AllV_v ?_
     refine AllV_nil ?_
     refine O_skip rfl rfl ?_
     exact WL_nil ⟨(Ext.refl _), rfl⟩
    apply AnyR_val [14, 15, 17] rfl (by kernel_rfl)
    · --
     intro y21 hy21
     have zy21 := hy21.size
     refine AllV_v ?_
     refine AllV_v ?_
     refine AllV_v ?_
     refine AllV_nil ?_
     refine O_skip rfl rfl ?_
     exact WL_nil ⟨(Ext.refl _), rfl⟩
    apply AnyR_val [14, 18] rfl (by kernel_rfl)
    · --
     intro y22 hy22
     have zy22 := hy22.size
     refine AllV_v ?_
     refine AllV_v ?_
     refine AllV_nil ?_
     refine O_skip rfl rfl ?_
     exact WL_nil ⟨(Ext.refl _), rfl⟩
    apply AnyR_val [14, 19] rfl (by kernel_rfl)
    · --
     intro y23 hy23
     have zy23 := hy23.size
     refine AllV_v ?_
     refine AllV_v ?_
     refine AllV_nil ?_
     refine O_skip rfl rfl ?_
     exact WL_nil ⟨(Ext.refl _), rfl⟩
    apply AnyR_val [14, 4] rfl (by kernel_rfl)
    · --
     intro y24 hy24
     have zy24 := hy24.size
     refine AllV_v ?_
     refine AllV_nil ?_
     refine O_skip rfl rfl ?_
     exact WL_nil ⟨(Ext.refl _), rfl⟩
    apply AnyR_val [14, 21] rfl (by kernel_rfl)
    · --
     intro y25 hy25
     have zy25 := hy25.size
     refine AllV_v ?_
     refine AllV_v ?_
     refine AllV_nil ?_
     refine O_skip rfl rfl ?_
     exact WL_nil ⟨(Ext.refl _), rfl⟩
    refine AnyR_nil fun y26 hy26 => ?_
    have zy26 := hy26.size
    refine AllV_v ?_
    refine AllV_v ?_
    refine AllV_v ?_
    refine AllV_v ?_
    refine AllV_v ?_
    refine AllV_v ?_
    refine AllV_v ?_
    refine AllV_v ?_
    refine AllV_v ?_
    refine AllV_v ?_
    refine AllV_v ?_
    refine AllV_nil ?_
    refine O_skip rfl rfl ?_
    refine O_pickF rfl rfl rfl rfl ?_
    refine WL_end [(0, _), (4, _), (5, _), (6, _), (7, _), (24, _)] ⟨rfl, rfl, rfl, rfl, rfl, rfl, trivial⟩ ?_
    refine WP_condF rfl ?_
    refine WP_skip ?_
    refine WP_seq ?_
    refine WP_region ?_
    refine O_field F74_0 rfl rfl rfl ?_
    refine O_loadC Try.underlying3 rfl rfl rfl rfl (b2.ext hy26) rfl ?_
    refine WL_end [(0, _), (4, _), (5, _), (6, _), (7, _), (26, _)] ⟨rfl, rfl, rfl, rfl, rfl, rfl, trivial⟩ ?_
    refine WP_block ?_
    refine WP_seq ?_
    refine WP_region ?_
    refine O_eql rfl rfl rfl rfl rfl ?_
    refine O_assign rfl rfl rfl ?_
    refine WL_end [(0, _), (4, _), (5, _), (6, _), (7, _), (26, _), (27, _)] ⟨rfl, rfl, rfl, rfl, rfl, rfl, rfl, trivial⟩ ?_
    refine WP_condD rfl (fun c27 => ?_) (fun c27 => ?_)
    · --
     refine WP_seq ?_
     refine WP_region ?_
     refine O_field F74_3 rfl rfl rfl ?_
     refine O_loadC Try.underlying3 rfl rfl rfl rfl (b2.ext hy26) rfl ?_
     refine O_lss rfl rfl rfl rfl rfl ?_
     refine O_move rfl rfl rfl ?_
     refine WL_dec 32 rfl (fun g32 => ?_) (fun g32 => ?_)
     · --
      refine O_skip rfl rfl ?_
      refine O_skip rfl rfl ?_
      refine O_skip rfl rfl ?_
      refine O_pickT rfl rfl rfl rfl ?_
      refine O_move rfl rfl rfl ?_
      refine O_skip rfl rfl ?_
      refine O_skip rfl rfl ?_
      refine O_skip rfl rfl ?_
      refine O_skip rfl rfl ?_
      refine O_skip rfl rfl ?_
      refine O_pickT rfl rfl rfl rfl ?_
      refine WL_end [(0, _), (5, _), (6, _), (7, _), (43, _)] ⟨rfl, rfl, rfl, rfl, rfl, trivial⟩ ?_
      refine WP_condT rfl ?_
      refine WP_seq ?_
      refine WP_region ?_
      refine O_assign rfl rfl rfl ?_
      refine WL_end [(2, _)] ⟨rfl, trivial⟩ ?_
      refine WP_ret ?_
      refine inBlk_ret ?_
      refine inBlk_ret ?_
      refine inBlk_ret ?_
      refine ret1 Try.results48 rfl ?_
      first
        | exact ⟨_, rfl, (e2.trans hy26), by rw [validB_T hal (by omega)]⟩
        | (have hst : stepB l i = false := by
             rw [stepB_at hilt]; unfold okB
             first | (simp_all; done) | (simp_all; omega)
           exact ⟨_, rfl, (e2.trans hy26), by rw [validB_F hilt hst]⟩)
     · --
      refine O_field F74_2 rfl rfl rfl ?_
      refine O_loadC Try.underlying3 rfl rfl rfl rfl (b2.ext hy26) rfl ?_
      refine O_lss rfl rfl rfl rfl rfl ?_
      refine O_pickF rfl rfl rfl rfl ?_
      refine O_move rfl rfl rfl ?_
      refine WL_dec 37 rfl (fun g37 => ?_) (fun g37 => ?_)
      · --
       refine O_skip rfl rfl ?_
       refine O_skip rfl rfl ?_
       refine O_skip rfl rfl ?_
       refine O_skip rfl rfl ?_
       refine O_skip rfl rfl ?_
       refine O_pickT rfl rfl rfl rfl ?_
       refine WL_end [(0, _), (5, _), (6, _), (7, _), (43, _)] ⟨rfl, rfl, rfl, rfl, rfl, trivial⟩ ?_
       refine WP_condT rfl ?_
       refine WP_seq ?_
       refine WP_region ?_
       refine O_assign rfl rfl rfl ?_
       refine WL_end [(2, _)] ⟨rfl, trivial⟩ ?_
       refine WP_ret ?_
       refine inBlk_ret ?_
       refine inBlk_ret ?_
       refine inBlk_ret ?_
       refine ret1 Try.results48 rfl ?_
       first
         | exact ⟨_, rfl, (e2.trans hy26), by rw [validB_T hal (by omega)]⟩
         | (have hst : stepB l i = false := by
              rw [stepB_at hilt]; unfold okB
              first | (simp_all; done) | (simp_all; omega)
            exact ⟨_, rfl, (e2.trans hy26), by rw [validB_F hilt hst]⟩)
      · --
       refine O_field F74_2 rfl rfl rfl ?_
       refine O_loadC Try.underlying3 rfl rfl rfl rfl (b2.ext hy26) rfl ?_
       refine O_field F74_3 rfl rfl rfl ?_
       refine O_loadC Try.underlying3 rfl rfl rfl rfl (b2.ext hy26) rfl ?_
       refine O_eql rfl rfl rfl rfl rfl ?_
       refine O_pickF rfl rfl rfl rfl ?_
       refine WL_end [(0, _), (5, _), (6, _), (7, _), (43, _)] ⟨rfl, rfl, rfl, rfl, rfl, trivial⟩ ?_
       refine WP_condD rfl (fun c43 => ?_) (fun c43 => ?_)
       · --
        refine WP_seq ?_
        refine WP_region ?_
        refine O_assign rfl rfl rfl ?_
        refine WL_end [(2, _)] ⟨rfl, trivial⟩ ?_
        refine WP_ret ?_
        refine inBlk_ret ?_
        refine inBlk_ret ?_
        refine inBlk_ret ?_
        refine ret1 Try.results48 rfl ?_
        first
          | exact ⟨_, rfl, (e2.trans hy26), by rw [validB_T hal (by omega)]⟩
          | (have hst : stepB l i = false := by
               rw [stepB_at hilt]; unfold okB
               first | (simp_all; done) | (simp_all; omega)
             exact ⟨_, rfl, (e2.trans hy26), by rw [validB_F hilt hst]⟩)
       · --
        refine WP_skip ?_
        refine WP_region ?_
        refine O_add rfl rfl rfl rfl (wrap_i64_id (by omega) (by omega)) ?_
        refine O_move rfl rfl rfl ?_
        refine WL_end [(0, _), (5, _), (6, _), (7, _)] ⟨rfl, rfl, rfl, rfl, trivial⟩ ?_
        have hst : stepB l i = true := by
          rw [stepB_at hilt]; unfold okB
          first | (simp_all; done) | (simp_all; omega)
        exact ⟨i + 1, ⟨rfl, rfl, rfl, rfl, trivial⟩, ⟨(e2.trans hy26), by omega, fun j hj => by
          rcases Nat.lt_or_ge j i with k | k
          · exact hal j k
          · rw [show j = i from by omega]; exact hst⟩, by omega⟩
    · --
     refine WP_seq ?_
     refine WP_region ?_
     refine O_eql rfl rfl rfl rfl rfl ?_
     refine O_assign rfl rfl rfl ?_
     refine WL_end [(0, _), (4, _), (5, _), (6, _), (7, _), (44, _)] ⟨rfl, rfl, rfl, rfl, rfl, rfl, trivial⟩ ?_
     refine WP_condD rfl (fun c44 => ?_) (fun c44 => ?_)
     · --
      refine WP_seq ?_
      refine WP_region ?_
      refine O_field F74_2 rfl rfl rfl ?_
      refine O_loadC Try.underlying3 rfl rfl rfl rfl (b2.ext hy26) rfl ?_
      refine O_lss rfl rfl rfl rfl rfl ?_
      refine O_move rfl rfl rfl ?_
      refine WL_dec 49 rfl (fun g49 => ?_) (fun g49 => ?_)
      · --
       refine O_skip rfl rfl ?_
       refine O_skip rfl rfl ?_
       refine O_skip rfl rfl ?_
       refine O_pickT rfl rfl rfl rfl ?_
       refine WL_end [(0, _), (5, _), (6, _), (7, _), (53, _)] ⟨rfl, rfl, rfl, rfl, rfl, trivial⟩ ?_
       refine WP_condT rfl ?_
       refine WP_seq ?_
       refine WP_region ?_
       refine O_assign rfl rfl rfl ?_
       refine WL_end [(2, _)] ⟨rfl, trivial⟩ ?_
       refine WP_ret ?_
       refine inBlk_ret ?_
       refine inBlk_ret ?_
       refine inBlk_ret ?_
       refine ret1 Try.results48 rfl ?_
       first
         | exact ⟨_, rfl, (e2.trans hy26), by rw [validB_T hal (by omega)]⟩
         | (have hst : stepB l i = false := by
              rw [stepB_at hilt]; unfold okB
              first | (simp_all; done) | (simp_all; omega)
            exact ⟨_, rfl, (e2.trans hy26), by rw [validB_F hilt hst]⟩)
      · --
       refine O_field F74_3 rfl rfl rfl ?_
       refine O_loadC Try.underlying3 rfl rfl rfl rfl (b2.ext hy26) rfl ?_
       refine O_neq rfl rfl rfl rfl rfl ?_
       refine O_pickF rfl rfl rfl rfl ?_
       refine WL_end [(0, _), (5, _), (6, _), (7, _), (53, _)] ⟨rfl, rfl, rfl, rfl, rfl, trivial⟩ ?_
       refine WP_condN rfl (fun c53 => ?_) (fun c53 => ?_)
       · --
        refine WP_seq ?_
        refine WP_region ?_
        refine O_assign rfl rfl rfl ?_
        refine WL_end [(2, _)] ⟨rfl, trivial⟩ ?_
        refine WP_ret ?_
        refine inBlk_ret ?_
        refine inBlk_ret ?_
        refine inBlk_ret ?_
        refine ret1 Try.results48 rfl ?_
        first
          | exact ⟨_, rfl, (e2.trans hy26), by rw [validB_T hal (by omega)]⟩
          | (have hst : stepB l i = false := by
               rw [stepB_at hilt]; unfold okB
               first | (simp_all; done) | (simp_all; omega)
             exact ⟨_, rfl, (e2.trans hy26), by rw [validB_F hilt hst]⟩)
       · --
        refine WP_skip ?_
        refine WP_region ?_
        refine O_add rfl rfl rfl rfl (wrap_i64_id (by omega) (by omega)) ?_
        refine O_move rfl rfl rfl ?_
        refine WL_end [(0, _), (5, _), (6, _), (7, _)] ⟨rfl, rfl, rfl, rfl, trivial⟩ ?_
        have hst : stepB l i = true := by
          rw [stepB_at hilt]; unfold okB
          first | (simp_all; done) | (simp_all; omega)
        exact ⟨i + 1, ⟨rfl, rfl, rfl, rfl, trivial⟩, ⟨(e2.trans hy26), by omega, fun j hj => by
          rcases Nat.lt_or_ge j i with k | k
          · exact hal j k
          · rw [show j = i from by omega]; exact hst⟩, by omega⟩
     · --
      refine WP_seq ?_
      refine WP_region ?_
      refine O_assign rfl rfl rfl ?_
      refine WL_end [(2, _)] ⟨rfl, trivial⟩ ?_
      refine WP_ret ?_
      refine inBlk_ret ?_
      refine inBlk_ret ?_
      refine inBlk_ret ?_
      refine ret1 Try.results48 rfl ?_
      first
        | exact ⟨_, rfl, (e2.trans hy26), by rw [validB_T hal (by omega)]⟩
        | (have hst : stepB l i = false := by
             rw [stepB_at hilt]; unfold okB
             first | (simp_all; done) | (simp_all; omega)
           exact ⟨_, rfl, (e2.trans hy26), by rw [validB_F hilt hst]⟩)
 · --
  refine WP_exit ?_
  refine inBlk_hit ?_
  refine WP_seq ?_
  refine WP_region ?_
  refine O_assign rfl rfl rfl ?_
  refine WL_end [(2, _)] ⟨rfl, trivial⟩ ?_
  refine WP_ret ?_
  refine ret1 Try.results48 rfl ?_
  first
    | exact ⟨_, rfl, hE, by rw [validB_T hal (by omega)]⟩
    | (have hst : stepB l i = false := by
         rw [stepB_at hilt]; unfold okB
         first | (simp_all; done) | (simp_all; omega)
       exact ⟨_, rfl, hE, by rw [validB_F hilt hst]⟩)

end Go.Proofs.Ytoccimigjjndpaa

