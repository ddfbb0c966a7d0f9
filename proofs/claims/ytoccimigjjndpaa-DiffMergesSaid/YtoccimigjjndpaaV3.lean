/-
  Walks.
-/
import Derived.Test.YtoccimigjjndpaaSrt
set_option linter.unusedVariables false
set_option linter.unusedSimpArgs false
set_option maxRecDepth 100000
namespace Go.Proofs.Ytoccimigjjndpaa
open Go Go.RowKit
set_option maxHeartbeats 2000000 in
theorem rsorted_c {w : World} {v : Value} {l : Nm} (hs : SlM fS w v l) (hl : l.length ≤ 1000000) :
    Calls Try.prog 83 #[v] w (Ret w fun r w' => OwM fS w.heap.size 9 w' r (sortN l)) := by
 refine enter (args := [v]) Try.func83 rfl Try.ntmps83 rfl ?_
 refine WP_seq ?_
 refine WP_region ?_
 refine O_assign rfl rfl rfl ?_
 refine WL_end [(0, _)] ⟨rfl, trivial⟩ ?_
 refine WP_seq ?_
 refine WP_region ?_
 refine O_assign rfl rfl rfl ?_
 refine WL_end [(0, _), (3, _)] ⟨rfl, rfl, trivial⟩ ?_
 refine WP_seq ?_
 refine WP_seq ?_
 refine WP_region ?_
 refine O_move rfl rfl rfl ?_
 refine M_len M52 rfl rfl rfl hs ?_
 refine O_move rfl rfl rfl ?_
 refine WL_end [(3, _), (7, _), (8, _), (9, _)] ⟨rfl, rfl, rfl, rfl, trivial⟩ ?_
 refine WP_block ?_
 refine WP_loop (S := Nat × Value) (fun (i, ov) => [(3, ov), (7, v), (8, .int .i64 (l.length : Nat)), (9, .int .i64 (i : Nat))]) (fun (i, ov) w' => Ext w w' ∧ OwM fS w.heap.size 9 w' ov ((sortE (l.take i)).map (·.1)) ∧ i ≤ l.length) (fun (i, ov) => l.length - i) (0, .slice none 0 0) ⟨rfl, rfl, rfl, rfl, trivial⟩ ⟨(Ext.refl _), OwM.nil _ _ _, Nat.zero_le _⟩ ?_
 rintro ⟨i, ov⟩ w9 ⟨hE, hov, hi⟩
 show WP _ _ _ _ _ [(3, ov), (7, v), (8, .int .i64 (l.length : Nat)), (9, .int .i64 (i : Nat))] _
 have zE := hE.size
 have hsl := sortE_len (l.take i)
 rw [List.length_take] at hsl
 generalize hE9 : sortE (l.take i) = E at hov hsl
 refine WP_seq ?_
 refine WP_region ?_
 refine O_lss rfl rfl rfl rfl rfl ?_
 refine WL_end [(3, _), (7, _), (8, _), (9, _), (10, _)] ⟨rfl, rfl, rfl, rfl, rfl, trivial⟩ ?_
 refine WP_seq ?_
 refine WP_condD rfl (fun c10 => ?_) (fun c10 => ?_)
 · --
  refine WP_skip ?_
  refine WP_seq ?_
  refine WP_block ?_
  refine WP_seq ?_
  have hilt : i < l.length := by omega
  · --
   skip
   refine WP_region ?_
   refine M_index M52 rfl rfl rfl rfl (hs.ext hE) i rfl hilt ?_
   refine M_load Try.underlying9 rfl rfl rfl rfl (hs.ext hE) hilt ?_
   refine O_assign rfl rfl rfl ?_
   refine WL_end [(3, _), (5, _), (7, _), (8, _), (9, _)] ⟨rfl, rfl, rfl, rfl, rfl, trivial⟩ ?_
   refine WP_seq ?_
   refine WP_region ?_
   refine O_assign rfl rfl rfl ?_
   refine WL_end [(3, _), (5, _), (6, _), (7, _), (8, _), (9, _)] ⟨rfl, rfl, rfl, rfl, rfl, rfl, trivial⟩ ?_
   refine WP_seq ?_
   refine WP_block ?_
   refine WP_loop (S := Nat) (fun j => [(3, ov), (5, .string (l[i])), (6, .int .i64 (j : Nat)), (7, v), (8, .int .i64 (l.length : Nat)), (9, .int .i64 (i : Nat))]) (fun j w' => w9 = w' ∧ j ≤ eat E l[i]) (fun j => E.length - j) 0 ⟨rfl, rfl, rfl, rfl, rfl, rfl, trivial⟩ ⟨rfl, Nat.zero_le _⟩ ?_
   rintro j _ ⟨rfl, hj⟩
   have hel := eat_le E l[i]
   refine WP_seq ?_
   refine WP_seq ?_
   by_cases hjl : j < E.length
   · --
    skip
    refine WP_region ?_
    refine O_move rfl rfl rfl ?_
    refine O_move rfl rfl rfl ?_
    refine M_len M52 rfl rfl rfl hov.sl ?_
    refine O_lss (t := true) rfl rfl rfl rfl (decide_eq_true (by rw [List.length_map]; omega)) ?_
    refine O_move rfl rfl rfl ?_
    refine O_move rfl rfl rfl ?_
    refine O_move rfl rfl rfl ?_
    refine M_index M52 rfl rfl rfl rfl hov.sl j rfl (by simpa using hjl) ?_
    refine M_load Try.underlying9 rfl rfl rfl rfl hov.sl (by simpa using hjl) ?_
    refine O_move rfl rfl rfl ?_
    refine O_slss rfl rfl rfl rfl ?_
    refine O_pickT rfl rfl rfl rfl ?_
    refine WL_end [(3, _), (5, _), (6, _), (7, _), (8, _), (9, _), (24, _)] ⟨rfl, rfl, rfl, rfl, rfl, rfl, rfl, trivial⟩ ?_
    refine WP_cond rfl (fun c24 => ?_) (fun c24 => ?_)
    · --
     refine WP_skip ?_
     refine WP_block ?_
     refine WP_region ?_
     refine O_move rfl rfl rfl ?_
     refine O_add rfl rfl rfl rfl (wrap_i64_id (by omega) (by omega)) ?_
     refine O_assign rfl rfl rfl ?_
     refine WL_end [(3, _), (5, _), (6, _), (7, _), (8, _), (9, _)] ⟨rfl, rfl, rfl, rfl, rfl, rfl, trivial⟩ ?_
     exact ⟨j + 1, ⟨rfl, rfl, rfl, rfl, rfl, rfl, trivial⟩, ⟨rfl, eat_step hj hjl (by simpa using c24)⟩, by omega⟩
    · --
     refine WP_exit ?_
     refine inBlk_hit ?_
     refine WP_seq ?_
     have hje := eat_stop hj hjl (by simpa using c24)
     by_cases hq : E[j].1 = l[i]
     · --
      have hgt := egot_of hje hjl hq
      refine WP_region ?_
      refine O_move rfl rfl rfl ?_
      refine O_move rfl rfl rfl ?_
      refine M_len M52 rfl rfl rfl hov.sl ?_
      refine O_eql (t := false) rfl rfl rfl rfl (decide_eq_false (by rw [List.length_map]; omega)) ?_
      refine O_move rfl rfl rfl ?_
      refine O_move rfl rfl rfl ?_
      refine O_move rfl rfl rfl ?_
      refine M_index M52 rfl rfl rfl rfl hov.sl j rfl (by simpa using hjl) ?_
      refine M_load Try.underlying9 rfl rfl rfl rfl hov.sl (by simpa using hjl) ?_
      refine O_move rfl rfl rfl ?_
      refine O_sneqB (tb := false) rfl rfl rfl rfl (by rw [decide_eq_true (by simpa using hq)]; rfl) ?_
      refine O_pickF rfl rfl rfl rfl ?_
      refine WL_end [(3, _), (5, _), (6, _), (7, _), (8, _), (9, _), (38, _)] ⟨rfl, rfl, rfl, rfl, rfl, rfl, rfl, trivial⟩ ?_
      refine WP_condF rfl ?_
      refine WP_skip ?_
      refine WP_region ?_
      refine O_add rfl rfl rfl rfl (wrap_i64_id (by omega) (by omega)) ?_
      refine O_move rfl rfl rfl ?_
      refine WL_end [(3, _), (7, _), (8, _), (9, _)] ⟨rfl, rfl, rfl, rfl, trivial⟩ ?_
      have hst : sortE (l.take (i + 1)) = eset E l[i] 0 := by rw [List.take_add_one, List.getElem?_eq_getElem hilt, Option.toList_some, sortE_step, hE9]
      rw [← sort_got hgt, ← hst] at hov
      exact ⟨(i + 1, _), ⟨rfl, rfl, rfl, rfl, trivial⟩, ⟨hE, (hov).mono (by omega), by omega⟩, by dsimp only; omega⟩
     · --
      have hgt := egot_not hje hjl hq
      refine WP_region ?_
      refine O_move rfl rfl rfl ?_
      refine O_move rfl rfl rfl ?_
      refine M_len M52 rfl rfl rfl hov.sl ?_
      refine O_eql (t := false) rfl rfl rfl rfl (decide_eq_false (by rw [List.length_map]; omega)) ?_
      refine O_move rfl rfl rfl ?_
      refine O_move rfl rfl rfl ?_
      refine O_move rfl rfl rfl ?_
      refine M_index M52 rfl rfl rfl rfl hov.sl j rfl (by simpa using hjl) ?_
      refine M_load Try.underlying9 rfl rfl rfl rfl hov.sl (by simpa using hjl) ?_
      refine O_move rfl rfl rfl ?_
      refine O_sneqB (tb := true) rfl rfl rfl rfl (by rw [decide_eq_false (by simpa using hq)]; rfl) ?_
      refine O_pickF rfl rfl rfl rfl ?_
      refine WL_end [(3, _), (5, _), (6, _), (7, _), (8, _), (9, _), (38, _)] ⟨rfl, rfl, rfl, rfl, rfl, rfl, rfl, trivial⟩ ?_
      refine WP_condT rfl ?_
      have hs0 := hov.sl
      have zW : w.heap.size ≤ w9.heap.size := (hE).size
      refine WP_sub [(3, _), (5, _), (6, _), (7, _), (8, _), (9, _)] ⟨rfl, rfl, rfl, rfl, rfl, rfl, trivial⟩ ?_
      refine WP_anyF (XSo w9 ([] ++ (E.map (·.1)).take (eat E l[i])) (([] ++ (E.map (·.1)).take (eat E l[i])) ++ [l[i]]) ((([] ++ (E.map (·.1)).take (eat E l[i])) ++ [l[i]]) ++ (E.map (·.1)).drop (eat E l[i])) l[i]) (fun w' => Ext w9 w') 12 [3, 5, 6, 7, 8, 9] [0, 4, 6, 7, 11] [some 39, some 43, some 45, some 46, some 50] [[], [0], [], [1, 2], [3]] mixed rfl (by kernel_rfl) (by kernel_rfl) XSo.toE (fun w' h => XSo.start h) ?_
      apply AnyF_eff 0 [] [] rfl rfl rfl rfl
      · --
       intro vs y1_ hl hnone hwait hX
       obtain ⟨v0, v1, v2, v3, v4, rfl⟩ := len5' hl
       obtain rfl : v0 = none := by simpa using hnone
       have hXE : Ext w9 y1_ := hX.1
       have zy := hXE.size
       refine M_lit0 (f := fS) M52 rfl rfl (fun a9 w8 o9 e9 => ?_)
       exact WL_nil ⟨_, rfl, XSo.s0 hX e9 o9⟩
      apply AnyF_val [3] XSo.toE rfl rfl rfl
      · --
       intro y1_ hy
       refine O_move rfl rfl rfl ?_
       exact WL_nil ⟨rfl, rfl⟩
      apply AnyF_val [6] XSo.toE rfl rfl rfl
      · --
       intro y1_ hy
       refine O_move rfl rfl rfl ?_
       exact WL_nil ⟨rfl, rfl⟩
      apply AnyF_val [40, 41] XSo.toE rfl rfl rfl
      · --
       intro y1_ hy
       refine M_sliceTo M52 rfl rfl rfl rfl (hov.ext hy).sl (eat E l[i]) (by rw [hje]) (by rw [List.length_map]; omega) ?_
       exact WL_nil ⟨rfl, rfl⟩
      apply AnyF_eff 1 [0] [39, 42] rfl rfl rfl rfl
      · --
       intro vs y1_ hl hnone hwait hX
       obtain ⟨v0, v1, v2, v3, v4, rfl⟩ := len5' hl
       obtain rfl : v1 = none := by simpa using hnone
       have hXE : Ext w9 y1_ := hX.1
       have zy := hXE.size
       obtain ⟨u9, hu9⟩ := hwait 0 (by simp)
       obtain rfl : v0 = some u9 := by simpa using hu9
       refine M_appendK M52 rfl (by decide) rfl rfl rfl rfl (hX.2.1 u9 rfl rfl).1 ((hs0.ext hXE).takeM (eat E l[i]) (by rw [List.length_map]; omega)) (fun a _ => rfl) (by simp only [List.length_append, List.length_nil, List.length_take, List.length_drop, List.length_map, List.length_singleton]; omega) (by omega) (fun b9 w8 o9 r9 q9 => ?_)
       exact WL_nil ⟨_, rfl, XSo.s1 hX r9 q9 o9⟩
      apply AnyF_val [5] XSo.toE rfl rfl rfl
      · --
       intro y1_ hy
       refine O_move rfl rfl rfl ?_
       exact WL_nil ⟨rfl, rfl⟩
      apply AnyF_eff 2 [] [44] rfl rfl rfl rfl
      · --
       intro vs y1_ hl hnone hwait hX
       obtain ⟨v0, v1, v2, v3, v4, rfl⟩ := len5' hl
       obtain rfl : v2 = none := by simpa using hnone
       have hXE : Ext w9 y1_ := hX.1
       have zy := hXE.size
       refine M_lit M52 rfl rfl fS [l[i]] (by intro a _; rfl) rfl rfl rfl rfl rfl (fun a9 w8 o9 e9 => ?_)
       exact WL_nil ⟨_, rfl, XSo.s2 hX e9 o9⟩
      apply AnyF_eff 3 [1, 2] [43, 45] rfl rfl rfl rfl
      · --
       intro vs y1_ hl hnone hwait hX
       obtain ⟨v0, v1, v2, v3, v4, rfl⟩ := len5' hl
       obtain rfl : v3 = none := by simpa using hnone
       have hXE : Ext w9 y1_ := hX.1
       have zy := hXE.size
       obtain ⟨u9, hu9⟩ := hwait 1 (by simp)
       obtain rfl : v1 = some u9 := by simpa using hu9
       obtain ⟨u8, hu8⟩ := hwait 2 (by simp)
       obtain rfl : v2 = some u8 := by simpa using hu8
       refine M_appendK M52 rfl (by decide) rfl rfl rfl rfl (hX.2.2.1 u9 rfl rfl).1 (hX.2.2.2.1 u8 rfl rfl).sl (fun a _ => rfl) (by simp only [List.length_append, List.length_nil, List.length_take, List.length_drop, List.length_map, List.length_singleton]; omega) (by omega) (fun b9 w8 o9 r9 q9 => ?_)
       exact WL_nil ⟨_, rfl, XSo.s3 hX r9 o9⟩
      apply AnyF_val [3] XSo.toE rfl rfl rfl
      · --
       intro y1_ hy
       refine O_move rfl rfl rfl ?_
       exact WL_nil ⟨rfl, rfl⟩
      apply AnyF_val [6] XSo.toE rfl rfl rfl
      · --
       intro y1_ hy
       refine O_move rfl rfl rfl ?_
       exact WL_nil ⟨rfl, rfl⟩
      apply AnyF_val [47, 48] XSo.toE rfl rfl rfl
      · --
       intro y1_ hy
       refine M_sliceFrom M52 rfl rfl rfl rfl (hov.ext hy).sl (eat E l[i]) (by rw [hje]) (by rw [List.length_map]; omega) ?_
       exact WL_nil ⟨rfl, rfl⟩
      apply AnyF_eff 4 [3] [46, 49] rfl rfl rfl rfl
      · --
       intro vs y1_ hl hnone hwait hX
       obtain ⟨v0, v1, v2, v3, v4, rfl⟩ := len5' hl
       obtain rfl : v4 = none := by simpa using hnone
       have hXE : Ext w9 y1_ := hX.1
       have zy := hXE.size
       obtain ⟨u9, hu9⟩ := hwait 3 (by simp)
       obtain rfl : v3 = some u9 := by simpa using hu9
       refine M_appendK M52 rfl (by decide) rfl rfl rfl rfl (hX.2.2.2.2.1 u9 rfl rfl) ((hs0.ext hXE).dropM (eat E l[i]) (by rw [List.length_map]; omega)) (fun a _ => rfl) (by simp only [List.length_append, List.length_nil, List.length_take, List.length_drop, List.length_map, List.length_singleton]; omega) (by omega) (fun b9 w8 o9 r9 q9 => ?_)
       exact WL_nil ⟨_, rfl, XSo.s4 hX r9 o9⟩
      refine AnyF_nil fun vs y1_ hl hdone hX => ?_
      obtain ⟨v0, v1, v2, v3, v4, rfl⟩ := len5' hl
      obtain ⟨b0, hb0⟩ := hdone 0 (by decide)
      obtain rfl : v0 = some b0 := by simpa using hb0
      obtain ⟨b1, hb1⟩ := hdone 1 (by decide)
      obtain rfl : v1 = some b1 := by simpa using hb1
      obtain ⟨b2, hb2⟩ := hdone 2 (by decide)
      obtain rfl : v2 = some b2 := by simpa using hb2
      obtain ⟨b3, hb3⟩ := hdone 3 (by decide)
      obtain rfl : v3 = some b3 := by simpa using hb3
      obtain ⟨b4, hb4⟩ := hdone 4 (by decide)
      obtain rfl : v4 = some b4 := by simpa using hb4
      have hO9 := hX.2.2.2.2.2.1 b4 rfl
      have hX9 : Ext w9 y1_ := hX.1
      have zX9 := hX9.size
      rw [List.nil_append] at hO9
      refine O_assign rfl rfl rfl ?_
      refine WL_end [(3, _), (7, _), (8, _), (9, _)] ⟨rfl, rfl, rfl, rfl, trivial⟩ ?_
      refine WP_region ?_
      refine O_add rfl rfl rfl rfl (wrap_i64_id (by omega) (by omega)) ?_
      refine O_move rfl rfl rfl ?_
      refine WL_end [(3, _), (7, _), (8, _), (9, _)] ⟨rfl, rfl, rfl, rfl, trivial⟩ ?_
      have hst : sortE (l.take (i + 1)) = eset E l[i] 0 := by rw [List.take_add_one, List.getElem?_eq_getElem hilt, Option.toList_some, sortE_step, hE9]
      rw [sort_in hgt, ← hst] at hO9
      exact ⟨(i + 1, _), ⟨rfl, rfl, rfl, rfl, trivial⟩, ⟨(hE.trans hX9), (hO9).mono (by omega), by omega⟩, by dsimp only; omega⟩
   · --
    skip
    refine WP_region ?_
    refine O_move rfl rfl rfl ?_
    refine O_move rfl rfl rfl ?_
    refine M_len M52 rfl rfl rfl hov.sl ?_
    refine O_lss (t := false) rfl rfl rfl rfl (decide_eq_false (by rw [List.length_map]; omega)) ?_
    refine O_move rfl rfl rfl ?_
    refine O_skip rfl rfl ?_
    refine O_skip rfl rfl ?_
    refine O_skip rfl rfl ?_
    refine O_skip rfl rfl ?_
    refine O_skip rfl rfl ?_
    refine O_skip rfl rfl ?_
    refine O_pickF rfl rfl rfl rfl ?_
    refine WL_end [(3, _), (5, _), (6, _), (7, _), (8, _), (9, _), (24, _)] ⟨rfl, rfl, rfl, rfl, rfl, rfl, rfl, trivial⟩ ?_
    refine WP_condF rfl ?_
    refine WP_exit ?_
    refine inBlk_hit ?_
    refine WP_seq ?_
    have hje := eat_end hj hjl
    have hgt : ¬ egot E l[i] := fun h => by have := egot_lt h; omega
    · --
     skip
     refine WP_region ?_
     refine O_move rfl rfl rfl ?_
     refine O_move rfl rfl rfl ?_
     refine M_len M52 rfl rfl rfl hov.sl ?_
     refine O_eql (t := true) rfl rfl rfl rfl (decide_eq_true (by rw [List.length_map]; omega)) ?_
     refine O_move rfl rfl rfl ?_
     refine O_skip rfl rfl ?_
     refine O_skip rfl rfl ?_
     refine O_skip rfl rfl ?_
     refine O_skip rfl rfl ?_
     refine O_skip rfl rfl ?_
     refine O_skip rfl rfl ?_
     refine O_pickT rfl rfl rfl rfl ?_
     refine WL_end [(3, _), (5, _), (6, _), (7, _), (8, _), (9, _), (38, _)] ⟨rfl, rfl, rfl, rfl, rfl, rfl, rfl, trivial⟩ ?_
     refine WP_condT rfl ?_
     have hs0 := hov.sl
     have zW : w.heap.size ≤ w9.heap.size := (hE).size
     refine WP_sub [(3, _), (5, _), (6, _), (7, _), (8, _), (9, _)] ⟨rfl, rfl, rfl, rfl, rfl, rfl, trivial⟩ ?_
     refine WP_anyF (XSo w9 ([] ++ (E.map (·.1)).take (eat E l[i])) (([] ++ (E.map (·.1)).take (eat E l[i])) ++ [l[i]]) ((([] ++ (E.map (·.1)).take (eat E l[i])) ++ [l[i]]) ++ (E.map (·.1)).drop (eat E l[i])) l[i]) (fun w' => Ext w9 w') 12 [3, 5, 6, 7, 8, 9] [0, 4, 6, 7, 11] [some 39, some 43, some 45, some 46, some 50] [[], [0], [], [1, 2], [3]] mixed rfl (by kernel_rfl) (by kernel_rfl) XSo.toE (fun w' h => XSo.start h) ?_
     apply AnyF_eff 0 [] [] rfl rfl rfl rfl
     · --
      intro vs y2_ hl hnone hwait hX
      obtain ⟨v0, v1, v2, v3, v4, rfl⟩ := len5' hl
      obtain rfl : v0 = none := by simpa using hnone
      have hXE : Ext w9 y2_ := hX.1
      have zy := hXE.size
      refine M_lit0 (f := fS) M52 rfl rfl (fun a9 w8 o9 e9 => ?_)
      exact WL_nil ⟨_, rfl, XSo.s0 hX e9 o9⟩
     apply AnyF_val [3] XSo.toE rfl rfl rfl
     · --
      intro y2_ hy
      refine O_move rfl rfl rfl ?_
      exact WL_nil ⟨rfl, rfl⟩
     apply AnyF_val [6] XSo.toE rfl rfl rfl
     · --
      intro y2_ hy
      refine O_move rfl rfl rfl ?_
      exact WL_nil ⟨rfl, rfl⟩
     apply AnyF_val [40, 41] XSo.toE rfl rfl rfl
     · --
      intro y2_ hy
      refine M_sliceTo M52 rfl rfl rfl rfl (hov.ext hy).sl (eat E l[i]) (by rw [hje]) (by rw [List.length_map]; omega) ?_
      exact WL_nil ⟨rfl, rfl⟩
     apply AnyF_eff 1 [0] [39, 42] rfl rfl rfl rfl
     · --
      intro vs y2_ hl hnone hwait hX
      obtain ⟨v0, v1, v2, v3, v4, rfl⟩ := len5' hl
      obtain rfl : v1 = none := by simpa using hnone
      have hXE : Ext w9 y2_ := hX.1
      have zy := hXE.size
      obtain ⟨u9, hu9⟩ := hwait 0 (by simp)
      obtain rfl : v0 = some u9 := by simpa using hu9
      refine M_appendK M52 rfl (by decide) rfl rfl rfl rfl (hX.2.1 u9 rfl rfl).1 ((hs0.ext hXE).takeM (eat E l[i]) (by rw [List.length_map]; omega)) (fun a _ => rfl) (by simp only [List.length_append, List.length_nil, List.length_take, List.length_drop, List.length_map, List.length_singleton]; omega) (by omega) (fun b9 w8 o9 r9 q9 => ?_)
      exact WL_nil ⟨_, rfl, XSo.s1 hX r9 q9 o9⟩
     apply AnyF_val [5] XSo.toE rfl rfl rfl
     · --
      intro y2_ hy
      refine O_move rfl rfl rfl ?_
      exact WL_nil ⟨rfl, rfl⟩
     apply AnyF_eff 2 [] [44] rfl rfl rfl rfl
     · --
      intro vs y2_ hl hnone hwait hX
      obtain ⟨v0, v1, v2, v3, v4, rfl⟩ := len5' hl
      obtain rfl : v2 = none := by simpa using hnone
      have hXE : Ext w9 y2_ := hX.1
      have zy := hXE.size
      refine M_lit M52 rfl rfl fS [l[i]] (by intro a _; rfl) rfl rfl rfl rfl rfl (fun a9 w8 o9 e9 => ?_)
      exact WL_nil ⟨_, rfl, XSo.s2 hX e9 o9⟩
     apply AnyF_eff 3 [1, 2] [43, 45] rfl rfl rfl rfl
     · --
      intro vs y2_ hl hnone hwait hX
      obtain ⟨v0, v1, v2, v3, v4, rfl⟩ := len5' hl
      obtain rfl : v3 = none := by simpa using hnone
      have hXE : Ext w9 y2_ := hX.1
      have zy := hXE.size
      obtain ⟨u9, hu9⟩ := hwait 1 (by simp)
      obtain rfl : v1 = some u9 := by simpa using hu9
      obtain ⟨u8, hu8⟩ := hwait 2 (by simp)
      obtain rfl : v2 = some u8 := by simpa using hu8
      refine M_appendK M52 rfl (by decide) rfl rfl rfl rfl (hX.2.2.1 u9 rfl rfl).1 (hX.2.2.2.1 u8 rfl rfl).sl (fun a _ => rfl) (by simp only [List.length_append, List.length_nil, List.length_take, List.length_drop, List.length_map, List.length_singleton]; omega) (by omega) (fun b9 w8 o9 r9 q9 => ?_)
      exact WL_nil ⟨_, rfl, XSo.s3 hX r9 o9⟩
     apply AnyF_val [3] XSo.toE rfl rfl rfl
     · --
      intro y2_ hy
      refine O_move rfl rfl rfl ?_
      exact WL_nil ⟨rfl, rfl⟩
     apply AnyF_val [6] XSo.toE rfl rfl rfl
     · --
      intro y2_ hy
      refine O_move rfl rfl rfl ?_
      exact WL_nil ⟨rfl, rfl⟩
     apply AnyF_val [47, 48] XSo.toE rfl rfl rfl
     · --
      intro y2_ hy
      refine M_sliceFrom M52 rfl rfl rfl rfl (hov.ext hy).sl (eat E l[i]) (by rw [hje]) (by rw [List.length_map]; omega) ?_
      exact WL_nil ⟨rfl, rfl⟩
     apply AnyF_eff 4 [3] [46, 49] rfl rfl rfl rfl
     · --
      intro vs y2_ hl hnone hwait hX
      obtain ⟨v0, v1, v2, v3, v4, rfl⟩ := len5' hl
      obtain rfl : v4 = none := by simpa using hnone
      have hXE : Ext w9 y2_ := hX.1
      have zy := hXE.size
      obtain ⟨u9, hu9⟩ := hwait 3 (by simp)
      obtain rfl : v3 = some u9 := by simpa using hu9
      refine M_appendK M52 rfl (by decide) rfl rfl rfl rfl (hX.2.2.2.2.1 u9 rfl rfl) ((hs0.ext hXE).dropM (eat E l[i]) (by rw [List.length_map]; omega)) (fun a _ => rfl) (by simp only [List.length_append, List.length_nil, List.length_take, List.length_drop, List.length_map, List.length_singleton]; omega) (by omega) (fun b9 w8 o9 r9 q9 => ?_)
      exact WL_nil ⟨_, rfl, XSo.s4 hX r9 o9⟩
     refine AnyF_nil fun vs y2_ hl hdone hX => ?_
     obtain ⟨v0, v1, v2, v3, v4, rfl⟩ := len5' hl
     obtain ⟨b0, hb0⟩ := hdone 0 (by decide)
     obtain rfl : v0 = some b0 := by simpa using hb0
     obtain ⟨b1, hb1⟩ := hdone 1 (by decide)
     obtain rfl : v1 = some b1 := by simpa using hb1
     obtain ⟨b2, hb2⟩ := hdone 2 (by decide)
     obtain rfl : v2 = some b2 := by simpa using hb2
     obtain ⟨b3, hb3⟩ := hdone 3 (by decide)
     obtain rfl : v3 = some b3 := by simpa using hb3
     obtain ⟨b4, hb4⟩ := hdone 4 (by decide)
     obtain rfl : v4 = some b4 := by simpa using hb4
     have hO9 := hX.2.2.2.2.2.1 b4 rfl
     have hX9 : Ext w9 y2_ := hX.1
     have zX9 := hX9.size
     rw [List.nil_append] at hO9
     refine O_assign rfl rfl rfl ?_
     refine WL_end [(3, _), (7, _), (8, _), (9, _)] ⟨rfl, rfl, rfl, rfl, trivial⟩ ?_
     refine WP_region ?_
     refine O_add rfl rfl rfl rfl (wrap_i64_id (by omega) (by omega)) ?_
     refine O_move rfl rfl rfl ?_
     refine WL_end [(3, _), (7, _), (8, _), (9, _)] ⟨rfl, rfl, rfl, rfl, trivial⟩ ?_
     have hst : sortE (l.take (i + 1)) = eset E l[i] 0 := by rw [List.take_add_one, List.getElem?_eq_getElem hilt, Option.toList_some, sortE_step, hE9]
     rw [sort_in hgt, ← hst] at hO9
     exact ⟨(i + 1, _), ⟨rfl, rfl, rfl, rfl, trivial⟩, ⟨(hE.trans hX9), (hO9).mono (by omega), by omega⟩, by dsimp only; omega⟩
 · --
  refine WP_exit ?_
  refine inBlk_hit ?_
  refine WP_seq ?_
  refine WP_region ?_
  refine O_move rfl rfl rfl ?_
  refine O_assign rfl rfl rfl ?_
  refine WL_end [(2, _)] ⟨rfl, trivial⟩ ?_
  refine WP_ret ?_
  refine ret1 Try.results83 rfl ?_
  have hie : i = l.length := by omega
  subst hie
  rw [List.take_length] at hE9
  exact ⟨_, rfl, hE, by unfold sortN; rw [hE9]; exact hov⟩

end Go.Proofs.Ytoccimigjjndpaa
