/-
  Walks.
-/
import Derived.Test.YtoccimigjjndpaaEachb
set_option linter.unusedVariables false
set_option linter.unusedSimpArgs false
set_option maxRecDepth 100000
namespace Go.Proofs.Ytoccimigjjndpaa
open Go Go.RowKit
set_option maxHeartbeats 2000000 in
theorem each_c {wE : World} {F : FuncId} {us vals : List Value} {ls : List Nm} {lv : Value} {BL : Nat} {K : Nm → World → Prop} (hEn : Enters Try.prog F) (hO : OwM fV BL 52 wE lv vals) (hLS : LS wE vals ls) (hne : vals ≠ []) (hK0 : K [] wE) (hKt : ∀ vs w v l, K vs w → SlS wE v l → SlS w v l)
    (hKb : ∀ vs w w1 cs, K vs w → Bk w (vblk lv) 52 cs → Chg (vblk lv) w w1 → K vs w1)
    (hV : ∀ vs s r, mergeN ls = vs ++ s :: r → ∀ w cs, K vs w → Bk w (vblk lv) 52 cs → Calls Try.prog F (([Value.string s] ++ us).toArray) w (RVis (K (vs ++ [s])) (vblk lv) cs w))
    (hvl : vals.length ≤ 1000) :
    Calls Try.prog 72 #[.func (.func F) #[] us.toArray, lv] wE (fun e w' => e = .returned (.tuple #[]) ∧ K (mergeN ls) w') := by
 refine enter (args := [_, lv]) Try.func72 rfl Try.ntmps72 rfl ?_
 refine WP_block ?_
 refine WP_loop (S := Nat × Nm × List Nm × List Value) (fun (n, vs, lc, vl) => [(0, .func (.func F) #[] us.toArray), (1, lv)]) (fun (n, vs, lc, vl) w' => K vs w' ∧ OwM fV BL 52 w' lv vl ∧ LS wE vl lc ∧ vl.length = vals.length ∧ mergeN ls = vs ++ mergeF n lc ∧ totN lc ≤ n) (fun (n, vs, lc, vl) => n) (totN ls, [], ls, vals) ⟨rfl, rfl, trivial⟩ ⟨hK0, hO, hLS, rfl, rfl, Nat.le_refl _⟩ ?_
 rintro ⟨n, vs, lc, vl⟩ w9 ⟨hK, hov, hLC, hnv, hmg, htn⟩
 show WP _ _ _ _ _ [(0, .func (.func F) #[] us.toArray), (1, lv)] _
 have hln := hLC.1
 obtain ⟨bcs, hbk⟩ := hov.bk (by intro e; rw [e] at hnv; exact hne (List.eq_nil_of_length_eq_zero hnv.symm))
 refine WP_block ?_
 refine WP_seq ?_
 refine WP_region ?_
 refine O_assign rfl rfl rfl ?_
 refine O_assign rfl rfl rfl ?_
 refine WL_end [(0, _), (1, _), (4, _), (5, _)] ⟨rfl, rfl, rfl, rfl, trivial⟩ ?_
 refine WP_seq ?_
 refine WP_seq ?_
 refine WP_region ?_
 refine O_move rfl rfl rfl ?_
 refine M_len M121 rfl rfl rfl hov.sl ?_
 refine O_move rfl rfl rfl ?_
 refine WL_end [(0, _), (1, _), (4, _), (5, _), (10, _), (11, _), (12, _)] ⟨rfl, rfl, rfl, rfl, rfl, rfl, rfl, trivial⟩ ?_
 refine WP_block ?_
 refine WP_loop (S := Nat) (fun i => [(0, .func (.func F) #[] us.toArray), (1, lv), (4, .string ((curN lc i).getD ⟨#[]⟩)), (5, .bool (curN lc i).isSome), (10, lv), (11, .int .i64 (vl.length : Nat)), (12, .int .i64 (i : Nat))]) (fun i w' => w9 = w' ∧ i ≤ vl.length) (fun i => vl.length - i) 0 ⟨rfl, rfl, rfl, rfl, rfl, rfl, rfl, trivial⟩ ⟨rfl, Nat.zero_le _⟩ ?_
 rintro i _ ⟨rfl, hi⟩
 skip
 refine WP_seq ?_
 refine WP_region ?_
 refine O_lss rfl rfl rfl rfl rfl ?_
 refine WL_end [(0, _), (1, _), (4, _), (5, _), (10, _), (11, _), (12, _), (13, _)] ⟨rfl, rfl, rfl, rfl, rfl, rfl, rfl, rfl, trivial⟩ ?_
 refine WP_seq ?_
 refine WP_condD rfl (fun c13 => ?_) (fun c13 => ?_)
 · --
  refine WP_skip ?_
  refine WP_seq ?_
  refine WP_block ?_
  refine WP_seq ?_
  have hilt : i < vl.length := by omega
  have hil2 : i < lc.length := by omega
  have hsl : SlS w9 vl[i] lc[i] := hKt _ _ _ _ hK (hLC.at_ hilt hil2)
  rcases hli : lc[i] with _ | ⟨x, t⟩
  rotate_left
  rcases hcur : curN lc i with _ | c
  · --
   rw [hli] at hsl
   refine WP_region ?_
   refine M_index M121 rfl rfl rfl rfl hov.sl i rfl hilt ?_
   refine M_load Try.underlying52 rfl rfl rfl rfl hov.sl hilt ?_
   refine O_assign rfl rfl rfl ?_
   refine WL_end [(0, _), (1, _), (4, _), (5, _), (7, _), (10, _), (11, _), (12, _)] ⟨rfl, rfl, rfl, rfl, rfl, rfl, rfl, rfl, trivial⟩ ?_
   refine WP_seq ?_
   refine WP_region ?_
   refine O_move rfl rfl rfl ?_
   refine M_len M52 rfl rfl rfl hsl.sl ?_
   refine O_gtr (t := true) rfl rfl rfl rfl (decide_eq_true (by simp)) ?_
   refine O_move rfl rfl rfl ?_
   refine O_move rfl rfl rfl ?_
   refine O_not rfl rfl rfl rfl ?_
   refine O_move rfl rfl rfl ?_
   refine O_skip rfl rfl ?_
   refine O_skip rfl rfl ?_
   refine O_skip rfl rfl ?_
   refine O_skip rfl rfl ?_
   refine O_skip rfl rfl ?_
   refine O_pickT rfl rfl rfl rfl ?_
   refine O_pickT rfl rfl rfl rfl ?_
   refine WL_end [(0, _), (1, _), (4, _), (5, _), (7, _), (10, _), (11, _), (12, _), (29, _)] ⟨rfl, rfl, rfl, rfl, rfl, rfl, rfl, rfl, rfl, trivial⟩ ?_
   refine WP_condT rfl ?_
   refine WP_region ?_
   refine O_move rfl rfl rfl ?_
   refine M_index M52 rfl rfl rfl rfl hsl.sl 0 rfl (by simp) ?_
   refine M_load Try.underlying9 rfl rfl rfl rfl hsl.sl (by simp) ?_
   refine O_assign rfl rfl rfl ?_
   refine O_assign rfl rfl rfl ?_
   refine WL_end [(0, _), (1, _), (4, _), (5, _), (10, _), (11, _), (12, _)] ⟨rfl, rfl, rfl, rfl, rfl, rfl, rfl, trivial⟩ ?_
   refine WP_region ?_
   refine O_add rfl rfl rfl rfl (wrap_i64_id (by omega) (by omega)) ?_
   refine O_move rfl rfl rfl ?_
   refine WL_end [(0, _), (1, _), (4, _), (5, _), (10, _), (11, _), (12, _)] ⟨rfl, rfl, rfl, rfl, rfl, rfl, rfl, trivial⟩ ?_
   have hcs : curN lc (i + 1) = some x := by rw [curN_succ hil2, hcur, hli]; rfl
   refine ⟨i + 1, ⟨rfl, rfl, ?_, ?_, rfl, rfl, rfl, trivial⟩, ⟨rfl, by omega⟩, by omega⟩ <;> (simp only [look]; rw [hcs]; try rfl)
  · --
   rw [hli] at hsl
   refine WP_region ?_
   refine M_index M121 rfl rfl rfl rfl hov.sl i rfl hilt ?_
   refine M_load Try.underlying52 rfl rfl rfl rfl hov.sl hilt ?_
   refine O_assign rfl rfl rfl ?_
   refine WL_end [(0, _), (1, _), (4, _), (5, _), (7, _), (10, _), (11, _), (12, _)] ⟨rfl, rfl, rfl, rfl, rfl, rfl, rfl, rfl, trivial⟩ ?_
   refine WP_seq ?_
   refine WP_region ?_
   refine O_move rfl rfl rfl ?_
   refine M_len M52 rfl rfl rfl hsl.sl ?_
   refine O_gtr (t := true) rfl rfl rfl rfl (decide_eq_true (by simp)) ?_
   refine O_move rfl rfl rfl ?_
   refine O_move rfl rfl rfl ?_
   refine O_not rfl rfl rfl rfl ?_
   refine O_move rfl rfl rfl ?_
   refine O_move rfl rfl rfl ?_
   refine M_index M52 rfl rfl rfl rfl hsl.sl 0 rfl (by simp) ?_
   refine M_load Try.underlying9 rfl rfl rfl rfl hsl.sl (by simp) ?_
   refine O_move rfl rfl rfl ?_
   refine O_slss rfl rfl rfl rfl ?_
   refine O_pickF rfl rfl rfl rfl ?_
   refine O_pickT rfl rfl rfl rfl ?_
   refine WL_end [(0, _), (1, _), (4, _), (5, _), (7, _), (10, _), (11, _), (12, _), (29, _)] ⟨rfl, rfl, rfl, rfl, rfl, rfl, rfl, rfl, rfl, trivial⟩ ?_
   refine WP_cond rfl (fun c29 => ?_) (fun c29 => ?_)
   · --
    refine WP_region ?_
    refine O_move rfl rfl rfl ?_
    refine M_index M52 rfl rfl rfl rfl hsl.sl 0 rfl (by simp) ?_
    refine M_load Try.underlying9 rfl rfl rfl rfl hsl.sl (by simp) ?_
    refine O_assign rfl rfl rfl ?_
    refine O_assign rfl rfl rfl ?_
    refine WL_end [(0, _), (1, _), (4, _), (5, _), (10, _), (11, _), (12, _)] ⟨rfl, rfl, rfl, rfl, rfl, rfl, rfl, trivial⟩ ?_
    refine WP_region ?_
    refine O_add rfl rfl rfl rfl (wrap_i64_id (by omega) (by omega)) ?_
    refine O_move rfl rfl rfl ?_
    refine WL_end [(0, _), (1, _), (4, _), (5, _), (10, _), (11, _), (12, _)] ⟨rfl, rfl, rfl, rfl, rfl, rfl, rfl, trivial⟩ ?_
    first
      | have hcs : curN lc (i + 1) = some x := by rw [curN_succ hil2, hcur, hli]; exact if_pos (show nlt x c = true by assumption)
        refine ⟨i + 1, ⟨rfl, rfl, ?_, ?_, rfl, rfl, rfl, trivial⟩, ⟨rfl, by omega⟩, by omega⟩ <;> (simp only [look]; rw [hcs]; try rfl)
      | have hcs : curN lc (i + 1) = some c := by rw [curN_succ hil2, hcur, hli]; exact if_neg (by rw [show nlt x c = false by assumption]; decide)
        refine ⟨i + 1, ⟨rfl, rfl, ?_, ?_, rfl, rfl, rfl, trivial⟩, ⟨rfl, by omega⟩, by omega⟩ <;> (simp only [look]; rw [hcs]; try rfl)
   · --
    refine WP_skip ?_
    refine WP_region ?_
    refine O_add rfl rfl rfl rfl (wrap_i64_id (by omega) (by omega)) ?_
    refine O_move rfl rfl rfl ?_
    refine WL_end [(0, _), (1, _), (4, _), (5, _), (10, _), (11, _), (12, _)] ⟨rfl, rfl, rfl, rfl, rfl, rfl, rfl, trivial⟩ ?_
    first
      | have hcs : curN lc (i + 1) = some x := by rw [curN_succ hil2, hcur, hli]; exact if_pos (show nlt x c = true by assumption)
        refine ⟨i + 1, ⟨rfl, rfl, ?_, ?_, rfl, rfl, rfl, trivial⟩, ⟨rfl, by omega⟩, by omega⟩ <;> (simp only [look]; rw [hcs]; try rfl)
      | have hcs : curN lc (i + 1) = some c := by rw [curN_succ hil2, hcur, hli]; exact if_neg (by rw [show nlt x c = false by assumption]; decide)
        refine ⟨i + 1, ⟨rfl, rfl, ?_, ?_, rfl, rfl, rfl, trivial⟩, ⟨rfl, by omega⟩, by omega⟩ <;> (simp only [look]; rw [hcs]; try rfl)
  · --
   rw [hli] at hsl
   refine WP_region ?_
   refine M_index M121 rfl rfl rfl rfl hov.sl i rfl hilt ?_
   refine M_load Try.underlying52 rfl rfl rfl rfl hov.sl hilt ?_
   refine O_assign rfl rfl rfl ?_
   refine WL_end [(0, _), (1, _), (4, _), (5, _), (7, _), (10, _), (11, _), (12, _)] ⟨rfl, rfl, rfl, rfl, rfl, rfl, rfl, rfl, trivial⟩ ?_
   refine WP_seq ?_
   refine WP_region ?_
   refine O_move rfl rfl rfl ?_
   refine M_len M52 rfl rfl rfl hsl.sl ?_
   refine O_gtr (t := false) rfl rfl rfl rfl (decide_eq_false (by simp)) ?_
   refine O_move rfl rfl rfl ?_
   refine O_skip rfl rfl ?_
   refine O_skip rfl rfl ?_
   refine O_skip rfl rfl ?_
   refine O_skipU rfl rfl rfl ?_
   refine O_skipU rfl rfl rfl ?_
   refine O_skipU rfl rfl rfl ?_
   refine O_skipU rfl rfl rfl ?_
   refine O_skipU rfl rfl rfl ?_
   refine O_skip rfl rfl ?_
   refine O_pickF rfl rfl rfl rfl ?_
   refine WL_end [(0, _), (1, _), (4, _), (5, _), (7, _), (10, _), (11, _), (12, _), (29, _)] ⟨rfl, rfl, rfl, rfl, rfl, rfl, rfl, rfl, rfl, trivial⟩ ?_
   refine WP_condF rfl ?_
   refine WP_skip ?_
   refine WP_region ?_
   refine O_add rfl rfl rfl rfl (wrap_i64_id (by omega) (by omega)) ?_
   refine O_move rfl rfl rfl ?_
   refine WL_end [(0, _), (1, _), (4, _), (5, _), (10, _), (11, _), (12, _)] ⟨rfl, rfl, rfl, rfl, rfl, rfl, rfl, trivial⟩ ?_
   have hcs : curN lc (i + 1) = curN lc i := by rw [curN_succ hil2, hli]; rfl
   refine ⟨i + 1, ⟨rfl, rfl, ?_, ?_, rfl, rfl, rfl, trivial⟩, ⟨rfl, by omega⟩, by omega⟩ <;> (simp only [look]; rw [hcs]; try rfl)
 · --
  refine WP_exit ?_
  refine inBlk_hit ?_
  refine WP_seq ?_
  refine WP_seq ?_
  have hie : lc.length ≤ i := by omega
  rcases hcur : curN lc i with _ | s
  · --
   rw [curN_all hie] at hcur
   refine WP_region ?_
   refine O_move rfl rfl rfl ?_
   refine O_not rfl rfl rfl rfl ?_
   refine WL_end [(0, _), (1, _), (4, _), (35, _)] ⟨rfl, rfl, rfl, rfl, trivial⟩ ?_
   refine WP_condT rfl ?_
   refine WP_ret ?_
   refine inBlk_ret ?_
   refine inBlk_ret ?_
   unfold fnE
   refine ret0 Try.results72 ?_
   exact ⟨rfl, by rw [hmg, mergeF_done hcur, List.append_nil]; exact hK⟩
  · --
   have hlst := hcur
   rw [curN_all hie] at hlst
   refine WP_region ?_
   refine O_move rfl rfl rfl ?_
   refine O_not rfl rfl rfl rfl ?_
   refine WL_end [(0, _), (1, _), (4, _), (35, _)] ⟨rfl, rfl, rfl, rfl, trivial⟩ ?_
   refine WP_condF rfl ?_
   refine WP_skip ?_
   refine WP_seq ?_
   refine WP_region ?_
   refine O_move rfl rfl rfl ?_
   refine O_move rfl rfl rfl ?_
   have hvs : mergeN ls = vs ++ s :: mergeF (n - 1) (dropN s lc) := by
     obtain ⟨n, rfl⟩ : ∃ m, n = m + 1 := ⟨n - 1, by have := totN_least hlst; omega⟩
     rw [hmg, mergeF_step hlst]; rfl
   refine O_callEV hEn rfl rfl rfl rfl (hV vs s _ hvs _ _ hK hbk) (fun w7 hK7 hz7 hb7 => ?_)
   have hov7 := hov.keep hbk hb7
   refine WL_end [(0, _), (1, _), (4, _)] ⟨rfl, rfl, rfl, trivial⟩ ?_
   refine WP_seq ?_
   refine WP_region ?_
   refine O_move rfl rfl rfl ?_
   refine M_len M121 rfl rfl rfl hov7.sl ?_
   refine O_move rfl rfl rfl ?_
   refine WL_end [(0, _), (1, _), (4, _), (39, _), (40, _), (41, _)] ⟨rfl, rfl, rfl, rfl, rfl, rfl, trivial⟩ ?_
   refine WP_block ?_
   refine WP_loop (S := Nat × List Value) (fun (i2, vk) => [(0, .func (.func F) #[] us.toArray), (1, lv), (4, .string s), (39, lv), (40, .int .i64 (vl.length : Nat)), (41, .int .i64 (i2 : Nat))]) (fun (i2, vk) w' => K (vs ++ [s]) w' ∧ OwM fV BL 52 w' lv vk ∧ LS wE vk (dropI s i2 lc) ∧ vk.length = vl.length ∧ i2 ≤ vl.length) (fun (i2, vk) => vl.length - i2) (0, vl) ⟨rfl, rfl, rfl, rfl, rfl, rfl, trivial⟩ ⟨hK7, hov7, by rw [dropI_zero]; exact hLC, rfl, Nat.zero_le _⟩ ?_
   rintro ⟨i2, vk⟩ w6 ⟨hK2, hov2, hLK, hkl, hi2⟩
   show WP _ _ _ _ _ [(0, .func (.func F) #[] us.toArray), (1, lv), (4, .string s), (39, lv), (40, .int .i64 (vl.length : Nat)), (41, .int .i64 (i2 : Nat))] _
   skip
   refine WP_seq ?_
   refine WP_region ?_
   refine O_lss rfl rfl rfl rfl rfl ?_
   refine WL_end [(0, _), (1, _), (4, _), (39, _), (40, _), (41, _), (42, _)] ⟨rfl, rfl, rfl, rfl, rfl, rfl, rfl, trivial⟩ ?_
   refine WP_seq ?_
   refine WP_condD rfl (fun c42 => ?_) (fun c42 => ?_)
   · --
    refine WP_skip ?_
    refine WP_seq ?_
    refine WP_block ?_
    refine WP_seq ?_
    have hilt : i2 < vk.length := by omega
    have hil2 : i2 < lc.length := by omega
    have hsl := hLK.atI hilt hil2
    have hsl2 : SlS w6 vk[i2] lc[i2] := hKt _ _ _ _ hK2 hsl
    rcases hli : lc[i2] with _ | ⟨x, t⟩
    rotate_left
    by_cases hxs : x = s
    · --
     rw [hli] at hsl hsl2
     refine WP_region ?_
     refine O_move rfl rfl rfl ?_
     refine M_index M121 rfl rfl rfl rfl hov2.sl i2 rfl hilt ?_
     refine M_load Try.underlying52 rfl rfl rfl rfl hov2.sl hilt ?_
     refine O_assign rfl rfl rfl ?_
     refine O_assign rfl rfl rfl ?_
     refine WL_end [(0, _), (1, _), (4, _), (8, _), (9, _), (39, _), (40, _), (41, _)] ⟨rfl, rfl, rfl, rfl, rfl, rfl, rfl, rfl, trivial⟩ ?_
     refine WP_seq ?_
     refine WP_region ?_
     refine O_move rfl rfl rfl ?_
     refine M_len M52 rfl rfl rfl hsl2.sl ?_
     refine O_gtr (t := true) rfl rfl rfl rfl (decide_eq_true (by simp)) ?_
     refine O_move rfl rfl rfl ?_
     refine O_move rfl rfl rfl ?_
     refine M_index M52 rfl rfl rfl rfl hsl2.sl 0 rfl (by simp) ?_
     refine M_load Try.underlying9 rfl rfl rfl rfl hsl2.sl (by simp) ?_
     refine O_move rfl rfl rfl ?_
     refine O_seqlB rfl rfl rfl rfl (decide_eq_true hxs) ?_
     refine O_pickT rfl rfl rfl rfl ?_
     refine WL_end [(0, _), (1, _), (4, _), (8, _), (9, _), (39, _), (40, _), (41, _), (55, _)] ⟨rfl, rfl, rfl, rfl, rfl, rfl, rfl, rfl, rfl, trivial⟩ ?_
     refine WP_condT rfl ?_
     refine WP_region ?_
     refine O_move rfl rfl rfl ?_
     refine O_move rfl rfl rfl ?_
     refine O_move rfl rfl rfl ?_
     refine M_sliceFrom M52 rfl rfl rfl rfl hsl2.sl 1 rfl (by simp) ?_
     refine M_index M121 rfl rfl rfl rfl hov2.sl i2 rfl hilt ?_
     obtain ⟨bcs2, hbk2⟩ := hov2.bk (by intro e; rw [e] at hilt; exact Nat.not_lt_zero _ hilt)
     refine M_store (f := fV) M121 rfl rfl rfl (slSub_one 1 _ _ _ hsl2.one) hov2 hilt (fun w5 hos hcs hbs => ?_)
     have hKs := hKb _ _ _ _ hK2 hbk2 hcs
     refine WL_end [(0, _), (1, _), (4, _), (39, _), (40, _), (41, _)] ⟨rfl, rfl, rfl, rfl, rfl, rfl, trivial⟩ ?_
     refine WP_region ?_
     refine O_add rfl rfl rfl rfl (wrap_i64_id (by omega) (by omega)) ?_
     refine O_move rfl rfl rfl ?_
     refine WL_end [(0, _), (1, _), (4, _), (39, _), (40, _), (41, _)] ⟨rfl, rfl, rfl, rfl, rfl, rfl, trivial⟩ ?_
     exact ⟨(i2 + 1, vk.set i2 _), ⟨rfl, rfl, rfl, rfl, rfl, rfl, trivial⟩, ⟨hKs, hos, hLK.set_ hil2 (by rw [hli, hxs, dropH_eq]; exact hsl.rest), by rw [List.length_set]; exact hkl, by omega⟩, by dsimp only; omega⟩
    · --
     rw [hli] at hsl hsl2
     refine WP_region ?_
     refine O_move rfl rfl rfl ?_
     refine M_index M121 rfl rfl rfl rfl hov2.sl i2 rfl hilt ?_
     refine M_load Try.underlying52 rfl rfl rfl rfl hov2.sl hilt ?_
     refine O_assign rfl rfl rfl ?_
     refine O_assign rfl rfl rfl ?_
     refine WL_end [(0, _), (1, _), (4, _), (8, _), (9, _), (39, _), (40, _), (41, _)] ⟨rfl, rfl, rfl, rfl, rfl, rfl, rfl, rfl, trivial⟩ ?_
     refine WP_seq ?_
     refine WP_region ?_
     refine O_move rfl rfl rfl ?_
     refine M_len M52 rfl rfl rfl hsl2.sl ?_
     refine O_gtr (t := true) rfl rfl rfl rfl (decide_eq_true (by simp)) ?_
     refine O_move rfl rfl rfl ?_
     refine O_move rfl rfl rfl ?_
     refine M_index M52 rfl rfl rfl rfl hsl2.sl 0 rfl (by simp) ?_
     refine M_load Try.underlying9 rfl rfl rfl rfl hsl2.sl (by simp) ?_
     refine O_move rfl rfl rfl ?_
     refine O_seqlB rfl rfl rfl rfl (decide_eq_false hxs) ?_
     refine O_pickT rfl rfl rfl rfl ?_
     refine WL_end [(0, _), (1, _), (4, _), (8, _), (9, _), (39, _), (40, _), (41, _), (55, _)] ⟨rfl, rfl, rfl, rfl, rfl, rfl, rfl, rfl, rfl, trivial⟩ ?_
     refine WP_condF rfl ?_
     refine WP_skip ?_
     refine WP_region ?_
     refine O_add rfl rfl rfl rfl (wrap_i64_id (by omega) (by omega)) ?_
     refine O_move rfl rfl rfl ?_
     refine WL_end [(0, _), (1, _), (4, _), (39, _), (40, _), (41, _)] ⟨rfl, rfl, rfl, rfl, rfl, rfl, trivial⟩ ?_
     exact ⟨(i2 + 1, vk), ⟨rfl, rfl, rfl, rfl, rfl, rfl, trivial⟩, ⟨hK2, hov2, hLK.same hil2 (by rw [hli]; exact dropH_ne hxs), hkl, by omega⟩, by dsimp only; omega⟩
    · --
     rw [hli] at hsl hsl2
     refine WP_region ?_
     refine O_move rfl rfl rfl ?_
     refine M_index M121 rfl rfl rfl rfl hov2.sl i2 rfl hilt ?_
     refine M_load Try.underlying52 rfl rfl rfl rfl hov2.sl hilt ?_
     refine O_assign rfl rfl rfl ?_
     refine O_assign rfl rfl rfl ?_
     refine WL_end [(0, _), (1, _), (4, _), (8, _), (9, _), (39, _), (40, _), (41, _)] ⟨rfl, rfl, rfl, rfl, rfl, rfl, rfl, rfl, trivial⟩ ?_
     refine WP_seq ?_
     refine WP_region ?_
     refine O_move rfl rfl rfl ?_
     refine M_len M52 rfl rfl rfl hsl2.sl ?_
     refine O_gtr (t := false) rfl rfl rfl rfl (decide_eq_false (by simp)) ?_
     refine O_move rfl rfl rfl ?_
     refine O_skip rfl rfl ?_
     refine O_skip rfl rfl ?_
     refine O_skip rfl rfl ?_
     refine O_skip rfl rfl ?_
     refine O_skip rfl rfl ?_
     refine O_pickF rfl rfl rfl rfl ?_
     refine WL_end [(0, _), (1, _), (4, _), (8, _), (9, _), (39, _), (40, _), (41, _), (55, _)] ⟨rfl, rfl, rfl, rfl, rfl, rfl, rfl, rfl, rfl, trivial⟩ ?_
     refine WP_condF rfl ?_
     refine WP_skip ?_
     refine WP_region ?_
     refine O_add rfl rfl rfl rfl (wrap_i64_id (by omega) (by omega)) ?_
     refine O_move rfl rfl rfl ?_
     refine WL_end [(0, _), (1, _), (4, _), (39, _), (40, _), (41, _)] ⟨rfl, rfl, rfl, rfl, rfl, rfl, trivial⟩ ?_
     exact ⟨(i2 + 1, vk), ⟨rfl, rfl, rfl, rfl, rfl, rfl, trivial⟩, ⟨hK2, hov2, hLK.same hil2 (by rw [hli]; rfl), hkl, by omega⟩, by dsimp only; omega⟩
   · --
    refine WP_exit ?_
    refine inBlk_hit ?_
    obtain ⟨n, rfl⟩ : ∃ m, n = m + 1 := ⟨n - 1, by have := totN_least hlst; omega⟩
    have hie : i2 = vk.length := by omega
    have hdp : dropI s i2 lc = dropN s lc := dropI_all (by omega)
    rw [hdp] at hLK
    exact ⟨(n, vs ++ [s], dropN s lc, vk), ⟨rfl, rfl, trivial⟩, ⟨hK2, hov2, hLK, by omega, by rw [hmg, mergeF_step hlst]; simp, by have := totN_least hlst; omega⟩, Nat.lt_succ_self n⟩

end Go.Proofs.Ytoccimigjjndpaa
