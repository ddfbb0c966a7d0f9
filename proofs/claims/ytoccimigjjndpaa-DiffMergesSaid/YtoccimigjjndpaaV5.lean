/-
  Walks.
-/
import Derived.Test.YtoccimigjjndpaaV4
set_option linter.unusedVariables false
set_option linter.unusedSimpArgs false
set_option maxRecDepth 100000
namespace Go.Proofs.Ytoccimigjjndpaa
open Go Go.RowKit
theorem cget_dropN {l : List Ch} {s : ByteArray} {i : Nat} (hi : i < l.length) (h : ¬ l[i].2.1 = s) (hc : cget l s = cget (l.drop i) s) : cget l s = cget (l.drop (i + 1)) s := by
  rw [hc, List.drop_eq_getElem_cons hi, cget_ne h]
theorem cget_dropY {l : List Ch} {s : ByteArray} {i : Nat} (hi : i < l.length) (h : l[i].2.1 = s) (hc : cget l s = cget (l.drop i) s) : cget l s = some l[i] := by
  rw [hc, List.drop_eq_getElem_cons hi, cget_eq h]
theorem cget_dropE {l : List Ch} {s : ByteArray} {i : Nat} (hi : l.length ≤ i) (hc : cget l s = cget (l.drop i) s) : cget l s = none := by
  rw [hc, List.drop_of_length_le hi, cget_nil]
theorem inv_snoc {l : List Ch} {i : Nat} (hi : i < l.length) : (l.take (i + 1)).map inv1 = (l.take i).map inv1 ++ [inv1 l[i]] := by
  rw [List.take_add_one, List.getElem?_eq_getElem hi, Option.toList_some, List.map_append]; rfl

theorem samet_c {w : World} {u v : Value} {a b : Nm} (hs : SlM fS w u a) (hv : SlM fS w v b) (hl : a.length ≤ 1000000000) :
    Calls Try.prog 56 #[u, v] w (Ret w fun r _ => r = .bool (decide (a = b))) := by
 refine enter (args := [u, v]) Try.func56 rfl Try.ntmps56 rfl ?_
 refine WP_seq ?_
 refine WP_region ?_
 refine O_assign rfl rfl rfl ?_
 refine WL_end [(0, _), (1, _)] ⟨rfl, rfl, trivial⟩ ?_
 refine WP_seq ?_
 refine WP_seq ?_
 refine WP_region ?_
 refine O_move rfl rfl rfl ?_
 refine M_len M52 rfl rfl rfl hs ?_
 refine O_move rfl rfl rfl ?_
 refine WL_end [(0, _), (1, _), (7, _), (8, _)] ⟨rfl, rfl, rfl, rfl, trivial⟩ ?_
 refine WP_block ?_
 refine WP_loop (S := Nat) (fun i => [(0, u), (1, v), (7, .int .i64 (a.length : Nat)), (8, .int .i64 (i : Nat))]) (fun i w' => Ext w w' ∧ i ≤ a.length ∧ a.take i = b.take i) (fun i => a.length - i) 0 ⟨rfl, rfl, rfl, rfl, trivial⟩ ⟨Ext.refl _, Nat.zero_le _, by simp⟩ ?_
 rintro i w9 ⟨hE, hi, htk⟩
 have zE := hE.size
 refine WP_seq ?_
 refine WP_region ?_
 refine O_lss rfl rfl rfl rfl rfl ?_
 refine WL_end [(0, _), (1, _), (7, _), (8, _), (9, _)] ⟨rfl, rfl, rfl, rfl, rfl, trivial⟩ ?_
 refine WP_seq ?_
 refine WP_condD rfl (fun c9 => ?_) (fun c9 => ?_)
 · --
  refine WP_skip ?_
  refine WP_seq ?_
  refine WP_block ?_
  refine WP_seq ?_
  refine WP_region ?_
  refine O_move rfl rfl rfl ?_
  refine O_assign rfl rfl rfl ?_
  refine WL_end [(0, _), (1, _), (5, _), (7, _), (8, _)] ⟨rfl, rfl, rfl, rfl, rfl, trivial⟩ ?_
  refine WP_seq ?_
  rcases Classical.em (a.length = b.length ∧ ∃ h1 h2, a[i]'h1 = b[i]'h2) with ⟨hlen, h1, h2, hq⟩ | hno
  rotate_left
  rcases Classical.em (a.length = b.length) with hlen | hlen
  · --
   have h1 : i < a.length := by omega
   have h2 : i < b.length := by omega
   have hq : ¬ a[i]'h1 = b[i]'h2 := fun e => hno ⟨hlen, h1, h2, e⟩
   refine WP_sub [(0, _), (1, _), (5, _), (7, _), (8, _)] ⟨rfl, rfl, rfl, rfl, rfl, trivial⟩ ?_
   refine WP_anyR 14 [0, 1, 5, 7, 8] mixed rfl (by kernel_rfl) ?_
   apply AnyR_val [0] rfl (by kernel_rfl)
   · --
    intro y1 hy1
    have zy1 := hy1.size
    refine AllV_nil ?_
    refine O_move rfl rfl rfl ?_
    exact WL_nil ⟨(Ext.refl _), rfl⟩
   apply AnyR_val [11] rfl (by kernel_rfl)
   · --
    intro y2 hy2
    have zy2 := hy2.size
    refine AllV_v ?_
    refine AllV_nil ?_
    refine M_len M52 rfl rfl rfl (hs.ext (hE.trans hy2)) ?_
    exact WL_nil ⟨(Ext.refl _), rfl⟩
   apply AnyR_val [1] rfl (by kernel_rfl)
   · --
    intro y3 hy3
    have zy3 := hy3.size
    refine AllV_nil ?_
    refine O_move rfl rfl rfl ?_
    exact WL_nil ⟨(Ext.refl _), rfl⟩
   apply AnyR_val [13] rfl (by kernel_rfl)
   · --
    intro y4 hy4
    have zy4 := hy4.size
    refine AllV_v ?_
    refine AllV_nil ?_
    refine M_len M52 rfl rfl rfl (hv.ext (hE.trans hy4)) ?_
    exact WL_nil ⟨(Ext.refl _), rfl⟩
   apply AnyR_val [12, 14] rfl (by kernel_rfl)
   · --
    intro y5 hy5
    have zy5 := hy5.size
    refine AllV_v ?_
    refine AllV_v ?_
    refine AllV_nil ?_
    refine O_neq (t := false) rfl rfl rfl rfl (decide_eq_false (by omega)) ?_
    exact WL_nil ⟨(Ext.refl _), rfl⟩
   apply AnyR_val [15] rfl (by kernel_rfl)
   · --
    intro y6 hy6
    have zy6 := hy6.size
    refine AllV_v ?_
    refine AllV_nil ?_
    refine O_move rfl rfl rfl ?_
    exact WL_nil ⟨(Ext.refl _), rfl⟩
   apply AnyR_val [16, 0] rfl (by kernel_rfl)
   · --
    intro y7 hy7
    have zy7 := hy7.size
    refine AllV_v ?_
    refine AllV_nil ?_
    refine O_move rfl rfl rfl ?_
    exact WL_nil ⟨(Ext.refl _), rfl⟩
   apply AnyR_val [16, 5] rfl (by kernel_rfl)
   · --
    intro y8 hy8
    have zy8 := hy8.size
    refine AllV_v ?_
    refine AllV_nil ?_
    refine O_move rfl rfl rfl ?_
    exact WL_nil ⟨(Ext.refl _), rfl⟩
   apply AnyR_val [16, 17, 18] rfl (by kernel_rfl)
   · --
    intro y9 hy9
    have zy9 := hy9.size
    refine AllV_v ?_
    refine AllV_v ?_
    refine AllV_v ?_
    refine AllV_nil ?_
    refine M_index M52 rfl rfl rfl rfl (hs.ext (hE.trans hy9)) _ rfl h1 ?_
    exact WL_nil ⟨(Ext.refl _), rfl⟩
   apply AnyR_val [16, 19] rfl (by kernel_rfl)
   · --
    intro y10 hy10
    have zy10 := hy10.size
    refine AllV_v ?_
    refine AllV_v ?_
    refine AllV_nil ?_
    refine M_load Try.underlying9 rfl rfl rfl rfl (hs.ext (hE.trans hy10)) h1 ?_
    exact WL_nil ⟨(Ext.refl _), rfl⟩
   apply AnyR_val [16, 1] rfl (by kernel_rfl)
   · --
    intro y11 hy11
    have zy11 := hy11.size
    refine AllV_v ?_
    refine AllV_nil ?_
    refine O_move rfl rfl rfl ?_
    exact WL_nil ⟨(Ext.refl _), rfl⟩
   apply AnyR_val [16, 5] rfl (by kernel_rfl)
   · --
    intro y12 hy12
    have zy12 := hy12.size
    refine AllV_v ?_
    refine AllV_nil ?_
    refine O_move rfl rfl rfl ?_
    exact WL_nil ⟨(Ext.refl _), rfl⟩
   apply AnyR_val [16, 21, 22] rfl (by kernel_rfl)
   · --
    intro y13 hy13
    have zy13 := hy13.size
    refine AllV_v ?_
    refine AllV_v ?_
    refine AllV_v ?_
    refine AllV_nil ?_
    refine M_index M52 rfl rfl rfl rfl (hv.ext (hE.trans hy13)) _ rfl h2 ?_
    exact WL_nil ⟨(Ext.refl _), rfl⟩
   apply AnyR_val [16, 23] rfl (by kernel_rfl)
   · --
    intro y14 hy14
    have zy14 := hy14.size
    refine AllV_v ?_
    refine AllV_v ?_
    refine AllV_nil ?_
    refine M_load Try.underlying9 rfl rfl rfl rfl (hv.ext (hE.trans hy14)) h2 ?_
    exact WL_nil ⟨(Ext.refl _), rfl⟩
   refine AnyR_nil fun y15 hy15 => ?_
   have zy15 := hy15.size
   refine AllV_v ?_
   refine AllV_v ?_
   refine AllV_v ?_
   refine AllV_v ?_
   refine AllV_v ?_
   refine AllV_v ?_
   refine AllV_v ?_
   refine AllV_v ?_
   refine AllV_v ?_
   refine AllV_v ?_
   refine AllV_v ?_
   refine AllV_v ?_
   refine AllV_v ?_
   refine AllV_v ?_
   refine AllV_nil ?_
   refine O_sneqB (tb := true) rfl rfl rfl rfl (by rw [decide_eq_false hq]; rfl) ?_
   refine O_pickF rfl rfl rfl rfl ?_
   refine WL_end [(0, _), (1, _), (7, _), (8, _), (26, _)] ⟨rfl, rfl, rfl, rfl, rfl, trivial⟩ ?_
   refine WP_condT rfl ?_
   refine WP_seq ?_
   refine WP_region ?_
   refine O_assign rfl rfl rfl ?_
   refine WL_end [(4, _)] ⟨rfl, trivial⟩ ?_
   refine WP_ret ?_
   refine inBlk_ret ?_
   refine inBlk_ret ?_
   refine ret1 Try.results56 rfl ?_
   exact ⟨_, rfl, (hE.trans hy15), by rw [decide_eq_false]; rintro rfl; exact hq rfl⟩
  · --
   skip
   refine WP_sub [(0, _), (1, _), (5, _), (7, _), (8, _)] ⟨rfl, rfl, rfl, rfl, rfl, trivial⟩ ?_
   refine WP_anyR 14 [0, 1, 5, 7, 8] mixed rfl (by kernel_rfl) ?_
   apply AnyR_val [0] rfl (by kernel_rfl)
   · --
    intro y16 hy16
    have zy16 := hy16.size
    refine AllV_nil ?_
    refine O_move rfl rfl rfl ?_
    exact WL_nil ⟨(Ext.refl _), rfl⟩
   apply AnyR_val [11] rfl (by kernel_rfl)
   · --
    intro y17 hy17
    have zy17 := hy17.size
    refine AllV_v ?_
    refine AllV_nil ?_
    refine M_len M52 rfl rfl rfl (hs.ext (hE.trans hy17)) ?_
    exact WL_nil ⟨(Ext.refl _), rfl⟩
   apply AnyR_val [1] rfl (by kernel_rfl)
   · --
    intro y18 hy18
    have zy18 := hy18.size
    refine AllV_nil ?_
    refine O_move rfl rfl rfl ?_
    exact WL_nil ⟨(Ext.refl _), rfl⟩
   apply AnyR_val [13] rfl (by kernel_rfl)
   · --
    intro y19 hy19
    have zy19 := hy19.size
    refine AllV_v ?_
    refine AllV_nil ?_
    refine M_len M52 rfl rfl rfl (hv.ext (hE.trans hy19)) ?_
    exact WL_nil ⟨(Ext.refl _), rfl⟩
   apply AnyR_val [12, 14] rfl (by kernel_rfl)
   · --
    intro y20 hy20
    have zy20 := hy20.size
    refine AllV_v ?_
    refine AllV_v ?_
    refine AllV_nil ?_
    refine O_neq (t := true) rfl rfl rfl rfl (decide_eq_true (by omega)) ?_
    exact WL_nil ⟨(Ext.refl _), rfl⟩
   apply AnyR_val [15] rfl (by kernel_rfl)
   · --
    intro y21 hy21
    have zy21 := hy21.size
    refine AllV_v ?_
    refine AllV_nil ?_
    refine O_move rfl rfl rfl ?_
    exact WL_nil ⟨(Ext.refl _), rfl⟩
   apply AnyR_val [16, 0] rfl (by kernel_rfl)
   · --
    intro y22 hy22
    have zy22 := hy22.size
    refine AllV_v ?_
    refine AllV_nil ?_
    refine O_skip rfl rfl ?_
    exact WL_nil ⟨(Ext.refl _), rfl⟩
   apply AnyR_val [16, 5] rfl (by kernel_rfl)
   · --
    intro y23 hy23
    have zy23 := hy23.size
    refine AllV_v ?_
    refine AllV_nil ?_
    refine O_skip rfl rfl ?_
    exact WL_nil ⟨(Ext.refl _), rfl⟩
   apply AnyR_val [16, 17, 18] rfl (by kernel_rfl)
   · --
    intro y24 hy24
    have zy24 := hy24.size
    refine AllV_v ?_
    refine AllV_v ?_
    refine AllV_v ?_
    refine AllV_nil ?_
    refine O_skip rfl rfl ?_
    exact WL_nil ⟨(Ext.refl _), rfl⟩
   apply AnyR_val [16, 19] rfl (by kernel_rfl)
   · --
    intro y25 hy25
    have zy25 := hy25.size
    refine AllV_v ?_
    refine AllV_v ?_
    refine AllV_nil ?_
    refine O_skip rfl rfl ?_
    exact WL_nil ⟨(Ext.refl _), rfl⟩
   apply AnyR_val [16, 1] rfl (by kernel_rfl)
   · --
    intro y26 hy26
    have zy26 := hy26.size
    refine AllV_v ?_
    refine AllV_nil ?_
    refine O_skip rfl rfl ?_
    exact WL_nil ⟨(Ext.refl _), rfl⟩
   apply AnyR_val [16, 5] rfl (by kernel_rfl)
   · --
    intro y27 hy27
    have zy27 := hy27.size
    refine AllV_v ?_
    refine AllV_nil ?_
    refine O_skip rfl rfl ?_
    exact WL_nil ⟨(Ext.refl _), rfl⟩
   apply AnyR_val [16, 21, 22] rfl (by kernel_rfl)
   · --
    intro y28 hy28
    have zy28 := hy28.size
    refine AllV_v ?_
    refine AllV_v ?_
    refine AllV_v ?_
    refine AllV_nil ?_
    refine O_skip rfl rfl ?_
    exact WL_nil ⟨(Ext.refl _), rfl⟩
   apply AnyR_val [16, 23] rfl (by kernel_rfl)
   · --
    intro y29 hy29
    have zy29 := hy29.size
    refine AllV_v ?_
    refine AllV_v ?_
    refine AllV_nil ?_
    refine O_skip rfl rfl ?_
    exact WL_nil ⟨(Ext.refl _), rfl⟩
   refine AnyR_nil fun y30 hy30 => ?_
   have zy30 := hy30.size
   refine AllV_v ?_
   refine AllV_v ?_
   refine AllV_v ?_
   refine AllV_v ?_
   refine AllV_v ?_
   refine AllV_v ?_
   refine AllV_v ?_
   refine AllV_v ?_
   refine AllV_v ?_
   refine AllV_v ?_
   refine AllV_v ?_
   refine AllV_v ?_
   refine AllV_v ?_
   refine AllV_v ?_
   refine AllV_nil ?_
   refine O_skip rfl rfl ?_
   refine O_pickT rfl rfl rfl rfl ?_
   refine WL_end [(0, _), (1, _), (7, _), (8, _), (26, _)] ⟨rfl, rfl, rfl, rfl, rfl, trivial⟩ ?_
   refine WP_condT rfl ?_
   refine WP_seq ?_
   refine WP_region ?_
   refine O_assign rfl rfl rfl ?_
   refine WL_end [(4, _)] ⟨rfl, trivial⟩ ?_
   refine WP_ret ?_
   refine inBlk_ret ?_
   refine inBlk_ret ?_
   refine ret1 Try.results56 rfl ?_
   exact ⟨_, rfl, (hE.trans hy30), by rw [decide_eq_false]; rintro rfl; exact hlen rfl⟩
  · --
   skip
   refine WP_sub [(0, _), (1, _), (5, _), (7, _), (8, _)] ⟨rfl, rfl, rfl, rfl, rfl, trivial⟩ ?_
   refine WP_anyR 14 [0, 1, 5, 7, 8] mixed rfl (by kernel_rfl) ?_
   apply AnyR_val [0] rfl (by kernel_rfl)
   · --
    intro y31 hy31
    have zy31 := hy31.size
    refine AllV_nil ?_
    refine O_move rfl rfl rfl ?_
    exact WL_nil ⟨(Ext.refl _), rfl⟩
   apply AnyR_val [11] rfl (by kernel_rfl)
   · --
    intro y32 hy32
    have zy32 := hy32.size
    refine AllV_v ?_
    refine AllV_nil ?_
    refine M_len M52 rfl rfl rfl (hs.ext (hE.trans hy32)) ?_
    exact WL_nil ⟨(Ext.refl _), rfl⟩
   apply AnyR_val [1] rfl (by kernel_rfl)
   · --
    intro y33 hy33
    have zy33 := hy33.size
    refine AllV_nil ?_
    refine O_move rfl rfl rfl ?_
    exact WL_nil ⟨(Ext.refl _), rfl⟩
   apply AnyR_val [13] rfl (by kernel_rfl)
   · --
    intro y34 hy34
    have zy34 := hy34.size
    refine AllV_v ?_
    refine AllV_nil ?_
    refine M_len M52 rfl rfl rfl (hv.ext (hE.trans hy34)) ?_
    exact WL_nil ⟨(Ext.refl _), rfl⟩
   apply AnyR_val [12, 14] rfl (by kernel_rfl)
   · --
    intro y35 hy35
    have zy35 := hy35.size
    refine AllV_v ?_
    refine AllV_v ?_
    refine AllV_nil ?_
    refine O_neq (t := false) rfl rfl rfl rfl (decide_eq_false (by omega)) ?_
    exact WL_nil ⟨(Ext.refl _), rfl⟩
   apply AnyR_val [15] rfl (by kernel_rfl)
   · --
    intro y36 hy36
    have zy36 := hy36.size
    refine AllV_v ?_
    refine AllV_nil ?_
    refine O_move rfl rfl rfl ?_
    exact WL_nil ⟨(Ext.refl _), rfl⟩
   apply AnyR_val [16, 0] rfl (by kernel_rfl)
   · --
    intro y37 hy37
    have zy37 := hy37.size
    refine AllV_v ?_
    refine AllV_nil ?_
    refine O_move rfl rfl rfl ?_
    exact WL_nil ⟨(Ext.refl _), rfl⟩
   apply AnyR_val [16, 5] rfl (by kernel_rfl)
   · --
    intro y38 hy38
    have zy38 := hy38.size
    refine AllV_v ?_
    refine AllV_nil ?_
    refine O_move rfl rfl rfl ?_
    exact WL_nil ⟨(Ext.refl _), rfl⟩
   apply AnyR_val [16, 17, 18] rfl (by kernel_rfl)
   · --
    intro y39 hy39
    have zy39 := hy39.size
    refine AllV_v ?_
    refine AllV_v ?_
    refine AllV_v ?_
    refine AllV_nil ?_
    refine M_index M52 rfl rfl rfl rfl (hs.ext (hE.trans hy39)) _ rfl h1 ?_
    exact WL_nil ⟨(Ext.refl _), rfl⟩
   apply AnyR_val [16, 19] rfl (by kernel_rfl)
   · --
    intro y40 hy40
    have zy40 := hy40.size
    refine AllV_v ?_
    refine AllV_v ?_
    refine AllV_nil ?_
    refine M_load Try.underlying9 rfl rfl rfl rfl (hs.ext (hE.trans hy40)) h1 ?_
    exact WL_nil ⟨(Ext.refl _), rfl⟩
   apply AnyR_val [16, 1] rfl (by kernel_rfl)
   · --
    intro y41 hy41
    have zy41 := hy41.size
    refine AllV_v ?_
    refine AllV_nil ?_
    refine O_move rfl rfl rfl ?_
    exact WL_nil ⟨(Ext.refl _), rfl⟩
   apply AnyR_val [16, 5] rfl (by kernel_rfl)
   · --
    intro y42 hy42
    have zy42 := hy42.size
    refine AllV_v ?_
    refine AllV_nil ?_
    refine O_move rfl rfl rfl ?_
    exact WL_nil ⟨(Ext.refl _), rfl⟩
   apply AnyR_val [16, 21, 22] rfl (by kernel_rfl)
   · --
    intro y43 hy43
    have zy43 := hy43.size
    refine AllV_v ?_
    refine AllV_v ?_
    refine AllV_v ?_
    refine AllV_nil ?_
    refine M_index M52 rfl rfl rfl rfl (hv.ext (hE.trans hy43)) _ rfl h2 ?_
    exact WL_nil ⟨(Ext.refl _), rfl⟩
   apply AnyR_val [16, 23] rfl (by kernel_rfl)
   · --
    intro y44 hy44
    have zy44 := hy44.size
    refine AllV_v ?_
    refine AllV_v ?_
    refine AllV_nil ?_
    refine M_load Try.underlying9 rfl rfl rfl rfl (hv.ext (hE.trans hy44)) h2 ?_
    exact WL_nil ⟨(Ext.refl _), rfl⟩
   refine AnyR_nil fun y45 hy45 => ?_
   have zy45 := hy45.size
   refine AllV_v ?_
   refine AllV_v ?_
   refine AllV_v ?_
   refine AllV_v ?_
   refine AllV_v ?_
   refine AllV_v ?_
   refine AllV_v ?_
   refine AllV_v ?_
   refine AllV_v ?_
   refine AllV_v ?_
   refine AllV_v ?_
   refine AllV_v ?_
   refine AllV_v ?_
   refine AllV_v ?_
   refine AllV_nil ?_
   refine O_sneqB (tb := false) rfl rfl rfl rfl (by rw [decide_eq_true hq]; rfl) ?_
   refine O_pickF rfl rfl rfl rfl ?_
   refine WL_end [(0, _), (1, _), (7, _), (8, _), (26, _)] ⟨rfl, rfl, rfl, rfl, rfl, trivial⟩ ?_
   refine WP_condF rfl ?_
   refine WP_skip ?_
   refine WP_region ?_
   refine O_add rfl rfl rfl rfl (wrap_i64_id (by omega) (by omega)) ?_
   refine O_move rfl rfl rfl ?_
   refine WL_end [(0, _), (1, _), (7, _), (8, _)] ⟨rfl, rfl, rfl, rfl, trivial⟩ ?_
   exact ⟨i + 1, ⟨rfl, rfl, rfl, rfl, trivial⟩, ⟨(hE.trans hy45), by omega, sameC_step htk (by omega) (by omega) hq⟩, by omega⟩
 · --
  refine WP_exit ?_
  refine inBlk_hit ?_
  refine WP_seq ?_
  refine WP_region ?_
  refine O_move rfl rfl rfl ?_
  refine M_len M52 rfl rfl rfl (hs.ext hE) ?_
  refine O_move rfl rfl rfl ?_
  refine M_len M52 rfl rfl rfl (hv.ext hE) ?_
  refine O_eql rfl rfl rfl rfl rfl ?_
  refine O_assign rfl rfl rfl ?_
  refine WL_end [(4, _)] ⟨rfl, trivial⟩ ?_
  refine WP_ret ?_
  refine ret1 Try.results56 rfl ?_
  exact ⟨_, rfl, hE, by rw [sameC_end htk c9 hi]⟩

set_option maxHeartbeats 1000000 in
theorem find_c {w : World} {v : Value} {l : List Ch} {s : ByteArray} (hs : SlC w v l) (hl : l.length ≤ 1000000000) :
    Calls Try.prog 81 #[v, .string s] w (Ret w fun r _ => r = .tuple #[.agg (ccells ((cget l s).getD ch0)).toArray, .bool (cget l s).isSome]) := by
 refine enter (args := [v, _]) Try.func81 rfl Try.ntmps81 rfl ?_
 refine WP_seq ?_
 refine WP_region ?_
 refine O_alloc S74 rfl rfl (fun g1 w1 b1 e1 gl1 gh1 => ?_)
 have z1 := e1.size
 refine O_assign rfl rfl rfl ?_
 refine WL_end [(0, _), (1, _), (4, _)] ⟨rfl, rfl, rfl, trivial⟩ ?_
 refine WP_seq ?_
 refine WP_seq ?_
 refine WP_region ?_
 refine O_move rfl rfl rfl ?_
 refine C_len Echange rfl rfl rfl (hs.ext e1) ?_
 refine O_move rfl rfl rfl ?_
 refine WL_end [(1, _), (4, _), (8, _), (9, _), (10, _)] ⟨rfl, rfl, rfl, rfl, rfl, trivial⟩ ?_
 refine WP_block ?_
 refine WP_loop (S := Nat) (fun i => [(1, .string s), (4, .pointer (some ⟨g1, 0, none⟩)), (8, v), (9, .int .i64 (l.length : Nat)), (10, .int .i64 (i : Nat))]) (fun i w' => (Ext w w' ∧ Bk w' g1 74 (ccells ch0)) ∧ cget l s = cget (l.drop i) s ∧ i ≤ l.length) (fun i => l.length - i) 0 ⟨rfl, rfl, rfl, rfl, rfl, trivial⟩ ⟨⟨e1, b1⟩, rfl, Nat.zero_le _⟩ ?_
 rintro i w9 ⟨⟨hE, hbg⟩, hcg, hi⟩
 have zE := hE.size
 have lbg := hbg.lt
 refine WP_seq ?_
 refine WP_region ?_
 refine O_lss rfl rfl rfl rfl rfl ?_
 refine WL_end [(1, _), (4, _), (8, _), (9, _), (10, _), (11, _)] ⟨rfl, rfl, rfl, rfl, rfl, rfl, trivial⟩ ?_
 refine WP_seq ?_
 refine WP_condD rfl (fun c11 => ?_) (fun c11 => ?_)
 · --
  refine WP_skip ?_
  refine WP_seq ?_
  refine WP_block ?_
  refine WP_seq ?_
  have hilt : i < l.length := by omega
  · --
   skip
   refine WP_region ?_
   refine C_index Echange rfl rfl rfl rfl (hs.ext hE) i rfl hilt (fun _ => ?_)
   refine K_load S74 rfl rfl rfl (SlC.row (j := i) (hs.ext hE) hilt) rfl ?_
   refine O_alloc S74 rfl rfl (fun g2 w2 b2 e2 gl2 gh2 => ?_)
   have z2 := e2.size
   refine O_storeA (cs' := [_, _, _, _]) S74 rfl rfl rfl b2 rfl rfl (one_cons rfl (one_cons rfl (one_cons rfl (one_cons rfl one_nil)))) rfl (fun w3 b3 q3 => ?_)
   have z3 := Nat.le_of_eq q3.size.symm
   have e3 : Ext w w3 := q3.ext (hE.trans e2) (by omega)
   have m4 := q3.ext e2 (by omega)
   refine WL_end [(1, _), (4, _), (7, _), (8, _), (9, _), (10, _)] ⟨rfl, rfl, rfl, rfl, rfl, rfl, trivial⟩ ?_
   refine WP_seq ?_
   refine WP_region ?_
   refine O_field F74_1 rfl rfl rfl ?_
   refine O_loadC Try.underlying9 rfl rfl rfl rfl b3 rfl ?_
   refine O_move rfl rfl rfl ?_
   refine O_seql rfl rfl rfl rfl ?_
   refine WL_end [(1, _), (4, _), (7, _), (8, _), (9, _), (10, _), (17, _)] ⟨rfl, rfl, rfl, rfl, rfl, rfl, rfl, trivial⟩ ?_
   refine WP_condD rfl (fun c17 => ?_) (fun c17 => ?_)
   · --
    refine WP_seq ?_
    refine WP_region ?_
    refine O_loadA (vs := [_, _, _, _]) S74 rfl rfl rfl b3 rfl rfl ?_
    refine O_storeA (cs' := [_, _, _, _]) S74 rfl rfl rfl (hbg.ext m4) rfl rfl (one_cons rfl (one_cons rfl (one_cons rfl (one_cons rfl one_nil)))) rfl (fun w5 b5 q5 => ?_)
    have z5 := Nat.le_of_eq q5.size.symm
    have e5 : Ext w w5 := q5.ext e3 (by omega)
    refine O_assign rfl rfl rfl ?_
    refine WL_end [(4, _), (5, _)] ⟨rfl, rfl, trivial⟩ ?_
    refine WP_ret ?_
    refine inBlk_ret ?_
    refine inBlk_ret ?_
    refine retL Try.results81 (.cell rfl S74 b5 rfl (.tmp rfl .nil)) ?_
    first
      | exact ⟨_, rfl, e5, by rw [cget_dropY hilt (by assumption) hcg]; rfl⟩
      | exact ⟨_, rfl, e5, by rw [cget_dropE (by omega) hcg]; rfl⟩
   · --
    refine WP_skip ?_
    refine WP_region ?_
    refine O_add rfl rfl rfl rfl (wrap_i64_id (by omega) (by omega)) ?_
    refine O_move rfl rfl rfl ?_
    refine WL_end [(1, _), (4, _), (8, _), (9, _), (10, _)] ⟨rfl, rfl, rfl, rfl, rfl, trivial⟩ ?_
    exact ⟨i + 1, ⟨rfl, rfl, rfl, rfl, rfl, trivial⟩, ⟨⟨e3, (hbg.ext m4)⟩, cget_dropN hilt (by assumption) hcg, by omega⟩, by omega⟩
 · --
  refine WP_exit ?_
  refine inBlk_hit ?_
  refine WP_seq ?_
  refine WP_region ?_
  refine O_build (cs := [_, _, _, _]) B74 rfl rfl rfl cells_nil rfl ?_
  refine O_storeA (cs' := [_, _, _, _]) S74 rfl rfl rfl hbg rfl rfl (one_cons rfl (one_cons rfl (one_cons rfl (one_cons rfl one_nil)))) rfl (fun w6 b6 q6 => ?_)
  have z6 := Nat.le_of_eq q6.size.symm
  have e6 : Ext w w6 := q6.ext hE (by omega)
  refine O_assign rfl rfl rfl ?_
  refine WL_end [(4, _), (5, _)] ⟨rfl, rfl, trivial⟩ ?_
  refine WP_ret ?_
  refine retL Try.results81 (.cell rfl S74 b6 rfl (.tmp rfl .nil)) ?_
  first
    | exact ⟨_, rfl, e6, by rw [cget_dropY hilt (by assumption) hcg]; rfl⟩
    | exact ⟨_, rfl, e6, by rw [cget_dropE (by omega) hcg]; rfl⟩

set_option maxHeartbeats 1000000 in
theorem rfind_c {w : World} {v : Value} {l : List Ch} {s : ByteArray} (hs : SlC w v l) (hl : l.length ≤ 1000000000) :
    Calls Try.prog 84 #[v, .string s] w (Ret w fun r _ => r = .tuple #[.agg (ccells ((cget l s).getD ch0)).toArray, .bool (cget l s).isSome]) := by
 refine enter (args := [v, _]) Try.func84 rfl Try.ntmps84 rfl ?_
 refine WP_seq ?_
 refine WP_region ?_
 refine O_alloc S74 rfl rfl (fun g1 w1 b1 e1 gl1 gh1 => ?_)
 have z1 := e1.size
 refine O_assign rfl rfl rfl ?_
 refine WL_end [(0, _), (1, _), (4, _)] ⟨rfl, rfl, rfl, trivial⟩ ?_
 refine WP_seq ?_
 refine WP_seq ?_
 refine WP_region ?_
 refine O_move rfl rfl rfl ?_
 refine C_len Echange rfl rfl rfl (hs.ext e1) ?_
 refine O_move rfl rfl rfl ?_
 refine WL_end [(1, _), (4, _), (8, _), (9, _), (10, _)] ⟨rfl, rfl, rfl, rfl, rfl, trivial⟩ ?_
 refine WP_block ?_
 refine WP_loop (S := Nat) (fun i => [(1, .string s), (4, .pointer (some ⟨g1, 0, none⟩)), (8, v), (9, .int .i64 (l.length : Nat)), (10, .int .i64 (i : Nat))]) (fun i w' => (Ext w w' ∧ Bk w' g1 74 (ccells ch0)) ∧ cget l s = cget (l.drop i) s ∧ i ≤ l.length) (fun i => l.length - i) 0 ⟨rfl, rfl, rfl, rfl, rfl, trivial⟩ ⟨⟨e1, b1⟩, rfl, Nat.zero_le _⟩ ?_
 rintro i w9 ⟨⟨hE, hbg⟩, hcg, hi⟩
 have zE := hE.size
 have lbg := hbg.lt
 refine WP_seq ?_
 refine WP_region ?_
 refine O_lss rfl rfl rfl rfl rfl ?_
 refine WL_end [(1, _), (4, _), (8, _), (9, _), (10, _), (11, _)] ⟨rfl, rfl, rfl, rfl, rfl, rfl, trivial⟩ ?_
 refine WP_seq ?_
 refine WP_condD rfl (fun c11 => ?_) (fun c11 => ?_)
 · --
  refine WP_skip ?_
  refine WP_seq ?_
  refine WP_block ?_
  refine WP_seq ?_
  have hilt : i < l.length := by omega
  · --
   skip
   refine WP_region ?_
   refine C_index Echange rfl rfl rfl rfl (hs.ext hE) i rfl hilt (fun _ => ?_)
   refine K_load S74 rfl rfl rfl (SlC.row (j := i) (hs.ext hE) hilt) rfl ?_
   refine O_alloc S74 rfl rfl (fun g2 w2 b2 e2 gl2 gh2 => ?_)
   have z2 := e2.size
   refine O_storeA (cs' := [_, _, _, _]) S74 rfl rfl rfl b2 rfl rfl (one_cons rfl (one_cons rfl (one_cons rfl (one_cons rfl one_nil)))) rfl (fun w3 b3 q3 => ?_)
   have z3 := Nat.le_of_eq q3.size.symm
   have e3 : Ext w w3 := q3.ext (hE.trans e2) (by omega)
   have m4 := q3.ext e2 (by omega)
   refine WL_end [(1, _), (4, _), (7, _), (8, _), (9, _), (10, _)] ⟨rfl, rfl, rfl, rfl, rfl, rfl, trivial⟩ ?_
   refine WP_seq ?_
   refine WP_region ?_
   refine O_field F74_1 rfl rfl rfl ?_
   refine O_loadC Try.underlying9 rfl rfl rfl rfl b3 rfl ?_
   refine O_move rfl rfl rfl ?_
   refine O_seql rfl rfl rfl rfl ?_
   refine WL_end [(1, _), (4, _), (7, _), (8, _), (9, _), (10, _), (17, _)] ⟨rfl, rfl, rfl, rfl, rfl, rfl, rfl, trivial⟩ ?_
   refine WP_condD rfl (fun c17 => ?_) (fun c17 => ?_)
   · --
    refine WP_seq ?_
    refine WP_region ?_
    refine O_loadA (vs := [_, _, _, _]) S74 rfl rfl rfl b3 rfl rfl ?_
    refine O_storeA (cs' := [_, _, _, _]) S74 rfl rfl rfl (hbg.ext m4) rfl rfl (one_cons rfl (one_cons rfl (one_cons rfl (one_cons rfl one_nil)))) rfl (fun w5 b5 q5 => ?_)
    have z5 := Nat.le_of_eq q5.size.symm
    have e5 : Ext w w5 := q5.ext e3 (by omega)
    refine O_assign rfl rfl rfl ?_
    refine WL_end [(4, _), (5, _)] ⟨rfl, rfl, trivial⟩ ?_
    refine WP_ret ?_
    refine inBlk_ret ?_
    refine inBlk_ret ?_
    refine retL Try.results84 (.cell rfl S74 b5 rfl (.tmp rfl .nil)) ?_
    first
      | exact ⟨_, rfl, e5, by rw [cget_dropY hilt (by assumption) hcg]; rfl⟩
      | exact ⟨_, rfl, e5, by rw [cget_dropE (by omega) hcg]; rfl⟩
   · --
    refine WP_skip ?_
    refine WP_region ?_
    refine O_add rfl rfl rfl rfl (wrap_i64_id (by omega) (by omega)) ?_
    refine O_move rfl rfl rfl ?_
    refine WL_end [(1, _), (4, _), (8, _), (9, _), (10, _)] ⟨rfl, rfl, rfl, rfl, rfl, trivial⟩ ?_
    exact ⟨i + 1, ⟨rfl, rfl, rfl, rfl, rfl, trivial⟩, ⟨⟨e3, (hbg.ext m4)⟩, cget_dropN hilt (by assumption) hcg, by omega⟩, by omega⟩
 · --
  refine WP_exit ?_
  refine inBlk_hit ?_
  refine WP_seq ?_
  refine WP_region ?_
  refine O_build (cs := [_, _, _, _]) B74 rfl rfl rfl cells_nil rfl ?_
  refine O_storeA (cs' := [_, _, _, _]) S74 rfl rfl rfl hbg rfl rfl (one_cons rfl (one_cons rfl (one_cons rfl (one_cons rfl one_nil)))) rfl (fun w6 b6 q6 => ?_)
  have z6 := Nat.le_of_eq q6.size.symm
  have e6 : Ext w w6 := q6.ext hE (by omega)
  refine O_assign rfl rfl rfl ?_
  refine WL_end [(4, _), (5, _)] ⟨rfl, rfl, trivial⟩ ?_
  refine WP_ret ?_
  refine retL Try.results84 (.cell rfl S74 b6 rfl (.tmp rfl .nil)) ?_
  first
    | exact ⟨_, rfl, e6, by rw [cget_dropY hilt (by assumption) hcg]; rfl⟩
    | exact ⟨_, rfl, e6, by rw [cget_dropE (by omega) hcg]; rfl⟩

set_option maxHeartbeats 1000000 in
theorem invert_c {w : World} {v : Value} {l : List Ch} (hs : SlC w v l) (hl : l.length ≤ 1000000) :
    Calls Try.prog 59 #[v] w (Ret w fun r w' => OwC w.heap.size w' r (invL l)) := by
 refine enter (args := [v]) Try.func59 rfl Try.ntmps59 rfl ?_
 refine WP_seq ?_
 refine WP_region ?_
 refine O_assign rfl rfl rfl ?_
 refine WL_end [(0, _)] ⟨rfl, trivial⟩ ?_
 refine WP_seq ?_
 refine WP_region ?_
 refine O_assign rfl rfl rfl ?_
 refine WL_end [(0, _), (3, _)] ⟨rfl, rfl, trivial⟩ ?_
 refine WP_seq ?_
 refine WP_seq ?_
 refine WP_region ?_
 refine O_move rfl rfl rfl ?_
 refine C_len Echange rfl rfl rfl hs ?_
 refine O_move rfl rfl rfl ?_
 refine WL_end [(3, _), (8, _), (9, _), (10, _)] ⟨rfl, rfl, rfl, rfl, trivial⟩ ?_
 refine WP_block ?_
 refine WP_loop (S := Nat × Value) (fun (i, ov) => [(3, ov), (8, v), (9, .int .i64 (l.length : Nat)), (10, .int .i64 (i : Nat))]) (fun (i, ov) w' => Ext w w' ∧ OwC w.heap.size w' ov ((l.take i).map inv1) ∧ i ≤ l.length) (fun (i, ov) => l.length - i) (0, .slice none 0 0) ⟨rfl, rfl, rfl, rfl, trivial⟩ ⟨(Ext.refl _), OwC.nil _ _, Nat.zero_le _⟩ ?_
 rintro ⟨i, ov⟩ w9 ⟨hE, hov, hi⟩
 show WP _ _ _ _ _ [(3, ov), (8, v), (9, .int .i64 (l.length : Nat)), (10, .int .i64 (i : Nat))] _
 have zE := hE.size
 refine WP_seq ?_
 refine WP_region ?_
 refine O_lss rfl rfl rfl rfl rfl ?_
 refine WL_end [(3, _), (8, _), (9, _), (10, _), (11, _)] ⟨rfl, rfl, rfl, rfl, rfl, trivial⟩ ?_
 refine WP_seq ?_
 refine WP_condD rfl (fun c11 => ?_) (fun c11 => ?_)
 · --
  refine WP_skip ?_
  refine WP_seq ?_
  refine WP_block ?_
  refine WP_seq ?_
  have hilt : i < l.length := by omega
  · --
   skip
   refine WP_region ?_
   refine C_index Echange rfl rfl rfl rfl (hs.ext hE) i rfl hilt (fun _ => ?_)
   refine K_load S74 rfl rfl rfl (SlC.row (j := i) (hs.ext hE) hilt) rfl ?_
   refine O_alloc S74 rfl rfl (fun g1 w1 b1 e1 gl1 gh1 => ?_)
   have z1 := e1.size
   refine O_storeA (cs' := [_, _, _, _]) S74 rfl rfl rfl b1 rfl rfl (one_cons rfl (one_cons rfl (one_cons rfl (one_cons rfl one_nil)))) rfl (fun w2 b2 q2 => ?_)
   have z2 := Nat.le_of_eq q2.size.symm
   have e2 : Ext w w2 := q2.ext (hE.trans e1) (by omega)
   have m3 := q2.ext e1 (by omega)
   refine WL_end [(3, _), (5, _), (8, _), (9, _), (10, _)] ⟨rfl, rfl, rfl, rfl, rfl, trivial⟩ ?_
   refine WP_seq ?_
   refine WP_region ?_
   refine O_field F74_1 rfl rfl rfl ?_
   refine O_loadC Try.underlying9 rfl rfl rfl rfl b2 rfl ?_
   refine O_field F74_3 rfl rfl rfl ?_
   refine O_loadC Try.underlying3 rfl rfl rfl rfl b2 rfl ?_
   refine O_field F74_2 rfl rfl rfl ?_
   refine O_loadC Try.underlying3 rfl rfl rfl rfl b2 rfl ?_
   refine O_call enters74 rfl rfl rfl (change_c) (fun v4 w4 e4 h4 => ?_)
   have z4 := e4.size
   try simp only [val_dig] at h4
   obtain rfl := h4
   refine O_move rfl rfl rfl ?_
   refine O_extract rfl rfl rfl rfl ?_
   refine O_extract rfl rfl rfl rfl ?_
   refine O_alloc S74 rfl rfl (fun g5 w5 b5 e5 gl5 gh5 => ?_)
   have z5 := e5.size
   refine O_storeA (cs' := [_, _, _, _]) S74 rfl rfl rfl b5 rfl rfl (one_cons rfl (one_cons rfl (one_cons rfl (one_cons rfl one_nil)))) rfl (fun w6 b6 q6 => ?_)
   have z6 := Nat.le_of_eq q6.size.symm
   have e6 : Ext w w6 := q6.ext ((e2.trans e4).trans e5) (by omega)
   have m7 := q6.ext e5 (by omega)
   refine O_assign rfl rfl rfl ?_
   refine WL_end [(3, _), (6, _), (8, _), (9, _), (10, _)] ⟨rfl, rfl, rfl, rfl, rfl, trivial⟩ ?_
   refine WP_region ?_
   refine O_move rfl rfl rfl ?_
   refine O_loadA (vs := [_, _, _, _]) S74 rfl rfl rfl b6 rfl rfl ?_
   refine C_lit1 (b := inv1 l[i]) Echange rfl rfl rfl (fun v8 w8 o8 e8 => ?_)
   have z8 := e8.size
   refine C_append Echange rfl rfl rfl rfl ((((hov.ext m3).ext e4).ext m7).ext e8) o8.sl (by simp only [List.length_map, List.length_take, List.length_singleton]; omega) rfl (by omega) (fun v9 w9 o9 r9 k9 => ?_)
   have e9 : Ext w w9 := ((((hov.ext m3).ext e4).ext m7).ext e8).ext_grown r9 (e6.trans e8) (by omega)
   have z9 := r9.size
   have x9 := OwC.grownT ((((hov.ext m3).ext e4).ext m7).ext e8) r9
   refine O_assign rfl rfl rfl ?_
   refine WL_end [(3, _), (8, _), (9, _), (10, _)] ⟨rfl, rfl, rfl, rfl, trivial⟩ ?_
   refine WP_region ?_
   refine O_add rfl rfl rfl rfl (wrap_i64_id (by omega) (by omega)) ?_
   refine O_move rfl rfl rfl ?_
   refine WL_end [(3, _), (8, _), (9, _), (10, _)] ⟨rfl, rfl, rfl, rfl, trivial⟩ ?_
   exact ⟨(i + 1, _), ⟨rfl, rfl, rfl, rfl, trivial⟩, ⟨e9, by rw [inv_snoc hilt]; exact o9, by omega⟩, by dsimp only; omega⟩
 · --
  refine WP_exit ?_
  refine inBlk_hit ?_
  refine WP_seq ?_
  refine WP_region ?_
  refine O_move rfl rfl rfl ?_
  refine O_assign rfl rfl rfl ?_
  refine WL_end [(2, _)] ⟨rfl, trivial⟩ ?_
  refine WP_ret ?_
  refine ret1 Try.results59 rfl ?_
  have hie : i = l.length := by omega
  subst hie
  rw [List.take_length] at hov
  exact ⟨_, rfl, hE, hov⟩

end Go.Proofs.Ytoccimigjjndpaa
