/-
  Walks.
-/
import Derived.Test.YtoccimigjjndpaaChgs
import Derived.Test.YtoccimigjjndpaaT3
import Derived.Test.YtoccimigjjndpaaU0
set_option linter.unusedVariables false
set_option linter.unusedSimpArgs false
set_option maxRecDepth 100000
namespace Go.Proofs.Ytoccimigjjndpaa
open Go Go.RowKit
theorem sameC_step {α : Type} {l1 l2 : List α} {i : Nat} (h : l1.take i = l2.take i) (h1 : i < l1.length) (h2 : i < l2.length) (he : l1[i] = l2[i]) : l1.take (i + 1) = l2.take (i + 1) := by
  rw [List.take_add_one, List.take_add_one, h, List.getElem?_eq_getElem h1, List.getElem?_eq_getElem h2, he]
theorem sameC_end {α : Type} [DecidableEq α] {l1 l2 : List α} {i : Nat} (h : l1.take i = l2.take i) (h1 : ¬ (i : Int) < (l1.length : Nat)) (hi : i ≤ l1.length) : decide (((l1.length : Nat) : Int) = (l2.length : Nat)) = decide (l1 = l2) := by
  have e : i = l1.length := by omega
  subst e
  rw [decide_eq_decide]
  constructor
  · intro hl
    have hl' : l1.length = l2.length := by omega
    rw [List.take_length, hl', List.take_length] at h
    exact h
  · rintro rfl; rfl

theorem samech_c {w : World} {u v : Value} {a b : List Ch} (hs : SlC w u a) (hv : SlC w v b) (hl : a.length ≤ 1000000000) :
    Calls Try.prog 46 #[u, v] w (Ret w fun r _ => r = .bool (decide (a = b))) := by
 refine enter (args := [u, v]) Try.func46 rfl Try.ntmps46 rfl ?_
 refine WP_seq ?_
 refine WP_region ?_
 refine O_assign rfl rfl rfl ?_
 refine WL_end [(0, _), (1, _)] ⟨rfl, rfl, trivial⟩ ?_
 refine WP_seq ?_
 refine WP_seq ?_
 refine WP_region ?_
 refine O_move rfl rfl rfl ?_
 refine C_len Echange rfl rfl rfl hs ?_
 refine O_move rfl rfl rfl ?_
 refine WL_end [(0, _), (1, _), (7, _), (8, _)] ⟨rfl, rfl, rfl, rfl, trivial⟩ ?_
 refine WP_block ?_
 refine WP_loop (S := Nat) (fun i => [(0, u), (1, v), (7, .int .i64 (a.length : Nat)), (8, .int .i64 (i : Nat))]) (fun i w' => Ext w w' ∧ i ≤ a.length ∧ a.take i = b.take i) (fun i => a.length - i) 0 ⟨rfl, rfl, rfl, rfl, trivial⟩ ⟨Ext.refl _, Nat.zero_le _, by simp⟩ ?_
 rintro i w9 ⟨hE, hi, htk⟩
 have zE := hE.size
 refine WP_seq ?_
 refine WP_region ?_
 refine O_lss rfl rfl rfl rfl rfl ?_
 refine WL_end [(0, _), (1, _), (7, _), (8, _), (9, _)] ⟨rfl, rfl, rfl, rfl, rfl, trivial⟩ ?_
 refine WP_seq ?_
 refine WP_condD rfl (fun c9 => ?_) (fun c9 => ?_)
 · --
  refine WP_skip ?_
  refine WP_seq ?_
  refine WP_block ?_
  refine WP_seq ?_
  refine WP_region ?_
  refine O_move rfl rfl rfl ?_
  refine O_assign rfl rfl rfl ?_
  refine WL_end [(0, _), (1, _), (5, _), (7, _), (8, _)] ⟨rfl, rfl, rfl, rfl, rfl, trivial⟩ ?_
  refine WP_seq ?_
  rcases Classical.em (a.length = b.length ∧ ∃ h1 h2, a[i]'h1 = b[i]'h2) with ⟨hlen, h1, h2, hq⟩ | hno
  rotate_left
  rcases Classical.em (a.length = b.length) with hlen | hlen
  · --
   have h1 : i < a.length := by omega
   have h2 : i < b.length := by omega
   have hq : ¬ a[i]'h1 = b[i]'h2 := fun e => hno ⟨hlen, h1, h2, e⟩
   refine WP_sub [(0, _), (1, _), (5, _), (7, _), (8, _)] ⟨rfl, rfl, rfl, rfl, rfl, trivial⟩ ?_
   refine WP_anyR 14 [0, 1, 5, 7, 8] mixed rfl (by kernel_rfl) ?_
   apply AnyR_val [0] rfl (by kernel_rfl)
   · --
    intro y1 hy1
    have zy1 := hy1.size
    refine AllV_nil ?_
    refine O_move rfl rfl rfl ?_
    exact WL_nil ⟨(Ext.refl _), rfl⟩
   apply AnyR_val [11] rfl (by kernel_rfl)
   · --
    intro y2 hy2
    have zy2 := hy2.size
    refine AllV_v ?_
    refine AllV_nil ?_
    refine C_len Echange rfl rfl rfl (hs.ext (hE.trans hy2)) ?_
    exact WL_nil ⟨(Ext.refl _), rfl⟩
   apply AnyR_val [1] rfl (by kernel_rfl)
   · --
    intro y3 hy3
    have zy3 := hy3.size
    refine AllV_nil ?_
    refine O_move rfl rfl rfl ?_
    exact WL_nil ⟨(Ext.refl _), rfl⟩
   apply AnyR_val [13] rfl (by kernel_rfl)
   · --
    intro y4 hy4
    have zy4 := hy4.size
    refine AllV_v ?_
    refine AllV_nil ?_
    refine C_len Echange rfl rfl rfl (hv.ext (hE.trans hy4)) ?_
    exact WL_nil ⟨(Ext.refl _), rfl⟩
   apply AnyR_val [12, 14] rfl (by kernel_rfl)
   · --
    intro y5 hy5
    have zy5 := hy5.size
    refine AllV_v ?_
    refine AllV_v ?_
    refine AllV_nil ?_
    refine O_neq (t := false) rfl rfl rfl rfl (decide_eq_false (by omega)) ?_
    exact WL_nil ⟨(Ext.refl _), rfl⟩
   apply AnyR_val [15] rfl (by kernel_rfl)
   · --
    intro y6 hy6
    have zy6 := hy6.size
    refine AllV_v ?_
    refine AllV_nil ?_
    refine O_move rfl rfl rfl ?_
    exact WL_nil ⟨(Ext.refl _), rfl⟩
   apply AnyR_val [16, 0] rfl (by kernel_rfl)
   · --
    intro y7 hy7
    have zy7 := hy7.size
    refine AllV_v ?_
    refine AllV_nil ?_
    refine O_move rfl rfl rfl ?_
    exact WL_nil ⟨(Ext.refl _), rfl⟩
   apply AnyR_val [16, 5] rfl (by kernel_rfl)
   · --
    intro y8 hy8
    have zy8 := hy8.size
    refine AllV_v ?_
    refine AllV_nil ?_
    refine O_move rfl rfl rfl ?_
    exact WL_nil ⟨(Ext.refl _), rfl⟩
   apply AnyR_val [16, 17, 18] rfl (by kernel_rfl)
   · --
    intro y9 hy9
    have zy9 := hy9.size
    refine AllV_v ?_
    refine AllV_v ?_
    refine AllV_v ?_
    refine AllV_nil ?_
    refine C_index Echange rfl rfl rfl rfl (hs.ext (hE.trans hy9)) _ rfl h1 (fun _ => ?_)
    exact WL_nil ⟨(Ext.refl _), rfl⟩
   apply AnyR_val [16, 19] rfl (by kernel_rfl)
   · --
    intro y10 hy10
    have zy10 := hy10.size
    refine AllV_v ?_
    refine AllV_v ?_
    refine AllV_nil ?_
    refine K_load S74 rfl rfl rfl (SlC.row (j := _) (hs.ext (hE.trans hy10)) h1) rfl ?_
    exact WL_nil ⟨(Ext.refl _), rfl⟩
   apply AnyR_val [16, 1] rfl (by kernel_rfl)
   · --
    intro y11 hy11
    have zy11 := hy11.size
    refine AllV_v ?_
    refine AllV_nil ?_
    refine O_move rfl rfl rfl ?_
    exact WL_nil ⟨(Ext.refl _), rfl⟩
   apply AnyR_val [16, 5] rfl (by kernel_rfl)
   · --
    intro y12 hy12
    have zy12 := hy12.size
    refine AllV_v ?_
    refine AllV_nil ?_
    refine O_move rfl rfl rfl ?_
    exact WL_nil ⟨(Ext.refl _), rfl⟩
   apply AnyR_val [16, 21, 22] rfl (by kernel_rfl)
   · --
    intro y13 hy13
    have zy13 := hy13.size
    refine AllV_v ?_
    refine AllV_v ?_
    refine AllV_v ?_
    refine AllV_nil ?_
    refine C_index Echange rfl rfl rfl rfl (hv.ext (hE.trans hy13)) _ rfl h2 (fun _ => ?_)
    exact WL_nil ⟨(Ext.refl _), rfl⟩
   apply AnyR_val [16, 23] rfl (by kernel_rfl)
   · --
    intro y14 hy14
    have zy14 := hy14.size
    refine AllV_v ?_
    refine AllV_v ?_
    refine AllV_nil ?_
    refine K_load S74 rfl rfl rfl (SlC.row (j := _) (hv.ext (hE.trans hy14)) h2) rfl ?_
    exact WL_nil ⟨(Ext.refl _), rfl⟩
   refine AnyR_nil fun y15 hy15 => ?_
   have zy15 := hy15.size
   refine AllV_v ?_
   refine AllV_v ?_
   refine AllV_v ?_
   refine AllV_v ?_
   refine AllV_v ?_
   refine AllV_v ?_
   refine AllV_v ?_
   refine AllV_v ?_
   refine AllV_v ?_
   refine AllV_v ?_
   refine AllV_v ?_
   refine AllV_v ?_
   refine AllV_v ?_
   refine AllV_v ?_
   refine AllV_nil ?_
   refine C_neq (tb := true) Qchange rfl rfl rfl rfl (by rw [decide_eq_false hq]; rfl) ?_
   refine O_pickF rfl rfl rfl rfl ?_
   refine WL_end [(0, _), (1, _), (7, _), (8, _), (26, _)] ⟨rfl, rfl, rfl, rfl, rfl, trivial⟩ ?_
   refine WP_condT rfl ?_
   refine WP_seq ?_
   refine WP_region ?_
   refine O_assign rfl rfl rfl ?_
   refine WL_end [(4, _)] ⟨rfl, trivial⟩ ?_
   refine WP_ret ?_
   refine inBlk_ret ?_
   refine inBlk_ret ?_
   refine ret1 Try.results46 rfl ?_
   exact ⟨_, rfl, (hE.trans hy15), by rw [decide_eq_false]; rintro rfl; exact hq rfl⟩
  · --
   skip
   refine WP_sub [(0, _), (1, _), (5, _), (7, _), (8, _)] ⟨rfl, rfl, rfl, rfl, rfl, trivial⟩ ?_
   refine WP_anyR 14 [0, 1, 5, 7, 8] mixed rfl (by kernel_rfl) ?_
   apply AnyR_val [0] rfl (by kernel_rfl)
   · --
    intro y16 hy16
    have zy16 := hy16.size
    refine AllV_nil ?_
    refine O_move rfl rfl rfl ?_
    exact WL_nil ⟨(Ext.refl _), rfl⟩
   apply AnyR_val [11] rfl (by kernel_rfl)
   · --
    intro y17 hy17
    have zy17 := hy17.size
    refine AllV_v ?_
    refine AllV_nil ?_
    refine C_len Echange rfl rfl rfl (hs.ext (hE.trans hy17)) ?_
    exact WL_nil ⟨(Ext.refl _), rfl⟩
   apply AnyR_val [1] rfl (by kernel_rfl)
   · --
    intro y18 hy18
    have zy18 := hy18.size
    refine AllV_nil ?_
    refine O_move rfl rfl rfl ?_
    exact WL_nil ⟨(Ext.refl _), rfl⟩
   apply AnyR_val [13] rfl (by kernel_rfl)
   · --
    intro y19 hy19
    have zy19 := hy19.size
    refine AllV_v ?_
    refine AllV_nil ?_
    refine C_len Echange rfl rfl rfl (hv.ext (hE.trans hy19)) ?_
    exact WL_nil ⟨(Ext.refl _), rfl⟩
   apply AnyR_val [12, 14] rfl (by kernel_rfl)
   · --
    intro y20 hy20
    have zy20 := hy20.size
    refine AllV_v ?_
    refine AllV_v ?_
    refine AllV_nil ?_
    refine O_neq (t := true) rfl rfl rfl rfl (decide_eq_true (by omega)) ?_
    exact WL_nil ⟨(Ext.refl _), rfl⟩
   apply AnyR_val [15] rfl (by kernel_rfl)
   · --
    intro y21 hy21
    have zy21 := hy21.size
    refine AllV_v ?_
    refine AllV_nil ?_
    refine O_move rfl rfl rfl ?_
    exact WL_nil ⟨(Ext.refl _), rfl⟩
   apply AnyR_val [16, 0] rfl (by kernel_rfl)
   · --
    intro y22 hy22
    have zy22 := hy22.size
    refine AllV_v ?_
    refine AllV_nil ?_
    refine O_skip rfl rfl ?_
    exact WL_nil ⟨(Ext.refl _), rfl⟩
   apply AnyR_val [16, 5] rfl (by kernel_rfl)
   · --
    intro y23 hy23
    have zy23 := hy23.size
    refine AllV_v ?_
    refine AllV_nil ?_
    refine O_skip rfl rfl ?_
    exact WL_nil ⟨(Ext.refl _), rfl⟩
   apply AnyR_val [16, 17, 18] rfl (by kernel_rfl)
   · --
    intro y24 hy24
    have zy24 := hy24.size
    refine AllV_v ?_
    refine AllV_v ?_
    refine AllV_v ?_
    refine AllV_nil ?_
    refine O_skip rfl rfl ?_
    exact WL_nil ⟨(Ext.refl _), rfl⟩
   apply AnyR_val [16, 19] rfl (by kernel_rfl)
   · --
    intro y25 hy25
    have zy25 := hy25.size
    refine AllV_v ?_
    refine AllV_v ?_
    refine AllV_nil ?_
    refine O_skip rfl rfl ?_
    exact WL_nil ⟨(Ext.refl _), rfl⟩
   apply AnyR_val [16, 1] rfl (by kernel_rfl)
   · --
    intro y26 hy26
    have zy26 := hy26.size
    refine AllV_v ?_
    refine AllV_nil ?_
    refine O_skip rfl rfl ?_
    exact WL_nil ⟨(Ext.refl _), rfl⟩
   apply AnyR_val [16, 5] rfl (by kernel_rfl)
   · --
    intro y27 hy27
    have zy27 := hy27.size
    refine AllV_v ?_
    refine AllV_nil ?_
    refine O_skip rfl rfl ?_
    exact WL_nil ⟨(Ext.refl _), rfl⟩
   apply AnyR_val [16, 21, 22] rfl (by kernel_rfl)
   · --
    intro y28 hy28
    have zy28 := hy28.size
    refine AllV_v ?_
    refine AllV_v ?_
    refine AllV_v ?_
    refine AllV_nil ?_
    refine O_skip rfl rfl ?_
    exact WL_nil ⟨(Ext.refl _), rfl⟩
   apply AnyR_val [16, 23] rfl (by kernel_rfl)
   · --
    intro y29 hy29
    have zy29 := hy29.size
    refine AllV_v ?_
    refine AllV_v ?_
    refine AllV_nil ?_
    refine O_skip rfl rfl ?_
    exact WL_nil ⟨(Ext.refl _), rfl⟩
   refine AnyR_nil fun y30 hy30 => ?_
   have zy30 := hy30.size
   refine AllV_v ?_
   refine AllV_v ?_
   refine AllV_v ?_
   refine AllV_v ?_
   refine AllV_v ?_
   refine AllV_v ?_
   refine AllV_v ?_
   refine AllV_v ?_
   refine AllV_v ?_
   refine AllV_v ?_
   refine AllV_v ?_
   refine AllV_v ?_
   refine AllV_v ?_
   refine AllV_v ?_
   refine AllV_nil ?_
   refine O_skip rfl rfl ?_
   refine O_pickT rfl rfl rfl rfl ?_
   refine WL_end [(0, _), (1, _), (7, _), (8, _), (26, _)] ⟨rfl, rfl, rfl, rfl, rfl, trivial⟩ ?_
   refine WP_condT rfl ?_
   refine WP_seq ?_
   refine WP_region ?_
   refine O_assign rfl rfl rfl ?_
   refine WL_end [(4, _)] ⟨rfl, trivial⟩ ?_
   refine WP_ret ?_
   refine inBlk_ret ?_
   refine inBlk_ret ?_
   refine ret1 Try.results46 rfl ?_
   exact ⟨_, rfl, (hE.trans hy30), by rw [decide_eq_false]; rintro rfl; exact hlen rfl⟩
  · --
   skip
   refine WP_sub [(0, _), (1, _), (5, _), (7, _), (8, _)] ⟨rfl, rfl, rfl, rfl, rfl, trivial⟩ ?_
   refine WP_anyR 14 [0, 1, 5, 7, 8] mixed rfl (by kernel_rfl) ?_
   apply AnyR_val [0] rfl (by kernel_rfl)
   · --
    intro y31 hy31
    have zy31 := hy31.size
    refine AllV_nil ?_
    refine O_move rfl rfl rfl ?_
    exact WL_nil ⟨(Ext.refl _), rfl⟩
   apply AnyR_val [11] rfl (by kernel_rfl)
   · --
    intro y32 hy32
    have zy32 := hy32.size
    refine AllV_v ?_
    refine AllV_nil ?_
    refine C_len Echange rfl rfl rfl (hs.ext (hE.trans hy32)) ?_
    exact WL_nil ⟨(Ext.refl _), rfl⟩
   apply AnyR_val [1] rfl (by kernel_rfl)
   · --
    intro y33 hy33
    have zy33 := hy33.size
    refine AllV_nil ?_
    refine O_move rfl rfl rfl ?_
    exact WL_nil ⟨(Ext.refl _), rfl⟩
   apply AnyR_val [13] rfl (by kernel_rfl)
   · --
    intro y34 hy34
    have zy34 := hy34.size
    refine AllV_v ?_
    refine AllV_nil ?_
    refine C_len Echange rfl rfl rfl (hv.ext (hE.trans hy34)) ?_
    exact WL_nil ⟨(Ext.refl _), rfl⟩
   apply AnyR_val [12, 14] rfl (by kernel_rfl)
   · --
    intro y35 hy35
    have zy35 := hy35.size
    refine AllV_v ?_
    refine AllV_v ?_
    refine AllV_nil ?_
    refine O_neq (t := false) rfl rfl rfl rfl (decide_eq_false (by omega)) ?_
    exact WL_nil ⟨(Ext.refl _), rfl⟩
   apply AnyR_val [15] rfl (by kernel_rfl)
   · --
    intro y36 hy36
    have zy36 := hy36.size
    refine AllV_v ?_
    refine AllV_nil ?_
    refine O_move rfl rfl rfl ?_
    exact WL_nil ⟨(Ext.refl _), rfl⟩
   apply AnyR_val [16, 0] rfl (by kernel_rfl)
   · --
    intro y37 hy37
    have zy37 := hy37.size
    refine AllV_v ?_
    refine AllV_nil ?_
    refine O_move rfl rfl rfl ?_
    exact WL_nil ⟨(Ext.refl _), rfl⟩
   apply AnyR_val [16, 5] rfl (by kernel_rfl)
   · --
    intro y38 hy38
    have zy38 := hy38.size
    refine AllV_v ?_
    refine AllV_nil ?_
    refine O_move rfl rfl rfl ?_
    exact WL_nil ⟨(Ext.refl _), rfl⟩
   apply AnyR_val [16, 17, 18] rfl (by kernel_rfl)
   · --
    intro y39 hy39
    have zy39 := hy39.size
    refine AllV_v ?_
    refine AllV_v ?_
    refine AllV_v ?_
    refine AllV_nil ?_
    refine C_index Echange rfl rfl rfl rfl (hs.ext (hE.trans hy39)) _ rfl h1 (fun _ => ?_)
    exact WL_nil ⟨(Ext.refl _), rfl⟩
   apply AnyR_val [16, 19] rfl (by kernel_rfl)
   · --
    intro y40 hy40
    have zy40 := hy40.size
    refine AllV_v ?_
    refine AllV_v ?_
    refine AllV_nil ?_
    refine K_load S74 rfl rfl rfl (SlC.row (j := _) (hs.ext (hE.trans hy40)) h1) rfl ?_
    exact WL_nil ⟨(Ext.refl _), rfl⟩
   apply AnyR_val [16, 1] rfl (by kernel_rfl)
   · --
    intro y41 hy41
    have zy41 := hy41.size
    refine AllV_v ?_
    refine AllV_nil ?_
    refine O_move rfl rfl rfl ?_
    exact WL_nil ⟨(Ext.refl _), rfl⟩
   apply AnyR_val [16, 5] rfl (by kernel_rfl)
   · --
    intro y42 hy42
    have zy42 := hy42.size
    refine AllV_v ?_
    refine AllV_nil ?_
    refine O_move rfl rfl rfl ?_
    exact WL_nil ⟨(Ext.refl _), rfl⟩
   apply AnyR_val [16, 21, 22] rfl (by kernel_rfl)
   · --
    intro y43 hy43
    have zy43 := hy43.size
    refine AllV_v ?_
    refine AllV_v ?_
    refine AllV_v ?_
    refine AllV_nil ?_
    refine C_index Echange rfl rfl rfl rfl (hv.ext (hE.trans hy43)) _ rfl h2 (fun _ => ?_)
    exact WL_nil ⟨(Ext.refl _), rfl⟩
   apply AnyR_val [16, 23] rfl (by kernel_rfl)
   · --
    intro y44 hy44
    have zy44 := hy44.size
    refine AllV_v ?_
    refine AllV_v ?_
    refine AllV_nil ?_
    refine K_load S74 rfl rfl rfl (SlC.row (j := _) (hv.ext (hE.trans hy44)) h2) rfl ?_
    exact WL_nil ⟨(Ext.refl _), rfl⟩
   refine AnyR_nil fun y45 hy45 => ?_
   have zy45 := hy45.size
   refine AllV_v ?_
   refine AllV_v ?_
   refine AllV_v ?_
   refine AllV_v ?_
   refine AllV_v ?_
   refine AllV_v ?_
   refine AllV_v ?_
   refine AllV_v ?_
   refine AllV_v ?_
   refine AllV_v ?_
   refine AllV_v ?_
   refine AllV_v ?_
   refine AllV_v ?_
   refine AllV_v ?_
   refine AllV_nil ?_
   refine C_neq (tb := false) Qchange rfl rfl rfl rfl (by rw [decide_eq_true hq]; rfl) ?_
   refine O_pickF rfl rfl rfl rfl ?_
   refine WL_end [(0, _), (1, _), (7, _), (8, _), (26, _)] ⟨rfl, rfl, rfl, rfl, rfl, trivial⟩ ?_
   refine WP_condF rfl ?_
   refine WP_skip ?_
   refine WP_region ?_
   refine O_add rfl rfl rfl rfl (wrap_i64_id (by omega) (by omega)) ?_
   refine O_move rfl rfl rfl ?_
   refine WL_end [(0, _), (1, _), (7, _), (8, _)] ⟨rfl, rfl, rfl, rfl, trivial⟩ ?_
   exact ⟨i + 1, ⟨rfl, rfl, rfl, rfl, trivial⟩, ⟨(hE.trans hy45), by omega, sameC_step htk (by omega) (by omega) hq⟩, by omega⟩
 · --
  refine WP_exit ?_
  refine inBlk_hit ?_
  refine WP_seq ?_
  refine WP_region ?_
  refine O_move rfl rfl rfl ?_
  refine C_len Echange rfl rfl rfl (hs.ext hE) ?_
  refine O_move rfl rfl rfl ?_
  refine C_len Echange rfl rfl rfl (hv.ext hE) ?_
  refine O_eql rfl rfl rfl rfl rfl ?_
  refine O_assign rfl rfl rfl ?_
  refine WL_end [(4, _)] ⟨rfl, trivial⟩ ?_
  refine WP_ret ?_
  refine ret1 Try.results46 rfl ?_
  exact ⟨_, rfl, hE, by rw [sameC_end htk c9 hi]⟩

/-- What leads from one value of a name to another one. -/
def chOf (s : ByteArray) (o n : Int) : Ch := (if n = -1 then 2 else 1, s, o, n)

theorem change_c {w : World} {s : ByteArray} {o n : Int} :
    Calls Try.prog 74 #[.string s, .int .i64 o, .int .i64 n] w (Ret w fun r _ => r = .tuple #[.agg (ccells (chOf s o n)).toArray, .bool (decide (o ≠ n))]) := by
 refine enter (args := [_, _, _]) Try.func74 rfl Try.ntmps74 rfl ?_
 refine WP_seq ?_
 refine WP_region ?_
 refine O_alloc S74 rfl rfl (fun g1 w1 b1 e1 gl1 gh1 => ?_)
 have z1 := e1.size
 refine O_assign rfl rfl rfl ?_
 refine WL_end [(0, _), (1, _), (2, _), (6, _)] ⟨rfl, rfl, rfl, rfl, trivial⟩ ?_
 refine WP_seq ?_
 refine WP_region ?_
 refine O_move rfl rfl rfl ?_
 refine O_move rfl rfl rfl ?_
 refine O_move rfl rfl rfl ?_
 refine O_build (cs := [_, _, _, _]) B74 rfl rfl rfl (cells_cons rfl (cells_cons rfl (cells_cons rfl (cells_cons rfl cells_nil)))) rfl ?_
 refine O_alloc S74 rfl rfl (fun g2 w2 b2 e2 gl2 gh2 => ?_)
 have z2 := e2.size
 refine O_storeA (cs' := [_, _, _, _]) S74 rfl rfl rfl b2 rfl rfl (one_cons rfl (one_cons rfl (one_cons rfl (one_cons rfl one_nil)))) rfl (fun w3 b3 q3 => ?_)
 have z3 := Nat.le_of_eq q3.size.symm
 have e3 : Ext w w3 := q3.ext (e1.trans e2) (by omega)
 refine WL_end [(1, _), (2, _), (6, _), (8, _)] ⟨rfl, rfl, rfl, rfl, trivial⟩ ?_
 refine WP_seq ?_
 refine WP_seq ?_
 refine WP_region ?_
 refine O_move rfl rfl rfl ?_
 refine O_eql rfl rfl rfl rfl rfl ?_
 refine WL_end [(1, _), (2, _), (6, _), (8, _), (14, _)] ⟨rfl, rfl, rfl, rfl, rfl, trivial⟩ ?_
 refine WP_condD rfl (fun c14 => ?_) (fun c14 => ?_)
 · --
  refine WP_region ?_
  refine O_field F74_0 rfl rfl rfl ?_
  refine O_storeC (cs' := [_, _, _, _]) one3 rfl rfl rfl rfl b3 rfl rfl (fun w4 b4 q4 => ?_)
  have z4 := Nat.le_of_eq q4.size.symm
  have e4 : Ext w w4 := q4.ext e3 (by omega)
  refine WL_end [(1, _), (2, _), (6, _), (8, _)] ⟨rfl, rfl, rfl, rfl, trivial⟩ ?_
  refine WP_seq ?_
  refine WP_region ?_
  refine O_loadA (vs := [_, _, _, _]) S74 rfl rfl rfl b4 rfl rfl ?_
  refine O_move rfl rfl rfl ?_
  refine O_move rfl rfl rfl ?_
  refine O_neq rfl rfl rfl rfl rfl ?_
  refine O_storeA (cs' := [_, _, _, _]) S74 rfl rfl rfl (((b1.ext e2).chg q3 (by first | assumption | omega)).chg q4 (by first | assumption | omega)) rfl rfl (one_cons rfl (one_cons rfl (one_cons rfl (one_cons rfl one_nil)))) rfl (fun w5 b5 q5 => ?_)
  have z5 := Nat.le_of_eq q5.size.symm
  have e5 : Ext w w5 := q5.ext e4 (by omega)
  refine O_assign rfl rfl rfl ?_
  refine WL_end [(6, _), (7, _)] ⟨rfl, rfl, trivial⟩ ?_
  refine WP_ret ?_
  refine retL Try.results74 (.cell rfl S74 b5 rfl (.tmp rfl .nil)) ?_
  first
    | exact ⟨_, rfl, e5, by unfold chOf; rw [if_pos (by assumption)]; rfl⟩
    | exact ⟨_, rfl, e5, by unfold chOf; rw [if_neg (by assumption)]; rfl⟩
    | (have hn : n = -1 := by assumption
       subst hn
       exact ⟨_, rfl, e5, rfl⟩)
 · --
  refine WP_skip ?_
  refine WP_seq ?_
  refine WP_region ?_
  refine O_loadA (vs := [_, _, _, _]) S74 rfl rfl rfl b3 rfl rfl ?_
  refine O_move rfl rfl rfl ?_
  refine O_move rfl rfl rfl ?_
  refine O_neq rfl rfl rfl rfl rfl ?_
  refine O_storeA (cs' := [_, _, _, _]) S74 rfl rfl rfl ((b1.ext e2).chg q3 (by first | assumption | omega)) rfl rfl (one_cons rfl (one_cons rfl (one_cons rfl (one_cons rfl one_nil)))) rfl (fun w6 b6 q6 => ?_)
  have z6 := Nat.le_of_eq q6.size.symm
  have e6 : Ext w w6 := q6.ext e3 (by omega)
  refine O_assign rfl rfl rfl ?_
  refine WL_end [(6, _), (7, _)] ⟨rfl, rfl, trivial⟩ ?_
  refine WP_ret ?_
  refine retL Try.results74 (.cell rfl S74 b6 rfl (.tmp rfl .nil)) ?_
  first
    | exact ⟨_, rfl, e6, by unfold chOf; rw [if_pos (by assumption)]; rfl⟩
    | exact ⟨_, rfl, e6, by unfold chOf; rw [if_neg (by assumption)]; rfl⟩
    | (have hn : n = -1 := by assumption
       subst hn
       exact ⟨_, rfl, e6, rfl⟩)

theorem rchange_c {w : World} {s : ByteArray} {o n : Int} :
    Calls Try.prog 85 #[.string s, .int .i64 o, .int .i64 n] w (Ret w fun r _ => r = .tuple #[.agg (ccells (chOf s o n)).toArray, .bool (decide (o ≠ n))]) := by
 refine enter (args := [_, _, _]) Try.func85 rfl Try.ntmps85 rfl ?_
 refine WP_seq ?_
 refine WP_region ?_
 refine O_alloc S74 rfl rfl (fun g1 w1 b1 e1 gl1 gh1 => ?_)
 have z1 := e1.size
 refine O_assign rfl rfl rfl ?_
 refine WL_end [(0, _), (1, _), (2, _), (6, _)] ⟨rfl, rfl, rfl, rfl, trivial⟩ ?_
 refine WP_seq ?_
 refine WP_seq ?_
 refine WP_region ?_
 refine O_move rfl rfl rfl ?_
 refine O_eql rfl rfl rfl rfl rfl ?_
 refine WL_end [(0, _), (1, _), (2, _), (6, _), (9, _)] ⟨rfl, rfl, rfl, rfl, rfl, trivial⟩ ?_
 refine WP_condD rfl (fun c9 => ?_) (fun c9 => ?_)
 · --
  refine WP_seq ?_
  refine WP_region ?_
  refine O_move rfl rfl rfl ?_
  refine O_move rfl rfl rfl ?_
  refine O_build (cs := [_, _, _, _]) B74 rfl rfl rfl (cells_cons rfl (cells_cons rfl (cells_cons rfl (cells_cons rfl cells_nil)))) rfl ?_
  refine O_move rfl rfl rfl ?_
  refine O_move rfl rfl rfl ?_
  refine O_neq rfl rfl rfl rfl rfl ?_
  refine O_storeA (cs' := [_, _, _, _]) S74 rfl rfl rfl b1 rfl rfl (one_cons rfl (one_cons rfl (one_cons rfl (one_cons rfl one_nil)))) rfl (fun w2 b2 q2 => ?_)
  have z2 := Nat.le_of_eq q2.size.symm
  have e2 : Ext w w2 := q2.ext e1 (by omega)
  refine O_assign rfl rfl rfl ?_
  refine WL_end [(6, _), (7, _)] ⟨rfl, rfl, trivial⟩ ?_
  refine WP_ret ?_
  refine retL Try.results85 (.cell rfl S74 b2 rfl (.tmp rfl .nil)) ?_
  first
    | exact ⟨_, rfl, e2, by unfold chOf; rw [if_pos (by assumption)]; rfl⟩
    | exact ⟨_, rfl, e2, by unfold chOf; rw [if_neg (by assumption)]; rfl⟩
    | (have hn : n = -1 := by assumption
       subst hn
       exact ⟨_, rfl, e2, rfl⟩)
 · --
  refine WP_skip ?_
  refine WP_seq ?_
  refine WP_region ?_
  refine O_move rfl rfl rfl ?_
  refine O_move rfl rfl rfl ?_
  refine O_move rfl rfl rfl ?_
  refine O_build (cs := [_, _, _, _]) B74 rfl rfl rfl (cells_cons rfl (cells_cons rfl (cells_cons rfl (cells_cons rfl cells_nil)))) rfl ?_
  refine O_move rfl rfl rfl ?_
  refine O_move rfl rfl rfl ?_
  refine O_neq rfl rfl rfl rfl rfl ?_
  refine O_storeA (cs' := [_, _, _, _]) S74 rfl rfl rfl b1 rfl rfl (one_cons rfl (one_cons rfl (one_cons rfl (one_cons rfl one_nil)))) rfl (fun w3 b3 q3 => ?_)
  have z3 := Nat.le_of_eq q3.size.symm
  have e3 : Ext w w3 := q3.ext e1 (by omega)
  refine O_assign rfl rfl rfl ?_
  refine WL_end [(6, _), (7, _)] ⟨rfl, rfl, trivial⟩ ?_
  refine WP_ret ?_
  refine retL Try.results85 (.cell rfl S74 b3 rfl (.tmp rfl .nil)) ?_
  first
    | exact ⟨_, rfl, e3, by unfold chOf; rw [if_pos (by assumption)]; rfl⟩
    | exact ⟨_, rfl, e3, by unfold chOf; rw [if_neg (by assumption)]; rfl⟩
    | (have hn : n = -1 := by assumption
       subst hn
       exact ⟨_, rfl, e3, rfl⟩)

end Go.Proofs.Ytoccimigjjndpaa

set_option linter.unusedVariables false
set_option linter.unusedSimpArgs false
set_option maxRecDepth 100000
namespace Go.Proofs.Ytoccimigjjndpaa
open Go Go.RowKit
/-- A name's value, -1 where it has none. -/
def nodev (l : Env) (s : ByteArray) : Int := (eget l s).getD (-1)

theorem node_c {w : World} {B g : Nat} {ps : List Part} (hF : FG B w g ps) {i : Int} {t : Tr} {s : ByteArray} (hR : Rep ps i t) (ho : t.Ord) :
    Calls Try.prog 75 #[.pointer (some ⟨g, 0, none⟩), .int .i64 i, .string s] w (Ret w fun r _ => r = .int .i64 (nodev t.env s)) := by
 refine enter (args := [_, _, _]) Try.func75 rfl Try.ntmps75 rfl ?_
 refine WP_seq ?_
 refine WP_region ?_
 refine O_assign rfl rfl rfl ?_
 refine WL_end [(0, _), (1, _), (2, _)] ⟨rfl, rfl, rfl, trivial⟩ ?_
 refine WP_seq ?_
 refine WP_seq ?_
 refine WP_region ?_
 refine O_move rfl rfl rfl ?_
 refine O_move rfl rfl rfl ?_
 refine O_move rfl rfl rfl ?_
 refine O_call enters33 rfl rfl rfl (Get_G hF hR ho s) (fun v1 w1 e1 h1 => ?_)
 have z1 := e1.size
 try simp only [val_dig] at h1
 obtain rfl := h1
 refine O_move rfl rfl rfl ?_
 refine O_extract rfl rfl rfl rfl ?_
 refine O_extract rfl rfl rfl rfl ?_
 refine O_assign rfl rfl rfl ?_
 refine O_assign rfl rfl rfl ?_
 refine WL_end [(7, _), (8, _)] ⟨rfl, rfl, trivial⟩ ?_
 refine WP_seq ?_
 refine WP_region ?_
 refine O_move rfl rfl rfl ?_
 refine WL_end [(7, _), (16, _)] ⟨rfl, rfl, trivial⟩ ?_
 refine WP_cond rfl (fun c16 => ?_) (fun c16 => ?_)
 · --
  refine WP_seq ?_
  refine WP_region ?_
  refine O_move rfl rfl rfl ?_
  refine O_assign rfl rfl rfl ?_
  refine WL_end [(6, _)] ⟨rfl, trivial⟩ ?_
  refine WP_ret ?_
  refine ret1 Try.results75 rfl ?_
  exact ⟨_, rfl, e1, by unfold nodev; cases hg9 : eget t.env s <;> simp_all⟩
 · --
  refine WP_skip ?_
  refine WP_seq ?_
  refine WP_region ?_
  refine O_assign rfl rfl rfl ?_
  refine WL_end [(6, _)] ⟨rfl, trivial⟩ ?_
  refine WP_ret ?_
  refine ret1 Try.results75 rfl ?_
  exact ⟨_, rfl, e1, by unfold nodev; cases hg9 : eget t.env s <;> simp_all⟩
theorem rnode_c {w : World} {u : Value} {l : Env} {s : ByteArray} (hs : SlB w u l) (hl : l.length ≤ 1000000000) :
    Calls Try.prog 78 #[u, .string s] w (Ret w fun r _ => r = .int .i64 (nodev l s)) := by
 refine enter (args := [u, _]) Try.func78 rfl Try.ntmps78 rfl ?_
 refine WP_seq ?_
 refine WP_region ?_
 refine O_assign rfl rfl rfl ?_
 refine WL_end [(0, _), (1, _)] ⟨rfl, rfl, trivial⟩ ?_
 refine WP_seq ?_
 refine WP_region ?_
 refine O_move rfl rfl rfl ?_
 refine O_move rfl rfl rfl ?_
 refine O_call enters36 rfl rfl rfl (RGet_c hs hl) (fun v1 w1 e1 h1 => ?_)
 have z1 := e1.size
 try simp only [val_dig] at h1
 obtain rfl := h1
 refine O_move rfl rfl rfl ?_
 refine O_extract rfl rfl rfl rfl ?_
 refine O_extract rfl rfl rfl rfl ?_
 refine O_assign rfl rfl rfl ?_
 refine O_assign rfl rfl rfl ?_
 refine WL_end [(5, _), (6, _)] ⟨rfl, rfl, trivial⟩ ?_
 refine WP_seq ?_
 refine WP_seq ?_
 refine WP_region ?_
 refine O_move rfl rfl rfl ?_
 refine O_not rfl rfl rfl rfl ?_
 refine WL_end [(5, _), (14, _)] ⟨rfl, rfl, trivial⟩ ?_
 refine WP_cond rfl (fun c14 => ?_) (fun c14 => ?_)
 · --
  refine WP_seq ?_
  refine WP_region ?_
  refine O_assign rfl rfl rfl ?_
  refine WL_end [(4, _)] ⟨rfl, trivial⟩ ?_
  refine WP_ret ?_
  refine ret1 Try.results78 rfl ?_
  exact ⟨_, rfl, e1, by unfold nodev; cases hg9 : eget l s <;> simp_all⟩
 · --
  refine WP_skip ?_
  refine WP_seq ?_
  refine WP_region ?_
  refine O_move rfl rfl rfl ?_
  refine O_assign rfl rfl rfl ?_
  refine WL_end [(4, _)] ⟨rfl, trivial⟩ ?_
  refine WP_ret ?_
  refine ret1 Try.results78 rfl ?_
  exact ⟨_, rfl, e1, by unfold nodev; cases hg9 : eget l s <;> simp_all⟩

end Go.Proofs.Ytoccimigjjndpaa

set_option linter.unusedVariables false
set_option linter.unusedSimpArgs false
set_option maxRecDepth 100000
namespace Go.Proofs.Ytoccimigjjndpaa
open Go Go.RowKit
set_option maxHeartbeats 1000000 in
theorem names_c {w : World} {B g : Nat} {ps : List Part} (hF : FG B w g ps) {i : Int} {t : Tr} (hR : Rep ps i t) (hc : t.cnt ≤ 10000000) :
    Calls Try.prog 76 #[.pointer (some ⟨g, 0, none⟩), .int .i64 i] w (Ret w fun r w' => OwM fS w.heap.size 9 w' r (t.env.map (·.1))) := by
 refine enter (args := [_, _]) Try.func76 rfl Try.ntmps76 rfl ?_
 refine WP_seq ?_
 refine WP_region ?_
 refine O_assign rfl rfl rfl ?_
 refine WL_end [(0, _), (1, _)] ⟨rfl, rfl, trivial⟩ ?_
 refine WP_seq ?_
 refine WP_region ?_
 refine O_assign rfl rfl rfl ?_
 refine WL_end [(0, _), (1, _), (5, _)] ⟨rfl, rfl, rfl, trivial⟩ ?_
 refine WP_seq ?_
 refine WP_seq ?_
 refine WP_region ?_
 refine O_move rfl rfl rfl ?_
 refine O_move rfl rfl rfl ?_
 refine O_call enters20 rfl rfl rfl (List_G hF hR hc) (fun v1 w1 e1 h1 => ?_)
 have z1 := e1.size
 refine B_len Ebind rfl rfl rfl h1.sl ?_
 refine O_move rfl rfl rfl ?_
 refine WL_end [(5, _), (10, _), (11, _), (12, _)] ⟨rfl, rfl, rfl, rfl, trivial⟩ ?_
 refine WP_block ?_
 refine WP_loop (S := Nat × Value) (fun (i, ov) => [(5, ov), (10, v1), (11, .int .i64 (t.env.length : Nat)), (12, .int .i64 (i : Nat))]) (fun (i, ov) w' => Ext w w' ∧ OwB w.heap.size w' v1 t.env ∧ OwM fS w.heap.size 9 w' ov ((t.env.take i).map (·.1)) ∧ i ≤ t.env.length) (fun (i, ov) => t.env.length - i) (0, .slice none 0 0) ⟨rfl, rfl, rfl, rfl, trivial⟩ ⟨e1, (h1).mono (by omega), OwM.nil _ _ _, Nat.zero_le _⟩ ?_
 rintro ⟨i, ov⟩ w9 ⟨hE, hlv, hov, hi⟩
 show WP _ _ _ _ _ [(5, ov), (10, v1), (11, .int .i64 (t.env.length : Nat)), (12, .int .i64 (i : Nat))] _
 have zE := hE.size
 have hcl := Tr.env_length t
 refine WP_seq ?_
 refine WP_region ?_
 refine O_lss rfl rfl rfl rfl rfl ?_
 refine WL_end [(5, _), (10, _), (11, _), (12, _), (13, _)] ⟨rfl, rfl, rfl, rfl, rfl, trivial⟩ ?_
 refine WP_seq ?_
 refine WP_condD rfl (fun c13 => ?_) (fun c13 => ?_)
 · --
  refine WP_skip ?_
  refine WP_seq ?_
  refine WP_block ?_
  refine WP_seq ?_
  have hilt : i < t.env.length := by omega
  · --
   skip
   refine WP_region ?_
   refine B_index Ebind rfl rfl rfl rfl hlv.sl i rfl hilt (fun _ => ?_)
   refine K_load S54 rfl rfl rfl (SlB.row (j := i) hlv.sl hilt) rfl ?_
   refine O_alloc S54 rfl rfl (fun g2 w2 b2 e2 gl2 gh2 => ?_)
   have z2 := e2.size
   refine O_storeA (cs' := [_, _]) S54 rfl rfl rfl b2 rfl rfl (one_cons rfl (one_cons rfl one_nil)) rfl (fun w3 b3 q3 => ?_)
   have z3 := Nat.le_of_eq q3.size.symm
   have e3 : Ext w w3 := q3.ext (hE.trans e2) (by omega)
   have m4 := q3.ext e2 (by omega)
   refine WL_end [(5, _), (7, _), (10, _), (11, _), (12, _)] ⟨rfl, rfl, rfl, rfl, rfl, trivial⟩ ?_
   refine WP_region ?_
   refine O_move rfl rfl rfl ?_
   refine O_field F54_0 rfl rfl rfl ?_
   refine O_loadC Try.underlying9 rfl rfl rfl rfl b3 rfl ?_
   refine M_lit M52 rfl rfl fS [_] (by intro a _; rfl) rfl rfl rfl rfl rfl (fun v5 w5 o5 e5 => ?_)
   have z5 := e5.size
   refine M_append M52 rfl rfl rfl rfl rfl ((hov.ext m4).ext e5) o5.sl (by simp) (by simp [Value.oneCell']) (by simp only [List.length_map, List.length_take, List.length_singleton]; omega) rfl (by omega) (fun v6 w6 o6 r6 q6 => ?_)
   have e6 : Ext w w6 := ((hov.ext m4).ext e5).ext_grown r6 (e3.trans e5) (by omega)
   have z6 := r6.size
   have x6 := OwM.grownT ((hov.ext m4).ext e5) r6
   refine O_assign rfl rfl rfl ?_
   refine WL_end [(5, _), (10, _), (11, _), (12, _)] ⟨rfl, rfl, rfl, rfl, trivial⟩ ?_
   refine WP_region ?_
   refine O_add rfl rfl rfl rfl (wrap_i64_id (by omega) (by omega)) ?_
   refine O_move rfl rfl rfl ?_
   refine WL_end [(5, _), (10, _), (11, _), (12, _)] ⟨rfl, rfl, rfl, rfl, trivial⟩ ?_
   exact ⟨(i + 1, _), ⟨rfl, rfl, rfl, rfl, trivial⟩, ⟨e6, (((hlv.ext m4).ext e5).extT x6 (by decide)), by rw [List.take_add_one, List.getElem?_eq_getElem hilt]; simp only [List.map_append, Option.toList_some, List.map_cons, List.map_nil]; exact o6, by omega⟩, by dsimp only; omega⟩
 · --
  refine WP_exit ?_
  refine inBlk_hit ?_
  refine WP_seq ?_
  refine WP_region ?_
  refine O_move rfl rfl rfl ?_
  refine O_assign rfl rfl rfl ?_
  refine WL_end [(4, _)] ⟨rfl, trivial⟩ ?_
  refine WP_ret ?_
  refine ret1 Try.results76 rfl ?_
  have hie : i = t.env.length := by omega
  subst hie
  rw [List.take_length] at hov
  exact ⟨_, rfl, hE, hov⟩

end Go.Proofs.Ytoccimigjjndpaa

