/-
  Walks.
-/
import Derived.Test.YtoccimigjjndpaaT7
import Derived.Test.YtoccimigjjndpaaEnvs
set_option linter.unusedVariables false
set_option linter.unusedSimpArgs false
set_option maxRecDepth 100000
namespace Go.Proofs.Ytoccimigjjndpaa
open Go Go.RowKit
theorem at_c {w : World} {u : Value} {l : Env} {s : ByteArray} (hs : SlB w u l) (hl : l.length ≤ 1000000000) :
    Calls Try.prog 64 #[u, .string s] w (Ret w fun r _ => r = .tuple #[.int .i64 (eat l s : Nat), .bool (decide (egot l s))]) := by
 refine enter (args := [u, _]) Try.func64 rfl Try.ntmps64 rfl ?_
 refine WP_seq ?_
 refine WP_region ?_
 refine O_assign rfl rfl rfl ?_
 refine O_assign rfl rfl rfl ?_
 refine WL_end [(0, _), (1, _)] ⟨rfl, rfl, trivial⟩ ?_
 refine WP_seq ?_
 refine WP_region ?_
 refine O_assign rfl rfl rfl ?_
 refine WL_end [(0, _), (1, _), (6, _)] ⟨rfl, rfl, rfl, trivial⟩ ?_
 refine WP_seq ?_
 refine WP_block ?_
 refine WP_loop (S := Nat) (fun i => [(0, u), (1, .string s), (6, .int .i64 (i : Nat))]) (fun i w' => Ext w w' ∧ i ≤ eat l s) (fun i => l.length - i) 0 ⟨rfl, rfl, rfl, trivial⟩ ⟨Ext.refl _, Nat.zero_le _⟩ ?_
 rintro i w9 ⟨hE, hi⟩
 have zE := hE.size
 have hel := eat_le l s
 refine WP_seq ?_
 refine WP_seq ?_
 refine WP_region ?_
 refine O_move rfl rfl rfl ?_
 refine O_move rfl rfl rfl ?_
 refine B_len Ebind rfl rfl rfl (hs.ext hE) ?_
 refine O_lss rfl rfl rfl rfl rfl ?_
 refine O_move rfl rfl rfl ?_
 refine WL_dec 11 rfl (fun g11 => ?_) (fun g11 => ?_)
 · --
  refine O_move rfl rfl rfl ?_
  refine O_move rfl rfl rfl ?_
  refine B_index Ebind rfl rfl rfl rfl (hs.ext hE) _ rfl (by omega) (fun _ => ?_)
  refine K_field F54_0 rfl rfl rfl ?_
  refine B_cell Try.underlying9 rfl rfl rfl rfl (SlB.row (j := _) (hs.ext hE) (by omega)) rfl ?_
  refine O_move rfl rfl rfl ?_
  refine O_slss rfl rfl rfl rfl ?_
  refine O_pickT rfl rfl rfl rfl ?_
  refine WL_end [(0, _), (1, _), (6, _), (19, _)] ⟨rfl, rfl, rfl, rfl, trivial⟩ ?_
  refine WP_cond rfl (fun c19 => ?_) (fun c19 => ?_)
  · --
   refine WP_skip ?_
   refine WP_block ?_
   refine WP_region ?_
   refine O_move rfl rfl rfl ?_
   refine O_add rfl rfl rfl rfl (wrap_i64_id (by omega) (by omega)) ?_
   refine O_assign rfl rfl rfl ?_
   refine WL_end [(0, _), (1, _), (6, _)] ⟨rfl, rfl, rfl, trivial⟩ ?_
   exact ⟨i + 1, ⟨rfl, rfl, rfl, trivial⟩, ⟨hE, eat_step hi (by omega) c19⟩, by omega⟩
  · --
   refine WP_exit ?_
   refine inBlk_hit ?_
   refine WP_seq ?_
   have hlt : i < l.length := by omega
   have hie := eat_stop hi hlt c19
   by_cases hq : l[i].1 = s
   · --
    have hgt := egot_of hie hlt hq
    refine WP_sub [(0, _), (1, _), (6, _)] ⟨rfl, rfl, rfl, trivial⟩ ?_
    refine WP_anyR 15 [0, 1, 6] mixed rfl (by kernel_rfl) ?_
    apply AnyR_val [6] rfl (by kernel_rfl)
    · --
     intro y1 hy1
     have zy1 := hy1.size
     refine AllV_nil ?_
     refine O_move rfl rfl rfl ?_
     exact WL_nil ⟨(Ext.refl _), rfl⟩
    apply AnyR_val [6] rfl (by kernel_rfl)
    · --
     intro y2 hy2
     have zy2 := hy2.size
     refine AllV_nil ?_
     refine O_move rfl rfl rfl ?_
     exact WL_nil ⟨(Ext.refl _), rfl⟩
    apply AnyR_val [0] rfl (by kernel_rfl)
    · --
     intro y3 hy3
     have zy3 := hy3.size
     refine AllV_nil ?_
     refine O_move rfl rfl rfl ?_
     exact WL_nil ⟨(Ext.refl _), rfl⟩
    apply AnyR_val [24] rfl (by kernel_rfl)
    · --
     intro y4 hy4
     have zy4 := hy4.size
     refine AllV_v ?_
     refine AllV_nil ?_
     refine B_len Ebind rfl rfl rfl (hs.ext (hE.trans hy4)) ?_
     exact WL_nil ⟨(Ext.refl _), rfl⟩
    apply AnyR_val [23, 25] rfl (by kernel_rfl)
    · --
     intro y5 hy5
     have zy5 := hy5.size
     refine AllV_v ?_
     refine AllV_v ?_
     refine AllV_nil ?_
     refine O_lss (t := true) rfl rfl rfl rfl (decide_eq_true (by omega)) ?_
     exact WL_nil ⟨(Ext.refl _), rfl⟩
    apply AnyR_val [26] rfl (by kernel_rfl)
    · --
     intro y6 hy6
     have zy6 := hy6.size
     refine AllV_v ?_
     refine AllV_nil ?_
     refine O_move rfl rfl rfl ?_
     exact WL_nil ⟨(Ext.refl _), rfl⟩
    apply AnyR_val [27, 0] rfl (by kernel_rfl)
    · --
     intro y7 hy7
     have zy7 := hy7.size
     refine AllV_v ?_
     refine AllV_nil ?_
     refine O_move rfl rfl rfl ?_
     exact WL_nil ⟨(Ext.refl _), rfl⟩
    apply AnyR_val [27, 6] rfl (by kernel_rfl)
    · --
     intro y8 hy8
     have zy8 := hy8.size
     refine AllV_v ?_
     refine AllV_nil ?_
     refine O_move rfl rfl rfl ?_
     exact WL_nil ⟨(Ext.refl _), rfl⟩
    apply AnyR_val [27, 28, 29] rfl (by kernel_rfl)
    · --
     intro y9 hy9
     have zy9 := hy9.size
     refine AllV_v ?_
     refine AllV_v ?_
     refine AllV_v ?_
     refine AllV_nil ?_
     refine B_index Ebind rfl rfl rfl rfl (hs.ext (hE.trans hy9)) _ rfl hlt (fun _ => ?_)
     exact WL_nil ⟨(Ext.refl _), rfl⟩
    apply AnyR_val [27, 30] rfl (by kernel_rfl)
    · --
     intro y10 hy10
     have zy10 := hy10.size
     refine AllV_v ?_
     refine AllV_v ?_
     refine AllV_nil ?_
     refine K_field F54_0 rfl rfl rfl ?_
     exact WL_nil ⟨(Ext.refl _), rfl⟩
    apply AnyR_val [27, 31] rfl (by kernel_rfl)
    · --
     intro y11 hy11
     have zy11 := hy11.size
     refine AllV_v ?_
     refine AllV_v ?_
     refine AllV_nil ?_
     refine B_cell Try.underlying9 rfl rfl rfl rfl (SlB.row (j := _) (hs.ext (hE.trans hy11)) hlt) rfl ?_
     exact WL_nil ⟨(Ext.refl _), rfl⟩
    apply AnyR_val [27, 1] rfl (by kernel_rfl)
    · --
     intro y12 hy12
     have zy12 := hy12.size
     refine AllV_v ?_
     refine AllV_nil ?_
     refine O_move rfl rfl rfl ?_
     exact WL_nil ⟨(Ext.refl _), rfl⟩
    apply AnyR_val [27, 32, 33] rfl (by kernel_rfl)
    · --
     intro y13 hy13
     have zy13 := hy13.size
     refine AllV_v ?_
     refine AllV_v ?_
     refine AllV_v ?_
     refine AllV_nil ?_
     refine O_seqlB rfl rfl rfl rfl (decide_eq_true hq) ?_
     exact WL_nil ⟨(Ext.refl _), rfl⟩
    apply AnyR_val [27, 34] rfl (by kernel_rfl)
    · --
     intro y14 hy14
     have zy14 := hy14.size
     refine AllV_v ?_
     refine AllV_v ?_
     refine AllV_nil ?_
     refine O_pickT rfl rfl rfl rfl ?_
     exact WL_nil ⟨(Ext.refl _), rfl⟩
    apply AnyR_val [22] rfl (by kernel_rfl)
    · --
     intro y15 hy15
     have zy15 := hy15.size
     refine AllV_v ?_
     refine AllV_nil ?_
     refine O_assign rfl rfl rfl ?_
     exact WL_nil ⟨(Ext.refl _), rfl⟩
    refine AnyR_nil fun y16 hy16 => ?_
    have zy16 := hy16.size
    refine AllV_v ?_
    refine AllV_v ?_
    refine AllV_v ?_
    refine AllV_v ?_
    refine AllV_v ?_
    refine AllV_v ?_
    refine AllV_v ?_
    refine AllV_v ?_
    refine AllV_v ?_
    refine AllV_v ?_
    refine AllV_v ?_
    refine AllV_v ?_
    refine AllV_v ?_
    refine AllV_v ?_
    refine AllV_v ?_
    refine AllV_nil ?_
    refine O_assign rfl rfl rfl ?_
    refine WL_end [(4, _), (5, _)] ⟨rfl, rfl, trivial⟩ ?_
    refine WP_ret ?_
    refine ret2 Try.results64 rfl rfl ?_
    exact ⟨_, rfl, (hE.trans hy16), by rw [hie, decide_eq_true hgt]; try rfl⟩
   · --
    have hgt := egot_not hie hlt hq
    refine WP_sub [(0, _), (1, _), (6, _)] ⟨rfl, rfl, rfl, trivial⟩ ?_
    refine WP_anyR 15 [0, 1, 6] mixed rfl (by kernel_rfl) ?_
    apply AnyR_val [6] rfl (by kernel_rfl)
    · --
     intro y17 hy17
     have zy17 := hy17.size
     refine AllV_nil ?_
     refine O_move rfl rfl rfl ?_
     exact WL_nil ⟨(Ext.refl _), rfl⟩
    apply AnyR_val [6] rfl (by kernel_rfl)
    · --
     intro y18 hy18
     have zy18 := hy18.size
     refine AllV_nil ?_
     refine O_move rfl rfl rfl ?_
     exact WL_nil ⟨(Ext.refl _), rfl⟩
    apply AnyR_val [0] rfl (by kernel_rfl)
    · --
     intro y19 hy19
     have zy19 := hy19.size
     refine AllV_nil ?_
     refine O_move rfl rfl rfl ?_
     exact WL_nil ⟨(Ext.refl _), rfl⟩
    apply AnyR_val [24] rfl (by kernel_rfl)
    · --
     intro y20 hy20
     have zy20 := hy20.size
     refine AllV_v ?_
     refine AllV_nil ?_
     refine B_len Ebind rfl rfl rfl (hs.ext (hE.trans hy20)) ?_
     exact WL_nil ⟨(Ext.refl _), rfl⟩
    apply AnyR_val [23, 25] rfl (by kernel_rfl)
    · --
     intro y21 hy21
     have zy21 := hy21.size
     refine AllV_v ?_
     refine AllV_v ?_
     refine AllV_nil ?_
     refine O_lss (t := true) rfl rfl rfl rfl (decide_eq_true (by omega)) ?_
     exact WL_nil ⟨(Ext.refl _), rfl⟩
    apply AnyR_val [26] rfl (by kernel_rfl)
    · --
     intro y22 hy22
     have zy22 := hy22.size
     refine AllV_v ?_
     refine AllV_nil ?_
     refine O_move rfl rfl rfl ?_
     exact WL_nil ⟨(Ext.refl _), rfl⟩
    apply AnyR_val [27, 0] rfl (by kernel_rfl)
    · --
     intro y23 hy23
     have zy23 := hy23.size
     refine AllV_v ?_
     refine AllV_nil ?_
     refine O_move rfl rfl rfl ?_
     exact WL_nil ⟨(Ext.refl _), rfl⟩
    apply AnyR_val [27, 6] rfl (by kernel_rfl)
    · --
     intro y24 hy24
     have zy24 := hy24.size
     refine AllV_v ?_
     refine AllV_nil ?_
     refine O_move rfl rfl rfl ?_
     exact WL_nil ⟨(Ext.refl _), rfl⟩
    apply AnyR_val [27, 28, 29] rfl (by kernel_rfl)
    · --
     intro y25 hy25
     have zy25 := hy25.size
     refine AllV_v ?_
     refine AllV_v ?_
     refine AllV_v ?_
     refine AllV_nil ?_
     refine B_index Ebind rfl rfl rfl rfl (hs.ext (hE.trans hy25)) _ rfl hlt (fun _ => ?_)
     exact WL_nil ⟨(Ext.refl _), rfl⟩
    apply AnyR_val [27, 30] rfl (by kernel_rfl)
    · --
     intro y26 hy26
     have zy26 := hy26.size
     refine AllV_v ?_
     refine AllV_v ?_
     refine AllV_nil ?_
     refine K_field F54_0 rfl rfl rfl ?_
     exact WL_nil ⟨(Ext.refl _), rfl⟩
    apply AnyR_val [27, 31] rfl (by kernel_rfl)
    · --
     intro y27 hy27
     have zy27 := hy27.size
     refine AllV_v ?_
     refine AllV_v ?_
     refine AllV_nil ?_
     refine B_cell Try.underlying9 rfl rfl rfl rfl (SlB.row (j := _) (hs.ext (hE.trans hy27)) hlt) rfl ?_
     exact WL_nil ⟨(Ext.refl _), rfl⟩
    apply AnyR_val [27, 1] rfl (by kernel_rfl)
    · --
     intro y28 hy28
     have zy28 := hy28.size
     refine AllV_v ?_
     refine AllV_nil ?_
     refine O_move rfl rfl rfl ?_
     exact WL_nil ⟨(Ext.refl _), rfl⟩
    apply AnyR_val [27, 32, 33] rfl (by kernel_rfl)
    · --
     intro y29 hy29
     have zy29 := hy29.size
     refine AllV_v ?_
     refine AllV_v ?_
     refine AllV_v ?_
     refine AllV_nil ?_
     refine O_seqlB rfl rfl rfl rfl (decide_eq_false hq) ?_
     exact WL_nil ⟨(Ext.refl _), rfl⟩
    apply AnyR_val [27, 34] rfl (by kernel_rfl)
    · --
     intro y30 hy30
     have zy30 := hy30.size
     refine AllV_v ?_
     refine AllV_v ?_
     refine AllV_nil ?_
     refine O_pickT rfl rfl rfl rfl ?_
     exact WL_nil ⟨(Ext.refl _), rfl⟩
    apply AnyR_val [22] rfl (by kernel_rfl)
    · --
     intro y31 hy31
     have zy31 := hy31.size
     refine AllV_v ?_
     refine AllV_nil ?_
     refine O_assign rfl rfl rfl ?_
     exact WL_nil ⟨(Ext.refl _), rfl⟩
    refine AnyR_nil fun y32 hy32 => ?_
    have zy32 := hy32.size
    refine AllV_v ?_
    refine AllV_v ?_
    refine AllV_v ?_
    refine AllV_v ?_
    refine AllV_v ?_
    refine AllV_v ?_
    refine AllV_v ?_
    refine AllV_v ?_
    refine AllV_v ?_
    refine AllV_v ?_
    refine AllV_v ?_
    refine AllV_v ?_
    refine AllV_v ?_
    refine AllV_v ?_
    refine AllV_v ?_
    refine AllV_nil ?_
    refine O_assign rfl rfl rfl ?_
    refine WL_end [(4, _), (5, _)] ⟨rfl, rfl, trivial⟩ ?_
    refine WP_ret ?_
    refine ret2 Try.results64 rfl rfl ?_
    exact ⟨_, rfl, (hE.trans hy32), by rw [hie, decide_eq_false hgt]; try rfl⟩
 · --
  refine O_skip rfl rfl ?_
  refine O_skip rfl rfl ?_
  refine O_skip rfl rfl ?_
  refine O_skip rfl rfl ?_
  refine O_skip rfl rfl ?_
  refine O_skip rfl rfl ?_
  refine O_skip rfl rfl ?_
  refine O_pickF rfl rfl rfl rfl ?_
  refine WL_end [(0, _), (1, _), (6, _), (19, _)] ⟨rfl, rfl, rfl, rfl, trivial⟩ ?_
  refine WP_condF rfl ?_
  refine WP_exit ?_
  refine inBlk_hit ?_
  refine WP_seq ?_
  have hie := eat_end hi (by omega)
  have hgt : ¬ egot l s := fun h => by have := egot_lt h; omega
  · --
   skip
   refine WP_sub [(0, _), (1, _), (6, _)] ⟨rfl, rfl, rfl, trivial⟩ ?_
   refine WP_anyR 15 [0, 1, 6] mixed rfl (by kernel_rfl) ?_
   apply AnyR_val [6] rfl (by kernel_rfl)
   · --
    intro y33 hy33
    have zy33 := hy33.size
    refine AllV_nil ?_
    refine O_move rfl rfl rfl ?_
    exact WL_nil ⟨(Ext.refl _), rfl⟩
   apply AnyR_val [6] rfl (by kernel_rfl)
   · --
    intro y34 hy34
    have zy34 := hy34.size
    refine AllV_nil ?_
    refine O_move rfl rfl rfl ?_
    exact WL_nil ⟨(Ext.refl _), rfl⟩
   apply AnyR_val [0] rfl (by kernel_rfl)
   · --
    intro y35 hy35
    have zy35 := hy35.size
    refine AllV_nil ?_
    refine O_move rfl rfl rfl ?_
    exact WL_nil ⟨(Ext.refl _), rfl⟩
   apply AnyR_val [24] rfl (by kernel_rfl)
   · --
    intro y36 hy36
    have zy36 := hy36.size
    refine AllV_v ?_
    refine AllV_nil ?_
    refine B_len Ebind rfl rfl rfl (hs.ext (hE.trans hy36)) ?_
    exact WL_nil ⟨(Ext.refl _), rfl⟩
   apply AnyR_val [23, 25] rfl (by kernel_rfl)
   · --
    intro y37 hy37
    have zy37 := hy37.size
    refine AllV_v ?_
    refine AllV_v ?_
    refine AllV_nil ?_
    refine O_lss (t := false) rfl rfl rfl rfl (decide_eq_false (by omega)) ?_
    exact WL_nil ⟨(Ext.refl _), rfl⟩
   apply AnyR_val [26] rfl (by kernel_rfl)
   · --
    intro y38 hy38
    have zy38 := hy38.size
    refine AllV_v ?_
    refine AllV_nil ?_
    refine O_move rfl rfl rfl ?_
    exact WL_nil ⟨(Ext.refl _), rfl⟩
   apply AnyR_val [27, 0] rfl (by kernel_rfl)
   · --
    intro y39 hy39
    have zy39 := hy39.size
    refine AllV_v ?_
    refine AllV_nil ?_
    refine O_skip rfl rfl ?_
    exact WL_nil ⟨(Ext.refl _), rfl⟩
   apply AnyR_val [27, 6] rfl (by kernel_rfl)
   · --
    intro y40 hy40
    have zy40 := hy40.size
    refine AllV_v ?_
    refine AllV_nil ?_
    refine O_skip rfl rfl ?_
    exact WL_nil ⟨(Ext.refl _), rfl⟩
   apply AnyR_val [27, 28, 29] rfl (by kernel_rfl)
   · --
    intro y41 hy41
    have zy41 := hy41.size
    refine AllV_v ?_
    refine AllV_v ?_
    refine AllV_v ?_
    refine AllV_nil ?_
    refine O_skip rfl rfl ?_
    exact WL_nil ⟨(Ext.refl _), rfl⟩
   apply AnyR_val [27, 30] rfl (by kernel_rfl)
   · --
    intro y42 hy42
    have zy42 := hy42.size
    refine AllV_v ?_
    refine AllV_v ?_
    refine AllV_nil ?_
    refine O_skip rfl rfl ?_
    exact WL_nil ⟨(Ext.refl _), rfl⟩
   apply AnyR_val [27, 31] rfl (by kernel_rfl)
   · --
    intro y43 hy43
    have zy43 := hy43.size
    refine AllV_v ?_
    refine AllV_v ?_
    refine AllV_nil ?_
    refine O_skip rfl rfl ?_
    exact WL_nil ⟨(Ext.refl _), rfl⟩
   apply AnyR_val [27, 1] rfl (by kernel_rfl)
   · --
    intro y44 hy44
    have zy44 := hy44.size
    refine AllV_v ?_
    refine AllV_nil ?_
    refine O_skip rfl rfl ?_
    exact WL_nil ⟨(Ext.refl _), rfl⟩
   apply AnyR_val [27, 32, 33] rfl (by kernel_rfl)
   · --
    intro y45 hy45
    have zy45 := hy45.size
    refine AllV_v ?_
    refine AllV_v ?_
    refine AllV_v ?_
    refine AllV_nil ?_
    refine O_skip rfl rfl ?_
    exact WL_nil ⟨(Ext.refl _), rfl⟩
   apply AnyR_val [27, 34] rfl (by kernel_rfl)
   · --
    intro y46 hy46
    have zy46 := hy46.size
    refine AllV_v ?_
    refine AllV_v ?_
    refine AllV_nil ?_
    refine O_pickF rfl rfl rfl rfl ?_
    exact WL_nil ⟨(Ext.refl _), rfl⟩
   apply AnyR_val [22] rfl (by kernel_rfl)
   · --
    intro y47 hy47
    have zy47 := hy47.size
    refine AllV_v ?_
    refine AllV_nil ?_
    refine O_assign rfl rfl rfl ?_
    exact WL_nil ⟨(Ext.refl _), rfl⟩
   refine AnyR_nil fun y48 hy48 => ?_
   have zy48 := hy48.size
   refine AllV_v ?_
   refine AllV_v ?_
   refine AllV_v ?_
   refine AllV_v ?_
   refine AllV_v ?_
   refine AllV_v ?_
   refine AllV_v ?_
   refine AllV_v ?_
   refine AllV_v ?_
   refine AllV_v ?_
   refine AllV_v ?_
   refine AllV_v ?_
   refine AllV_v ?_
   refine AllV_v ?_
   refine AllV_v ?_
   refine AllV_nil ?_
   refine O_assign rfl rfl rfl ?_
   refine WL_end [(4, _), (5, _)] ⟨rfl, rfl, trivial⟩ ?_
   refine WP_ret ?_
   refine ret2 Try.results64 rfl rfl ?_
   exact ⟨_, rfl, (hE.trans hy48), by rw [hie, decide_eq_false hgt]; try rfl⟩
theorem at_T {w : World} {u : Value} {l : Env} {s : ByteArray} (hs : SlB w u l) (hl : l.length ≤ 1000000000) (hg : egot l s) : Calls Try.prog 64 #[u, .string s] w (Ret w fun r _ => r = .tuple #[.int .i64 (eat l s : Nat), .bool true]) :=
  (at_c hs hl).mono fun _ w' ⟨r, he, hx', hr⟩ => ⟨r, he, hx', by rw [hr, decide_eq_true hg]⟩
theorem at_F {w : World} {u : Value} {l : Env} {s : ByteArray} (hs : SlB w u l) (hl : l.length ≤ 1000000000) (hg : ¬ egot l s) : Calls Try.prog 64 #[u, .string s] w (Ret w fun r _ => r = .tuple #[.int .i64 (eat l s : Nat), .bool false]) :=
  (at_c hs hl).mono fun _ w' ⟨r, he, hx', hr⟩ => ⟨r, he, hx', by rw [hr, decide_eq_false hg]⟩
theorem RGet_some {w : World} {u : Value} {l : Env} {s : ByteArray} (hs : SlB w u l) (hl : l.length ≤ 1000000000) (hg : egot l s) :
    Calls Try.prog 36 #[u, .string s] w (Ret w fun r _ => r = .tuple #[.int .i64 (l[eat l s]'(egot_lt hg)).2, .bool true]) := by
 refine enter (args := [u, _]) Try.func36 rfl Try.ntmps36 rfl ?_
 refine WP_seq ?_
 refine WP_region ?_
 refine O_assign rfl rfl rfl ?_
 refine O_assign rfl rfl rfl ?_
 refine WL_end [(0, _), (1, _)] ⟨rfl, rfl, trivial⟩ ?_
 refine WP_seq ?_
 refine WP_region ?_
 refine O_move rfl rfl rfl ?_
 refine O_move rfl rfl rfl ?_
 refine O_call enters64 rfl rfl rfl (at_T hs hl hg) (fun v1 w1 e1 h1 => ?_)
 have z1 := e1.size
 try simp only [val_dig] at h1
 obtain rfl := h1
 refine O_move rfl rfl rfl ?_
 refine O_extract rfl rfl rfl rfl ?_
 refine O_extract rfl rfl rfl rfl ?_
 refine O_assign rfl rfl rfl ?_
 refine O_assign rfl rfl rfl ?_
 refine WL_end [(0, _), (6, _), (7, _)] ⟨rfl, rfl, rfl, trivial⟩ ?_
 refine WP_seq ?_
 refine WP_seq ?_
 refine WP_region ?_
 refine O_move rfl rfl rfl ?_
 refine O_not rfl rfl rfl rfl ?_
 refine WL_end [(0, _), (6, _), (15, _)] ⟨rfl, rfl, rfl, trivial⟩ ?_
 refine WP_condF rfl ?_
 refine WP_skip ?_
 refine WP_seq ?_
 refine WP_region ?_
 refine O_move rfl rfl rfl ?_
 refine O_move rfl rfl rfl ?_
 refine B_index Ebind rfl rfl rfl rfl (hs.ext e1) (eat l s) rfl (egot_lt hg) (fun _ => ?_)
 refine K_field F54_1 rfl rfl rfl ?_
 refine B_cell Try.underlying3 rfl rfl rfl rfl (SlB.row (j := (eat l s)) (hs.ext e1) (egot_lt hg)) rfl ?_
 refine O_assign rfl rfl rfl ?_
 refine O_assign rfl rfl rfl ?_
 refine WL_end [(4, _), (5, _)] ⟨rfl, rfl, trivial⟩ ?_
 refine WP_ret ?_
 refine ret2 Try.results36 rfl rfl ?_
 exact ⟨_, rfl, e1, rfl⟩
theorem RGet_none {w : World} {u : Value} {l : Env} {s : ByteArray} (hs : SlB w u l) (hl : l.length ≤ 1000000000) (hg : ¬ egot l s) :
    Calls Try.prog 36 #[u, .string s] w (Ret w fun r _ => r = .tuple #[.int .i64 0, .bool false]) := by
 refine enter (args := [u, _]) Try.func36 rfl Try.ntmps36 rfl ?_
 refine WP_seq ?_
 refine WP_region ?_
 refine O_assign rfl rfl rfl ?_
 refine O_assign rfl rfl rfl ?_
 refine WL_end [(0, _), (1, _)] ⟨rfl, rfl, trivial⟩ ?_
 refine WP_seq ?_
 refine WP_region ?_
 refine O_move rfl rfl rfl ?_
 refine O_move rfl rfl rfl ?_
 refine O_call enters64 rfl rfl rfl (at_F hs hl hg) (fun v1 w1 e1 h1 => ?_)
 have z1 := e1.size
 try simp only [val_dig] at h1
 obtain rfl := h1
 refine O_move rfl rfl rfl ?_
 refine O_extract rfl rfl rfl rfl ?_
 refine O_extract rfl rfl rfl rfl ?_
 refine O_assign rfl rfl rfl ?_
 refine O_assign rfl rfl rfl ?_
 refine WL_end [(0, _), (6, _), (7, _)] ⟨rfl, rfl, rfl, trivial⟩ ?_
 refine WP_seq ?_
 refine WP_seq ?_
 refine WP_region ?_
 refine O_move rfl rfl rfl ?_
 refine O_not rfl rfl rfl rfl ?_
 refine WL_end [(0, _), (6, _), (15, _)] ⟨rfl, rfl, rfl, trivial⟩ ?_
 refine WP_condT rfl ?_
 refine WP_seq ?_
 refine WP_region ?_
 refine O_assign rfl rfl rfl ?_
 refine O_assign rfl rfl rfl ?_
 refine WL_end [(4, _), (5, _)] ⟨rfl, rfl, trivial⟩ ?_
 refine WP_ret ?_
 refine ret2 Try.results36 rfl rfl ?_
 exact ⟨_, rfl, e1, rfl⟩
theorem RGet_c {w : World} {u : Value} {l : Env} {s : ByteArray} (hs : SlB w u l) (hl : l.length ≤ 1000000000) : Calls Try.prog 36 #[u, .string s] w (Ret w fun r _ => r = .tuple #[.int .i64 ((eget l s).getD 0), .bool (eget l s).isSome]) := by
  by_cases hg : egot l s
  · exact (RGet_some hs hl hg).mono fun _ w' ⟨r, he, hx', hr⟩ => ⟨r, he, hx', by rw [hr, egot_get hg]; rfl⟩
  · exact (RGet_none hs hl hg).mono fun _ w' ⟨r, he, hx', hr⟩ => ⟨r, he, hx', by rw [hr, egot_none hg]; rfl⟩
theorem RRank_c {w : World} {u : Value} {l : Env} {s : ByteArray} (hs : SlB w u l) (hl : l.length ≤ 1000000000) :
    Calls Try.prog 38 #[u, .string s] w (Ret w fun r _ => r = .int .i64 (eat l s : Nat)) := by
 refine enter (args := [u, _]) Try.func38 rfl Try.ntmps38 rfl ?_
 refine WP_seq ?_
 refine WP_region ?_
 refine O_assign rfl rfl rfl ?_
 refine WL_end [(0, _), (1, _)] ⟨rfl, rfl, trivial⟩ ?_
 refine WP_seq ?_
 refine WP_region ?_
 refine O_move rfl rfl rfl ?_
 refine O_move rfl rfl rfl ?_
 refine O_call enters64 rfl rfl rfl (at_c hs hl) (fun v1 w1 e1 h1 => ?_)
 have z1 := e1.size
 try simp only [val_dig] at h1
 obtain rfl := h1
 refine O_move rfl rfl rfl ?_
 refine O_extract rfl rfl rfl rfl ?_
 refine O_extract rfl rfl rfl rfl ?_
 refine O_assign rfl rfl rfl ?_
 refine O_assign rfl rfl rfl ?_
 refine WL_end [(5, _)] ⟨rfl, trivial⟩ ?_
 refine WP_seq ?_
 refine WP_region ?_
 refine O_move rfl rfl rfl ?_
 refine O_assign rfl rfl rfl ?_
 refine WL_end [(4, _)] ⟨rfl, trivial⟩ ?_
 refine WP_ret ?_
 refine ret1 Try.results38 rfl ?_
 exact ⟨_, rfl, e1, rfl⟩
theorem RSet_T {w : World} {u : Value} {l : Env} {s : ByteArray} (hs : SlB w u l) (hl : l.length ≤ 1000000000) {n : Int} (hg : egot l s) :
    Calls Try.prog 29 #[u, .string s, .int .i64 n] w (Ret w fun r w' => OwB w.heap.size w' r (eset l s n)) := by
 have hlt := egot_lt hg
 refine enter (args := [u, _, _]) Try.func29 rfl Try.ntmps29 rfl ?_
 refine WP_seq ?_
 refine WP_region ?_
 refine O_assign rfl rfl rfl ?_
 refine WL_end [(0, _), (1, _), (2, _)] ⟨rfl, rfl, rfl, trivial⟩ ?_
 refine WP_seq ?_
 refine WP_region ?_
 refine O_move rfl rfl rfl ?_
 refine O_move rfl rfl rfl ?_
 refine O_call enters64 rfl rfl rfl (at_T hs hl hg) (fun v1 w1 e1 h1 => ?_)
 have z1 := e1.size
 try simp only [val_dig] at h1
 obtain rfl := h1
 refine O_move rfl rfl rfl ?_
 refine O_extract rfl rfl rfl rfl ?_
 refine O_extract rfl rfl rfl rfl ?_
 refine O_assign rfl rfl rfl ?_
 refine O_assign rfl rfl rfl ?_
 refine WL_end [(0, _), (1, _), (2, _), (7, _), (8, _)] ⟨rfl, rfl, rfl, rfl, rfl, trivial⟩ ?_
 refine WP_seq ?_
 refine WP_region ?_
 refine B_lit0 Ebind rfl rfl (fun v2 w2 o2 e2 => ?_)
 have z2 := e2.size
 refine O_move rfl rfl rfl ?_
 refine O_move rfl rfl rfl ?_
 refine B_sliceTo Ebind rfl rfl rfl rfl (hs.ext (e1.trans e2)) (eat l s) rfl (by omega) (fun v3 h3 k3 => ?_)
 refine B_append Ebind rfl rfl rfl rfl o2 h3 (by simp only [List.length_nil, List.length_take]; omega) rfl (by omega) (fun v4 w4 o4 r4 k4 => ?_)
 have e4 : Ext w w4 := o2.ext_grown r4 (e1.trans e2) (by omega)
 have z4 := r4.size
 refine O_move rfl rfl rfl ?_
 refine O_move rfl rfl rfl ?_
 refine O_build (cs := [_, _]) B54 rfl rfl rfl (cells_cons rfl (cells_cons rfl cells_nil)) rfl ?_
 refine B_lit1 (b := (s, n)) Ebind rfl rfl rfl (fun v5 w5 o5 e5 => ?_)
 have z5 := e5.size
 refine B_append Ebind rfl rfl rfl rfl (o4.ext e5) o5.sl (by simp only [List.length_append, List.length_nil, List.length_take, List.length_singleton]; omega) rfl (by omega) (fun v6 w6 o6 r6 k6 => ?_)
 have e6 : Ext w w6 := (o4.ext e5).ext_grown r6 (e4.trans e5) (by omega)
 have z6 := r6.size
 refine O_assign rfl rfl rfl ?_
 refine WL_end [(0, _), (7, _), (8, _), (9, _)] ⟨rfl, rfl, rfl, rfl, trivial⟩ ?_
 refine WP_seq ?_
 refine WP_seq ?_
 refine WP_region ?_
 refine O_move rfl rfl rfl ?_
 refine WL_end [(0, _), (7, _), (9, _), (26, _)] ⟨rfl, rfl, rfl, rfl, trivial⟩ ?_
 refine WP_condT rfl ?_
 refine WP_region ?_
 refine O_move rfl rfl rfl ?_
 refine O_add (r := ((eat l s + 1 : Nat) : Int)) rfl rfl rfl rfl (by rw [IntKind.wrap_i64]; omega) ?_
 refine O_assign rfl rfl rfl ?_
 refine WL_end [(0, _), (7, _), (9, _)] ⟨rfl, rfl, rfl, trivial⟩ ?_
 refine WP_seq ?_
 refine WP_region ?_
 refine O_move rfl rfl rfl ?_
 refine O_move rfl rfl rfl ?_
 refine O_move rfl rfl rfl ?_
 refine B_sliceFrom Ebind rfl rfl rfl rfl (hs.ext e6) (eat l s + 1) rfl (by omega) (fun v7 h7 k7 => ?_)
 refine B_append Ebind rfl rfl rfl rfl o6 h7 (by simp only [List.length_append, List.length_nil, List.length_take, List.length_drop, List.length_singleton]; omega) rfl (by omega) (fun v8 w8 o8 r8 k8 => ?_)
 have e8 : Ext w w8 := o6.ext_grown r8 e6 (by omega)
 have z8 := r8.size
 refine O_assign rfl rfl rfl ?_
 refine WL_end [(6, _)] ⟨rfl, trivial⟩ ?_
 refine WP_ret ?_
 refine ret1 Try.results29 rfl ?_
 exact ⟨_, rfl, e8, by rw [egot_eset hg]; exact o8.mono (by omega)⟩
theorem RSet_F {w : World} {u : Value} {l : Env} {s : ByteArray} (hs : SlB w u l) (hl : l.length ≤ 1000000000) {n : Int} (hg : ¬ egot l s) :
    Calls Try.prog 29 #[u, .string s, .int .i64 n] w (Ret w fun r w' => OwB w.heap.size w' r (eset l s n)) := by
 have hlt := eat_le l s
 refine enter (args := [u, _, _]) Try.func29 rfl Try.ntmps29 rfl ?_
 refine WP_seq ?_
 refine WP_region ?_
 refine O_assign rfl rfl rfl ?_
 refine WL_end [(0, _), (1, _), (2, _)] ⟨rfl, rfl, rfl, trivial⟩ ?_
 refine WP_seq ?_
 refine WP_region ?_
 refine O_move rfl rfl rfl ?_
 refine O_move rfl rfl rfl ?_
 refine O_call enters64 rfl rfl rfl (at_F hs hl hg) (fun v1 w1 e1 h1 => ?_)
 have z1 := e1.size
 try simp only [val_dig] at h1
 obtain rfl := h1
 refine O_move rfl rfl rfl ?_
 refine O_extract rfl rfl rfl rfl ?_
 refine O_extract rfl rfl rfl rfl ?_
 refine O_assign rfl rfl rfl ?_
 refine O_assign rfl rfl rfl ?_
 refine WL_end [(0, _), (1, _), (2, _), (7, _), (8, _)] ⟨rfl, rfl, rfl, rfl, rfl, trivial⟩ ?_
 refine WP_seq ?_
 refine WP_region ?_
 refine B_lit0 Ebind rfl rfl (fun v2 w2 o2 e2 => ?_)
 have z2 := e2.size
 refine O_move rfl rfl rfl ?_
 refine O_move rfl rfl rfl ?_
 refine B_sliceTo Ebind rfl rfl rfl rfl (hs.ext (e1.trans e2)) (eat l s) rfl (by omega) (fun v3 h3 k3 => ?_)
 refine B_append Ebind rfl rfl rfl rfl o2 h3 (by simp only [List.length_nil, List.length_take]; omega) rfl (by omega) (fun v4 w4 o4 r4 k4 => ?_)
 have e4 : Ext w w4 := o2.ext_grown r4 (e1.trans e2) (by omega)
 have z4 := r4.size
 refine O_move rfl rfl rfl ?_
 refine O_move rfl rfl rfl ?_
 refine O_build (cs := [_, _]) B54 rfl rfl rfl (cells_cons rfl (cells_cons rfl cells_nil)) rfl ?_
 refine B_lit1 (b := (s, n)) Ebind rfl rfl rfl (fun v5 w5 o5 e5 => ?_)
 have z5 := e5.size
 refine B_append Ebind rfl rfl rfl rfl (o4.ext e5) o5.sl (by simp only [List.length_append, List.length_nil, List.length_take, List.length_singleton]; omega) rfl (by omega) (fun v6 w6 o6 r6 k6 => ?_)
 have e6 : Ext w w6 := (o4.ext e5).ext_grown r6 (e4.trans e5) (by omega)
 have z6 := r6.size
 refine O_assign rfl rfl rfl ?_
 refine WL_end [(0, _), (7, _), (8, _), (9, _)] ⟨rfl, rfl, rfl, rfl, trivial⟩ ?_
 refine WP_seq ?_
 refine WP_seq ?_
 refine WP_region ?_
 refine O_move rfl rfl rfl ?_
 refine WL_end [(0, _), (7, _), (9, _), (26, _)] ⟨rfl, rfl, rfl, rfl, trivial⟩ ?_
 refine WP_condF rfl ?_
 refine WP_skip ?_
 refine WP_seq ?_
 refine WP_region ?_
 refine O_move rfl rfl rfl ?_
 refine O_move rfl rfl rfl ?_
 refine O_move rfl rfl rfl ?_
 refine B_sliceFrom Ebind rfl rfl rfl rfl (hs.ext e6) (eat l s) rfl (by omega) (fun v7 h7 k7 => ?_)
 refine B_append Ebind rfl rfl rfl rfl o6 h7 (by simp only [List.length_append, List.length_nil, List.length_take, List.length_drop, List.length_singleton]; omega) rfl (by omega) (fun v8 w8 o8 r8 k8 => ?_)
 have e8 : Ext w w8 := o6.ext_grown r8 e6 (by omega)
 have z8 := r8.size
 refine O_assign rfl rfl rfl ?_
 refine WL_end [(6, _)] ⟨rfl, trivial⟩ ?_
 refine WP_ret ?_
 refine ret1 Try.results29 rfl ?_
 exact ⟨_, rfl, e8, by rw [egot_eset' hg]; exact o8.mono (by omega)⟩
theorem RSet_c {w : World} {u : Value} {l : Env} {s : ByteArray} (hs : SlB w u l) (hl : l.length ≤ 1000000000) {n : Int} : Calls Try.prog 29 #[u, .string s, .int .i64 n] w (Ret w fun r w' => OwB w.heap.size w' r (eset l s n)) := by
  by_cases hg : egot l s
  · exact RSet_T hs hl hg
  · exact RSet_F hs hl hg
theorem RDrop_none {w : World} {u : Value} {l : Env} {s : ByteArray} (hs : SlB w u l) (hl : l.length ≤ 1000000000) (hg : ¬ egot l s) :
    Calls Try.prog 31 #[u, .string s] w (Ret w fun r _ => r = .tuple #[u, .bool false]) := by
 refine enter (args := [u, _]) Try.func31 rfl Try.ntmps31 rfl ?_
 refine WP_seq ?_
 refine WP_region ?_
 refine O_assign rfl rfl rfl ?_
 refine O_assign rfl rfl rfl ?_
 refine WL_end [(0, _), (1, _)] ⟨rfl, rfl, trivial⟩ ?_
 refine WP_seq ?_
 refine WP_region ?_
 refine O_move rfl rfl rfl ?_
 refine O_move rfl rfl rfl ?_
 refine O_call enters64 rfl rfl rfl (at_F hs hl hg) (fun v1 w1 e1 h1 => ?_)
 have z1 := e1.size
 try simp only [val_dig] at h1
 obtain rfl := h1
 refine O_move rfl rfl rfl ?_
 refine O_extract rfl rfl rfl rfl ?_
 refine O_extract rfl rfl rfl rfl ?_
 refine O_assign rfl rfl rfl ?_
 refine O_assign rfl rfl rfl ?_
 refine WL_end [(0, _), (6, _), (7, _)] ⟨rfl, rfl, rfl, trivial⟩ ?_
 refine WP_seq ?_
 refine WP_seq ?_
 refine WP_region ?_
 refine O_move rfl rfl rfl ?_
 refine O_not rfl rfl rfl rfl ?_
 refine WL_end [(0, _), (6, _), (15, _)] ⟨rfl, rfl, rfl, trivial⟩ ?_
 refine WP_condT rfl ?_
 refine WP_seq ?_
 refine WP_region ?_
 refine O_move rfl rfl rfl ?_
 refine O_assign rfl rfl rfl ?_
 refine O_assign rfl rfl rfl ?_
 refine WL_end [(4, _), (5, _)] ⟨rfl, rfl, trivial⟩ ?_
 refine WP_ret ?_
 refine ret2 Try.results31 rfl rfl ?_
 exact ⟨_, rfl, e1, rfl⟩
theorem RDrop_some {w : World} {u : Value} {l : Env} {s : ByteArray} (hs : SlB w u l) (hl : l.length ≤ 1000000000) (hg : egot l s) :
    Calls Try.prog 31 #[u, .string s] w (Ret w fun r w' => ∃ v, r = .tuple #[v, .bool true] ∧ OwB w.heap.size w' v (edrop l s)) := by
 have hlt := egot_lt hg
 refine enter (args := [u, _]) Try.func31 rfl Try.ntmps31 rfl ?_
 refine WP_seq ?_
 refine WP_region ?_
 refine O_assign rfl rfl rfl ?_
 refine O_assign rfl rfl rfl ?_
 refine WL_end [(0, _), (1, _)] ⟨rfl, rfl, trivial⟩ ?_
 refine WP_seq ?_
 refine WP_region ?_
 refine O_move rfl rfl rfl ?_
 refine O_move rfl rfl rfl ?_
 refine O_call enters64 rfl rfl rfl (at_T hs hl hg) (fun v1 w1 e1 h1 => ?_)
 have z1 := e1.size
 try simp only [val_dig] at h1
 obtain rfl := h1
 refine O_move rfl rfl rfl ?_
 refine O_extract rfl rfl rfl rfl ?_
 refine O_extract rfl rfl rfl rfl ?_
 refine O_assign rfl rfl rfl ?_
 refine O_assign rfl rfl rfl ?_
 refine WL_end [(0, _), (6, _), (7, _)] ⟨rfl, rfl, rfl, trivial⟩ ?_
 refine WP_seq ?_
 refine WP_seq ?_
 refine WP_region ?_
 refine O_move rfl rfl rfl ?_
 refine O_not rfl rfl rfl rfl ?_
 refine WL_end [(0, _), (6, _), (15, _)] ⟨rfl, rfl, rfl, trivial⟩ ?_
 refine WP_condF rfl ?_
 refine WP_skip ?_
 refine WP_seq ?_
 have hs0 := (hs.ext e1)
 refine WP_sub [(0, _), (6, _)] ⟨rfl, rfl, trivial⟩ ?_
 refine WP_anyE (XB w1 [] ([] ++ l.take (eat l s)) ([] ++ l.take (eat l s) ++ l.drop (eat l s + 1))) (fun w' => Ext w1 w') 10 [0, 6] [0, 4, 9] [17, 21, 26] mixed rfl (by kernel_rfl) (by kernel_rfl) (fun vs w' h => XB.ext vs w' h) (fun w' h => h) ?_
 apply AnyE_eff 0 [] rfl rfl rfl
 · --
  intro vs y2_ hl' hX
  obtain rfl : vs = [] := List.eq_nil_of_length_eq_zero hl'
  have hX0 : Ext w1 y2_ := hX
  have zy := hX0.size
  refine B_lit0 Ebind rfl rfl (fun v1 w1 o1 e1 => ?_)
  exact WL_nil ⟨_, rfl, hX0.trans e1, o1.mono zy⟩
 apply AnyE_val [0] rfl rfl rfl
 · --
  intro y2_ hy
  refine O_move rfl rfl rfl ?_
  exact WL_nil ⟨rfl, rfl⟩
 apply AnyE_val [6] rfl rfl rfl
 · --
  intro y2_ hy
  refine O_move rfl rfl rfl ?_
  exact WL_nil ⟨rfl, rfl⟩
 apply AnyE_val [18, 19] rfl rfl rfl
 · --
  intro y2_ hy
  refine B_sliceToV Ebind rfl rfl rfl rfl (hs.ext (e1.trans hy)) (eat l s) rfl (by omega) ?_
  exact WL_nil ⟨rfl, rfl⟩
 apply AnyE_eff 1 [17, 20] rfl rfl rfl
 · --
  intro vs y2_ hl' hX
  obtain ⟨v1, rfl⟩ := len1 hl'
  obtain ⟨hX0, hX1⟩ := hX
  have zy := hX0.size
  have hs1 := hs0.ext hX0
  refine B_append Ebind rfl rfl rfl rfl hX1 (SlK.takeB hs1 (eat l s) (by omega)) (by simp only [List.length_nil, List.length_take]; omega) rfl (by omega) (fun v2 w2 o2 r2 k2 => ?_)
  exact WL_nil ⟨_, rfl, hX1.ext_grown r2 hX0 (Nat.le_refl _), o2⟩
 apply AnyE_val [0] rfl rfl rfl
 · --
  intro y2_ hy
  refine O_move rfl rfl rfl ?_
  exact WL_nil ⟨rfl, rfl⟩
 apply AnyE_val [6] rfl rfl rfl
 · --
  intro y2_ hy
  refine O_move rfl rfl rfl ?_
  exact WL_nil ⟨rfl, rfl⟩
 apply AnyE_val [23] rfl rfl rfl
 · --
  intro y2_ hy
  refine O_add (r := ((eat l s + 1 : Nat) : Int)) rfl rfl rfl rfl (by rw [IntKind.wrap_i64]; omega) ?_
  exact WL_nil ⟨rfl, rfl⟩
 apply AnyE_val [22, 24] rfl rfl rfl
 · --
  intro y2_ hy
  refine B_sliceFromV Ebind rfl rfl rfl rfl (hs.ext (e1.trans hy)) (eat l s + 1) rfl (by omega) ?_
  exact WL_nil ⟨rfl, rfl⟩
 apply AnyE_eff 2 [21, 25] rfl rfl rfl
 · --
  intro vs y2_ hl' hX
  obtain ⟨v1, v2, rfl⟩ := len2 hl'
  obtain ⟨hX0, hX1⟩ := hX
  have zy := hX0.size
  have hs1 := hs0.ext hX0
  refine B_append Ebind rfl rfl rfl rfl hX1 (SlK.dropB hs1 (eat l s + 1) (by omega)) (by simp only [List.length_append, List.length_nil, List.length_take, List.length_drop, List.length_singleton]; omega) rfl (by omega) (fun v3 w3 o3 r3 k3 => ?_)
  exact WL_nil ⟨_, rfl, hX1.ext_grown r3 hX0 (Nat.le_refl _), o3⟩
 refine AnyE_nil fun vs y2_ hl' hX => ?_
 obtain ⟨v1, v2, v3, rfl⟩ := len3 hl'
 obtain ⟨hX0, hX1⟩ := hX
 refine O_assign rfl rfl rfl ?_
 refine O_assign rfl rfl rfl ?_
 refine WL_end [(4, _), (5, _)] ⟨rfl, rfl, trivial⟩ ?_
 refine WP_ret ?_
 refine ret2 Try.results31 rfl rfl ?_
 exact ⟨_, rfl, (e1.trans hX0), _, rfl, by rw [egot_edrop hg]; exact hX1.mono (by omega)⟩

theorem same_c {w : World} {u v : Value} {a b : Env} (hs : SlB w u a) (hv : SlB w v b) (hl : a.length ≤ 1000000000) :
    Calls Try.prog 19 #[u, v] w (Ret w fun r _ => r = .bool (decide (a = b))) := by
 refine enter (args := [u, v]) Try.func19 rfl Try.ntmps19 rfl ?_
 refine WP_seq ?_
 refine WP_region ?_
 refine O_assign rfl rfl rfl ?_
 refine WL_end [(0, _), (1, _)] ⟨rfl, rfl, trivial⟩ ?_
 refine WP_seq ?_
 refine WP_seq ?_
 refine WP_region ?_
 refine O_move rfl rfl rfl ?_
 refine B_len Ebind rfl rfl rfl hs ?_
 refine O_move rfl rfl rfl ?_
 refine WL_end [(0, _), (1, _), (7, _), (8, _)] ⟨rfl, rfl, rfl, rfl, trivial⟩ ?_
 refine WP_block ?_
 refine WP_loop (S := Nat) (fun i => [(0, u), (1, v), (7, .int .i64 (a.length : Nat)), (8, .int .i64 (i : Nat))]) (fun i w' => Ext w w' ∧ i ≤ a.length ∧ a.take i = b.take i) (fun i => a.length - i) 0 ⟨rfl, rfl, rfl, rfl, trivial⟩ ⟨Ext.refl _, Nat.zero_le _, by simp⟩ ?_
 rintro i w9 ⟨hE, hi, htk⟩
 have zE := hE.size
 refine WP_seq ?_
 refine WP_region ?_
 refine O_lss rfl rfl rfl rfl rfl ?_
 refine WL_end [(0, _), (1, _), (7, _), (8, _), (9, _)] ⟨rfl, rfl, rfl, rfl, rfl, trivial⟩ ?_
 refine WP_seq ?_
 refine WP_condD rfl (fun c9 => ?_) (fun c9 => ?_)
 · --
  refine WP_skip ?_
  refine WP_seq ?_
  refine WP_block ?_
  refine WP_seq ?_
  refine WP_region ?_
  refine O_move rfl rfl rfl ?_
  refine O_assign rfl rfl rfl ?_
  refine WL_end [(0, _), (1, _), (5, _), (7, _), (8, _)] ⟨rfl, rfl, rfl, rfl, rfl, trivial⟩ ?_
  refine WP_seq ?_
  rcases Classical.em (a.length = b.length ∧ ∃ h1 h2, a[i]'h1 = b[i]'h2) with ⟨hlen, h1, h2, hq⟩ | hno
  rotate_left
  rcases Classical.em (a.length = b.length) with hlen | hlen
  · --
   have h1 : i < a.length := by omega
   have h2 : i < b.length := by omega
   have hq : ¬ a[i]'h1 = b[i]'h2 := fun e => hno ⟨hlen, h1, h2, e⟩
   refine WP_sub [(0, _), (1, _), (5, _), (7, _), (8, _)] ⟨rfl, rfl, rfl, rfl, rfl, trivial⟩ ?_
   refine WP_anyR 14 [0, 1, 5, 7, 8] mixed rfl (by kernel_rfl) ?_
   apply AnyR_val [0] rfl (by kernel_rfl)
   · --
    intro y1 hy1
    have zy1 := hy1.size
    refine AllV_nil ?_
    refine O_move rfl rfl rfl ?_
    exact WL_nil ⟨(Ext.refl _), rfl⟩
   apply AnyR_val [11] rfl (by kernel_rfl)
   · --
    intro y2 hy2
    have zy2 := hy2.size
    refine AllV_v ?_
    refine AllV_nil ?_
    refine B_len Ebind rfl rfl rfl (hs.ext (hE.trans hy2)) ?_
    exact WL_nil ⟨(Ext.refl _), rfl⟩
   apply AnyR_val [1] rfl (by kernel_rfl)
   · --
    intro y3 hy3
    have zy3 := hy3.size
    refine AllV_nil ?_
    refine O_move rfl rfl rfl ?_
    exact WL_nil ⟨(Ext.refl _), rfl⟩
   apply AnyR_val [13] rfl (by kernel_rfl)
   · --
    intro y4 hy4
    have zy4 := hy4.size
    refine AllV_v ?_
    refine AllV_nil ?_
    refine B_len Ebind rfl rfl rfl (hv.ext (hE.trans hy4)) ?_
    exact WL_nil ⟨(Ext.refl _), rfl⟩
   apply AnyR_val [12, 14] rfl (by kernel_rfl)
   · --
    intro y5 hy5
    have zy5 := hy5.size
    refine AllV_v ?_
    refine AllV_v ?_
    refine AllV_nil ?_
    refine O_neq (t := false) rfl rfl rfl rfl (decide_eq_false (by omega)) ?_
    exact WL_nil ⟨(Ext.refl _), rfl⟩
   apply AnyR_val [15] rfl (by kernel_rfl)
   · --
    intro y6 hy6
    have zy6 := hy6.size
    refine AllV_v ?_
    refine AllV_nil ?_
    refine O_move rfl rfl rfl ?_
    exact WL_nil ⟨(Ext.refl _), rfl⟩
   apply AnyR_val [16, 0] rfl (by kernel_rfl)
   · --
    intro y7 hy7
    have zy7 := hy7.size
    refine AllV_v ?_
    refine AllV_nil ?_
    refine O_move rfl rfl rfl ?_
    exact WL_nil ⟨(Ext.refl _), rfl⟩
   apply AnyR_val [16, 5] rfl (by kernel_rfl)
   · --
    intro y8 hy8
    have zy8 := hy8.size
    refine AllV_v ?_
    refine AllV_nil ?_
    refine O_move rfl rfl rfl ?_
    exact WL_nil ⟨(Ext.refl _), rfl⟩
   apply AnyR_val [16, 17, 18] rfl (by kernel_rfl)
   · --
    intro y9 hy9
    have zy9 := hy9.size
    refine AllV_v ?_
    refine AllV_v ?_
    refine AllV_v ?_
    refine AllV_nil ?_
    refine B_index Ebind rfl rfl rfl rfl (hs.ext (hE.trans hy9)) _ rfl h1 (fun _ => ?_)
    exact WL_nil ⟨(Ext.refl _), rfl⟩
   apply AnyR_val [16, 19] rfl (by kernel_rfl)
   · --
    intro y10 hy10
    have zy10 := hy10.size
    refine AllV_v ?_
    refine AllV_v ?_
    refine AllV_nil ?_
    refine K_load S54 rfl rfl rfl (SlB.row (j := _) (hs.ext (hE.trans hy10)) h1) rfl ?_
    exact WL_nil ⟨(Ext.refl _), rfl⟩
   apply AnyR_val [16, 1] rfl (by kernel_rfl)
   · --
    intro y11 hy11
    have zy11 := hy11.size
    refine AllV_v ?_
    refine AllV_nil ?_
    refine O_move rfl rfl rfl ?_
    exact WL_nil ⟨(Ext.refl _), rfl⟩
   apply AnyR_val [16, 5] rfl (by kernel_rfl)
   · --
    intro y12 hy12
    have zy12 := hy12.size
    refine AllV_v ?_
    refine AllV_nil ?_
    refine O_move rfl rfl rfl ?_
    exact WL_nil ⟨(Ext.refl _), rfl⟩
   apply AnyR_val [16, 21, 22] rfl (by kernel_rfl)
   · --
    intro y13 hy13
    have zy13 := hy13.size
    refine AllV_v ?_
    refine AllV_v ?_
    refine AllV_v ?_
    refine AllV_nil ?_
    refine B_index Ebind rfl rfl rfl rfl (hv.ext (hE.trans hy13)) _ rfl h2 (fun _ => ?_)
    exact WL_nil ⟨(Ext.refl _), rfl⟩
   apply AnyR_val [16, 23] rfl (by kernel_rfl)
   · --
    intro y14 hy14
    have zy14 := hy14.size
    refine AllV_v ?_
    refine AllV_v ?_
    refine AllV_nil ?_
    refine K_load S54 rfl rfl rfl (SlB.row (j := _) (hv.ext (hE.trans hy14)) h2) rfl ?_
    exact WL_nil ⟨(Ext.refl _), rfl⟩
   refine AnyR_nil fun y15 hy15 => ?_
   have zy15 := hy15.size
   refine AllV_v ?_
   refine AllV_v ?_
   refine AllV_v ?_
   refine AllV_v ?_
   refine AllV_v ?_
   refine AllV_v ?_
   refine AllV_v ?_
   refine AllV_v ?_
   refine AllV_v ?_
   refine AllV_v ?_
   refine AllV_v ?_
   refine AllV_v ?_
   refine AllV_v ?_
   refine AllV_v ?_
   refine AllV_nil ?_
   refine B_neqB (tb := true) Qbind rfl rfl rfl rfl (by rw [decide_eq_false hq]; rfl) ?_
   refine O_pickF rfl rfl rfl rfl ?_
   refine WL_end [(0, _), (1, _), (7, _), (8, _), (26, _)] ⟨rfl, rfl, rfl, rfl, rfl, trivial⟩ ?_
   refine WP_condT rfl ?_
   refine WP_seq ?_
   refine WP_region ?_
   refine O_assign rfl rfl rfl ?_
   refine WL_end [(4, _)] ⟨rfl, trivial⟩ ?_
   refine WP_ret ?_
   refine inBlk_ret ?_
   refine inBlk_ret ?_
   refine ret1 Try.results19 rfl ?_
   exact ⟨_, rfl, (hE.trans hy15), by rw [decide_eq_false]; rintro rfl; exact hq rfl⟩
  · --
   skip
   refine WP_sub [(0, _), (1, _), (5, _), (7, _), (8, _)] ⟨rfl, rfl, rfl, rfl, rfl, trivial⟩ ?_
   refine WP_anyR 14 [0, 1, 5, 7, 8] mixed rfl (by kernel_rfl) ?_
   apply AnyR_val [0] rfl (by kernel_rfl)
   · --
    intro y16 hy16
    have zy16 := hy16.size
    refine AllV_nil ?_
    refine O_move rfl rfl rfl ?_
    exact WL_nil ⟨(Ext.refl _), rfl⟩
   apply AnyR_val [11] rfl (by kernel_rfl)
   · --
    intro y17 hy17
    have zy17 := hy17.size
    refine AllV_v ?_
    refine AllV_nil ?_
    refine B_len Ebind rfl rfl rfl (hs.ext (hE.trans hy17)) ?_
    exact WL_nil ⟨(Ext.refl _), rfl⟩
   apply AnyR_val [1] rfl (by kernel_rfl)
   · --
    intro y18 hy18
    have zy18 := hy18.size
    refine AllV_nil ?_
    refine O_move rfl rfl rfl ?_
    exact WL_nil ⟨(Ext.refl _), rfl⟩
   apply AnyR_val [13] rfl (by kernel_rfl)
   · --
    intro y19 hy19
    have zy19 := hy19.size
    refine AllV_v ?_
    refine AllV_nil ?_
    refine B_len Ebind rfl rfl rfl (hv.ext (hE.trans hy19)) ?_
    exact WL_nil ⟨(Ext.refl _), rfl⟩
   apply AnyR_val [12, 14] rfl (by kernel_rfl)
   · --
    intro y20 hy20
    have zy20 := hy20.size
    refine AllV_v ?_
    refine AllV_v ?_
    refine AllV_nil ?_
    refine O_neq (t := true) rfl rfl rfl rfl (decide_eq_true (by omega)) ?_
    exact WL_nil ⟨(Ext.refl _), rfl⟩
   apply AnyR_val [15] rfl (by kernel_rfl)
   · --
    intro y21 hy21
    have zy21 := hy21.size
    refine AllV_v ?_
    refine AllV_nil ?_
    refine O_move rfl rfl rfl ?_
    exact WL_nil ⟨(Ext.refl _), rfl⟩
   apply AnyR_val [16, 0] rfl (by kernel_rfl)
   · --
    intro y22 hy22
    have zy22 := hy22.size
    refine AllV_v ?_
    refine AllV_nil ?_
    refine O_skip rfl rfl ?_
    exact WL_nil ⟨(Ext.refl _), rfl⟩
   apply AnyR_val [16, 5] rfl (by kernel_rfl)
   · --
    intro y23 hy23
    have zy23 := hy23.size
    refine AllV_v ?_
    refine AllV_nil ?_
    refine O_skip rfl rfl ?_
    exact WL_nil ⟨(Ext.refl _), rfl⟩
   apply AnyR_val [16, 17, 18] rfl (by kernel_rfl)
   · --
    intro y24 hy24
    have zy24 := hy24.size
    refine AllV_v ?_
    refine AllV_v ?_
    refine AllV_v ?_
    refine AllV_nil ?_
    refine O_skip rfl rfl ?_
    exact WL_nil ⟨(Ext.refl _), rfl⟩
   apply AnyR_val [16, 19] rfl (by kernel_rfl)
   · --
    intro y25 hy25
    have zy25 := hy25.size
    refine AllV_v ?_
    refine AllV_v ?_
    refine AllV_nil ?_
    refine O_skip rfl rfl ?_
    exact WL_nil ⟨(Ext.refl _), rfl⟩
   apply AnyR_val [16, 1] rfl (by kernel_rfl)
   · --
    intro y26 hy26
    have zy26 := hy26.size
    refine AllV_v ?_
    refine AllV_nil ?_
    refine O_skip rfl rfl ?_
    exact WL_nil ⟨(Ext.refl _), rfl⟩
   apply AnyR_val [16, 5] rfl (by kernel_rfl)
   · --
    intro y27 hy27
    have zy27 := hy27.size
    refine AllV_v ?_
    refine AllV_nil ?_
    refine O_skip rfl rfl ?_
    exact WL_nil ⟨(Ext.refl _), rfl⟩
   apply AnyR_val [16, 21, 22] rfl (by kernel_rfl)
   · --
    intro y28 hy28
    have zy28 := hy28.size
    refine AllV_v ?_
    refine AllV_v ?_
    refine AllV_v ?_
    refine AllV_nil ?_
    refine O_skip rfl rfl ?_
    exact WL_nil ⟨(Ext.refl _), rfl⟩
   apply AnyR_val [16, 23] rfl (by kernel_rfl)
   · --
    intro y29 hy29
    have zy29 := hy29.size
    refine AllV_v ?_
    refine AllV_v ?_
    refine AllV_nil ?_
    refine O_skip rfl rfl ?_
    exact WL_nil ⟨(Ext.refl _), rfl⟩
   refine AnyR_nil fun y30 hy30 => ?_
   have zy30 := hy30.size
   refine AllV_v ?_
   refine AllV_v ?_
   refine AllV_v ?_
   refine AllV_v ?_
   refine AllV_v ?_
   refine AllV_v ?_
   refine AllV_v ?_
   refine AllV_v ?_
   refine AllV_v ?_
   refine AllV_v ?_
   refine AllV_v ?_
   refine AllV_v ?_
   refine AllV_v ?_
   refine AllV_v ?_
   refine AllV_nil ?_
   refine O_skip rfl rfl ?_
   refine O_pickT rfl rfl rfl rfl ?_
   refine WL_end [(0, _), (1, _), (7, _), (8, _), (26, _)] ⟨rfl, rfl, rfl, rfl, rfl, trivial⟩ ?_
   refine WP_condT rfl ?_
   refine WP_seq ?_
   refine WP_region ?_
   refine O_assign rfl rfl rfl ?_
   refine WL_end [(4, _)] ⟨rfl, trivial⟩ ?_
   refine WP_ret ?_
   refine inBlk_ret ?_
   refine inBlk_ret ?_
   refine ret1 Try.results19 rfl ?_
   exact ⟨_, rfl, (hE.trans hy30), by rw [decide_eq_false]; rintro rfl; exact hlen rfl⟩
  · --
   skip
   refine WP_sub [(0, _), (1, _), (5, _), (7, _), (8, _)] ⟨rfl, rfl, rfl, rfl, rfl, trivial⟩ ?_
   refine WP_anyR 14 [0, 1, 5, 7, 8] mixed rfl (by kernel_rfl) ?_
   apply AnyR_val [0] rfl (by kernel_rfl)
   · --
    intro y31 hy31
    have zy31 := hy31.size
    refine AllV_nil ?_
    refine O_move rfl rfl rfl ?_
    exact WL_nil ⟨(Ext.refl _), rfl⟩
   apply AnyR_val [11] rfl (by kernel_rfl)
   · --
    intro y32 hy32
    have zy32 := hy32.size
    refine AllV_v ?_
    refine AllV_nil ?_
    refine B_len Ebind rfl rfl rfl (hs.ext (hE.trans hy32)) ?_
    exact WL_nil ⟨(Ext.refl _), rfl⟩
   apply AnyR_val [1] rfl (by kernel_rfl)
   · --
    intro y33 hy33
    have zy33 := hy33.size
    refine AllV_nil ?_
    refine O_move rfl rfl rfl ?_
    exact WL_nil ⟨(Ext.refl _), rfl⟩
   apply AnyR_val [13] rfl (by kernel_rfl)
   · --
    intro y34 hy34
    have zy34 := hy34.size
    refine AllV_v ?_
    refine AllV_nil ?_
    refine B_len Ebind rfl rfl rfl (hv.ext (hE.trans hy34)) ?_
    exact WL_nil ⟨(Ext.refl _), rfl⟩
   apply AnyR_val [12, 14] rfl (by kernel_rfl)
   · --
    intro y35 hy35
    have zy35 := hy35.size
    refine AllV_v ?_
    refine AllV_v ?_
    refine AllV_nil ?_
    refine O_neq (t := false) rfl rfl rfl rfl (decide_eq_false (by omega)) ?_
    exact WL_nil ⟨(Ext.refl _), rfl⟩
   apply AnyR_val [15] rfl (by kernel_rfl)
   · --
    intro y36 hy36
    have zy36 := hy36.size
    refine AllV_v ?_
    refine AllV_nil ?_
    refine O_move rfl rfl rfl ?_
    exact WL_nil ⟨(Ext.refl _), rfl⟩
   apply AnyR_val [16, 0] rfl (by kernel_rfl)
   · --
    intro y37 hy37
    have zy37 := hy37.size
    refine AllV_v ?_
    refine AllV_nil ?_
    refine O_move rfl rfl rfl ?_
    exact WL_nil ⟨(Ext.refl _), rfl⟩
   apply AnyR_val [16, 5] rfl (by kernel_rfl)
   · --
    intro y38 hy38
    have zy38 := hy38.size
    refine AllV_v ?_
    refine AllV_nil ?_
    refine O_move rfl rfl rfl ?_
    exact WL_nil ⟨(Ext.refl _), rfl⟩
   apply AnyR_val [16, 17, 18] rfl (by kernel_rfl)
   · --
    intro y39 hy39
    have zy39 := hy39.size
    refine AllV_v ?_
    refine AllV_v ?_
    refine AllV_v ?_
    refine AllV_nil ?_
    refine B_index Ebind rfl rfl rfl rfl (hs.ext (hE.trans hy39)) _ rfl h1 (fun _ => ?_)
    exact WL_nil ⟨(Ext.refl _), rfl⟩
   apply AnyR_val [16, 19] rfl (by kernel_rfl)
   · --
    intro y40 hy40
    have zy40 := hy40.size
    refine AllV_v ?_
    refine AllV_v ?_
    refine AllV_nil ?_
    refine K_load S54 rfl rfl rfl (SlB.row (j := _) (hs.ext (hE.trans hy40)) h1) rfl ?_
    exact WL_nil ⟨(Ext.refl _), rfl⟩
   apply AnyR_val [16, 1] rfl (by kernel_rfl)
   · --
    intro y41 hy41
    have zy41 := hy41.size
    refine AllV_v ?_
    refine AllV_nil ?_
    refine O_move rfl rfl rfl ?_
    exact WL_nil ⟨(Ext.refl _), rfl⟩
   apply AnyR_val [16, 5] rfl (by kernel_rfl)
   · --
    intro y42 hy42
    have zy42 := hy42.size
    refine AllV_v ?_
    refine AllV_nil ?_
    refine O_move rfl rfl rfl ?_
    exact WL_nil ⟨(Ext.refl _), rfl⟩
   apply AnyR_val [16, 21, 22] rfl (by kernel_rfl)
   · --
    intro y43 hy43
    have zy43 := hy43.size
    refine AllV_v ?_
    refine AllV_v ?_
    refine AllV_v ?_
    refine AllV_nil ?_
    refine B_index Ebind rfl rfl rfl rfl (hv.ext (hE.trans hy43)) _ rfl h2 (fun _ => ?_)
    exact WL_nil ⟨(Ext.refl _), rfl⟩
   apply AnyR_val [16, 23] rfl (by kernel_rfl)
   · --
    intro y44 hy44
    have zy44 := hy44.size
    refine AllV_v ?_
    refine AllV_v ?_
    refine AllV_nil ?_
    refine K_load S54 rfl rfl rfl (SlB.row (j := _) (hv.ext (hE.trans hy44)) h2) rfl ?_
    exact WL_nil ⟨(Ext.refl _), rfl⟩
   refine AnyR_nil fun y45 hy45 => ?_
   have zy45 := hy45.size
   refine AllV_v ?_
   refine AllV_v ?_
   refine AllV_v ?_
   refine AllV_v ?_
   refine AllV_v ?_
   refine AllV_v ?_
   refine AllV_v ?_
   refine AllV_v ?_
   refine AllV_v ?_
   refine AllV_v ?_
   refine AllV_v ?_
   refine AllV_v ?_
   refine AllV_v ?_
   refine AllV_v ?_
   refine AllV_nil ?_
   refine B_neqB (tb := false) Qbind rfl rfl rfl rfl (by rw [decide_eq_true hq]; rfl) ?_
   refine O_pickF rfl rfl rfl rfl ?_
   refine WL_end [(0, _), (1, _), (7, _), (8, _), (26, _)] ⟨rfl, rfl, rfl, rfl, rfl, trivial⟩ ?_
   refine WP_condF rfl ?_
   refine WP_skip ?_
   refine WP_region ?_
   refine O_add rfl rfl rfl rfl (wrap_i64_id (by omega) (by omega)) ?_
   refine O_move rfl rfl rfl ?_
   refine WL_end [(0, _), (1, _), (7, _), (8, _)] ⟨rfl, rfl, rfl, rfl, trivial⟩ ?_
   exact ⟨i + 1, ⟨rfl, rfl, rfl, rfl, trivial⟩, ⟨(hE.trans hy45), by omega, same_step htk (by omega) (by omega) hq⟩, by omega⟩
 · --
  refine WP_exit ?_
  refine inBlk_hit ?_
  refine WP_seq ?_
  refine WP_region ?_
  refine O_move rfl rfl rfl ?_
  refine B_len Ebind rfl rfl rfl (hs.ext hE) ?_
  refine O_move rfl rfl rfl ?_
  refine B_len Ebind rfl rfl rfl (hv.ext hE) ?_
  refine O_eql rfl rfl rfl rfl rfl ?_
  refine O_assign rfl rfl rfl ?_
  refine WL_end [(4, _)] ⟨rfl, trivial⟩ ?_
  refine WP_ret ?_
  refine ret1 Try.results19 rfl ?_
  exact ⟨_, rfl, hE, by rw [same_end htk c9 hi]⟩

end Go.Proofs.Ytoccimigjjndpaa
