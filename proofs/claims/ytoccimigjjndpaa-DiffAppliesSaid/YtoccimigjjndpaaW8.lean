/-
  Walks.
-/
import Derived.Test.YtoccimigjjndpaaW5
set_option linter.unusedVariables false
set_option linter.unusedSimpArgs false
set_option maxRecDepth 100000
namespace Go.Proofs.Ytoccimigjjndpaa
open Go Go.RowKit
def setB (c : Ch) : Bool := decide (c.1 = 1) && (decide (0 ≤ c.2.2.2) && (decide (-1 ≤ c.2.2.1) && !decide (c.2.2.1 = c.2.2.2)))
def dropB (c : Ch) : Bool := decide (c.1 = 2) && (decide (0 ≤ c.2.2.1) && decide (c.2.2.2 = -1))
theorem okB_sd (c : Ch) : okB c = (setB c || dropB c) := by
  unfold okB setB dropB
  by_cases h1 : c.1 = 1
  · have h2 : ¬ c.1 = 2 := by omega
    rw [if_pos h1, Bool.eq_iff_iff]
    simp [h1]
    omega
  · by_cases h2 : c.1 = 2
    · rw [if_neg h1, if_pos h2, Bool.eq_iff_iff]
      simp [h2]
    · rw [if_neg h1, if_neg h2]
      simp [h1, h2]

set_option maxHeartbeats 1000000 in
theorem rcvalid_c {w : World} {v : Value} {l : List Ch} (hs : SlC w v l) (hl : l.length ≤ 1000000000) :
    Calls Try.prog 51 #[v] w (Ret w fun r _ => r = .bool (validB l)) := by
 refine enter (args := [v]) Try.func51 rfl Try.ntmps51 rfl ?_
 refine WP_seq ?_
 refine WP_region ?_
 refine O_assign rfl rfl rfl ?_
 refine WL_end [(0, _)] ⟨rfl, trivial⟩ ?_
 refine WP_seq ?_
 refine WP_seq ?_
 refine WP_region ?_
 refine O_move rfl rfl rfl ?_
 refine C_len Echange rfl rfl rfl hs ?_
 refine O_move rfl rfl rfl ?_
 refine WL_end [(0, _), (7, _), (8, _), (9, _)] ⟨rfl, rfl, rfl, rfl, trivial⟩ ?_
 refine WP_block ?_
 refine WP_loop (S := Nat) (fun i => [(0, v), (7, v), (8, .int .i64 (l.length : Nat)), (9, .int .i64 (i : Nat))]) (fun i w' => Ext w w' ∧ i ≤ l.length ∧ ∀ j, j < i → stepB l j = true) (fun i => l.length - i) 0 ⟨rfl, rfl, rfl, rfl, trivial⟩ ⟨(Ext.refl _), Nat.zero_le _, fun j hj => by omega⟩ ?_
 rintro i w9 ⟨hE, hi, hal⟩
 have zE := hE.size
 refine WP_seq ?_
 refine WP_region ?_
 refine O_lss rfl rfl rfl rfl rfl ?_
 refine WL_end [(0, _), (7, _), (8, _), (9, _), (10, _)] ⟨rfl, rfl, rfl, rfl, rfl, trivial⟩ ?_
 refine WP_seq ?_
 refine WP_condD rfl (fun c10 => ?_) (fun c10 => ?_)
 · --
  refine WP_skip ?_
  refine WP_seq ?_
  refine WP_block ?_
  refine WP_seq ?_
  have hilt : i < l.length := by omega
  · --
   skip
   refine WP_region ?_
   refine O_move rfl rfl rfl ?_
   refine C_index Echange rfl rfl rfl rfl (hs.ext hE) i rfl hilt (fun _ => ?_)
   refine K_load S74 rfl rfl rfl (SlC.row (j := i) (hs.ext hE) hilt) rfl ?_
   refine O_alloc S74 rfl rfl (fun g1 w1 b1 e1 gl1 gh1 => ?_)
   have z1 := e1.size
   refine O_assign rfl rfl rfl ?_
   refine O_storeA (cs' := [_, _, _, _]) S74 rfl rfl rfl b1 rfl rfl (one_cons rfl (one_cons rfl (one_cons rfl (one_cons rfl one_nil)))) rfl (fun w2 b2 q2 => ?_)
   have z2 := Nat.le_of_eq q2.size.symm
   have e2 : Ext w w2 := q2.ext (hE.trans e1) (by omega)
   refine WL_end [(0, _), (3, _), (4, _), (7, _), (8, _), (9, _)] ⟨rfl, rfl, rfl, rfl, rfl, rfl, trivial⟩ ?_
   refine WP_seq ?_
   refine WP_joinK (S := Bool) (fun b => [(0, v), (3, .int .i64 (i : Nat)), (4, .pointer (some ⟨g1, 0, none⟩)), (5, .bool b), (7, v), (8, .int .i64 (l.length : Nat)), (9, .int .i64 (i : Nat))]) (fun b w' => w2 = w' ∧ b = setB l[i]) ?_ ?_
   · --
    refine WP_region ?_
    refine O_field F74_0 rfl rfl rfl ?_
    refine O_loadC Try.underlying3 rfl rfl rfl rfl b2 rfl ?_
    refine O_eql rfl rfl rfl rfl rfl ?_
    refine O_move rfl rfl rfl ?_
    refine WL_dec 17 rfl (fun g17 => ?_) (fun g17 => ?_)
    · --
     refine O_field F74_3 rfl rfl rfl ?_
     refine O_loadC Try.underlying3 rfl rfl rfl rfl b2 rfl ?_
     refine O_geq rfl rfl rfl rfl rfl ?_
     refine O_pickT rfl rfl rfl rfl ?_
     refine O_move rfl rfl rfl ?_
     refine WL_dec 22 rfl (fun g22 => ?_) (fun g22 => ?_)
     · --
      refine O_field F74_2 rfl rfl rfl ?_
      refine O_loadC Try.underlying3 rfl rfl rfl rfl b2 rfl ?_
      refine O_geq rfl rfl rfl rfl rfl ?_
      refine O_pickT rfl rfl rfl rfl ?_
      refine O_move rfl rfl rfl ?_
      refine WL_dec 27 rfl (fun g27 => ?_) (fun g27 => ?_)
      · --
       refine O_field F74_2 rfl rfl rfl ?_
       refine O_loadC Try.underlying3 rfl rfl rfl rfl b2 rfl ?_
       refine O_field F74_3 rfl rfl rfl ?_
       refine O_loadC Try.underlying3 rfl rfl rfl rfl b2 rfl ?_
       refine O_neq rfl rfl rfl rfl rfl ?_
       refine O_pickT rfl rfl rfl rfl ?_
       refine O_assign rfl rfl rfl ?_
       refine WL_end [(0, _), (3, _), (4, _), (5, _), (7, _), (8, _), (9, _)] ⟨rfl, rfl, rfl, rfl, rfl, rfl, rfl, trivial⟩ ?_
       exact ⟨_, ⟨rfl, rfl, rfl, rfl, rfl, rfl, rfl, trivial⟩, rfl, by unfold setB; first | (simp_all; done) | (simp_all; omega)⟩
      · --
       refine O_skip rfl rfl ?_
       refine O_skip rfl rfl ?_
       refine O_skip rfl rfl ?_
       refine O_skip rfl rfl ?_
       refine O_skip rfl rfl ?_
       refine O_pickF rfl rfl rfl rfl ?_
       refine O_assign rfl rfl rfl ?_
       refine WL_end [(0, _), (3, _), (4, _), (5, _), (7, _), (8, _), (9, _)] ⟨rfl, rfl, rfl, rfl, rfl, rfl, rfl, trivial⟩ ?_
       exact ⟨_, ⟨rfl, rfl, rfl, rfl, rfl, rfl, rfl, trivial⟩, rfl, by unfold setB; first | (simp_all; done) | (simp_all; omega)⟩
     · --
      refine O_skip rfl rfl ?_
      refine O_skip rfl rfl ?_
      refine O_skip rfl rfl ?_
      refine O_pickF rfl rfl rfl rfl ?_
      refine O_move rfl rfl rfl ?_
      refine O_skip rfl rfl ?_
      refine O_skip rfl rfl ?_
      refine O_skip rfl rfl ?_
      refine O_skip rfl rfl ?_
      refine O_skip rfl rfl ?_
      refine O_pickF rfl rfl rfl rfl ?_
      refine O_assign rfl rfl rfl ?_
      refine WL_end [(0, _), (3, _), (4, _), (5, _), (7, _), (8, _), (9, _)] ⟨rfl, rfl, rfl, rfl, rfl, rfl, rfl, trivial⟩ ?_
      exact ⟨_, ⟨rfl, rfl, rfl, rfl, rfl, rfl, rfl, trivial⟩, rfl, by unfold setB; first | (simp_all; done) | (simp_all; omega)⟩
    · --
     refine O_skip rfl rfl ?_
     refine O_skip rfl rfl ?_
     refine O_skip rfl rfl ?_
     refine O_pickF rfl rfl rfl rfl ?_
     refine O_move rfl rfl rfl ?_
     refine O_skip rfl rfl ?_
     refine O_skip rfl rfl ?_
     refine O_skip rfl rfl ?_
     refine O_pickF rfl rfl rfl rfl ?_
     refine O_move rfl rfl rfl ?_
     refine O_skip rfl rfl ?_
     refine O_skip rfl rfl ?_
     refine O_skip rfl rfl ?_
     refine O_skip rfl rfl ?_
     refine O_skip rfl rfl ?_
     refine O_pickF rfl rfl rfl rfl ?_
     refine O_assign rfl rfl rfl ?_
     refine WL_end [(0, _), (3, _), (4, _), (5, _), (7, _), (8, _), (9, _)] ⟨rfl, rfl, rfl, rfl, rfl, rfl, rfl, trivial⟩ ?_
     exact ⟨_, ⟨rfl, rfl, rfl, rfl, rfl, rfl, rfl, trivial⟩, rfl, by unfold setB; first | (simp_all; done) | (simp_all; omega)⟩
   · --
    rintro b _ ⟨rfl, hb⟩
    refine WP_seq ?_
    refine WP_joinK (S := Bool) (fun bd => [(0, v), (3, .int .i64 (i : Nat)), (4, .pointer (some ⟨g1, 0, none⟩)), (5, .bool b), (6, .bool bd), (7, v), (8, .int .i64 (l.length : Nat)), (9, .int .i64 (i : Nat))]) (fun bd w' => w2 = w' ∧ bd = dropB l[i]) ?_ ?_
    · --
     refine WP_region ?_
     refine O_field F74_0 rfl rfl rfl ?_
     refine O_loadC Try.underlying3 rfl rfl rfl rfl b2 rfl ?_
     refine O_eql rfl rfl rfl rfl rfl ?_
     refine O_move rfl rfl rfl ?_
     refine WL_dec 37 rfl (fun g37 => ?_) (fun g37 => ?_)
     · --
      refine O_field F74_2 rfl rfl rfl ?_
      refine O_loadC Try.underlying3 rfl rfl rfl rfl b2 rfl ?_
      refine O_geq rfl rfl rfl rfl rfl ?_
      refine O_pickT rfl rfl rfl rfl ?_
      refine O_move rfl rfl rfl ?_
      refine WL_dec 42 rfl (fun g42 => ?_) (fun g42 => ?_)
      · --
       refine O_field F74_3 rfl rfl rfl ?_
       refine O_loadC Try.underlying3 rfl rfl rfl rfl b2 rfl ?_
       refine O_eql rfl rfl rfl rfl rfl ?_
       refine O_pickT rfl rfl rfl rfl ?_
       refine O_assign rfl rfl rfl ?_
       refine WL_end [(0, _), (3, _), (4, _), (5, _), (6, _), (7, _), (8, _), (9, _)] ⟨rfl, rfl, rfl, rfl, rfl, rfl, rfl, rfl, trivial⟩ ?_
       exact ⟨_, ⟨rfl, rfl, rfl, rfl, rfl, rfl, rfl, rfl, trivial⟩, rfl, by unfold dropB; first | (simp_all; done) | (simp_all; omega)⟩
      · --
       refine O_skip rfl rfl ?_
       refine O_skip rfl rfl ?_
       refine O_skip rfl rfl ?_
       refine O_pickF rfl rfl rfl rfl ?_
       refine O_assign rfl rfl rfl ?_
       refine WL_end [(0, _), (3, _), (4, _), (5, _), (6, _), (7, _), (8, _), (9, _)] ⟨rfl, rfl, rfl, rfl, rfl, rfl, rfl, rfl, trivial⟩ ?_
       exact ⟨_, ⟨rfl, rfl, rfl, rfl, rfl, rfl, rfl, rfl, trivial⟩, rfl, by unfold dropB; first | (simp_all; done) | (simp_all; omega)⟩
     · --
      refine O_skip rfl rfl ?_
      refine O_skip rfl rfl ?_
      refine O_skip rfl rfl ?_
      refine O_pickF rfl rfl rfl rfl ?_
      refine O_move rfl rfl rfl ?_
      refine O_skip rfl rfl ?_
      refine O_skip rfl rfl ?_
      refine O_skip rfl rfl ?_
      refine O_pickF rfl rfl rfl rfl ?_
      refine O_assign rfl rfl rfl ?_
      refine WL_end [(0, _), (3, _), (4, _), (5, _), (6, _), (7, _), (8, _), (9, _)] ⟨rfl, rfl, rfl, rfl, rfl, rfl, rfl, rfl, trivial⟩ ?_
      exact ⟨_, ⟨rfl, rfl, rfl, rfl, rfl, rfl, rfl, rfl, trivial⟩, rfl, by unfold dropB; first | (simp_all; done) | (simp_all; omega)⟩
    · --
     rintro bd _ ⟨rfl, hbd⟩
     refine WP_seq ?_
     have hlt1 : i - 1 < l.length := by omega
     by_cases h0 : 0 < i
     all_goals rcases b with _ | _
     all_goals rcases bd with _ | _
     · --
      skip
      refine WP_sub [(0, _), (3, _), (4, _), (5, _), (6, _), (7, _), (8, _), (9, _)] ⟨rfl, rfl, rfl, rfl, rfl, rfl, rfl, rfl, trivial⟩ ?_
      refine WP_anyR 18 [0, 3, 4, 5, 6, 7, 8, 9] mixed rfl (by kernel_rfl) ?_
      apply AnyR_val [5] rfl (by kernel_rfl)
      · --
       intro y3 hy3
       have zy3 := hy3.size
       refine AllV_nil ?_
       refine O_move rfl rfl rfl ?_
       exact WL_nil ⟨(Ext.refl _), rfl⟩
      apply AnyR_val [47] rfl (by kernel_rfl)
      · --
       intro y4 hy4
       have zy4 := hy4.size
       refine AllV_v ?_
       refine AllV_nil ?_
       refine O_not rfl rfl rfl rfl ?_
       exact WL_nil ⟨(Ext.refl _), rfl⟩
      apply AnyR_val [48] rfl (by kernel_rfl)
      · --
       intro y5 hy5
       have zy5 := hy5.size
       refine AllV_v ?_
       refine AllV_nil ?_
       refine O_move rfl rfl rfl ?_
       exact WL_nil ⟨(Ext.refl _), rfl⟩
      apply AnyR_val [49, 6] rfl (by kernel_rfl)
      · --
       intro y6 hy6
       have zy6 := hy6.size
       refine AllV_v ?_
       refine AllV_nil ?_
       refine O_move rfl rfl rfl ?_
       exact WL_nil ⟨(Ext.refl _), rfl⟩
      apply AnyR_val [49, 50] rfl (by kernel_rfl)
      · --
       intro y7 hy7
       have zy7 := hy7.size
       refine AllV_v ?_
       refine AllV_v ?_
       refine AllV_nil ?_
       refine O_not rfl rfl rfl rfl ?_
       exact WL_nil ⟨(Ext.refl _), rfl⟩
      apply AnyR_val [49, 51] rfl (by kernel_rfl)
      · --
       intro y8 hy8
       have zy8 := hy8.size
       refine AllV_v ?_
       refine AllV_v ?_
       refine AllV_nil ?_
       refine O_pickT rfl rfl rfl rfl ?_
       exact WL_nil ⟨(Ext.refl _), rfl⟩
      apply AnyR_val [52] rfl (by kernel_rfl)
      · --
       intro y9 hy9
       have zy9 := hy9.size
       refine AllV_v ?_
       refine AllV_nil ?_
       refine O_move rfl rfl rfl ?_
       exact WL_nil ⟨(Ext.refl _), rfl⟩
      apply AnyR_val [53, 3] rfl (by kernel_rfl)
      · --
       intro y10 hy10
       have zy10 := hy10.size
       refine AllV_v ?_
       refine AllV_nil ?_
       refine O_skip rfl rfl ?_
       exact WL_nil ⟨(Ext.refl _), rfl⟩
      apply AnyR_val [53, 54] rfl (by kernel_rfl)
      · --
       intro y11 hy11
       have zy11 := hy11.size
       refine AllV_v ?_
       refine AllV_v ?_
       refine AllV_nil ?_
       refine O_skip rfl rfl ?_
       exact WL_nil ⟨(Ext.refl _), rfl⟩
      apply AnyR_val [53, 55] rfl (by kernel_rfl)
      · --
       intro y12 hy12
       have zy12 := hy12.size
       refine AllV_v ?_
       refine AllV_v ?_
       refine AllV_nil ?_
       refine O_skip rfl rfl ?_
       exact WL_nil ⟨(Ext.refl _), rfl⟩
      apply AnyR_val [56, 0] rfl (by kernel_rfl)
      · --
       intro y13 hy13
       have zy13 := hy13.size
       refine AllV_v ?_
       refine AllV_nil ?_
       refine O_skipU rfl rfl rfl ?_
       exact WL_nil ⟨(Ext.refl _), rfl⟩
      apply AnyR_val [56, 3] rfl (by kernel_rfl)
      · --
       intro y14 hy14
       have zy14 := hy14.size
       refine AllV_v ?_
       refine AllV_nil ?_
       refine O_skipU rfl rfl rfl ?_
       exact WL_nil ⟨(Ext.refl _), rfl⟩
      apply AnyR_val [56, 58] rfl (by kernel_rfl)
      · --
       intro y15 hy15
       have zy15 := hy15.size
       refine AllV_v ?_
       refine AllV_v ?_
       refine AllV_nil ?_
       refine O_skipU rfl rfl rfl ?_
       exact WL_nil ⟨(Ext.refl _), rfl⟩
      apply AnyR_val [56, 57, 59] rfl (by kernel_rfl)
      · --
       intro y16 hy16
       have zy16 := hy16.size
       refine AllV_v ?_
       refine AllV_v ?_
       refine AllV_v ?_
       refine AllV_nil ?_
       refine O_skipU rfl rfl rfl ?_
       exact WL_nil ⟨(Ext.refl _), rfl⟩
      apply AnyR_val [56, 60] rfl (by kernel_rfl)
      · --
       intro y17 hy17
       have zy17 := hy17.size
       refine AllV_v ?_
       refine AllV_v ?_
       refine AllV_nil ?_
       refine O_skipU rfl rfl rfl ?_
       exact WL_nil ⟨(Ext.refl _), rfl⟩
      apply AnyR_val [56, 61] rfl (by kernel_rfl)
      · --
       intro y18 hy18
       have zy18 := hy18.size
       refine AllV_v ?_
       refine AllV_v ?_
       refine AllV_nil ?_
       refine O_skipU rfl rfl rfl ?_
       exact WL_nil ⟨(Ext.refl _), rfl⟩
      apply AnyR_val [56, 4] rfl (by kernel_rfl)
      · --
       intro y19 hy19
       have zy19 := hy19.size
       refine AllV_v ?_
       refine AllV_nil ?_
       refine O_skipU rfl rfl rfl ?_
       exact WL_nil ⟨(Ext.refl _), rfl⟩
      apply AnyR_val [56, 63] rfl (by kernel_rfl)
      · --
       intro y20 hy20
       have zy20 := hy20.size
       refine AllV_v ?_
       refine AllV_v ?_
       refine AllV_nil ?_
       refine O_skipU rfl rfl rfl ?_
       exact WL_nil ⟨(Ext.refl _), rfl⟩
      refine AnyR_nil fun y21 hy21 => ?_
      have zy21 := hy21.size
      refine AllV_v ?_
      refine AllV_v ?_
      refine AllV_v ?_
      refine AllV_v ?_
      refine AllV_v ?_
      refine AllV_v ?_
      refine AllV_v ?_
      refine AllV_v ?_
      refine AllV_v ?_
      refine AllV_v ?_
      refine AllV_v ?_
      refine AllV_v ?_
      refine AllV_v ?_
      refine AllV_v ?_
      refine AllV_v ?_
      refine AllV_v ?_
      refine AllV_v ?_
      refine AllV_v ?_
      refine AllV_nil ?_
      refine O_skipU rfl rfl rfl ?_
      refine O_skip rfl rfl ?_
      refine O_pickT rfl rfl rfl rfl ?_
      refine WL_end [(0, _), (7, _), (8, _), (9, _), (67, _)] ⟨rfl, rfl, rfl, rfl, rfl, trivial⟩ ?_
      refine WP_condT rfl ?_
      refine WP_seq ?_
      refine WP_region ?_
      refine O_assign rfl rfl rfl ?_
      refine WL_end [(2, _)] ⟨rfl, trivial⟩ ?_
      refine WP_ret ?_
      refine inBlk_ret ?_
      refine inBlk_ret ?_
      refine ret1 Try.results51 rfl ?_
      first
        | exact ⟨_, rfl, (e2.trans hy21), by rw [validB_T hal (by omega)]⟩
        | (have hst : stepB l i = false := by
             rw [stepB_at hilt, okB_sd, ← hb, ← hbd]
             first | (simp_all; done) | (simp_all; omega)
           exact ⟨_, rfl, (e2.trans hy21), by rw [validB_F hilt hst]⟩)
     · --
      skip
      refine WP_sub [(0, _), (3, _), (4, _), (5, _), (6, _), (7, _), (8, _), (9, _)] ⟨rfl, rfl, rfl, rfl, rfl, rfl, rfl, rfl, trivial⟩ ?_
      refine WP_anyR 18 [0, 3, 4, 5, 6, 7, 8, 9] mixed rfl (by kernel_rfl) ?_
      apply AnyR_val [5] rfl (by kernel_rfl)
      · --
       intro y22 hy22
       have zy22 := hy22.size
       refine AllV_nil ?_
       refine O_move rfl rfl rfl ?_
       exact WL_nil ⟨(Ext.refl _), rfl⟩
      apply AnyR_val [47] rfl (by kernel_rfl)
      · --
       intro y23 hy23
       have zy23 := hy23.size
       refine AllV_v ?_
       refine AllV_nil ?_
       refine O_not rfl rfl rfl rfl ?_
       exact WL_nil ⟨(Ext.refl _), rfl⟩
      apply AnyR_val [48] rfl (by kernel_rfl)
      · --
       intro y24 hy24
       have zy24 := hy24.size
       refine AllV_v ?_
       refine AllV_nil ?_
       refine O_move rfl rfl rfl ?_
       exact WL_nil ⟨(Ext.refl _), rfl⟩
      apply AnyR_val [49, 6] rfl (by kernel_rfl)
      · --
       intro y25 hy25
       have zy25 := hy25.size
       refine AllV_v ?_
       refine AllV_nil ?_
       refine O_move rfl rfl rfl ?_
       exact WL_nil ⟨(Ext.refl _), rfl⟩
      apply AnyR_val [49, 50] rfl (by kernel_rfl)
      · --
       intro y26 hy26
       have zy26 := hy26.size
       refine AllV_v ?_
       refine AllV_v ?_
       refine AllV_nil ?_
       refine O_not rfl rfl rfl rfl ?_
       exact WL_nil ⟨(Ext.refl _), rfl⟩
      apply AnyR_val [49, 51] rfl (by kernel_rfl)
      · --
       intro y27 hy27
       have zy27 := hy27.size
       refine AllV_v ?_
       refine AllV_v ?_
       refine AllV_nil ?_
       refine O_pickT rfl rfl rfl rfl ?_
       exact WL_nil ⟨(Ext.refl _), rfl⟩
      apply AnyR_val [52] rfl (by kernel_rfl)
      · --
       intro y28 hy28
       have zy28 := hy28.size
       refine AllV_v ?_
       refine AllV_nil ?_
       refine O_move rfl rfl rfl ?_
       exact WL_nil ⟨(Ext.refl _), rfl⟩
      apply AnyR_val [53, 3] rfl (by kernel_rfl)
      · --
       intro y29 hy29
       have zy29 := hy29.size
       refine AllV_v ?_
       refine AllV_nil ?_
       refine O_move rfl rfl rfl ?_
       exact WL_nil ⟨(Ext.refl _), rfl⟩
      apply AnyR_val [53, 54] rfl (by kernel_rfl)
      · --
       intro y30 hy30
       have zy30 := hy30.size
       refine AllV_v ?_
       refine AllV_v ?_
       refine AllV_nil ?_
       refine O_gtr (t := true) rfl rfl rfl rfl (decide_eq_true (by omega)) ?_
       exact WL_nil ⟨(Ext.refl _), rfl⟩
      apply AnyR_val [53, 55] rfl (by kernel_rfl)
      · --
       intro y31 hy31
       have zy31 := hy31.size
       refine AllV_v ?_
       refine AllV_v ?_
       refine AllV_nil ?_
       refine O_move rfl rfl rfl ?_
       exact WL_nil ⟨(Ext.refl _), rfl⟩
      apply AnyR_val [56, 0] rfl (by kernel_rfl)
      · --
       intro y32 hy32
       have zy32 := hy32.size
       refine AllV_v ?_
       refine AllV_nil ?_
       refine O_move rfl rfl rfl ?_
       exact WL_nil ⟨(Ext.refl _), rfl⟩
      apply AnyR_val [56, 3] rfl (by kernel_rfl)
      · --
       intro y33 hy33
       have zy33 := hy33.size
       refine AllV_v ?_
       refine AllV_nil ?_
       refine O_move rfl rfl rfl ?_
       exact WL_nil ⟨(Ext.refl _), rfl⟩
      apply AnyR_val [56, 58] rfl (by kernel_rfl)
      · --
       intro y34 hy34
       have zy34 := hy34.size
       refine AllV_v ?_
       refine AllV_v ?_
       refine AllV_nil ?_
       refine O_sub (r := ((i - 1 : Nat) : Int)) rfl rfl rfl rfl (by rw [IntKind.wrap_i64]; omega) ?_
       exact WL_nil ⟨(Ext.refl _), rfl⟩
      apply AnyR_val [56, 57, 59] rfl (by kernel_rfl)
      · --
       intro y35 hy35
       have zy35 := hy35.size
       refine AllV_v ?_
       refine AllV_v ?_
       refine AllV_v ?_
       refine AllV_nil ?_
       refine C_index Echange rfl rfl rfl rfl (hs.ext (e2.trans hy35)) (i - 1) rfl hlt1 (fun _ => ?_)
       exact WL_nil ⟨(Ext.refl _), rfl⟩
      apply AnyR_val [56, 60] rfl (by kernel_rfl)
      · --
       intro y36 hy36
       have zy36 := hy36.size
       refine AllV_v ?_
       refine AllV_v ?_
       refine AllV_nil ?_
       refine K_field F74_1 rfl rfl rfl ?_
       exact WL_nil ⟨(Ext.refl _), rfl⟩
      apply AnyR_val [56, 61] rfl (by kernel_rfl)
      · --
       intro y37 hy37
       have zy37 := hy37.size
       refine AllV_v ?_
       refine AllV_v ?_
       refine AllV_nil ?_
       refine B_cell Try.underlying9 rfl rfl rfl rfl (SlC.row (j := (i - 1)) (hs.ext (e2.trans hy37)) hlt1) rfl ?_
       exact WL_nil ⟨(Ext.refl _), rfl⟩
      apply AnyR_val [56, 4] rfl (by kernel_rfl)
      · --
       intro y38 hy38
       have zy38 := hy38.size
       refine AllV_v ?_
       refine AllV_nil ?_
       refine O_field F74_1 rfl rfl rfl ?_
       exact WL_nil ⟨(Ext.refl _), rfl⟩
      apply AnyR_val [56, 63] rfl (by kernel_rfl)
      · --
       intro y39 hy39
       have zy39 := hy39.size
       refine AllV_v ?_
       refine AllV_v ?_
       refine AllV_nil ?_
       refine O_loadC Try.underlying9 rfl rfl rfl rfl (b2.ext hy39) rfl ?_
       exact WL_nil ⟨(Ext.refl _), rfl⟩
      refine AnyR_nil fun y40 hy40 => ?_
      have zy40 := hy40.size
      refine AllV_v ?_
      refine AllV_v ?_
      refine AllV_v ?_
      refine AllV_v ?_
      refine AllV_v ?_
      refine AllV_v ?_
      refine AllV_v ?_
      refine AllV_v ?_
      refine AllV_v ?_
      refine AllV_v ?_
      refine AllV_v ?_
      refine AllV_v ?_
      refine AllV_v ?_
      refine AllV_v ?_
      refine AllV_v ?_
      refine AllV_v ?_
      refine AllV_v ?_
      refine AllV_v ?_
      refine AllV_nil ?_
      refine O_sgeq rfl rfl rfl rfl ?_
      refine O_pickT rfl rfl rfl rfl ?_
      refine O_pickF rfl rfl rfl rfl ?_
      refine WL_end [(0, _), (7, _), (8, _), (9, _), (67, _)] ⟨rfl, rfl, rfl, rfl, rfl, trivial⟩ ?_
      refine WP_cond rfl (fun c67 => ?_) (fun c67 => ?_)
      · --
       refine WP_seq ?_
       refine WP_region ?_
       refine O_assign rfl rfl rfl ?_
       refine WL_end [(2, _)] ⟨rfl, trivial⟩ ?_
       refine WP_ret ?_
       refine inBlk_ret ?_
       refine inBlk_ret ?_
       refine ret1 Try.results51 rfl ?_
       first
         | exact ⟨_, rfl, (e2.trans hy40), by rw [validB_T hal (by omega)]⟩
         | (have hst : stepB l i = false := by
              rw [stepB_at hilt, okB_sd, ← hb, ← hbd]
              first | (simp_all; done) | (simp_all; omega)
            exact ⟨_, rfl, (e2.trans hy40), by rw [validB_F hilt hst]⟩)
      · --
       refine WP_skip ?_
       refine WP_region ?_
       refine O_add rfl rfl rfl rfl (wrap_i64_id (by omega) (by omega)) ?_
       refine O_move rfl rfl rfl ?_
       refine WL_end [(0, _), (7, _), (8, _), (9, _)] ⟨rfl, rfl, rfl, rfl, trivial⟩ ?_
       have hst : stepB l i = true := by
         rw [stepB_at hilt, okB_sd, ← hb, ← hbd]
         first | (simp_all; done) | (simp_all; omega)
       exact ⟨i + 1, ⟨rfl, rfl, rfl, rfl, trivial⟩, ⟨(e2.trans hy40), by omega, fun j hj => by
         rcases Nat.lt_or_ge j i with k | k
         · exact hal j k
         · rw [show j = i from by omega]; exact hst⟩, by omega⟩
     · --
      skip
      refine WP_sub [(0, _), (3, _), (4, _), (5, _), (6, _), (7, _), (8, _), (9, _)] ⟨rfl, rfl, rfl, rfl, rfl, rfl, rfl, rfl, trivial⟩ ?_
      refine WP_anyR 18 [0, 3, 4, 5, 6, 7, 8, 9] mixed rfl (by kernel_rfl) ?_
      apply AnyR_val [5] rfl (by kernel_rfl)
      · --
       intro y41 hy41
       have zy41 := hy41.size
       refine AllV_nil ?_
       refine O_move rfl rfl rfl ?_
       exact WL_nil ⟨(Ext.refl _), rfl⟩
      apply AnyR_val [47] rfl (by kernel_rfl)
      · --
       intro y42 hy42
       have zy42 := hy42.size
       refine AllV_v ?_
       refine AllV_nil ?_
       refine O_not rfl rfl rfl rfl ?_
       exact WL_nil ⟨(Ext.refl _), rfl⟩
      apply AnyR_val [48] rfl (by kernel_rfl)
      · --
       intro y43 hy43
       have zy43 := hy43.size
       refine AllV_v ?_
       refine AllV_nil ?_
       refine O_move rfl rfl rfl ?_
       exact WL_nil ⟨(Ext.refl _), rfl⟩
      apply AnyR_val [49, 6] rfl (by kernel_rfl)
      · --
       intro y44 hy44
       have zy44 := hy44.size
       refine AllV_v ?_
       refine AllV_nil ?_
       refine O_skip rfl rfl ?_
       exact WL_nil ⟨(Ext.refl _), rfl⟩
      apply AnyR_val [49, 50] rfl (by kernel_rfl)
      · --
       intro y45 hy45
       have zy45 := hy45.size
       refine AllV_v ?_
       refine AllV_v ?_
       refine AllV_nil ?_
       refine O_skip rfl rfl ?_
       exact WL_nil ⟨(Ext.refl _), rfl⟩
      apply AnyR_val [49, 51] rfl (by kernel_rfl)
      · --
       intro y46 hy46
       have zy46 := hy46.size
       refine AllV_v ?_
       refine AllV_v ?_
       refine AllV_nil ?_
       refine O_pickF rfl rfl rfl rfl ?_
       exact WL_nil ⟨(Ext.refl _), rfl⟩
      apply AnyR_val [52] rfl (by kernel_rfl)
      · --
       intro y47 hy47
       have zy47 := hy47.size
       refine AllV_v ?_
       refine AllV_nil ?_
       refine O_move rfl rfl rfl ?_
       exact WL_nil ⟨(Ext.refl _), rfl⟩
      apply AnyR_val [53, 3] rfl (by kernel_rfl)
      · --
       intro y48 hy48
       have zy48 := hy48.size
       refine AllV_v ?_
       refine AllV_nil ?_
       refine O_move rfl rfl rfl ?_
       exact WL_nil ⟨(Ext.refl _), rfl⟩
      apply AnyR_val [53, 54] rfl (by kernel_rfl)
      · --
       intro y49 hy49
       have zy49 := hy49.size
       refine AllV_v ?_
       refine AllV_v ?_
       refine AllV_nil ?_
       refine O_gtr (t := true) rfl rfl rfl rfl (decide_eq_true (by omega)) ?_
       exact WL_nil ⟨(Ext.refl _), rfl⟩
      apply AnyR_val [53, 55] rfl (by kernel_rfl)
      · --
       intro y50 hy50
       have zy50 := hy50.size
       refine AllV_v ?_
       refine AllV_v ?_
       refine AllV_nil ?_
       refine O_move rfl rfl rfl ?_
       exact WL_nil ⟨(Ext.refl _), rfl⟩
      apply AnyR_val [56, 0] rfl (by kernel_rfl)
      · --
       intro y51 hy51
       have zy51 := hy51.size
       refine AllV_v ?_
       refine AllV_nil ?_
       refine O_move rfl rfl rfl ?_
       exact WL_nil ⟨(Ext.refl _), rfl⟩
      apply AnyR_val [56, 3] rfl (by kernel_rfl)
      · --
       intro y52 hy52
       have zy52 := hy52.size
       refine AllV_v ?_
       refine AllV_nil ?_
       refine O_move rfl rfl rfl ?_
       exact WL_nil ⟨(Ext.refl _), rfl⟩
      apply AnyR_val [56, 58] rfl (by kernel_rfl)
      · --
       intro y53 hy53
       have zy53 := hy53.size
       refine AllV_v ?_
       refine AllV_v ?_
       refine AllV_nil ?_
       refine O_sub (r := ((i - 1 : Nat) : Int)) rfl rfl rfl rfl (by rw [IntKind.wrap_i64]; omega) ?_
       exact WL_nil ⟨(Ext.refl _), rfl⟩
      apply AnyR_val [56, 57, 59] rfl (by kernel_rfl)
      · --
       intro y54 hy54
       have zy54 := hy54.size
       refine AllV_v ?_
       refine AllV_v ?_
       refine AllV_v ?_
       refine AllV_nil ?_
       refine C_index Echange rfl rfl rfl rfl (hs.ext (e2.trans hy54)) (i - 1) rfl hlt1 (fun _ => ?_)
       exact WL_nil ⟨(Ext.refl _), rfl⟩
      apply AnyR_val [56, 60] rfl (by kernel_rfl)
      · --
       intro y55 hy55
       have zy55 := hy55.size
       refine AllV_v ?_
       refine AllV_v ?_
       refine AllV_nil ?_
       refine K_field F74_1 rfl rfl rfl ?_
       exact WL_nil ⟨(Ext.refl _), rfl⟩
      apply AnyR_val [56, 61] rfl (by kernel_rfl)
      · --
       intro y56 hy56
       have zy56 := hy56.size
       refine AllV_v ?_
       refine AllV_v ?_
       refine AllV_nil ?_
       refine B_cell Try.underlying9 rfl rfl rfl rfl (SlC.row (j := (i - 1)) (hs.ext (e2.trans hy56)) hlt1) rfl ?_
       exact WL_nil ⟨(Ext.refl _), rfl⟩
      apply AnyR_val [56, 4] rfl (by kernel_rfl)
      · --
       intro y57 hy57
       have zy57 := hy57.size
       refine AllV_v ?_
       refine AllV_nil ?_
       refine O_field F74_1 rfl rfl rfl ?_
       exact WL_nil ⟨(Ext.refl _), rfl⟩
      apply AnyR_val [56, 63] rfl (by kernel_rfl)
      · --
       intro y58 hy58
       have zy58 := hy58.size
       refine AllV_v ?_
       refine AllV_v ?_
       refine AllV_nil ?_
       refine O_loadC Try.underlying9 rfl rfl rfl rfl (b2.ext hy58) rfl ?_
       exact WL_nil ⟨(Ext.refl _), rfl⟩
      refine AnyR_nil fun y59 hy59 => ?_
      have zy59 := hy59.size
      refine AllV_v ?_
      refine AllV_v ?_
      refine AllV_v ?_
      refine AllV_v ?_
      refine AllV_v ?_
      refine AllV_v ?_
      refine AllV_v ?_
      refine AllV_v ?_
      refine AllV_v ?_
      refine AllV_v ?_
      refine AllV_v ?_
      refine AllV_v ?_
      refine AllV_v ?_
      refine AllV_v ?_
      refine AllV_v ?_
      refine AllV_v ?_
      refine AllV_v ?_
      refine AllV_v ?_
      refine AllV_nil ?_
      refine O_sgeq rfl rfl rfl rfl ?_
      refine O_pickT rfl rfl rfl rfl ?_
      refine O_pickF rfl rfl rfl rfl ?_
      refine WL_end [(0, _), (7, _), (8, _), (9, _), (67, _)] ⟨rfl, rfl, rfl, rfl, rfl, trivial⟩ ?_
      refine WP_cond rfl (fun c67 => ?_) (fun c67 => ?_)
      · --
       refine WP_seq ?_
       refine WP_region ?_
       refine O_assign rfl rfl rfl ?_
       refine WL_end [(2, _)] ⟨rfl, trivial⟩ ?_
       refine WP_ret ?_
       refine inBlk_ret ?_
       refine inBlk_ret ?_
       refine ret1 Try.results51 rfl ?_
       first
         | exact ⟨_, rfl, (e2.trans hy59), by rw [validB_T hal (by omega)]⟩
         | (have hst : stepB l i = false := by
              rw [stepB_at hilt, okB_sd, ← hb, ← hbd]
              first | (simp_all; done) | (simp_all; omega)
            exact ⟨_, rfl, (e2.trans hy59), by rw [validB_F hilt hst]⟩)
      · --
       refine WP_skip ?_
       refine WP_region ?_
       refine O_add rfl rfl rfl rfl (wrap_i64_id (by omega) (by omega)) ?_
       refine O_move rfl rfl rfl ?_
       refine WL_end [(0, _), (7, _), (8, _), (9, _)] ⟨rfl, rfl, rfl, rfl, trivial⟩ ?_
       have hst : stepB l i = true := by
         rw [stepB_at hilt, okB_sd, ← hb, ← hbd]
         first | (simp_all; done) | (simp_all; omega)
       exact ⟨i + 1, ⟨rfl, rfl, rfl, rfl, trivial⟩, ⟨(e2.trans hy59), by omega, fun j hj => by
         rcases Nat.lt_or_ge j i with k | k
         · exact hal j k
         · rw [show j = i from by omega]; exact hst⟩, by omega⟩
     · --
      skip
      refine WP_sub [(0, _), (3, _), (4, _), (5, _), (6, _), (7, _), (8, _), (9, _)] ⟨rfl, rfl, rfl, rfl, rfl, rfl, rfl, rfl, trivial⟩ ?_
      refine WP_anyR 18 [0, 3, 4, 5, 6, 7, 8, 9] mixed rfl (by kernel_rfl) ?_
      apply AnyR_val [5] rfl (by kernel_rfl)
      · --
       intro y60 hy60
       have zy60 := hy60.size
       refine AllV_nil ?_
       refine O_move rfl rfl rfl ?_
       exact WL_nil ⟨(Ext.refl _), rfl⟩
      apply AnyR_val [47] rfl (by kernel_rfl)
      · --
       intro y61 hy61
       have zy61 := hy61.size
       refine AllV_v ?_
       refine AllV_nil ?_
       refine O_not rfl rfl rfl rfl ?_
       exact WL_nil ⟨(Ext.refl _), rfl⟩
      apply AnyR_val [48] rfl (by kernel_rfl)
      · --
       intro y62 hy62
       have zy62 := hy62.size
       refine AllV_v ?_
       refine AllV_nil ?_
       refine O_move rfl rfl rfl ?_
       exact WL_nil ⟨(Ext.refl _), rfl⟩
      apply AnyR_val [49, 6] rfl (by kernel_rfl)
      · --
       intro y63 hy63
       have zy63 := hy63.size
       refine AllV_v ?_
       refine AllV_nil ?_
       refine O_skip rfl rfl ?_
       exact WL_nil ⟨(Ext.refl _), rfl⟩
      apply AnyR_val [49, 50] rfl (by kernel_rfl)
      · --
       intro y64 hy64
       have zy64 := hy64.size
       refine AllV_v ?_
       refine AllV_v ?_
       refine AllV_nil ?_
       refine O_skip rfl rfl ?_
       exact WL_nil ⟨(Ext.refl _), rfl⟩
      apply AnyR_val [49, 51] rfl (by kernel_rfl)
      · --
       intro y65 hy65
       have zy65 := hy65.size
       refine AllV_v ?_
       refine AllV_v ?_
       refine AllV_nil ?_
       refine O_pickF rfl rfl rfl rfl ?_
       exact WL_nil ⟨(Ext.refl _), rfl⟩
      apply AnyR_val [52] rfl (by kernel_rfl)
      · --
       intro y66 hy66
       have zy66 := hy66.size
       refine AllV_v ?_
       refine AllV_nil ?_
       refine O_move rfl rfl rfl ?_
       exact WL_nil ⟨(Ext.refl _), rfl⟩
      apply AnyR_val [53, 3] rfl (by kernel_rfl)
      · --
       intro y67 hy67
       have zy67 := hy67.size
       refine AllV_v ?_
       refine AllV_nil ?_
       refine O_move rfl rfl rfl ?_
       exact WL_nil ⟨(Ext.refl _), rfl⟩
      apply AnyR_val [53, 54] rfl (by kernel_rfl)
      · --
       intro y68 hy68
       have zy68 := hy68.size
       refine AllV_v ?_
       refine AllV_v ?_
       refine AllV_nil ?_
       refine O_gtr (t := true) rfl rfl rfl rfl (decide_eq_true (by omega)) ?_
       exact WL_nil ⟨(Ext.refl _), rfl⟩
      apply AnyR_val [53, 55] rfl (by kernel_rfl)
      · --
       intro y69 hy69
       have zy69 := hy69.size
       refine AllV_v ?_
       refine AllV_v ?_
       refine AllV_nil ?_
       refine O_move rfl rfl rfl ?_
       exact WL_nil ⟨(Ext.refl _), rfl⟩
      apply AnyR_val [56, 0] rfl (by kernel_rfl)
      · --
       intro y70 hy70
       have zy70 := hy70.size
       refine AllV_v ?_
       refine AllV_nil ?_
       refine O_move rfl rfl rfl ?_
       exact WL_nil ⟨(Ext.refl _), rfl⟩
      apply AnyR_val [56, 3] rfl (by kernel_rfl)
      · --
       intro y71 hy71
       have zy71 := hy71.size
       refine AllV_v ?_
       refine AllV_nil ?_
       refine O_move rfl rfl rfl ?_
       exact WL_nil ⟨(Ext.refl _), rfl⟩
      apply AnyR_val [56, 58] rfl (by kernel_rfl)
      · --
       intro y72 hy72
       have zy72 := hy72.size
       refine AllV_v ?_
       refine AllV_v ?_
       refine AllV_nil ?_
       refine O_sub (r := ((i - 1 : Nat) : Int)) rfl rfl rfl rfl (by rw [IntKind.wrap_i64]; omega) ?_
       exact WL_nil ⟨(Ext.refl _), rfl⟩
      apply AnyR_val [56, 57, 59] rfl (by kernel_rfl)
      · --
       intro y73 hy73
       have zy73 := hy73.size
       refine AllV_v ?_
       refine AllV_v ?_
       refine AllV_v ?_
       refine AllV_nil ?_
       refine C_index Echange rfl rfl rfl rfl (hs.ext (e2.trans hy73)) (i - 1) rfl hlt1 (fun _ => ?_)
       exact WL_nil ⟨(Ext.refl _), rfl⟩
      apply AnyR_val [56, 60] rfl (by kernel_rfl)
      · --
       intro y74 hy74
       have zy74 := hy74.size
       refine AllV_v ?_
       refine AllV_v ?_
       refine AllV_nil ?_
       refine K_field F74_1 rfl rfl rfl ?_
       exact WL_nil ⟨(Ext.refl _), rfl⟩
      apply AnyR_val [56, 61] rfl (by kernel_rfl)
      · --
       intro y75 hy75
       have zy75 := hy75.size
       refine AllV_v ?_
       refine AllV_v ?_
       refine AllV_nil ?_
       refine B_cell Try.underlying9 rfl rfl rfl rfl (SlC.row (j := (i - 1)) (hs.ext (e2.trans hy75)) hlt1) rfl ?_
       exact WL_nil ⟨(Ext.refl _), rfl⟩
      apply AnyR_val [56, 4] rfl (by kernel_rfl)
      · --
       intro y76 hy76
       have zy76 := hy76.size
       refine AllV_v ?_
       refine AllV_nil ?_
       refine O_field F74_1 rfl rfl rfl ?_
       exact WL_nil ⟨(Ext.refl _), rfl⟩
      apply AnyR_val [56, 63] rfl (by kernel_rfl)
      · --
       intro y77 hy77
       have zy77 := hy77.size
       refine AllV_v ?_
       refine AllV_v ?_
       refine AllV_nil ?_
       refine O_loadC Try.underlying9 rfl rfl rfl rfl (b2.ext hy77) rfl ?_
       exact WL_nil ⟨(Ext.refl _), rfl⟩
      refine AnyR_nil fun y78 hy78 => ?_
      have zy78 := hy78.size
      refine AllV_v ?_
      refine AllV_v ?_
      refine AllV_v ?_
      refine AllV_v ?_
      refine AllV_v ?_
      refine AllV_v ?_
      refine AllV_v ?_
      refine AllV_v ?_
      refine AllV_v ?_
      refine AllV_v ?_
      refine AllV_v ?_
      refine AllV_v ?_
      refine AllV_v ?_
      refine AllV_v ?_
      refine AllV_v ?_
      refine AllV_v ?_
      refine AllV_v ?_
      refine AllV_v ?_
      refine AllV_nil ?_
      refine O_sgeq rfl rfl rfl rfl ?_
      refine O_pickT rfl rfl rfl rfl ?_
      refine O_pickF rfl rfl rfl rfl ?_
      refine WL_end [(0, _), (7, _), (8, _), (9, _), (67, _)] ⟨rfl, rfl, rfl, rfl, rfl, trivial⟩ ?_
      refine WP_cond rfl (fun c67 => ?_) (fun c67 => ?_)
      · --
       refine WP_seq ?_
       refine WP_region ?_
       refine O_assign rfl rfl rfl ?_
       refine WL_end [(2, _)] ⟨rfl, trivial⟩ ?_
       refine WP_ret ?_
       refine inBlk_ret ?_
       refine inBlk_ret ?_
       refine ret1 Try.results51 rfl ?_
       first
         | exact ⟨_, rfl, (e2.trans hy78), by rw [validB_T hal (by omega)]⟩
         | (have hst : stepB l i = false := by
              rw [stepB_at hilt, okB_sd, ← hb, ← hbd]
              first | (simp_all; done) | (simp_all; omega)
            exact ⟨_, rfl, (e2.trans hy78), by rw [validB_F hilt hst]⟩)
      · --
       refine WP_skip ?_
       refine WP_region ?_
       refine O_add rfl rfl rfl rfl (wrap_i64_id (by omega) (by omega)) ?_
       refine O_move rfl rfl rfl ?_
       refine WL_end [(0, _), (7, _), (8, _), (9, _)] ⟨rfl, rfl, rfl, rfl, trivial⟩ ?_
       have hst : stepB l i = true := by
         rw [stepB_at hilt, okB_sd, ← hb, ← hbd]
         first | (simp_all; done) | (simp_all; omega)
       exact ⟨i + 1, ⟨rfl, rfl, rfl, rfl, trivial⟩, ⟨(e2.trans hy78), by omega, fun j hj => by
         rcases Nat.lt_or_ge j i with k | k
         · exact hal j k
         · rw [show j = i from by omega]; exact hst⟩, by omega⟩
     · --
      have h00 : i = 0 := by omega
      refine WP_sub [(0, _), (3, _), (4, _), (5, _), (6, _), (7, _), (8, _), (9, _)] ⟨rfl, rfl, rfl, rfl, rfl, rfl, rfl, rfl, trivial⟩ ?_
      refine WP_anyR 18 [0, 3, 4, 5, 6, 7, 8, 9] mixed rfl (by kernel_rfl) ?_
      apply AnyR_val [5] rfl (by kernel_rfl)
      · --
       intro y79 hy79
       have zy79 := hy79.size
       refine AllV_nil ?_
       refine O_move rfl rfl rfl ?_
       exact WL_nil ⟨(Ext.refl _), rfl⟩
      apply AnyR_val [47] rfl (by kernel_rfl)
      · --
       intro y80 hy80
       have zy80 := hy80.size
       refine AllV_v ?_
       refine AllV_nil ?_
       refine O_not rfl rfl rfl rfl ?_
       exact WL_nil ⟨(Ext.refl _), rfl⟩
      apply AnyR_val [48] rfl (by kernel_rfl)
      · --
       intro y81 hy81
       have zy81 := hy81.size
       refine AllV_v ?_
       refine AllV_nil ?_
       refine O_move rfl rfl rfl ?_
       exact WL_nil ⟨(Ext.refl _), rfl⟩
      apply AnyR_val [49, 6] rfl (by kernel_rfl)
      · --
       intro y82 hy82
       have zy82 := hy82.size
       refine AllV_v ?_
       refine AllV_nil ?_
       refine O_move rfl rfl rfl ?_
       exact WL_nil ⟨(Ext.refl _), rfl⟩
      apply AnyR_val [49, 50] rfl (by kernel_rfl)
      · --
       intro y83 hy83
       have zy83 := hy83.size
       refine AllV_v ?_
       refine AllV_v ?_
       refine AllV_nil ?_
       refine O_not rfl rfl rfl rfl ?_
       exact WL_nil ⟨(Ext.refl _), rfl⟩
      apply AnyR_val [49, 51] rfl (by kernel_rfl)
      · --
       intro y84 hy84
       have zy84 := hy84.size
       refine AllV_v ?_
       refine AllV_v ?_
       refine AllV_nil ?_
       refine O_pickT rfl rfl rfl rfl ?_
       exact WL_nil ⟨(Ext.refl _), rfl⟩
      apply AnyR_val [52] rfl (by kernel_rfl)
      · --
       intro y85 hy85
       have zy85 := hy85.size
       refine AllV_v ?_
       refine AllV_nil ?_
       refine O_move rfl rfl rfl ?_
       exact WL_nil ⟨(Ext.refl _), rfl⟩
      apply AnyR_val [53, 3] rfl (by kernel_rfl)
      · --
       intro y86 hy86
       have zy86 := hy86.size
       refine AllV_v ?_
       refine AllV_nil ?_
       refine O_skip rfl rfl ?_
       exact WL_nil ⟨(Ext.refl _), rfl⟩
      apply AnyR_val [53, 54] rfl (by kernel_rfl)
      · --
       intro y87 hy87
       have zy87 := hy87.size
       refine AllV_v ?_
       refine AllV_v ?_
       refine AllV_nil ?_
       refine O_skip rfl rfl ?_
       exact WL_nil ⟨(Ext.refl _), rfl⟩
      apply AnyR_val [53, 55] rfl (by kernel_rfl)
      · --
       intro y88 hy88
       have zy88 := hy88.size
       refine AllV_v ?_
       refine AllV_v ?_
       refine AllV_nil ?_
       refine O_skip rfl rfl ?_
       exact WL_nil ⟨(Ext.refl _), rfl⟩
      apply AnyR_val [56, 0] rfl (by kernel_rfl)
      · --
       intro y89 hy89
       have zy89 := hy89.size
       refine AllV_v ?_
       refine AllV_nil ?_
       refine O_skipU rfl rfl rfl ?_
       exact WL_nil ⟨(Ext.refl _), rfl⟩
      apply AnyR_val [56, 3] rfl (by kernel_rfl)
      · --
       intro y90 hy90
       have zy90 := hy90.size
       refine AllV_v ?_
       refine AllV_nil ?_
       refine O_skipU rfl rfl rfl ?_
       exact WL_nil ⟨(Ext.refl _), rfl⟩
      apply AnyR_val [56, 58] rfl (by kernel_rfl)
      · --
       intro y91 hy91
       have zy91 := hy91.size
       refine AllV_v ?_
       refine AllV_v ?_
       refine AllV_nil ?_
       refine O_skipU rfl rfl rfl ?_
       exact WL_nil ⟨(Ext.refl _), rfl⟩
      apply AnyR_val [56, 57, 59] rfl (by kernel_rfl)
      · --
       intro y92 hy92
       have zy92 := hy92.size
       refine AllV_v ?_
       refine AllV_v ?_
       refine AllV_v ?_
       refine AllV_nil ?_
       refine O_skipU rfl rfl rfl ?_
       exact WL_nil ⟨(Ext.refl _), rfl⟩
      apply AnyR_val [56, 60] rfl (by kernel_rfl)
      · --
       intro y93 hy93
       have zy93 := hy93.size
       refine AllV_v ?_
       refine AllV_v ?_
       refine AllV_nil ?_
       refine O_skipU rfl rfl rfl ?_
       exact WL_nil ⟨(Ext.refl _), rfl⟩
      apply AnyR_val [56, 61] rfl (by kernel_rfl)
      · --
       intro y94 hy94
       have zy94 := hy94.size
       refine AllV_v ?_
       refine AllV_v ?_
       refine AllV_nil ?_
       refine O_skipU rfl rfl rfl ?_
       exact WL_nil ⟨(Ext.refl _), rfl⟩
      apply AnyR_val [56, 4] rfl (by kernel_rfl)
      · --
       intro y95 hy95
       have zy95 := hy95.size
       refine AllV_v ?_
       refine AllV_nil ?_
       refine O_skipU rfl rfl rfl ?_
       exact WL_nil ⟨(Ext.refl _), rfl⟩
      apply AnyR_val [56, 63] rfl (by kernel_rfl)
      · --
       intro y96 hy96
       have zy96 := hy96.size
       refine AllV_v ?_
       refine AllV_v ?_
       refine AllV_nil ?_
       refine O_skipU rfl rfl rfl ?_
       exact WL_nil ⟨(Ext.refl _), rfl⟩
      refine AnyR_nil fun y97 hy97 => ?_
      have zy97 := hy97.size
      refine AllV_v ?_
      refine AllV_v ?_
      refine AllV_v ?_
      refine AllV_v ?_
      refine AllV_v ?_
      refine AllV_v ?_
      refine AllV_v ?_
      refine AllV_v ?_
      refine AllV_v ?_
      refine AllV_v ?_
      refine AllV_v ?_
      refine AllV_v ?_
      refine AllV_v ?_
      refine AllV_v ?_
      refine AllV_v ?_
      refine AllV_v ?_
      refine AllV_v ?_
      refine AllV_v ?_
      refine AllV_nil ?_
      refine O_skipU rfl rfl rfl ?_
      refine O_skip rfl rfl ?_
      refine O_pickT rfl rfl rfl rfl ?_
      refine WL_end [(0, _), (7, _), (8, _), (9, _), (67, _)] ⟨rfl, rfl, rfl, rfl, rfl, trivial⟩ ?_
      refine WP_condT rfl ?_
      refine WP_seq ?_
      refine WP_region ?_
      refine O_assign rfl rfl rfl ?_
      refine WL_end [(2, _)] ⟨rfl, trivial⟩ ?_
      refine WP_ret ?_
      refine inBlk_ret ?_
      refine inBlk_ret ?_
      refine ret1 Try.results51 rfl ?_
      first
        | exact ⟨_, rfl, (e2.trans hy97), by rw [validB_T hal (by omega)]⟩
        | (have hst : stepB l i = false := by
             rw [stepB_at hilt, okB_sd, ← hb, ← hbd]
             first | (simp_all; done) | (simp_all; omega)
           exact ⟨_, rfl, (e2.trans hy97), by rw [validB_F hilt hst]⟩)
     · --
      have h00 : i = 0 := by omega
      refine WP_sub [(0, _), (3, _), (4, _), (5, _), (6, _), (7, _), (8, _), (9, _)] ⟨rfl, rfl, rfl, rfl, rfl, rfl, rfl, rfl, trivial⟩ ?_
      refine WP_anyR 18 [0, 3, 4, 5, 6, 7, 8, 9] mixed rfl (by kernel_rfl) ?_
      apply AnyR_val [5] rfl (by kernel_rfl)
      · --
       intro y98 hy98
       have zy98 := hy98.size
       refine AllV_nil ?_
       refine O_move rfl rfl rfl ?_
       exact WL_nil ⟨(Ext.refl _), rfl⟩
      apply AnyR_val [47] rfl (by kernel_rfl)
      · --
       intro y99 hy99
       have zy99 := hy99.size
       refine AllV_v ?_
       refine AllV_nil ?_
       refine O_not rfl rfl rfl rfl ?_
       exact WL_nil ⟨(Ext.refl _), rfl⟩
      apply AnyR_val [48] rfl (by kernel_rfl)
      · --
       intro y100 hy100
       have zy100 := hy100.size
       refine AllV_v ?_
       refine AllV_nil ?_
       refine O_move rfl rfl rfl ?_
       exact WL_nil ⟨(Ext.refl _), rfl⟩
      apply AnyR_val [49, 6] rfl (by kernel_rfl)
      · --
       intro y101 hy101
       have zy101 := hy101.size
       refine AllV_v ?_
       refine AllV_nil ?_
       refine O_move rfl rfl rfl ?_
       exact WL_nil ⟨(Ext.refl _), rfl⟩
      apply AnyR_val [49, 50] rfl (by kernel_rfl)
      · --
       intro y102 hy102
       have zy102 := hy102.size
       refine AllV_v ?_
       refine AllV_v ?_
       refine AllV_nil ?_
       refine O_not rfl rfl rfl rfl ?_
       exact WL_nil ⟨(Ext.refl _), rfl⟩
      apply AnyR_val [49, 51] rfl (by kernel_rfl)
      · --
       intro y103 hy103
       have zy103 := hy103.size
       refine AllV_v ?_
       refine AllV_v ?_
       refine AllV_nil ?_
       refine O_pickT rfl rfl rfl rfl ?_
       exact WL_nil ⟨(Ext.refl _), rfl⟩
      apply AnyR_val [52] rfl (by kernel_rfl)
      · --
       intro y104 hy104
       have zy104 := hy104.size
       refine AllV_v ?_
       refine AllV_nil ?_
       refine O_move rfl rfl rfl ?_
       exact WL_nil ⟨(Ext.refl _), rfl⟩
      apply AnyR_val [53, 3] rfl (by kernel_rfl)
      · --
       intro y105 hy105
       have zy105 := hy105.size
       refine AllV_v ?_
       refine AllV_nil ?_
       refine O_move rfl rfl rfl ?_
       exact WL_nil ⟨(Ext.refl _), rfl⟩
      apply AnyR_val [53, 54] rfl (by kernel_rfl)
      · --
       intro y106 hy106
       have zy106 := hy106.size
       refine AllV_v ?_
       refine AllV_v ?_
       refine AllV_nil ?_
       refine O_gtr (t := false) rfl rfl rfl rfl (decide_eq_false (by omega)) ?_
       exact WL_nil ⟨(Ext.refl _), rfl⟩
      apply AnyR_val [53, 55] rfl (by kernel_rfl)
      · --
       intro y107 hy107
       have zy107 := hy107.size
       refine AllV_v ?_
       refine AllV_v ?_
       refine AllV_nil ?_
       refine O_move rfl rfl rfl ?_
       exact WL_nil ⟨(Ext.refl _), rfl⟩
      apply AnyR_val [56, 0] rfl (by kernel_rfl)
      · --
       intro y108 hy108
       have zy108 := hy108.size
       refine AllV_v ?_
       refine AllV_nil ?_
       refine O_skip rfl rfl ?_
       exact WL_nil ⟨(Ext.refl _), rfl⟩
      apply AnyR_val [56, 3] rfl (by kernel_rfl)
      · --
       intro y109 hy109
       have zy109 := hy109.size
       refine AllV_v ?_
       refine AllV_nil ?_
       refine O_skip rfl rfl ?_
       exact WL_nil ⟨(Ext.refl _), rfl⟩
      apply AnyR_val [56, 58] rfl (by kernel_rfl)
      · --
       intro y110 hy110
       have zy110 := hy110.size
       refine AllV_v ?_
       refine AllV_v ?_
       refine AllV_nil ?_
       refine O_skip rfl rfl ?_
       exact WL_nil ⟨(Ext.refl _), rfl⟩
      apply AnyR_val [56, 57, 59] rfl (by kernel_rfl)
      · --
       intro y111 hy111
       have zy111 := hy111.size
       refine AllV_v ?_
       refine AllV_v ?_
       refine AllV_v ?_
       refine AllV_nil ?_
       refine O_skip rfl rfl ?_
       exact WL_nil ⟨(Ext.refl _), rfl⟩
      apply AnyR_val [56, 60] rfl (by kernel_rfl)
      · --
       intro y112 hy112
       have zy112 := hy112.size
       refine AllV_v ?_
       refine AllV_v ?_
       refine AllV_nil ?_
       refine O_skip rfl rfl ?_
       exact WL_nil ⟨(Ext.refl _), rfl⟩
      apply AnyR_val [56, 61] rfl (by kernel_rfl)
      · --
       intro y113 hy113
       have zy113 := hy113.size
       refine AllV_v ?_
       refine AllV_v ?_
       refine AllV_nil ?_
       refine O_skip rfl rfl ?_
       exact WL_nil ⟨(Ext.refl _), rfl⟩
      apply AnyR_val [56, 4] rfl (by kernel_rfl)
      · --
       intro y114 hy114
       have zy114 := hy114.size
       refine AllV_v ?_
       refine AllV_nil ?_
       refine O_skip rfl rfl ?_
       exact WL_nil ⟨(Ext.refl _), rfl⟩
      apply AnyR_val [56, 63] rfl (by kernel_rfl)
      · --
       intro y115 hy115
       have zy115 := hy115.size
       refine AllV_v ?_
       refine AllV_v ?_
       refine AllV_nil ?_
       refine O_skip rfl rfl ?_
       exact WL_nil ⟨(Ext.refl _), rfl⟩
      refine AnyR_nil fun y116 hy116 => ?_
      have zy116 := hy116.size
      refine AllV_v ?_
      refine AllV_v ?_
      refine AllV_v ?_
      refine AllV_v ?_
      refine AllV_v ?_
      refine AllV_v ?_
      refine AllV_v ?_
      refine AllV_v ?_
      refine AllV_v ?_
      refine AllV_v ?_
      refine AllV_v ?_
      refine AllV_v ?_
      refine AllV_v ?_
      refine AllV_v ?_
      refine AllV_v ?_
      refine AllV_v ?_
      refine AllV_v ?_
      refine AllV_v ?_
      refine AllV_nil ?_
      refine O_skip rfl rfl ?_
      refine O_pickF rfl rfl rfl rfl ?_
      refine O_pickF rfl rfl rfl rfl ?_
      refine WL_end [(0, _), (7, _), (8, _), (9, _), (67, _)] ⟨rfl, rfl, rfl, rfl, rfl, trivial⟩ ?_
      refine WP_condF rfl ?_
      refine WP_skip ?_
      refine WP_region ?_
      refine O_add rfl rfl rfl rfl (wrap_i64_id (by omega) (by omega)) ?_
      refine O_move rfl rfl rfl ?_
      refine WL_end [(0, _), (7, _), (8, _), (9, _)] ⟨rfl, rfl, rfl, rfl, trivial⟩ ?_
      have hst : stepB l i = true := by
        rw [stepB_at hilt, okB_sd, ← hb, ← hbd]
        first | (simp_all; done) | (simp_all; omega)
      exact ⟨i + 1, ⟨rfl, rfl, rfl, rfl, trivial⟩, ⟨(e2.trans hy116), by omega, fun j hj => by
        rcases Nat.lt_or_ge j i with k | k
        · exact hal j k
        · rw [show j = i from by omega]; exact hst⟩, by omega⟩
     · --
      have h00 : i = 0 := by omega
      refine WP_sub [(0, _), (3, _), (4, _), (5, _), (6, _), (7, _), (8, _), (9, _)] ⟨rfl, rfl, rfl, rfl, rfl, rfl, rfl, rfl, trivial⟩ ?_
      refine WP_anyR 18 [0, 3, 4, 5, 6, 7, 8, 9] mixed rfl (by kernel_rfl) ?_
      apply AnyR_val [5] rfl (by kernel_rfl)
      · --
       intro y117 hy117
       have zy117 := hy117.size
       refine AllV_nil ?_
       refine O_move rfl rfl rfl ?_
       exact WL_nil ⟨(Ext.refl _), rfl⟩
      apply AnyR_val [47] rfl (by kernel_rfl)
      · --
       intro y118 hy118
       have zy118 := hy118.size
       refine AllV_v ?_
       refine AllV_nil ?_
       refine O_not rfl rfl rfl rfl ?_
       exact WL_nil ⟨(Ext.refl _), rfl⟩
      apply AnyR_val [48] rfl (by kernel_rfl)
      · --
       intro y119 hy119
       have zy119 := hy119.size
       refine AllV_v ?_
       refine AllV_nil ?_
       refine O_move rfl rfl rfl ?_
       exact WL_nil ⟨(Ext.refl _), rfl⟩
      apply AnyR_val [49, 6] rfl (by kernel_rfl)
      · --
       intro y120 hy120
       have zy120 := hy120.size
       refine AllV_v ?_
       refine AllV_nil ?_
       refine O_skip rfl rfl ?_
       exact WL_nil ⟨(Ext.refl _), rfl⟩
      apply AnyR_val [49, 50] rfl (by kernel_rfl)
      · --
       intro y121 hy121
       have zy121 := hy121.size
       refine AllV_v ?_
       refine AllV_v ?_
       refine AllV_nil ?_
       refine O_skip rfl rfl ?_
       exact WL_nil ⟨(Ext.refl _), rfl⟩
      apply AnyR_val [49, 51] rfl (by kernel_rfl)
      · --
       intro y122 hy122
       have zy122 := hy122.size
       refine AllV_v ?_
       refine AllV_v ?_
       refine AllV_nil ?_
       refine O_pickF rfl rfl rfl rfl ?_
       exact WL_nil ⟨(Ext.refl _), rfl⟩
      apply AnyR_val [52] rfl (by kernel_rfl)
      · --
       intro y123 hy123
       have zy123 := hy123.size
       refine AllV_v ?_
       refine AllV_nil ?_
       refine O_move rfl rfl rfl ?_
       exact WL_nil ⟨(Ext.refl _), rfl⟩
      apply AnyR_val [53, 3] rfl (by kernel_rfl)
      · --
       intro y124 hy124
       have zy124 := hy124.size
       refine AllV_v ?_
       refine AllV_nil ?_
       refine O_move rfl rfl rfl ?_
       exact WL_nil ⟨(Ext.refl _), rfl⟩
      apply AnyR_val [53, 54] rfl (by kernel_rfl)
      · --
       intro y125 hy125
       have zy125 := hy125.size
       refine AllV_v ?_
       refine AllV_v ?_
       refine AllV_nil ?_
       refine O_gtr (t := false) rfl rfl rfl rfl (decide_eq_false (by omega)) ?_
       exact WL_nil ⟨(Ext.refl _), rfl⟩
      apply AnyR_val [53, 55] rfl (by kernel_rfl)
      · --
       intro y126 hy126
       have zy126 := hy126.size
       refine AllV_v ?_
       refine AllV_v ?_
       refine AllV_nil ?_
       refine O_move rfl rfl rfl ?_
       exact WL_nil ⟨(Ext.refl _), rfl⟩
      apply AnyR_val [56, 0] rfl (by kernel_rfl)
      · --
       intro y127 hy127
       have zy127 := hy127.size
       refine AllV_v ?_
       refine AllV_nil ?_
       refine O_skip rfl rfl ?_
       exact WL_nil ⟨(Ext.refl _), rfl⟩
      apply AnyR_val [56, 3] rfl (by kernel_rfl)
      · --
       intro y128 hy128
       have zy128 := hy128.size
       refine AllV_v ?_
       refine AllV_nil ?_
       refine O_skip rfl rfl ?_
       exact WL_nil ⟨(Ext.refl _), rfl⟩
      apply AnyR_val [56, 58] rfl (by kernel_rfl)
      · --
       intro y129 hy129
       have zy129 := hy129.size
       refine AllV_v ?_
       refine AllV_v ?_
       refine AllV_nil ?_
       refine O_skip rfl rfl ?_
       exact WL_nil ⟨(Ext.refl _), rfl⟩
      apply AnyR_val [56, 57, 59] rfl (by kernel_rfl)
      · --
       intro y130 hy130
       have zy130 := hy130.size
       refine AllV_v ?_
       refine AllV_v ?_
       refine AllV_v ?_
       refine AllV_nil ?_
       refine O_skip rfl rfl ?_
       exact WL_nil ⟨(Ext.refl _), rfl⟩
      apply AnyR_val [56, 60] rfl (by kernel_rfl)
      · --
       intro y131 hy131
       have zy131 := hy131.size
       refine AllV_v ?_
       refine AllV_v ?_
       refine AllV_nil ?_
       refine O_skip rfl rfl ?_
       exact WL_nil ⟨(Ext.refl _), rfl⟩
      apply AnyR_val [56, 61] rfl (by kernel_rfl)
      · --
       intro y132 hy132
       have zy132 := hy132.size
       refine AllV_v ?_
       refine AllV_v ?_
       refine AllV_nil ?_
       refine O_skip rfl rfl ?_
       exact WL_nil ⟨(Ext.refl _), rfl⟩
      apply AnyR_val [56, 4] rfl (by kernel_rfl)
      · --
       intro y133 hy133
       have zy133 := hy133.size
       refine AllV_v ?_
       refine AllV_nil ?_
       refine O_skip rfl rfl ?_
       exact WL_nil ⟨(Ext.refl _), rfl⟩
      apply AnyR_val [56, 63] rfl (by kernel_rfl)
      · --
       intro y134 hy134
       have zy134 := hy134.size
       refine AllV_v ?_
       refine AllV_v ?_
       refine AllV_nil ?_
       refine O_skip rfl rfl ?_
       exact WL_nil ⟨(Ext.refl _), rfl⟩
      refine AnyR_nil fun y135 hy135 => ?_
      have zy135 := hy135.size
      refine AllV_v ?_
      refine AllV_v ?_
      refine AllV_v ?_
      refine AllV_v ?_
      refine AllV_v ?_
      refine AllV_v ?_
      refine AllV_v ?_
      refine AllV_v ?_
      refine AllV_v ?_
      refine AllV_v ?_
      refine AllV_v ?_
      refine AllV_v ?_
      refine AllV_v ?_
      refine AllV_v ?_
      refine AllV_v ?_
      refine AllV_v ?_
      refine AllV_v ?_
      refine AllV_v ?_
      refine AllV_nil ?_
      refine O_skip rfl rfl ?_
      refine O_pickF rfl rfl rfl rfl ?_
      refine O_pickF rfl rfl rfl rfl ?_
      refine WL_end [(0, _), (7, _), (8, _), (9, _), (67, _)] ⟨rfl, rfl, rfl, rfl, rfl, trivial⟩ ?_
      refine WP_condF rfl ?_
      refine WP_skip ?_
      refine WP_region ?_
      refine O_add rfl rfl rfl rfl (wrap_i64_id (by omega) (by omega)) ?_
      refine O_move rfl rfl rfl ?_
      refine WL_end [(0, _), (7, _), (8, _), (9, _)] ⟨rfl, rfl, rfl, rfl, trivial⟩ ?_
      have hst : stepB l i = true := by
        rw [stepB_at hilt, okB_sd, ← hb, ← hbd]
        first | (simp_all; done) | (simp_all; omega)
      exact ⟨i + 1, ⟨rfl, rfl, rfl, rfl, trivial⟩, ⟨(e2.trans hy135), by omega, fun j hj => by
        rcases Nat.lt_or_ge j i with k | k
        · exact hal j k
        · rw [show j = i from by omega]; exact hst⟩, by omega⟩
     · --
      have h00 : i = 0 := by omega
      refine WP_sub [(0, _), (3, _), (4, _), (5, _), (6, _), (7, _), (8, _), (9, _)] ⟨rfl, rfl, rfl, rfl, rfl, rfl, rfl, rfl, trivial⟩ ?_
      refine WP_anyR 18 [0, 3, 4, 5, 6, 7, 8, 9] mixed rfl (by kernel_rfl) ?_
      apply AnyR_val [5] rfl (by kernel_rfl)
      · --
       intro y136 hy136
       have zy136 := hy136.size
       refine AllV_nil ?_
       refine O_move rfl rfl rfl ?_
       exact WL_nil ⟨(Ext.refl _), rfl⟩
      apply AnyR_val [47] rfl (by kernel_rfl)
      · --
       intro y137 hy137
       have zy137 := hy137.size
       refine AllV_v ?_
       refine AllV_nil ?_
       refine O_not rfl rfl rfl rfl ?_
       exact WL_nil ⟨(Ext.refl _), rfl⟩
      apply AnyR_val [48] rfl (by kernel_rfl)
      · --
       intro y138 hy138
       have zy138 := hy138.size
       refine AllV_v ?_
       refine AllV_nil ?_
       refine O_move rfl rfl rfl ?_
       exact WL_nil ⟨(Ext.refl _), rfl⟩
      apply AnyR_val [49, 6] rfl (by kernel_rfl)
      · --
       intro y139 hy139
       have zy139 := hy139.size
       refine AllV_v ?_
       refine AllV_nil ?_
       refine O_skip rfl rfl ?_
       exact WL_nil ⟨(Ext.refl _), rfl⟩
      apply AnyR_val [49, 50] rfl (by kernel_rfl)
      · --
       intro y140 hy140
       have zy140 := hy140.size
       refine AllV_v ?_
       refine AllV_v ?_
       refine AllV_nil ?_
       refine O_skip rfl rfl ?_
       exact WL_nil ⟨(Ext.refl _), rfl⟩
      apply AnyR_val [49, 51] rfl (by kernel_rfl)
      · --
       intro y141 hy141
       have zy141 := hy141.size
       refine AllV_v ?_
       refine AllV_v ?_
       refine AllV_nil ?_
       refine O_pickF rfl rfl rfl rfl ?_
       exact WL_nil ⟨(Ext.refl _), rfl⟩
      apply AnyR_val [52] rfl (by kernel_rfl)
      · --
       intro y142 hy142
       have zy142 := hy142.size
       refine AllV_v ?_
       refine AllV_nil ?_
       refine O_move rfl rfl rfl ?_
       exact WL_nil ⟨(Ext.refl _), rfl⟩
      apply AnyR_val [53, 3] rfl (by kernel_rfl)
      · --
       intro y143 hy143
       have zy143 := hy143.size
       refine AllV_v ?_
       refine AllV_nil ?_
       refine O_move rfl rfl rfl ?_
       exact WL_nil ⟨(Ext.refl _), rfl⟩
      apply AnyR_val [53, 54] rfl (by kernel_rfl)
      · --
       intro y144 hy144
       have zy144 := hy144.size
       refine AllV_v ?_
       refine AllV_v ?_
       refine AllV_nil ?_
       refine O_gtr (t := false) rfl rfl rfl rfl (decide_eq_false (by omega)) ?_
       exact WL_nil ⟨(Ext.refl _), rfl⟩
      apply AnyR_val [53, 55] rfl (by kernel_rfl)
      · --
       intro y145 hy145
       have zy145 := hy145.size
       refine AllV_v ?_
       refine AllV_v ?_
       refine AllV_nil ?_
       refine O_move rfl rfl rfl ?_
       exact WL_nil ⟨(Ext.refl _), rfl⟩
      apply AnyR_val [56, 0] rfl (by kernel_rfl)
      · --
       intro y146 hy146
       have zy146 := hy146.size
       refine AllV_v ?_
       refine AllV_nil ?_
       refine O_skip rfl rfl ?_
       exact WL_nil ⟨(Ext.refl _), rfl⟩
      apply AnyR_val [56, 3] rfl (by kernel_rfl)
      · --
       intro y147 hy147
       have zy147 := hy147.size
       refine AllV_v ?_
       refine AllV_nil ?_
       refine O_skip rfl rfl ?_
       exact WL_nil ⟨(Ext.refl _), rfl⟩
      apply AnyR_val [56, 58] rfl (by kernel_rfl)
      · --
       intro y148 hy148
       have zy148 := hy148.size
       refine AllV_v ?_
       refine AllV_v ?_
       refine AllV_nil ?_
       refine O_skip rfl rfl ?_
       exact WL_nil ⟨(Ext.refl _), rfl⟩
      apply AnyR_val [56, 57, 59] rfl (by kernel_rfl)
      · --
       intro y149 hy149
       have zy149 := hy149.size
       refine AllV_v ?_
       refine AllV_v ?_
       refine AllV_v ?_
       refine AllV_nil ?_
       refine O_skip rfl rfl ?_
       exact WL_nil ⟨(Ext.refl _), rfl⟩
      apply AnyR_val [56, 60] rfl (by kernel_rfl)
      · --
       intro y150 hy150
       have zy150 := hy150.size
       refine AllV_v ?_
       refine AllV_v ?_
       refine AllV_nil ?_
       refine O_skip rfl rfl ?_
       exact WL_nil ⟨(Ext.refl _), rfl⟩
      apply AnyR_val [56, 61] rfl (by kernel_rfl)
      · --
       intro y151 hy151
       have zy151 := hy151.size
       refine AllV_v ?_
       refine AllV_v ?_
       refine AllV_nil ?_
       refine O_skip rfl rfl ?_
       exact WL_nil ⟨(Ext.refl _), rfl⟩
      apply AnyR_val [56, 4] rfl (by kernel_rfl)
      · --
       intro y152 hy152
       have zy152 := hy152.size
       refine AllV_v ?_
       refine AllV_nil ?_
       refine O_skip rfl rfl ?_
       exact WL_nil ⟨(Ext.refl _), rfl⟩
      apply AnyR_val [56, 63] rfl (by kernel_rfl)
      · --
       intro y153 hy153
       have zy153 := hy153.size
       refine AllV_v ?_
       refine AllV_v ?_
       refine AllV_nil ?_
       refine O_skip rfl rfl ?_
       exact WL_nil ⟨(Ext.refl _), rfl⟩
      refine AnyR_nil fun y154 hy154 => ?_
      have zy154 := hy154.size
      refine AllV_v ?_
      refine AllV_v ?_
      refine AllV_v ?_
      refine AllV_v ?_
      refine AllV_v ?_
      refine AllV_v ?_
      refine AllV_v ?_
      refine AllV_v ?_
      refine AllV_v ?_
      refine AllV_v ?_
      refine AllV_v ?_
      refine AllV_v ?_
      refine AllV_v ?_
      refine AllV_v ?_
      refine AllV_v ?_
      refine AllV_v ?_
      refine AllV_v ?_
      refine AllV_v ?_
      refine AllV_nil ?_
      refine O_skip rfl rfl ?_
      refine O_pickF rfl rfl rfl rfl ?_
      refine O_pickF rfl rfl rfl rfl ?_
      refine WL_end [(0, _), (7, _), (8, _), (9, _), (67, _)] ⟨rfl, rfl, rfl, rfl, rfl, trivial⟩ ?_
      refine WP_condF rfl ?_
      refine WP_skip ?_
      refine WP_region ?_
      refine O_add rfl rfl rfl rfl (wrap_i64_id (by omega) (by omega)) ?_
      refine O_move rfl rfl rfl ?_
      refine WL_end [(0, _), (7, _), (8, _), (9, _)] ⟨rfl, rfl, rfl, rfl, trivial⟩ ?_
      have hst : stepB l i = true := by
        rw [stepB_at hilt, okB_sd, ← hb, ← hbd]
        first | (simp_all; done) | (simp_all; omega)
      exact ⟨i + 1, ⟨rfl, rfl, rfl, rfl, trivial⟩, ⟨(e2.trans hy154), by omega, fun j hj => by
        rcases Nat.lt_or_ge j i with k | k
        · exact hal j k
        · rw [show j = i from by omega]; exact hst⟩, by omega⟩
 · --
  refine WP_exit ?_
  refine inBlk_hit ?_
  refine WP_seq ?_
  refine WP_region ?_
  refine O_assign rfl rfl rfl ?_
  refine WL_end [(2, _)] ⟨rfl, trivial⟩ ?_
  refine WP_ret ?_
  refine ret1 Try.results51 rfl ?_
  first
    | exact ⟨_, rfl, hE, by rw [validB_T hal (by omega)]⟩
    | (have hst : stepB l i = false := by
         rw [stepB_at hilt, okB_sd, ← hb, ← hbd]
         first | (simp_all; done) | (simp_all; omega)
       exact ⟨_, rfl, hE, by rw [validB_F hilt hst]⟩)

end Go.Proofs.Ytoccimigjjndpaa
