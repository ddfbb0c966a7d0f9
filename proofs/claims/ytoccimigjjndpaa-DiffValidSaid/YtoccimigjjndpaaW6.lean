/-
  Walks.
-/
import Derived.Test.YtoccimigjjndpaaW5
set_option linter.unusedVariables false
set_option linter.unusedSimpArgs false
set_option maxRecDepth 100000
namespace Go.Proofs.Ytoccimigjjndpaa
open Go Go.RowKit
def markB (c : Ch) : ByteArray := if c.1 = 2 then ⟨#[45]⟩ else if c.2.2.1 = -1 then ⟨#[43]⟩ else ⟨#[126]⟩
/-- The reference's text of the first changes. -/
def frm (l : List Ch) : Nat → ByteArray
  | 0 => ⟨#[]⟩
  | i + 1 => match l[i]? with
    | some c => (if 0 < i then frm l i ++ ⟨#[32]⟩ else frm l i) ++ markB c ++ c.2.1
    | none => frm l i
theorem frm_succ {l : List Ch} {i : Nat} (h : i < l.length) : frm l (i + 1) = (if 0 < i then frm l i ++ ⟨#[32]⟩ else frm l i) ++ markB l[i] ++ l[i].2.1 := by
  rw [frm, List.getElem?_eq_getElem h]

set_option maxHeartbeats 1000000 in
theorem rformat_c {w : World} {v : Value} {l : List Ch} (hs : SlC w v l) (hl : l.length ≤ 1000000) (hn : ∀ c ∈ l, c.2.1.size ≤ 140737488355328) (hf : ∀ i, (frm l i).size ≤ 140737488355328) :
    Calls Try.prog 50 #[v] w (Ret w fun r _ => r = .string (frm l l.length)) := by
 refine enter (args := [v]) Try.func50 rfl Try.ntmps50 rfl ?_
 refine WP_seq ?_
 refine WP_region ?_
 refine O_assign rfl rfl rfl ?_
 refine WL_end [(0, _)] ⟨rfl, trivial⟩ ?_
 refine WP_seq ?_
 refine WP_region ?_
 refine O_assign rfl rfl rfl ?_
 refine WL_end [(0, _), (3, _)] ⟨rfl, rfl, trivial⟩ ?_
 refine WP_seq ?_
 refine WP_seq ?_
 refine WP_region ?_
 refine O_move rfl rfl rfl ?_
 refine C_len Echange rfl rfl rfl hs ?_
 refine O_move rfl rfl rfl ?_
 refine WL_end [(3, _), (7, _), (8, _), (9, _)] ⟨rfl, rfl, rfl, rfl, trivial⟩ ?_
 refine WP_block ?_
 refine WP_loop (S := Nat) (fun i => [(3, .string (frm l i)), (7, v), (8, .int .i64 (l.length : Nat)), (9, .int .i64 (i : Nat))]) (fun i w' => Ext w w' ∧ i ≤ l.length) (fun i => l.length - i) 0 ⟨rfl, rfl, rfl, rfl, trivial⟩ ⟨(Ext.refl _), Nat.zero_le _⟩ ?_
 rintro i w9 ⟨hE, hi⟩
 have zE := hE.size
 have hfi := hf i
 refine WP_seq ?_
 refine WP_region ?_
 refine O_lss rfl rfl rfl rfl rfl ?_
 refine WL_end [(3, _), (7, _), (8, _), (9, _), (10, _)] ⟨rfl, rfl, rfl, rfl, rfl, trivial⟩ ?_
 refine WP_seq ?_
 refine WP_condD rfl (fun c10 => ?_) (fun c10 => ?_)
 · --
  refine WP_skip ?_
  refine WP_seq ?_
  refine WP_block ?_
  refine WP_seq ?_
  have hilt : i < l.length := by omega
  have hnz := hn l[i] (List.getElem_mem hilt)
  · --
   skip
   refine WP_region ?_
   refine O_move rfl rfl rfl ?_
   refine C_index Echange rfl rfl rfl rfl (hs.ext hE) i rfl hilt (fun _ => ?_)
   refine K_load S74 rfl rfl rfl (SlC.row (j := i) (hs.ext hE) hilt) rfl ?_
   refine O_alloc S74 rfl rfl (fun g1 w1 b1 e1 gl1 gh1 => ?_)
   have z1 := e1.size
   refine O_assign rfl rfl rfl ?_
   refine O_storeA (cs' := [_, _, _, _]) S74 rfl rfl rfl b1 rfl rfl (one_cons rfl (one_cons rfl (one_cons rfl (one_cons rfl one_nil)))) rfl (fun w2 b2 q2 => ?_)
   have z2 := Nat.le_of_eq q2.size.symm
   have e2 : Ext w w2 := q2.ext (hE.trans e1) (by omega)
   have m3 := q2.ext e1 (by omega)
   refine WL_end [(3, _), (4, _), (5, _), (7, _), (8, _), (9, _)] ⟨rfl, rfl, rfl, rfl, rfl, rfl, trivial⟩ ?_
   refine WP_seq ?_
   refine WP_region ?_
   refine O_assign rfl rfl rfl ?_
   refine WL_end [(3, _), (4, _), (5, _), (6, _), (7, _), (8, _), (9, _)] ⟨rfl, rfl, rfl, rfl, rfl, rfl, rfl, trivial⟩ ?_
   refine WP_seq ?_
   refine WP_seq ?_
   refine WP_region ?_
   refine O_field F74_0 rfl rfl rfl ?_
   refine O_loadC Try.underlying3 rfl rfl rfl rfl b2 rfl ?_
   refine O_eql rfl rfl rfl rfl rfl ?_
   refine WL_end [(3, _), (4, _), (5, _), (6, _), (7, _), (8, _), (9, _), (16, _)] ⟨rfl, rfl, rfl, rfl, rfl, rfl, rfl, rfl, trivial⟩ ?_
   refine WP_condD rfl (fun c16 => ?_) (fun c16 => ?_)
   · --
    refine WP_region ?_
    refine O_assign rfl rfl rfl ?_
    refine WL_end [(3, _), (4, _), (5, _), (6, _), (7, _), (8, _), (9, _)] ⟨rfl, rfl, rfl, rfl, rfl, rfl, rfl, trivial⟩ ?_
    refine WP_seq ?_
    refine WP_seq ?_
    refine WP_region ?_
    refine O_move rfl rfl rfl ?_
    refine O_gtr rfl rfl rfl rfl rfl ?_
    refine WL_end [(3, _), (5, _), (6, _), (7, _), (8, _), (9, _), (21, _)] ⟨rfl, rfl, rfl, rfl, rfl, rfl, rfl, trivial⟩ ?_
    refine WP_condD rfl (fun c21 => ?_) (fun c21 => ?_)
    · --
     refine WP_region ?_
     refine O_move rfl rfl rfl ?_
     refine O_saddX rfl rfl rfl rfl (by rw [size1]; omega) ?_
     refine O_assign rfl rfl rfl ?_
     refine WL_end [(3, _), (5, _), (6, _), (7, _), (8, _), (9, _)] ⟨rfl, rfl, rfl, rfl, rfl, rfl, trivial⟩ ?_
     refine WP_region ?_
     refine O_move rfl rfl rfl ?_
     refine O_move rfl rfl rfl ?_
     refine O_saddX rfl rfl rfl rfl (by (try rw [ByteArray.size_append]); simp only [size1]; omega) ?_
     refine O_field F74_1 rfl rfl rfl ?_
     refine O_loadC Try.underlying9 rfl rfl rfl rfl b2 rfl ?_
     refine O_saddX rfl rfl rfl rfl (by (repeat rw [ByteArray.size_append]); simp only [size1]; omega) ?_
     refine O_assign rfl rfl rfl ?_
     refine WL_end [(3, _), (7, _), (8, _), (9, _)] ⟨rfl, rfl, rfl, rfl, trivial⟩ ?_
     refine WP_region ?_
     refine O_add rfl rfl rfl rfl (wrap_i64_id (by omega) (by omega)) ?_
     refine O_move rfl rfl rfl ?_
     refine WL_end [(3, _), (7, _), (8, _), (9, _)] ⟨rfl, rfl, rfl, rfl, trivial⟩ ?_
     refine ⟨i + 1, ⟨?_, rfl, rfl, rfl, trivial⟩, ⟨e2, by omega⟩, by omega⟩
     simp only [look]
     rw [frm_succ hilt]
     first | rw [if_pos (show 0 < i by omega)] | rw [if_neg (show ¬ 0 < i by omega)]
     unfold markB
     first
       | (rw [if_pos (show l[i].1 = 2 by assumption)] <;> rfl)
       | (rw [if_neg (show ¬ l[i].1 = 2 by assumption), if_pos (show l[i].2.2.1 = -1 by assumption)] <;> rfl)
       | (rw [if_neg (show ¬ l[i].1 = 2 by assumption), if_neg (show ¬ l[i].2.2.1 = -1 by assumption)] <;> rfl)
    · --
     refine WP_skip ?_
     refine WP_region ?_
     refine O_move rfl rfl rfl ?_
     refine O_move rfl rfl rfl ?_
     refine O_saddX rfl rfl rfl rfl (by (try rw [ByteArray.size_append]); simp only [size1]; omega) ?_
     refine O_field F74_1 rfl rfl rfl ?_
     refine O_loadC Try.underlying9 rfl rfl rfl rfl b2 rfl ?_
     refine O_saddX rfl rfl rfl rfl (by (repeat rw [ByteArray.size_append]); simp only [size1]; omega) ?_
     refine O_assign rfl rfl rfl ?_
     refine WL_end [(3, _), (7, _), (8, _), (9, _)] ⟨rfl, rfl, rfl, rfl, trivial⟩ ?_
     refine WP_region ?_
     refine O_add rfl rfl rfl rfl (wrap_i64_id (by omega) (by omega)) ?_
     refine O_move rfl rfl rfl ?_
     refine WL_end [(3, _), (7, _), (8, _), (9, _)] ⟨rfl, rfl, rfl, rfl, trivial⟩ ?_
     refine ⟨i + 1, ⟨?_, rfl, rfl, rfl, trivial⟩, ⟨e2, by omega⟩, by omega⟩
     simp only [look]
     rw [frm_succ hilt]
     first | rw [if_pos (show 0 < i by omega)] | rw [if_neg (show ¬ 0 < i by omega)]
     unfold markB
     first
       | (rw [if_pos (show l[i].1 = 2 by assumption)] <;> rfl)
       | (rw [if_neg (show ¬ l[i].1 = 2 by assumption), if_pos (show l[i].2.2.1 = -1 by assumption)] <;> rfl)
       | (rw [if_neg (show ¬ l[i].1 = 2 by assumption), if_neg (show ¬ l[i].2.2.1 = -1 by assumption)] <;> rfl)
   · --
    refine WP_seq ?_
    refine WP_region ?_
    refine O_field F74_2 rfl rfl rfl ?_
    refine O_loadC Try.underlying3 rfl rfl rfl rfl b2 rfl ?_
    refine O_eql rfl rfl rfl rfl rfl ?_
    refine WL_end [(3, _), (4, _), (5, _), (6, _), (7, _), (8, _), (9, _), (19, _)] ⟨rfl, rfl, rfl, rfl, rfl, rfl, rfl, rfl, trivial⟩ ?_
    refine WP_condD rfl (fun c19 => ?_) (fun c19 => ?_)
    · --
     refine WP_region ?_
     refine O_assign rfl rfl rfl ?_
     refine WL_end [(3, _), (4, _), (5, _), (6, _), (7, _), (8, _), (9, _)] ⟨rfl, rfl, rfl, rfl, rfl, rfl, rfl, trivial⟩ ?_
     refine WP_seq ?_
     refine WP_seq ?_
     refine WP_region ?_
     refine O_move rfl rfl rfl ?_
     refine O_gtr rfl rfl rfl rfl rfl ?_
     refine WL_end [(3, _), (5, _), (6, _), (7, _), (8, _), (9, _), (21, _)] ⟨rfl, rfl, rfl, rfl, rfl, rfl, rfl, trivial⟩ ?_
     refine WP_condD rfl (fun c21 => ?_) (fun c21 => ?_)
     · --
      refine WP_region ?_
      refine O_move rfl rfl rfl ?_
      refine O_saddX rfl rfl rfl rfl (by rw [size1]; omega) ?_
      refine O_assign rfl rfl rfl ?_
      refine WL_end [(3, _), (5, _), (6, _), (7, _), (8, _), (9, _)] ⟨rfl, rfl, rfl, rfl, rfl, rfl, trivial⟩ ?_
      refine WP_region ?_
      refine O_move rfl rfl rfl ?_
      refine O_move rfl rfl rfl ?_
      refine O_saddX rfl rfl rfl rfl (by (try rw [ByteArray.size_append]); simp only [size1]; omega) ?_
      refine O_field F74_1 rfl rfl rfl ?_
      refine O_loadC Try.underlying9 rfl rfl rfl rfl b2 rfl ?_
      refine O_saddX rfl rfl rfl rfl (by (repeat rw [ByteArray.size_append]); simp only [size1]; omega) ?_
      refine O_assign rfl rfl rfl ?_
      refine WL_end [(3, _), (7, _), (8, _), (9, _)] ⟨rfl, rfl, rfl, rfl, trivial⟩ ?_
      refine WP_region ?_
      refine O_add rfl rfl rfl rfl (wrap_i64_id (by omega) (by omega)) ?_
      refine O_move rfl rfl rfl ?_
      refine WL_end [(3, _), (7, _), (8, _), (9, _)] ⟨rfl, rfl, rfl, rfl, trivial⟩ ?_
      refine ⟨i + 1, ⟨?_, rfl, rfl, rfl, trivial⟩, ⟨e2, by omega⟩, by omega⟩
      simp only [look]
      rw [frm_succ hilt]
      first | rw [if_pos (show 0 < i by omega)] | rw [if_neg (show ¬ 0 < i by omega)]
      unfold markB
      first
        | (rw [if_pos (show l[i].1 = 2 by assumption)] <;> rfl)
        | (rw [if_neg (show ¬ l[i].1 = 2 by assumption), if_pos (show l[i].2.2.1 = -1 by assumption)] <;> rfl)
        | (rw [if_neg (show ¬ l[i].1 = 2 by assumption), if_neg (show ¬ l[i].2.2.1 = -1 by assumption)] <;> rfl)
     · --
      refine WP_skip ?_
      refine WP_region ?_
      refine O_move rfl rfl rfl ?_
      refine O_move rfl rfl rfl ?_
      refine O_saddX rfl rfl rfl rfl (by (try rw [ByteArray.size_append]); simp only [size1]; omega) ?_
      refine O_field F74_1 rfl rfl rfl ?_
      refine O_loadC Try.underlying9 rfl rfl rfl rfl b2 rfl ?_
      refine O_saddX rfl rfl rfl rfl (by (repeat rw [ByteArray.size_append]); simp only [size1]; omega) ?_
      refine O_assign rfl rfl rfl ?_
      refine WL_end [(3, _), (7, _), (8, _), (9, _)] ⟨rfl, rfl, rfl, rfl, trivial⟩ ?_
      refine WP_region ?_
      refine O_add rfl rfl rfl rfl (wrap_i64_id (by omega) (by omega)) ?_
      refine O_move rfl rfl rfl ?_
      refine WL_end [(3, _), (7, _), (8, _), (9, _)] ⟨rfl, rfl, rfl, rfl, trivial⟩ ?_
      refine ⟨i + 1, ⟨?_, rfl, rfl, rfl, trivial⟩, ⟨e2, by omega⟩, by omega⟩
      simp only [look]
      rw [frm_succ hilt]
      first | rw [if_pos (show 0 < i by omega)] | rw [if_neg (show ¬ 0 < i by omega)]
      unfold markB
      first
        | (rw [if_pos (show l[i].1 = 2 by assumption)] <;> rfl)
        | (rw [if_neg (show ¬ l[i].1 = 2 by assumption), if_pos (show l[i].2.2.1 = -1 by assumption)] <;> rfl)
        | (rw [if_neg (show ¬ l[i].1 = 2 by assumption), if_neg (show ¬ l[i].2.2.1 = -1 by assumption)] <;> rfl)
    · --
     refine WP_skip ?_
     refine WP_seq ?_
     refine WP_seq ?_
     refine WP_region ?_
     refine O_move rfl rfl rfl ?_
     refine O_gtr rfl rfl rfl rfl rfl ?_
     refine WL_end [(3, _), (5, _), (6, _), (7, _), (8, _), (9, _), (21, _)] ⟨rfl, rfl, rfl, rfl, rfl, rfl, rfl, trivial⟩ ?_
     refine WP_condD rfl (fun c21 => ?_) (fun c21 => ?_)
     · --
      refine WP_region ?_
      refine O_move rfl rfl rfl ?_
      refine O_saddX rfl rfl rfl rfl (by rw [size1]; omega) ?_
      refine O_assign rfl rfl rfl ?_
      refine WL_end [(3, _), (5, _), (6, _), (7, _), (8, _), (9, _)] ⟨rfl, rfl, rfl, rfl, rfl, rfl, trivial⟩ ?_
      refine WP_region ?_
      refine O_move rfl rfl rfl ?_
      refine O_move rfl rfl rfl ?_
      refine O_saddX rfl rfl rfl rfl (by (try rw [ByteArray.size_append]); simp only [size1]; omega) ?_
      refine O_field F74_1 rfl rfl rfl ?_
      refine O_loadC Try.underlying9 rfl rfl rfl rfl b2 rfl ?_
      refine O_saddX rfl rfl rfl rfl (by (repeat rw [ByteArray.size_append]); simp only [size1]; omega) ?_
      refine O_assign rfl rfl rfl ?_
      refine WL_end [(3, _), (7, _), (8, _), (9, _)] ⟨rfl, rfl, rfl, rfl, trivial⟩ ?_
      refine WP_region ?_
      refine O_add rfl rfl rfl rfl (wrap_i64_id (by omega) (by omega)) ?_
      refine O_move rfl rfl rfl ?_
      refine WL_end [(3, _), (7, _), (8, _), (9, _)] ⟨rfl, rfl, rfl, rfl, trivial⟩ ?_
      refine ⟨i + 1, ⟨?_, rfl, rfl, rfl, trivial⟩, ⟨e2, by omega⟩, by omega⟩
      simp only [look]
      rw [frm_succ hilt]
      first | rw [if_pos (show 0 < i by omega)] | rw [if_neg (show ¬ 0 < i by omega)]
      unfold markB
      first
        | (rw [if_pos (show l[i].1 = 2 by assumption)] <;> rfl)
        | (rw [if_neg (show ¬ l[i].1 = 2 by assumption), if_pos (show l[i].2.2.1 = -1 by assumption)] <;> rfl)
        | (rw [if_neg (show ¬ l[i].1 = 2 by assumption), if_neg (show ¬ l[i].2.2.1 = -1 by assumption)] <;> rfl)
     · --
      refine WP_skip ?_
      refine WP_region ?_
      refine O_move rfl rfl rfl ?_
      refine O_move rfl rfl rfl ?_
      refine O_saddX rfl rfl rfl rfl (by (try rw [ByteArray.size_append]); simp only [size1]; omega) ?_
      refine O_field F74_1 rfl rfl rfl ?_
      refine O_loadC Try.underlying9 rfl rfl rfl rfl b2 rfl ?_
      refine O_saddX rfl rfl rfl rfl (by (repeat rw [ByteArray.size_append]); simp only [size1]; omega) ?_
      refine O_assign rfl rfl rfl ?_
      refine WL_end [(3, _), (7, _), (8, _), (9, _)] ⟨rfl, rfl, rfl, rfl, trivial⟩ ?_
      refine WP_region ?_
      refine O_add rfl rfl rfl rfl (wrap_i64_id (by omega) (by omega)) ?_
      refine O_move rfl rfl rfl ?_
      refine WL_end [(3, _), (7, _), (8, _), (9, _)] ⟨rfl, rfl, rfl, rfl, trivial⟩ ?_
      refine ⟨i + 1, ⟨?_, rfl, rfl, rfl, trivial⟩, ⟨e2, by omega⟩, by omega⟩
      simp only [look]
      rw [frm_succ hilt]
      first | rw [if_pos (show 0 < i by omega)] | rw [if_neg (show ¬ 0 < i by omega)]
      unfold markB
      first
        | (rw [if_pos (show l[i].1 = 2 by assumption)] <;> rfl)
        | (rw [if_neg (show ¬ l[i].1 = 2 by assumption), if_pos (show l[i].2.2.1 = -1 by assumption)] <;> rfl)
        | (rw [if_neg (show ¬ l[i].1 = 2 by assumption), if_neg (show ¬ l[i].2.2.1 = -1 by assumption)] <;> rfl)
 · --
  refine WP_exit ?_
  refine inBlk_hit ?_
  refine WP_seq ?_
  refine WP_region ?_
  refine O_move rfl rfl rfl ?_
  refine O_assign rfl rfl rfl ?_
  refine WL_end [(2, _)] ⟨rfl, trivial⟩ ?_
  refine WP_ret ?_
  refine ret1 Try.results50 rfl ?_
  have hie : i = l.length := by omega
  subst hie
  exact ⟨_, rfl, hE, rfl⟩

end Go.Proofs.Ytoccimigjjndpaa
