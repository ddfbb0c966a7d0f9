/-
  Walks.
-/
import Derived.Test.YtoccimigjjndpaaW3
set_option linter.unusedVariables false
set_option linter.unusedSimpArgs false
set_option maxRecDepth 100000
namespace Go.Proofs.Ytoccimigjjndpaa
open Go Go.RowKit
set_option maxHeartbeats 1000000 in
theorem changed_c {w : World} {v : Value} {l : List Ch} (hs : SlC w v l) (hl : l.length ≤ 1000000) :
    Calls Try.prog 82 #[v] w (Ret w fun r w' => OwM fS w.heap.size 9 w' r (l.map (·.2.1))) := by
 refine enter (args := [v]) Try.func82 rfl Try.ntmps82 rfl ?_
 refine WP_seq ?_
 refine WP_region ?_
 refine O_assign rfl rfl rfl ?_
 refine WL_end [(0, _)] ⟨rfl, trivial⟩ ?_
 refine WP_seq ?_
 refine WP_region ?_
 refine O_assign rfl rfl rfl ?_
 refine WL_end [(0, _), (3, _)] ⟨rfl, rfl, trivial⟩ ?_
 refine WP_seq ?_
 refine WP_seq ?_
 refine WP_region ?_
 refine O_move rfl rfl rfl ?_
 refine C_len Echange rfl rfl rfl hs ?_
 refine O_move rfl rfl rfl ?_
 refine WL_end [(3, _), (6, _), (7, _), (8, _)] ⟨rfl, rfl, rfl, rfl, trivial⟩ ?_
 refine WP_block ?_
 refine WP_loop (S := Nat × Value) (fun (i, ov) => [(3, ov), (6, v), (7, .int .i64 (l.length : Nat)), (8, .int .i64 (i : Nat))]) (fun (i, ov) w' => Ext w w' ∧ OwM fS w.heap.size 9 w' ov ((l.take i).map (·.2.1)) ∧ i ≤ l.length) (fun (i, ov) => l.length - i) (0, .slice none 0 0) ⟨rfl, rfl, rfl, rfl, trivial⟩ ⟨(Ext.refl _), OwM.nil _ _ _, Nat.zero_le _⟩ ?_
 rintro ⟨i, ov⟩ w9 ⟨hE, hov, hi⟩
 show WP _ _ _ _ _ [(3, ov), (6, v), (7, .int .i64 (l.length : Nat)), (8, .int .i64 (i : Nat))] _
 have zE := hE.size
 refine WP_seq ?_
 refine WP_region ?_
 refine O_lss rfl rfl rfl rfl rfl ?_
 refine WL_end [(3, _), (6, _), (7, _), (8, _), (9, _)] ⟨rfl, rfl, rfl, rfl, rfl, trivial⟩ ?_
 refine WP_seq ?_
 refine WP_condD rfl (fun c9 => ?_) (fun c9 => ?_)
 · --
  refine WP_skip ?_
  refine WP_seq ?_
  refine WP_block ?_
  refine WP_seq ?_
  have hilt : i < l.length := by omega
  · --
   skip
   refine WP_region ?_
   refine C_index Echange rfl rfl rfl rfl (hs.ext hE) i rfl hilt (fun _ => ?_)
   refine K_load S74 rfl rfl rfl (SlC.row (j := i) (hs.ext hE) hilt) rfl ?_
   refine O_alloc S74 rfl rfl (fun g1 w1 b1 e1 gl1 gh1 => ?_)
   have z1 := e1.size
   refine O_storeA (cs' := [_, _, _, _]) S74 rfl rfl rfl b1 rfl rfl (one_cons rfl (one_cons rfl (one_cons rfl (one_cons rfl one_nil)))) rfl (fun w2 b2 q2 => ?_)
   have z2 := Nat.le_of_eq q2.size.symm
   have e2 : Ext w w2 := q2.ext (hE.trans e1) (by omega)
   have m3 := q2.ext e1 (by omega)
   refine WL_end [(3, _), (5, _), (6, _), (7, _), (8, _)] ⟨rfl, rfl, rfl, rfl, rfl, trivial⟩ ?_
   refine WP_region ?_
   refine O_move rfl rfl rfl ?_
   refine O_field F74_1 rfl rfl rfl ?_
   refine O_loadC Try.underlying9 rfl rfl rfl rfl b2 rfl ?_
   refine M_lit M52 rfl rfl fS [_] (by intro a _; rfl) rfl rfl rfl rfl rfl (fun v4 w4 o4 e4 => ?_)
   have z4 := e4.size
   refine M_append M52 rfl rfl rfl rfl rfl ((hov.ext m3).ext e4) o4.sl (by simp) (by simp [Value.oneCell']) (by simp only [List.length_map, List.length_take, List.length_singleton]; omega) rfl (by omega) (fun v5 w5 o5 r5 q5 => ?_)
   have e5 : Ext w w5 := ((hov.ext m3).ext e4).ext_grown r5 (e2.trans e4) (by omega)
   have z5 := r5.size
   have x5 := OwM.grownT ((hov.ext m3).ext e4) r5
   refine O_assign rfl rfl rfl ?_
   refine WL_end [(3, _), (6, _), (7, _), (8, _)] ⟨rfl, rfl, rfl, rfl, trivial⟩ ?_
   refine WP_region ?_
   refine O_add rfl rfl rfl rfl (wrap_i64_id (by omega) (by omega)) ?_
   refine O_move rfl rfl rfl ?_
   refine WL_end [(3, _), (6, _), (7, _), (8, _)] ⟨rfl, rfl, rfl, rfl, trivial⟩ ?_
   exact ⟨(i + 1, _), ⟨rfl, rfl, rfl, rfl, trivial⟩, ⟨e5, by rw [List.take_add_one, List.getElem?_eq_getElem hilt]; simp only [List.map_append, Option.toList_some, List.map_cons, List.map_nil]; exact o5, by omega⟩, by dsimp only; omega⟩
 · --
  refine WP_exit ?_
  refine inBlk_hit ?_
  refine WP_seq ?_
  refine WP_region ?_
  refine O_move rfl rfl rfl ?_
  refine O_assign rfl rfl rfl ?_
  refine WL_end [(2, _)] ⟨rfl, trivial⟩ ?_
  refine WP_ret ?_
  refine ret1 Try.results82 rfl ?_
  have hie : i = l.length := by omega
  subst hie
  rw [List.take_length] at hov
  exact ⟨_, rfl, hE, hov⟩

end Go.Proofs.Ytoccimigjjndpaa
