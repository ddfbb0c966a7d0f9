/-
  Walks.
-/
import Derived.Test.YtoccimigjjndpaaForest
set_option linter.unusedVariables false
set_option linter.unusedSimpArgs false
set_option maxRecDepth 100000
namespace Go.Proofs.Ytoccimigjjndpaa
open Go Go.RowKit
theorem S54 : StT Try.prog 54 2 [.string ByteArray.empty, .int .i64 0] := StT.mk' (by kernel_rfl)
theorem F54_0 : FdT Try.prog 54 0 0 := FdT.mk' (by kernel_rfl)
theorem F54_1 : FdT Try.prog 54 1 1 := FdT.mk' (by kernel_rfl)
theorem B54 : BdT Try.prog 54 [.string ByteArray.empty, .int .i64 0] [(0, 1), (1, 1)] := BdT.mk' (by kernel_rfl)
theorem S74 : StT Try.prog 74 4 [.int .i64 0, .string ByteArray.empty, .int .i64 0, .int .i64 0] := StT.mk' (by kernel_rfl)
theorem F74_0 : FdT Try.prog 74 0 0 := FdT.mk' (by kernel_rfl)
theorem F74_1 : FdT Try.prog 74 1 1 := FdT.mk' (by kernel_rfl)
theorem F74_2 : FdT Try.prog 74 2 2 := FdT.mk' (by kernel_rfl)
theorem F74_3 : FdT Try.prog 74 3 3 := FdT.mk' (by kernel_rfl)
theorem B74 : BdT Try.prog 74 [.int .i64 0, .string ByteArray.empty, .int .i64 0, .int .i64 0] [(0, 1), (1, 1), (2, 1), (3, 1)] := BdT.mk' (by kernel_rfl)
theorem S97 : StT Try.prog 97 6 [.string ByteArray.empty, .int .i64 0, .int .i64 0, .int .i64 0, .int .i64 0, .int .i64 0] := StT.mk' (by kernel_rfl)
theorem F97_0 : FdT Try.prog 97 0 0 := FdT.mk' (by kernel_rfl)
theorem F97_1 : FdT Try.prog 97 1 2 := FdT.mk' (by kernel_rfl)
theorem F97_2 : FdT Try.prog 97 2 3 := FdT.mk' (by kernel_rfl)
theorem F97_3 : FdT Try.prog 97 3 4 := FdT.mk' (by kernel_rfl)
theorem F97_4 : FdT Try.prog 97 4 5 := FdT.mk' (by kernel_rfl)
theorem B97 : BdT Try.prog 97 [.string ByteArray.empty, .int .i64 0, .int .i64 0, .int .i64 0, .int .i64 0, .int .i64 0] [(0, 2), (2, 1), (3, 1), (4, 1), (5, 1)] := BdT.mk' (by kernel_rfl)
theorem S103 : StT Try.prog 103 1 [.slice none 0 0] := StT.mk' (by kernel_rfl)
theorem F103_0 : FdT Try.prog 103 0 0 := FdT.mk' (by kernel_rfl)
theorem B103 : BdT Try.prog 103 [.slice none 0 0] [(0, 1)] := BdT.mk' (by kernel_rfl)
theorem S100 : StT Try.prog 100 2 [.slice none 0 0, .int .i64 0] := StT.mk' (by kernel_rfl)
theorem F100_0 : FdT Try.prog 100 0 0 := FdT.mk' (by kernel_rfl)
theorem F100_1 : FdT Try.prog 100 1 1 := FdT.mk' (by kernel_rfl)
theorem B100 : BdT Try.prog 100 [.slice none 0 0, .int .i64 0] [(0, 1), (1, 1)] := BdT.mk' (by kernel_rfl)
theorem S32 : StT Try.prog 32 3 [.pointer none, .slice none 0 0, .slice none 0 0] := StT.mk' (by kernel_rfl)
theorem F32_0 : FdT Try.prog 32 0 0 := FdT.mk' (by kernel_rfl)
theorem F32_1 : FdT Try.prog 32 1 1 := FdT.mk' (by kernel_rfl)
theorem F32_2 : FdT Try.prog 32 2 2 := FdT.mk' (by kernel_rfl)
theorem B32 : BdT Try.prog 32 [.pointer none, .slice none 0 0, .slice none 0 0] [(0, 1), (1, 1), (2, 1)] := BdT.mk' (by kernel_rfl)

theorem V97_1 : FvT Try.prog 97 1 2 := FvT.mk' (by kernel_rfl)
theorem V97_2 : FvT Try.prog 97 2 3 := FvT.mk' (by kernel_rfl)
theorem V97_3 : FvT Try.prog 97 3 4 := FvT.mk' (by kernel_rfl)
theorem V97_4 : FvT Try.prog 97 4 5 := FvT.mk' (by kernel_rfl)
theorem V54_0 : FvT Try.prog 54 0 0 := FvT.mk' (by kernel_rfl)
theorem V54_1 : FvT Try.prog 54 1 1 := FvT.mk' (by kernel_rfl)
theorem one3 : (Try.prog.info? 3).map (·.size) = some 1 := by kernel_rfl
theorem one4 : (Try.prog.info? 4).map (·.size) = some 1 := by kernel_rfl
theorem one9 : (Try.prog.info? 9).map (·.size) = some 1 := by kernel_rfl
theorem one22 : (Try.prog.info? 22).map (·.size) = some 1 := by kernel_rfl
theorem one34 : (Try.prog.info? 34).map (·.size) = some 1 := by kernel_rfl
theorem one101 : (Try.prog.info? 101).map (·.size) = some 1 := by kernel_rfl
theorem one30 : (Try.prog.info? 30).map (·.size) = some 1 := by kernel_rfl
theorem one52 : (Try.prog.info? 52).map (·.size) = some 1 := by kernel_rfl
theorem one66 : (Try.prog.info? 66).map (·.size) = some 1 := by kernel_rfl

theorem get_c {w : World} {g r : Nat} {ps : List Part} (hF : Fo w g r ps) {i : Int} :
    Calls Try.prog 62 #[.pointer (some ⟨g, 0, none⟩), .int .i64 i] w (Ret w fun r _ => r = .agg (pcells (pget ps i)).toArray) := by
 have hF0 := hF
 obtain ⟨fv, hB, hO, hne, hr⟩ := hF
 have hlm : (ps.map pcells).length = ps.length := List.length_map ..
 refine enter (args := [_, _]) Try.func62 rfl Try.ntmps62 rfl ?_
 refine WP_seq ?_
 refine WP_region ?_
 refine O_alloc S97 rfl rfl (fun g1 w1 b1 e1 gl1 gh1 => ?_)
 have z1 := e1.size
 refine WL_end [(0, _), (1, _), (4, _)] ⟨rfl, rfl, rfl, trivial⟩ ?_
 refine WP_seq ?_
 refine WP_seq ?_
 refine WP_region ?_
 refine O_move rfl rfl rfl ?_
 refine O_lss rfl rfl rfl rfl rfl ?_
 refine O_move rfl rfl rfl ?_
 refine WL_dec 7 rfl (fun g7 => ?_) (fun g7 => ?_)
 · --
  refine O_skip rfl rfl ?_
  refine O_skip rfl rfl ?_
  refine O_skip rfl rfl ?_
  refine O_skip rfl rfl ?_
  refine O_skip rfl rfl ?_
  refine O_skip rfl rfl ?_
  refine O_skip rfl rfl ?_
  refine O_pickT rfl rfl rfl rfl ?_
  refine WL_end [(0, _), (1, _), (4, _), (15, _)] ⟨rfl, rfl, rfl, rfl, trivial⟩ ?_
  refine WP_condT rfl ?_
  refine WP_seq ?_
  refine WP_region ?_
  refine O_build (cs := [_, _, _, _, _, _]) B97 rfl rfl rfl (cells_cons rfl (cells_cons rfl cells_nil)) rfl ?_
  refine O_storeA (cs' := [_, _, _, _, _, _]) S97 rfl rfl rfl b1 rfl rfl (one_cons rfl (one_cons rfl (one_cons rfl (one_cons rfl (one_cons rfl (one_cons rfl one_nil)))))) rfl (fun w2 b2 q2 => ?_)
  have z2 := Nat.le_of_eq q2.size.symm
  have e2 : Ext w w2 := q2.ext e1 (by omega)
  refine WL_end [(4, _)] ⟨rfl, trivial⟩ ?_
  refine WP_ret ?_
  refine retL Try.results62 (.cell rfl S97 b2 rfl .nil) ?_
  exact ⟨_, rfl, e2, by rw [show pget ps i = pzero from by unfold pget; first | rw [if_neg (by omega)] | (rw [if_pos (by omega), List.getD_eq_getElem?_getD, List.getElem?_eq_none (by omega)]; rfl)]; rfl⟩
 · --
  refine O_move rfl rfl rfl ?_
  refine O_move rfl rfl rfl ?_
  refine O_nilCheck rfl rfl rfl ?_
  refine O_field F103_0 rfl rfl rfl ?_
  refine O_loadC Try.underlying101 rfl rfl rfl rfl (hB.ext e1) rfl ?_
  refine K_len Eparts rfl rfl rfl (hO.ext e1).sl ?_
  refine O_geq rfl rfl rfl rfl rfl ?_
  refine O_pickF rfl rfl rfl rfl ?_
  refine WL_end [(0, _), (1, _), (4, _), (15, _)] ⟨rfl, rfl, rfl, rfl, trivial⟩ ?_
  refine WP_condD rfl (fun c15 => ?_) (fun c15 => ?_)
  · --
   refine WP_seq ?_
   refine WP_region ?_
   refine O_build (cs := [_, _, _, _, _, _]) B97 rfl rfl rfl (cells_cons rfl (cells_cons rfl cells_nil)) rfl ?_
   refine O_storeA (cs' := [_, _, _, _, _, _]) S97 rfl rfl rfl b1 rfl rfl (one_cons rfl (one_cons rfl (one_cons rfl (one_cons rfl (one_cons rfl (one_cons rfl one_nil)))))) rfl (fun w3 b3 q3 => ?_)
   have z3 := Nat.le_of_eq q3.size.symm
   have e3 : Ext w w3 := q3.ext e1 (by omega)
   refine WL_end [(4, _)] ⟨rfl, trivial⟩ ?_
   refine WP_ret ?_
   refine retL Try.results62 (.cell rfl S97 b3 rfl .nil) ?_
   exact ⟨_, rfl, e3, by rw [show pget ps i = pzero from by unfold pget; first | rw [if_neg (by omega)] | (rw [if_pos (by omega), List.getD_eq_getElem?_getD, List.getElem?_eq_none (by omega)]; rfl)]; rfl⟩
  · --
   refine WP_skip ?_
   refine WP_seq ?_
   refine WP_region ?_
   refine O_move rfl rfl rfl ?_
   refine O_nilCheck rfl rfl rfl ?_
   refine O_field F103_0 rfl rfl rfl ?_
   refine O_loadC Try.underlying101 rfl rfl rfl rfl (hB.ext e1) rfl ?_
   refine O_move rfl rfl rfl ?_
   refine K_index Eparts rfl rfl rfl rfl (hO.ext e1).sl i.toNat (by omega) (by omega) (fun p hp hc => ?_)
   rw [prow] at hc
   refine K_load S97 rfl rfl rfl hc rfl ?_
   refine O_storeA (cs' := [_, _, _, _, _, _]) S97 rfl rfl rfl b1 rfl rfl (one_cons rfl (one_cons rfl (one_cons rfl (one_cons rfl (one_cons rfl (one_cons rfl one_nil)))))) rfl (fun w4 b4 q4 => ?_)
   have z4 := Nat.le_of_eq q4.size.symm
   have e4 : Ext w w4 := q4.ext e1 (by omega)
   refine WL_end [(4, _)] ⟨rfl, trivial⟩ ?_
   refine WP_ret ?_
   refine retL Try.results62 (.cell rfl S97 b4 rfl .nil) ?_
   exact ⟨_, rfl, e4, by rw [show pget ps i = ps[i.toNat]'(by omega) from by unfold pget; rw [if_pos (by omega), List.getD_eq_getElem?_getD, List.getElem?_eq_getElem (by omega)]; rfl]; rfl⟩

theorem getT_c {w : World} {g r : Nat} {ps : List Part} (hF : Fo w g r ps) {i : Int} {t : Tr} (hR : Rep ps i t) : Calls Try.prog 62 #[.pointer (some ⟨g, 0, none⟩), .int .i64 i] w (Ret w fun v _ => ∃ a b, v = .agg #[.string t.ky, .int .i64 t.vl, .int .i64 a, .int .i64 b, .int .i64 (t.ht : Nat), .int .i64 (t.cnt : Nat)] ∧ Rep ps a t.lf ∧ Rep ps b t.rt_) :=
  (get_c hF).mono fun _ w' ⟨v, he, hx, hv⟩ => by
    obtain ⟨a, b, h1, h2, h3⟩ := hR.get
    exact ⟨v, he, hx, a, b, by rw [hv, h1]; rfl, h2, h3⟩

theorem empty_c {w : World} {g r : Nat} {ps : List Part} (hF : Fo w g r ps) {i : Int} {t : Tr} (hR : Rep ps i t) :
    Calls Try.prog 67 #[.pointer (some ⟨g, 0, none⟩), .int .i64 i] w (Ret w fun r _ => r = .bool (decide (t.ht = 0))) := by
 have hF0 := hF
 obtain ⟨fv, hB, hO, hne, hr⟩ := hF
 have hlm : (ps.map pcells).length = ps.length := List.length_map ..
 refine enter (args := [_, _]) Try.func67 rfl Try.ntmps67 rfl ?_
 refine WP_seq ?_
 refine WP_region ?_
 refine O_assign rfl rfl rfl ?_
 refine WL_end [(0, _), (1, _)] ⟨rfl, rfl, trivial⟩ ?_
 refine WP_seq ?_
 refine WP_region ?_
 refine O_move rfl rfl rfl ?_
 refine O_lss rfl rfl rfl rfl rfl ?_
 refine O_move rfl rfl rfl ?_
 refine WL_dec 7 rfl (fun g7 => ?_) (fun g7 => ?_)
 · --
  refine O_skip rfl rfl ?_
  refine O_skip rfl rfl ?_
  refine O_skip rfl rfl ?_
  refine O_skip rfl rfl ?_
  refine O_skip rfl rfl ?_
  refine O_skip rfl rfl ?_
  refine O_skip rfl rfl ?_
  refine O_pickT rfl rfl rfl rfl ?_
  refine O_assign rfl rfl rfl ?_
  refine WL_end [(4, _)] ⟨rfl, trivial⟩ ?_
  refine WP_ret ?_
  refine ret1 Try.results67 rfl ?_
  exact ⟨_, rfl, (Ext.refl _), by rw [decide_eq_true (hR.empty.1 (by omega))]⟩
 · --
  refine O_move rfl rfl rfl ?_
  refine O_move rfl rfl rfl ?_
  refine O_nilCheck rfl rfl rfl ?_
  refine O_field F103_0 rfl rfl rfl ?_
  refine O_loadC Try.underlying101 rfl rfl rfl rfl hB rfl ?_
  refine K_len Eparts rfl rfl rfl hO.sl ?_
  refine O_geq rfl rfl rfl rfl rfl ?_
  refine O_pickF rfl rfl rfl rfl ?_
  refine O_assign rfl rfl rfl ?_
  refine WL_end [(4, _)] ⟨rfl, trivial⟩ ?_
  refine WP_ret ?_
  refine ret1 Try.results67 rfl ?_
  exact ⟨_, rfl, (Ext.refl _), congrArg Value.bool (decide_eq_decide.2 ⟨fun h => hR.empty.1 (by omega), fun h => by have := hR.empty.2 h; omega⟩)⟩


theorem empty_T {w : World} {g r : Nat} {ps : List Part} (hF : Fo w g r ps) {i : Int} {t : Tr} (hR : Rep ps i t) (h : t.ht = 0) : Calls Try.prog 67 #[.pointer (some ⟨g, 0, none⟩), .int .i64 i] w (Ret w fun r _ => r = .bool true) :=
  (empty_c hF hR).mono fun _ w' ⟨r, he, hx', hr⟩ => ⟨r, he, hx', by rw [hr, decide_eq_true h]⟩
theorem empty_F {w : World} {g r : Nat} {ps : List Part} (hF : Fo w g r ps) {i : Int} {t : Tr} (hR : Rep ps i t) (h : t.ht ≠ 0) : Calls Try.prog 67 #[.pointer (some ⟨g, 0, none⟩), .int .i64 i] w (Ret w fun r _ => r = .bool false) :=
  (empty_c hF hR).mono fun _ w' ⟨r, he, hx', hr⟩ => ⟨r, he, hx', by rw [hr, decide_eq_false h]⟩

end Go.Proofs.Ytoccimigjjndpaa
