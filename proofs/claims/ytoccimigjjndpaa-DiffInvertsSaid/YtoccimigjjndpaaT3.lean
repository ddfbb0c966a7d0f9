/-
  Walks.
-/
import Derived.Test.YtoccimigjjndpaaForest
set_option linter.unusedVariables false
set_option linter.unusedSimpArgs false
set_option maxRecDepth 100000
namespace Go.Proofs.Ytoccimigjjndpaa
open Go Go.RowKit
theorem S54 : StT Try.prog 54 2 [.string ByteArray.empty, .int .i64 0] := StT.mk' (by kernel_rfl)
theorem F54_0 : FdT Try.prog 54 0 0 := FdT.mk' (by kernel_rfl)
theorem F54_1 : FdT Try.prog 54 1 1 := FdT.mk' (by kernel_rfl)
theorem B54 : BdT Try.prog 54 [.string ByteArray.empty, .int .i64 0] [(0, 1), (1, 1)] := BdT.mk' (by kernel_rfl)
theorem S74 : StT Try.prog 74 4 [.int .i64 0, .string ByteArray.empty, .int .i64 0, .int .i64 0] := StT.mk' (by kernel_rfl)
theorem F74_0 : FdT Try.prog 74 0 0 := FdT.mk' (by kernel_rfl)
theorem F74_1 : FdT Try.prog 74 1 1 := FdT.mk' (by kernel_rfl)
theorem F74_2 : FdT Try.prog 74 2 2 := FdT.mk' (by kernel_rfl)
theorem F74_3 : FdT Try.prog 74 3 3 := FdT.mk' (by kernel_rfl)
theorem B74 : BdT Try.prog 74 [.int .i64 0, .string ByteArray.empty, .int .i64 0, .int .i64 0] [(0, 1), (1, 1), (2, 1), (3, 1)] := BdT.mk' (by kernel_rfl)
theorem S97 : StT Try.prog 97 6 [.string ByteArray.empty, .int .i64 0, .int .i64 0, .int .i64 0, .int .i64 0, .int .i64 0] := StT.mk' (by kernel_rfl)
theorem F97_0 : FdT Try.prog 97 0 0 := FdT.mk' (by kernel_rfl)
theorem F97_1 : FdT Try.prog 97 1 2 := FdT.mk' (by kernel_rfl)
theorem F97_2 : FdT Try.prog 97 2 3 := FdT.mk' (by kernel_rfl)
theorem F97_3 : FdT Try.prog 97 3 4 := FdT.mk' (by kernel_rfl)
theorem F97_4 : FdT Try.prog 97 4 5 := FdT.mk' (by kernel_rfl)
theorem B97 : BdT Try.prog 97 [.string ByteArray.empty, .int .i64 0, .int .i64 0, .int .i64 0, .int .i64 0, .int .i64 0] [(0, 2), (2, 1), (3, 1), (4, 1), (5, 1)] := BdT.mk' (by kernel_rfl)
theorem S103 : StT Try.prog 103 1 [.slice none 0 0] := StT.mk' (by kernel_rfl)
theorem F103_0 : FdT Try.prog 103 0 0 := FdT.mk' (by kernel_rfl)
theorem B103 : BdT Try.prog 103 [.slice none 0 0] [(0, 1)] := BdT.mk' (by kernel_rfl)
theorem S100 : StT Try.prog 100 2 [.slice none 0 0, .int .i64 0] := StT.mk' (by kernel_rfl)
theorem F100_0 : FdT Try.prog 100 0 0 := FdT.mk' (by kernel_rfl)
theorem F100_1 : FdT Try.prog 100 1 1 := FdT.mk' (by kernel_rfl)
theorem B100 : BdT Try.prog 100 [.slice none 0 0, .int .i64 0] [(0, 1), (1, 1)] := BdT.mk' (by kernel_rfl)
theorem S32 : StT Try.prog 32 3 [.pointer none, .slice none 0 0, .slice none 0 0] := StT.mk' (by kernel_rfl)
theorem F32_0 : FdT Try.prog 32 0 0 := FdT.mk' (by kernel_rfl)
theorem F32_1 : FdT Try.prog 32 1 1 := FdT.mk' (by kernel_rfl)
theorem F32_2 : FdT Try.prog 32 2 2 := FdT.mk' (by kernel_rfl)
theorem B32 : BdT Try.prog 32 [.pointer none, .slice none 0 0, .slice none 0 0] [(0, 1), (1, 1), (2, 1)] := BdT.mk' (by kernel_rfl)

theorem V97_1 : FvT Try.prog 97 1 2 := FvT.mk' (by kernel_rfl)
theorem V97_2 : FvT Try.prog 97 2 3 := FvT.mk' (by kernel_rfl)
theorem V97_3 : FvT Try.prog 97 3 4 := FvT.mk' (by kernel_rfl)
theorem V97_4 : FvT Try.prog 97 4 5 := FvT.mk' (by kernel_rfl)
theorem V54_0 : FvT Try.prog 54 0 0 := FvT.mk' (by kernel_rfl)
theorem V54_1 : FvT Try.prog 54 1 1 := FvT.mk' (by kernel_rfl)
theorem one3 : (Try.prog.info? 3).map (·.size) = some 1 := by kernel_rfl
theorem one4 : (Try.prog.info? 4).map (·.size) = some 1 := by kernel_rfl
theorem one9 : (Try.prog.info? 9).map (·.size) = some 1 := by kernel_rfl
theorem one22 : (Try.prog.info? 22).map (·.size) = some 1 := by kernel_rfl
theorem one34 : (Try.prog.info? 34).map (·.size) = some 1 := by kernel_rfl
theorem one101 : (Try.prog.info? 101).map (·.size) = some 1 := by kernel_rfl
theorem one30 : (Try.prog.info? 30).map (·.size) = some 1 := by kernel_rfl
theorem one52 : (Try.prog.info? 52).map (·.size) = some 1 := by kernel_rfl
theorem one66 : (Try.prog.info? 66).map (·.size) = some 1 := by kernel_rfl

theorem get_c {w : World} {g r : Nat} {ps : List Part} (hF : Fo w g r ps) {i : Int} :
    Calls Try.prog 62 #[.pointer (some ⟨g, 0, none⟩), .int .i64 i] w (Ret w fun r _ => r = .agg (pcells (pget ps i)).toArray) := by
 have hF0 := hF
 obtain ⟨fv, hB, hO, hne, hr⟩ := hF
 have hlm : (ps.map pcells).length = ps.length := List.length_map ..
 refine enter (args := [_, _]) Try.func62 rfl Try.ntmps62 rfl ?_
 refine WP_seq ?_
 refine WP_region ?_
 refine O_alloc S97 rfl rfl (fun g1 w1 b1 e1 gl1 gh1 => ?_)
 have z1 := e1.size
 refine WL_end [(0, _), (1, _), (4, _)] ⟨rfl, rfl, rfl, trivial⟩ ?_
 refine WP_seq ?_
 refine WP_seq ?_
 refine WP_region ?_
 refine O_move rfl rfl rfl ?_
 refine O_lss rfl rfl rfl rfl rfl ?_
 refine O_move rfl rfl rfl ?_
 refine WL_dec 7 rfl (fun g7 => ?_) (fun g7 => ?_)
 · --
  refine O_skip rfl rfl ?_
  refine O_skip rfl rfl ?_
  refine O_skip rfl rfl ?_
  refine O_skip rfl rfl ?_
  refine O_skip rfl rfl ?_
  refine O_skip rfl rfl ?_
  refine O_skip rfl rfl ?_
  refine O_pickT rfl rfl rfl rfl ?_
  refine WL_end [(0, _), (1, _), (4, _), (15, _)] ⟨rfl, rfl, rfl, rfl, trivial⟩ ?_
  refine WP_condT rfl ?_
  refine WP_seq ?_
  refine WP_region ?_
  refine O_build (cs := [_, _, _, _, _, _]) B97 rfl rfl rfl (cells_cons rfl (cells_cons rfl cells_nil)) rfl ?_
  refine O_storeA (cs' := [_, _, _, _, _, _]) S97 rfl rfl rfl b1 rfl rfl (one_cons rfl (one_cons rfl (one_cons rfl (one_cons rfl (one_cons rfl (one_cons rfl one_nil)))))) rfl (fun w2 b2 q2 => ?_)
  have z2 := Nat.le_of_eq q2.size.symm
  have e2 : Ext w w2 := q2.ext e1 (by omega)
  refine WL_end [(4, _)] ⟨rfl, trivial⟩ ?_
  refine WP_ret ?_
  refine retL Try.results62 (.cell rfl S97 b2 rfl .nil) ?_
  exact ⟨_, rfl, e2, by rw [show pget ps i = pzero from by unfold pget; first | rw [if_neg (by omega)] | (rw [if_pos (by omega), List.getD_eq_getElem?_getD, List.getElem?_eq_none (by omega)]; rfl)]; rfl⟩
 · --
  refine O_move rfl rfl rfl ?_
  refine O_move rfl rfl rfl ?_
  refine O_nilCheck rfl rfl rfl ?_
  refine O_field F103_0 rfl rfl rfl ?_
  refine O_loadC Try.underlying101 rfl rfl rfl rfl (hB.ext e1) rfl ?_
  refine K_len Eparts rfl rfl rfl (hO.ext e1).sl ?_
  refine O_geq rfl rfl rfl rfl rfl ?_
  refine O_pickF rfl rfl rfl rfl ?_
  refine WL_end [(0, _), (1, _), (4, _), (15, _)] ⟨rfl, rfl, rfl, rfl, trivial⟩ ?_
  refine WP_condD rfl (fun c15 => ?_) (fun c15 => ?_)
  · --
   refine WP_seq ?_
   refine WP_region ?_
   refine O_build (cs := [_, _, _, _, _, _]) B97 rfl rfl rfl (cells_cons rfl (cells_cons rfl cells_nil)) rfl ?_
   refine O_storeA (cs' := [_, _, _, _, _, _]) S97 rfl rfl rfl b1 rfl rfl (one_cons rfl (one_cons rfl (one_cons rfl (one_cons rfl (one_cons rfl (one_cons rfl one_nil)))))) rfl (fun w3 b3 q3 => ?_)
   have z3 := Nat.le_of_eq q3.size.symm
   have e3 : Ext w w3 := q3.ext e1 (by omega)
   refine WL_end [(4, _)] ⟨rfl, trivial⟩ ?_
   refine WP_ret ?_
   refine retL Try.results62 (.cell rfl S97 b3 rfl .nil) ?_
   exact ⟨_, rfl, e3, by rw [show pget ps i = pzero from by unfold pget; first | rw [if_neg (by omega)] | (rw [if_pos (by omega), List.getD_eq_getElem?_getD, List.getElem?_eq_none (by omega)]; rfl)]; rfl⟩
  · --
   refine WP_skip ?_
   refine WP_seq ?_
   refine WP_region ?_
   refine O_move rfl rfl rfl ?_
   refine O_nilCheck rfl rfl rfl ?_
   refine O_field F103_0 rfl rfl rfl ?_
   refine O_loadC Try.underlying101 rfl rfl rfl rfl (hB.ext e1) rfl ?_
   refine O_move rfl rfl rfl ?_
   refine K_index Eparts rfl rfl rfl rfl (hO.ext e1).sl i.toNat (by omega) (by omega) (fun p hp hc => ?_)
   rw [prow] at hc
   refine K_load S97 rfl rfl rfl hc rfl ?_
   refine O_storeA (cs' := [_, _, _, _, _, _]) S97 rfl rfl rfl b1 rfl rfl (one_cons rfl (one_cons rfl (one_cons rfl (one_cons rfl (one_cons rfl (one_cons rfl one_nil)))))) rfl (fun w4 b4 q4 => ?_)
   have z4 := Nat.le_of_eq q4.size.symm
   have e4 : Ext w w4 := q4.ext e1 (by omega)
   refine WL_end [(4, _)] ⟨rfl, trivial⟩ ?_
   refine WP_ret ?_
   refine retL Try.results62 (.cell rfl S97 b4 rfl .nil) ?_
   exact ⟨_, rfl, e4, by rw [show pget ps i = ps[i.toNat]'(by omega) from by unfold pget; rw [if_pos (by omega), List.getD_eq_getElem?_getD, List.getElem?_eq_getElem (by omega)]; rfl]; rfl⟩

theorem getT_c {w : World} {g r : Nat} {ps : List Part} (hF : Fo w g r ps) {i : Int} {t : Tr} (hR : Rep ps i t) : Calls Try.prog 62 #[.pointer (some ⟨g, 0, none⟩), .int .i64 i] w (Ret w fun v _ => ∃ a b, v = .agg #[.string t.ky, .int .i64 t.vl, .int .i64 a, .int .i64 b, .int .i64 (t.ht : Nat), .int .i64 (t.cnt : Nat)] ∧ Rep ps a t.lf ∧ Rep ps b t.rt_) :=
  (get_c hF).mono fun _ w' ⟨v, he, hx, hv⟩ => by
    obtain ⟨a, b, h1, h2, h3⟩ := hR.get
    exact ⟨v, he, hx, a, b, by rw [hv, h1]; rfl, h2, h3⟩

theorem empty_c {w : World} {g r : Nat} {ps : List Part} (hF : Fo w g r ps) {i : Int} {t : Tr} (hR : Rep ps i t) :
    Calls Try.prog 67 #[.pointer (some ⟨g, 0, none⟩), .int .i64 i] w (Ret w fun r _ => r = .bool (decide (t.ht = 0))) := by
 have hF0 := hF
 obtain ⟨fv, hB, hO, hne, hr⟩ := hF
 have hlm : (ps.map pcells).length = ps.length := List.length_map ..
 refine enter (args := [_, _]) Try.func67 rfl Try.ntmps67 rfl ?_
 refine WP_seq ?_
 refine WP_region ?_
 refine O_assign rfl rfl rfl ?_
 refine WL_end [(0, _), (1, _)] ⟨rfl, rfl, trivial⟩ ?_
 refine WP_seq ?_
 refine WP_region ?_
 refine O_move rfl rfl rfl ?_
 refine O_lss rfl rfl rfl rfl rfl ?_
 refine O_move rfl rfl rfl ?_
 refine WL_dec 7 rfl (fun g7 => ?_) (fun g7 => ?_)
 · --
  refine O_skip rfl rfl ?_
  refine O_skip rfl rfl ?_
  refine O_skip rfl rfl ?_
  refine O_skip rfl rfl ?_
  refine O_skip rfl rfl ?_
  refine O_skip rfl rfl ?_
  refine O_skip rfl rfl ?_
  refine O_pickT rfl rfl rfl rfl ?_
  refine O_assign rfl rfl rfl ?_
  refine WL_end [(4, _)] ⟨rfl, trivial⟩ ?_
  refine WP_ret ?_
  refine ret1 Try.results67 rfl ?_
  exact ⟨_, rfl, (Ext.refl _), by rw [decide_eq_true (hR.empty.1 (by omega))]⟩
 · --
  refine O_move rfl rfl rfl ?_
  refine O_move rfl rfl rfl ?_
  refine O_nilCheck rfl rfl rfl ?_
  refine O_field F103_0 rfl rfl rfl ?_
  refine O_loadC Try.underlying101 rfl rfl rfl rfl hB rfl ?_
  refine K_len Eparts rfl rfl rfl hO.sl ?_
  refine O_geq rfl rfl rfl rfl rfl ?_
  refine O_pickF rfl rfl rfl rfl ?_
  refine O_assign rfl rfl rfl ?_
  refine WL_end [(4, _)] ⟨rfl, trivial⟩ ?_
  refine WP_ret ?_
  refine ret1 Try.results67 rfl ?_
  exact ⟨_, rfl, (Ext.refl _), congrArg Value.bool (decide_eq_decide.2 ⟨fun h => hR.empty.1 (by omega), fun h => by have := hR.empty.2 h; omega⟩)⟩


theorem empty_T {w : World} {g r : Nat} {ps : List Part} (hF : Fo w g r ps) {i : Int} {t : Tr} (hR : Rep ps i t) (h : t.ht = 0) : Calls Try.prog 67 #[.pointer (some ⟨g, 0, none⟩), .int .i64 i] w (Ret w fun r _ => r = .bool true) :=
  (empty_c hF hR).mono fun _ w' ⟨r, he, hx', hr⟩ => ⟨r, he, hx', by rw [hr, decide_eq_true h]⟩
theorem empty_F {w : World} {g r : Nat} {ps : List Part} (hF : Fo w g r ps) {i : Int} {t : Tr} (hR : Rep ps i t) (h : t.ht ≠ 0) : Calls Try.prog 67 #[.pointer (some ⟨g, 0, none⟩), .int .i64 i] w (Ret w fun r _ => r = .bool false) :=
  (empty_c hF hR).mono fun _ w' ⟨r, he, hx', hr⟩ => ⟨r, he, hx', by rw [hr, decide_eq_false h]⟩

end Go.Proofs.Ytoccimigjjndpaa

set_option linter.unusedVariables false
set_option linter.unusedSimpArgs false
set_option maxRecDepth 100000
namespace Go.Proofs.Ytoccimigjjndpaa
open Go Go.RowKit
set_option maxHeartbeats 1000000 in
theorem join_c {w : World} {g r : Nat} {ps : List Part} (hF : Fo w g r ps) {k : ByteArray} {v a b : Int} {tl tr : Tr} (hL : Rep ps a tl) (hR : Rep ps b tr) (hb : ps.length + 1 ≤ 100000000) (hc : tl.cnt + tr.cnt ≤ 100000000) :
    Calls Try.prog 87 #[.pointer (some ⟨g, 0, none⟩), .agg #[.string k, .int .i64 v], .int .i64 a, .int .i64 b] w (FRet g r ps (.node tl k v tr) 1 w) := by
 have hF0 := hF
 obtain ⟨fv, hB, hO, hne, hr⟩ := hF
 have hlm : (ps.map pcells).length = ps.length := List.length_map ..
 have hh1 := tl.ht_le
 have hh2 := tr.ht_le
 refine enter (args := [_, _, _, _]) Try.func87 rfl Try.ntmps87 rfl ?_
 refine WP_seq ?_
 refine WP_region ?_
 refine O_box _ rfl rfl rfl rfl (fun g1 w1 b1 e1 gl1 gh1 => ?_)
 have z1 := e1.size
 refine O_assign rfl rfl rfl ?_
 refine WL_end [(0, _), (2, _), (3, _), (5, _)] ⟨rfl, rfl, rfl, rfl, trivial⟩ ?_
 refine WP_seq ?_
 refine WP_region ?_
 refine O_move rfl rfl rfl ?_
 refine O_move rfl rfl rfl ?_
 refine O_call enters62 rfl rfl rfl (getT_c (hF0.ext e1) hL) (fun v2 w2 e2 h2 => ?_)
 have z2 := e2.size
 try simp only [val_dig] at h2
 obtain ⟨a2, b2, rfl, ha2, hb2⟩ := h2
 refine O_move rfl rfl rfl ?_
 refine O_move rfl rfl rfl ?_
 refine O_call enters62 rfl rfl rfl (getT_c (hF0.ext (e1.trans e2)) hR) (fun v3 w3 e3 h3 => ?_)
 have z3 := e3.size
 try simp only [val_dig] at h3
 obtain ⟨a3, b3, rfl, ha3, hb3⟩ := h3
 refine O_alloc S97 rfl rfl (fun g4 w4 b4 e4 gl4 gh4 => ?_)
 have z4 := e4.size
 refine O_alloc S97 rfl rfl (fun g5 w5 b5 e5 gl5 gh5 => ?_)
 have z5 := e5.size
 refine O_storeA (cs' := [_, _, _, _, _, _]) S97 rfl rfl rfl (b4.ext e5) rfl rfl (one_cons rfl (one_cons rfl (one_cons rfl (one_cons rfl (one_cons rfl (one_cons rfl one_nil)))))) rfl (fun w6 b6 q6 => ?_)
 have z6 := Nat.le_of_eq q6.size.symm
 have e6 : Ext w w6 := q6.ext ((((e1.trans e2).trans e3).trans e4).trans e5) (by omega)
 refine O_storeA (cs' := [_, _, _, _, _, _]) S97 rfl rfl rfl (b5.chg q6 (by first | assumption | omega)) rfl rfl (one_cons rfl (one_cons rfl (one_cons rfl (one_cons rfl (one_cons rfl (one_cons rfl one_nil)))))) rfl (fun w7 b7 q7 => ?_)
 have z7 := Nat.le_of_eq q7.size.symm
 have e7 : Ext w w7 := q7.ext e6 (by omega)
 refine WL_end [(0, _), (2, _), (3, _), (5, _), (9, _), (10, _)] ⟨rfl, rfl, rfl, rfl, rfl, rfl, trivial⟩ ?_
 refine WP_seq ?_
 have hfl : ∀ j, fv.ownBlock = some j → j < w.heap.size := fun j hj => (hO.lt j hj).2
 have hOW := (hO.ext e7)
 have kg := (hB.ext e7)
 have kg1 := ((((((b1.ext e2).ext e3).ext e4).ext e5).chg q6 (by first | assumption | omega)).chg q7 (by first | assumption | omega))
 have kg4 := (b6.chg q7 (by first | assumption | omega))
 have kg5 := b7
 refine WP_sub [(0, _), (2, _), (3, _), (5, _), (9, _), (10, _)] ⟨rfl, rfl, rfl, rfl, rfl, rfl, trivial⟩ ?_
 refine WP_anyE (JX w7 fv (pcells ⟨k, v, a, b, ((max tl.ht tr.ht + 1 : Nat) : Int), ((tl.cnt + tr.cnt + 1 : Nat) : Int)⟩) (ps.map pcells)) (fun w' => ExtP (fun j => fv.ownBlock = some j) w7 w') 23 [0, 2, 3, 5, 9, 10] [21, 22] [38, 39] mixed rfl (by kernel_rfl) (by kernel_rfl) (fun vs w' h => JX.ext vs w' h) (fun w' h => h) ?_
 apply AnyE_val [0] rfl rfl rfl
 · --
  intro y8_ hy
  refine O_move rfl rfl rfl ?_
  exact WL_nil ⟨rfl, rfl⟩
 apply AnyE_val [0] rfl rfl rfl
 · --
  intro y8_ hy
  refine O_move rfl rfl rfl ?_
  exact WL_nil ⟨rfl, rfl⟩
 apply AnyE_val [18] rfl rfl rfl
 · --
  intro y8_ hy
  refine O_nilCheck rfl rfl rfl ?_
  exact WL_nil ⟨rfl, rfl⟩
 apply AnyE_val [19] rfl rfl rfl
 · --
  intro y8_ hy
  refine O_field F103_0 rfl rfl rfl ?_
  exact WL_nil ⟨rfl, rfl⟩
 apply AnyE_val [20] rfl rfl rfl
 · --
  intro y8_ hy
  refine O_loadC Try.underlying101 rfl rfl rfl rfl (kg.extP hy (by first | exact hne | (intro h; have := hfl _ h; omega))) rfl ?_
  exact WL_nil ⟨rfl, rfl⟩
 apply AnyE_val [5] rfl rfl rfl
 · --
  intro y8_ hy
  refine O_loadA (vs := [_, _]) S54 rfl rfl rfl (kg1.extP hy (by first | exact hne | (intro h; have := hfl _ h; omega))) rfl rfl ?_
  exact WL_nil ⟨rfl, rfl⟩
 apply AnyE_val [2] rfl rfl rfl
 · --
  intro y8_ hy
  refine O_move rfl rfl rfl ?_
  exact WL_nil ⟨rfl, rfl⟩
 apply AnyE_val [3] rfl rfl rfl
 · --
  intro y8_ hy
  refine O_move rfl rfl rfl ?_
  exact WL_nil ⟨rfl, rfl⟩
 apply AnyE_val [9] rfl rfl rfl
 · --
  intro y8_ hy
  refine O_field F97_3 rfl rfl rfl ?_
  exact WL_nil ⟨rfl, rfl⟩
 apply AnyE_val [25] rfl rfl rfl
 · --
  intro y8_ hy
  refine O_loadC Try.underlying3 rfl rfl rfl rfl (kg4.extP hy (by first | exact hne | (intro h; have := hfl _ h; omega))) rfl ?_
  exact WL_nil ⟨rfl, rfl⟩
 apply AnyE_val [10] rfl rfl rfl
 · --
  intro y8_ hy
  refine O_field F97_3 rfl rfl rfl ?_
  exact WL_nil ⟨rfl, rfl⟩
 apply AnyE_val [27] rfl rfl rfl
 · --
  intro y8_ hy
  refine O_loadC Try.underlying3 rfl rfl rfl rfl (kg5.extP hy (by first | exact hne | (intro h; have := hfl _ h; omega))) rfl ?_
  exact WL_nil ⟨rfl, rfl⟩
 apply AnyE_val [26, 28] rfl rfl rfl
 · --
  intro y8_ hy
  refine O_max rfl rfl rfl rfl rfl ?_
  exact WL_nil ⟨rfl, rfl⟩
 apply AnyE_val [29] rfl rfl rfl
 · --
  intro y8_ hy
  refine O_add (r := ((max tl.ht tr.ht + 1 : Nat) : Int)) rfl rfl rfl rfl (by rw [IntKind.wrap_i64]; omega) ?_
  exact WL_nil ⟨rfl, rfl⟩
 apply AnyE_val [9] rfl rfl rfl
 · --
  intro y8_ hy
  refine O_field F97_4 rfl rfl rfl ?_
  exact WL_nil ⟨rfl, rfl⟩
 apply AnyE_val [31] rfl rfl rfl
 · --
  intro y8_ hy
  refine O_loadC Try.underlying3 rfl rfl rfl rfl (kg4.extP hy (by first | exact hne | (intro h; have := hfl _ h; omega))) rfl ?_
  exact WL_nil ⟨rfl, rfl⟩
 apply AnyE_val [10] rfl rfl rfl
 · --
  intro y8_ hy
  refine O_field F97_4 rfl rfl rfl ?_
  exact WL_nil ⟨rfl, rfl⟩
 apply AnyE_val [33] rfl rfl rfl
 · --
  intro y8_ hy
  refine O_loadC Try.underlying3 rfl rfl rfl rfl (kg5.extP hy (by first | exact hne | (intro h; have := hfl _ h; omega))) rfl ?_
  exact WL_nil ⟨rfl, rfl⟩
 apply AnyE_val [32, 34] rfl rfl rfl
 · --
  intro y8_ hy
  refine O_add rfl rfl rfl rfl (wrap_i64_id (by omega) (by omega)) ?_
  exact WL_nil ⟨rfl, rfl⟩
 apply AnyE_val [35] rfl rfl rfl
 · --
  intro y8_ hy
  refine O_add (r := ((tl.cnt + tr.cnt + 1 : Nat) : Int)) rfl rfl rfl rfl (by rw [IntKind.wrap_i64]; omega) ?_
  exact WL_nil ⟨rfl, rfl⟩
 apply AnyE_val [22, 23, 24, 30, 36] rfl rfl rfl
 · --
  intro y8_ hy
  refine O_build (cs := [_, _, _, _, _, _]) B97 rfl rfl rfl (cells_cons rfl (cells_cons rfl (cells_cons rfl (cells_cons rfl (cells_cons rfl cells_nil))))) rfl ?_
  exact WL_nil ⟨rfl, rfl⟩
 apply AnyE_eff 0 [37] rfl rfl rfl
 · --
  intro vs y8_ hl hX
  obtain rfl : vs = [] := List.eq_nil_of_length_eq_zero hl
  have hX0 : Ext w7 y8_ := hX
  refine K_lit1 Eparts rfl rfl rfl rfl rfl rfl (fun v1 w1 hs1 he1 hb1 hz1 ho1 => ?_)
  exact WL_nil ⟨_, rfl, hX0.trans he1, hs1⟩
 apply AnyE_eff 1 [21, 38] rfl rfl rfl
 · --
  intro vs y8_ hl hX
  obtain ⟨v1, rfl⟩ := len1 hl
  obtain ⟨hX0, hX1⟩ := hX
  have zy := hX0.size
  refine K_append Eparts rfl rfl rfl rfl rfl (hOW.ext hX0) hX1 (by intro r hr u hu; simp only [List.mem_singleton] at hr; subst hr; simp only [pcells, List.mem_cons, List.not_mem_nil, or_false] at hu; rcases hu with rfl | rfl | rfl | rfl | rfl | rfl <;> rfl) (by simp only [List.length_cons, List.length_nil]; omega) rfl (Nat.zero_le _) (fun v2 w2 ho2 hg2 hk2 => ?_)
  exact WL_nil ⟨_, rfl, (hX0.toP).trans' (World.grownBy.toP hg2 fun k hk => hk) (fun _ _ h => h), ho2, hk2.imp id fun h => ⟨_, h, zy⟩⟩
 refine AnyE_nil fun vs y8_ hl hX => ?_
 obtain ⟨v1, v2, rfl⟩ := len2 hl
 obtain ⟨hp2, ho2, hk2⟩ := hX
 have hBy := kg.extP hp2 hne
 refine O_nilCheck rfl rfl rfl ?_
 refine O_field F103_0 rfl rfl rfl ?_
 refine O_storeC (cs' := [_]) one101 rfl rfl rfl ho2.one hBy rfl rfl (fun w25 b25 q25 => ?_)
 obtain ⟨r25, hst25, hF25, hs25⟩ := Fo.joined (q := ⟨k, v, a, b, ((max tl.ht tr.ht + 1 : Nat) : Int), ((tl.cnt + tr.cnt + 1 : Nat) : Int)⟩) e7 hB hne hr hp2 ho2 hk2 q25 b25
 refine WL_end [(0, _)] ⟨rfl, trivial⟩ ?_
 refine WP_seq ?_
 refine WP_region ?_
 refine O_move rfl rfl rfl ?_
 refine O_nilCheck rfl rfl rfl ?_
 refine O_field F103_0 rfl rfl rfl ?_
 refine O_loadC Try.underlying101 rfl rfl rfl rfl b25 rfl ?_
 refine K_len Eparts rfl rfl rfl hs25 ?_
 refine O_sub (r := ((ps.length : Nat) : Int)) rfl rfl rfl rfl (by rw [IntKind.wrap_i64]; simp only [List.length_append, List.length_cons, List.length_nil]; omega) ?_
 refine O_assign rfl rfl rfl ?_
 refine WL_end [(8, _)] ⟨rfl, trivial⟩ ?_
 refine WP_ret ?_
 refine ret1 Try.results87 rfl ?_
 exact ⟨r25, [⟨k, v, a, b, ((max tl.ht tr.ht + 1 : Nat) : Int), ((tl.cnt + tr.cnt + 1 : Nat) : Int)⟩], _, rfl, hst25, hF25, Nat.le_refl _, hL.mk hR k v⟩

end Go.Proofs.Ytoccimigjjndpaa

set_option linter.unusedVariables false
set_option linter.unusedSimpArgs false
set_option maxRecDepth 100000
namespace Go.Proofs.Ytoccimigjjndpaa
open Go Go.RowKit
set_option maxHeartbeats 2000000 in
theorem balance_c {w : World} {g r : Nat} {ps : List Part} (hF : Fo w g r ps) {k : ByteArray} {v a b : Int} {tl tr : Tr} (hL : Rep ps a tl) (hR : Rep ps b tr) (hb : ps.length + 3 ≤ 100000000) (hc : tl.cnt + tr.cnt + 2 ≤ 100000000) :
    Calls Try.prog 88 #[.pointer (some ⟨g, 0, none⟩), .agg #[.string k, .int .i64 v], .int .i64 a, .int .i64 b] w (FRet g r ps (Tr.bal tl k v tr) 3 w) := by
 have hgl := hF.g_lt
 have hrl := hF.r_lt
 have hh1 := tl.ht_le
 have hh2 := tr.ht_le
 refine enter (args := [_, _, _, _]) Try.func88 rfl Try.ntmps88 rfl ?_
 refine WP_seq ?_
 refine WP_region ?_
 refine O_box _ rfl rfl rfl rfl (fun g1 w1 b1 e1 gl1 gh1 => ?_)
 have z1 := e1.size
 refine O_assign rfl rfl rfl ?_
 refine WL_end [(0, _), (2, _), (3, _), (5, _)] ⟨rfl, rfl, rfl, rfl, trivial⟩ ?_
 refine WP_seq ?_
 refine WP_region ?_
 refine O_move rfl rfl rfl ?_
 refine O_move rfl rfl rfl ?_
 refine O_call enters62 rfl rfl rfl (getT_c (hF.ext e1) hL) (fun v2 w2 e2 h2 => ?_)
 have z2 := e2.size
 try simp only [val_dig] at h2
 obtain ⟨a2, b2, rfl, ha2, hb2⟩ := h2
 refine O_move rfl rfl rfl ?_
 refine O_move rfl rfl rfl ?_
 refine O_call enters62 rfl rfl rfl (getT_c (hF.ext (e1.trans e2)) hR) (fun v3 w3 e3 h3 => ?_)
 have z3 := e3.size
 try simp only [val_dig] at h3
 obtain ⟨a3, b3, rfl, ha3, hb3⟩ := h3
 refine O_alloc S97 rfl rfl (fun g4 w4 b4 e4 gl4 gh4 => ?_)
 have z4 := e4.size
 refine O_alloc S97 rfl rfl (fun g5 w5 b5 e5 gl5 gh5 => ?_)
 have z5 := e5.size
 refine O_storeA (cs' := [_, _, _, _, _, _]) S97 rfl rfl rfl (b4.ext e5) rfl rfl (one_cons rfl (one_cons rfl (one_cons rfl (one_cons rfl (one_cons rfl (one_cons rfl one_nil)))))) rfl (fun w6 b6 q6 => ?_)
 have z6 := Nat.le_of_eq q6.size.symm
 have e6 : Ext w w6 := q6.ext ((((e1.trans e2).trans e3).trans e4).trans e5) (by omega)
 refine O_storeA (cs' := [_, _, _, _, _, _]) S97 rfl rfl rfl (b5.chg q6 (by first | assumption | omega)) rfl rfl (one_cons rfl (one_cons rfl (one_cons rfl (one_cons rfl (one_cons rfl (one_cons rfl one_nil)))))) rfl (fun w7 b7 q7 => ?_)
 have z7 := Nat.le_of_eq q7.size.symm
 have e7 : Ext w w7 := q7.ext e6 (by omega)
 refine WL_end [(0, _), (2, _), (3, _), (5, _), (9, _), (10, _)] ⟨rfl, rfl, rfl, rfl, rfl, rfl, trivial⟩ ?_
 refine WP_seq ?_
 refine WP_block ?_
 refine WP_seq ?_
 refine WP_region ?_
 refine O_field F97_3 rfl rfl rfl ?_
 refine O_loadC Try.underlying3 rfl rfl rfl rfl (b6.chg q7 (by first | assumption | omega)) rfl ?_
 refine O_field F97_3 rfl rfl rfl ?_
 refine O_loadC Try.underlying3 rfl rfl rfl rfl b7 rfl ?_
 refine O_add rfl rfl rfl rfl (wrap_i64_id (by omega) (by omega)) ?_
 refine O_gtr rfl rfl rfl rfl rfl ?_
 refine O_assign rfl rfl rfl ?_
 refine WL_end [(0, _), (2, _), (3, _), (5, _), (9, _), (10, _), (19, _)] ⟨rfl, rfl, rfl, rfl, rfl, rfl, rfl, trivial⟩ ?_
 refine WP_condD rfl (fun c19 => ?_) (fun c19 => ?_)
 · --
  refine WP_seq ?_
  refine WP_region ?_
  refine O_move rfl rfl rfl ?_
  refine O_field F97_2 rfl rfl rfl ?_
  refine O_loadC Try.underlying3 rfl rfl rfl rfl (b6.chg q7 (by first | assumption | omega)) rfl ?_
  refine O_call enters62 rfl rfl rfl (getT_c (hF.ext e7) hb2) (fun v8 w8 e8 h8 => ?_)
  have z8 := e8.size
  try simp only [val_dig] at h8
  obtain ⟨a8, b8, rfl, ha8, hb8⟩ := h8
  refine O_alloc S97 rfl rfl (fun g9 w9 b9 e9 gl9 gh9 => ?_)
  have z9 := e9.size
  refine O_storeA (cs' := [_, _, _, _, _, _]) S97 rfl rfl rfl b9 rfl rfl (one_cons rfl (one_cons rfl (one_cons rfl (one_cons rfl (one_cons rfl (one_cons rfl one_nil)))))) rfl (fun w10 b10 q10 => ?_)
  have z10 := Nat.le_of_eq q10.size.symm
  have e10 : Ext w w10 := q10.ext ((e7.trans e8).trans e9) (by omega)
  refine WL_end [(0, _), (3, _), (5, _), (9, _), (11, _)] ⟨rfl, rfl, rfl, rfl, rfl, trivial⟩ ?_
  refine WP_seq ?_
  refine WP_seq ?_
  refine WP_sub [(0, _), (3, _), (5, _), (9, _), (11, _)] ⟨rfl, rfl, rfl, rfl, rfl, trivial⟩ ?_
  refine WP_anyR 7 [0, 3, 5, 9, 11] mixed rfl (by kernel_rfl) ?_
  apply AnyR_val [0] rfl (by kernel_rfl)
  · --
   intro y11 hy11
   have zy11 := hy11.size
   refine AllV_nil ?_
   refine O_move rfl rfl rfl ?_
   exact WL_nil ⟨(Ext.refl _), rfl⟩
  apply AnyR_val [9] rfl (by kernel_rfl)
  · --
   intro y12 hy12
   have zy12 := hy12.size
   refine AllV_nil ?_
   refine O_field F97_1 rfl rfl rfl ?_
   exact WL_nil ⟨(Ext.refl _), rfl⟩
  apply AnyR_val [31] rfl (by kernel_rfl)
  · --
   intro y13 hy13
   have zy13 := hy13.size
   refine AllV_v ?_
   refine AllV_nil ?_
   refine O_loadC Try.underlying3 rfl rfl rfl rfl (((((b6.chg q7 (by first | assumption | omega)).ext e8).ext e9).chg q10 (by first | assumption | omega)).ext hy13) rfl ?_
   exact WL_nil ⟨(Ext.refl _), rfl⟩
  apply AnyR_rel (GetR (tl.lf)) [30, 32] rfl GetR.mono (by kernel_rfl)
  · --
   intro y14 hy14
   have zy14 := hy14.size
   refine AllV_v ?_
   refine AllV_v ?_
   refine AllV_nil ?_
   refine O_call enters62 rfl rfl rfl (getT_c (hF.ext (e10.trans hy14)) ha2) (fun v15 w15 e15 h15 => ?_)
   have z15 := e15.size
   try simp only [val_dig] at h15
   obtain ⟨a15, b15, rfl, ha15, hb15⟩ := h15
   exact WL_nil ⟨e15, _, rfl, ⟨a15, b15, rfl⟩⟩
  apply AnyR_val [33] rfl (by kernel_rfl)
  · --
   intro y16 hy16
   have zy16 := hy16.size
   refine AllV_r fun a17 b17 v17 la17 lb17 lc17 h17 ap17 => ?_
   clear ap17
   obtain ⟨ga17, gb17, rfl⟩ := h17
   refine AllV_nil ?_
   refine O_fieldV V97_3 rfl rfl rfl rfl ?_
   exact WL_nil ⟨(Ext.refl _), rfl⟩
  apply AnyR_val [11] rfl (by kernel_rfl)
  · --
   intro y18 hy18
   have zy18 := hy18.size
   refine AllV_nil ?_
   refine O_field F97_3 rfl rfl rfl ?_
   exact WL_nil ⟨(Ext.refl _), rfl⟩
  apply AnyR_val [35] rfl (by kernel_rfl)
  · --
   intro y19 hy19
   have zy19 := hy19.size
   refine AllV_v ?_
   refine AllV_nil ?_
   refine O_loadC Try.underlying3 rfl rfl rfl rfl (b10.ext hy19) rfl ?_
   exact WL_nil ⟨(Ext.refl _), rfl⟩
  refine AnyR_nil fun y20 hy20 => ?_
  have zy20 := hy20.size
  refine AllV_v ?_
  refine AllV_v ?_
  refine AllV_v ?_
  refine AllV_r fun a21 b21 v21 la21 lb21 lc21 h21 ap21 => ?_
  clear ap21
  obtain ⟨ga21, gb21, rfl⟩ := h21
  refine AllV_v ?_
  refine AllV_v ?_
  refine AllV_v ?_
  refine AllV_nil ?_
  refine O_geq rfl rfl rfl rfl rfl ?_
  refine WL_end [(0, _), (3, _), (5, _), (9, _), (11, _), (37, _)] ⟨rfl, rfl, rfl, rfl, rfl, rfl, trivial⟩ ?_
  refine WP_condD rfl (fun c37 => ?_) (fun c37 => ?_)
  · --
   refine WP_seq ?_
   have hFW := (hF.ext (e10.trans hy20))
   have kg1 := ((((((((((b1.ext e2).ext e3).ext e4).ext e5).chg q6 (by first | assumption | omega)).chg q7 (by first | assumption | omega)).ext e8).ext e9).chg q10 (by first | assumption | omega)).ext hy20)
   have kg4 := (((((b6.chg q7 (by first | assumption | omega)).ext e8).ext e9).chg q10 (by first | assumption | omega)).ext hy20)
   have kg5 := ((((b7.ext e8).ext e9).chg q10 (by first | assumption | omega)).ext hy20)
   have kg9 := (b10.ext hy20)
   refine WP_sub [(0, _), (3, _), (5, _), (9, _)] ⟨rfl, rfl, rfl, rfl, trivial⟩ ?_
   refine WP_anyE (FX y20 g r ps (1) [.node tl.rt_ k v tr]) (fun w' => ExtP (FM g r) y20 w') 11 [0, 3, 5, 9] [10] [48] mixed rfl (by kernel_rfl) (by kernel_rfl) (fun vs w' h => h.ext) (fun w' h => FX.start hFW h) ?_
   apply AnyE_val [0] rfl rfl rfl
   · --
    intro y22_ hy
    refine O_move rfl rfl rfl ?_
    exact WL_nil ⟨rfl, rfl⟩
   apply AnyE_val [9] rfl rfl rfl
   · --
    intro y22_ hy
    refine O_field F97_0 rfl rfl rfl ?_
    exact WL_nil ⟨rfl, rfl⟩
   apply AnyE_val [39] rfl rfl rfl
   · --
    intro y22_ hy
    refine O_loadA (vs := [_, _]) S54 rfl rfl rfl (kg4.extP hy (by rintro (h | h) <;> omega)) rfl rfl ?_
    exact WL_nil ⟨rfl, rfl⟩
   apply AnyE_val [9] rfl rfl rfl
   · --
    intro y22_ hy
    refine O_field F97_1 rfl rfl rfl ?_
    exact WL_nil ⟨rfl, rfl⟩
   apply AnyE_val [41] rfl rfl rfl
   · --
    intro y22_ hy
    refine O_loadC Try.underlying3 rfl rfl rfl rfl (kg4.extP hy (by rintro (h | h) <;> omega)) rfl ?_
    exact WL_nil ⟨rfl, rfl⟩
   apply AnyE_val [0] rfl rfl rfl
   · --
    intro y22_ hy
    refine O_move rfl rfl rfl ?_
    exact WL_nil ⟨rfl, rfl⟩
   apply AnyE_val [5] rfl rfl rfl
   · --
    intro y22_ hy
    refine O_loadA (vs := [_, _]) S54 rfl rfl rfl (kg1.extP hy (by rintro (h | h) <;> omega)) rfl rfl ?_
    exact WL_nil ⟨rfl, rfl⟩
   apply AnyE_val [9] rfl rfl rfl
   · --
    intro y22_ hy
    refine O_field F97_2 rfl rfl rfl ?_
    exact WL_nil ⟨rfl, rfl⟩
   apply AnyE_val [45] rfl rfl rfl
   · --
    intro y22_ hy
    refine O_loadC Try.underlying3 rfl rfl rfl rfl (kg4.extP hy (by rintro (h | h) <;> omega)) rfl ?_
    exact WL_nil ⟨rfl, rfl⟩
   apply AnyE_val [3] rfl rfl rfl
   · --
    intro y22_ hy
    refine O_move rfl rfl rfl ?_
    exact WL_nil ⟨rfl, rfl⟩
   apply AnyE_eff 0 [43, 44, 46, 47] rfl rfl rfl
   · --
    intro vs y22_ hl hX
    obtain rfl : vs = [] := List.eq_nil_of_length_eq_zero hl
    obtain ⟨r1, qs, hst, hFo, hRL, hqs⟩ := hX
    have hqs' := hqs
    simp only [List.length_cons, List.length_nil, Nat.zero_add, Nat.mul_one, Nat.one_mul, Nat.mul_zero] at hqs'
    refine O_callF enters87 rfl rfl rfl (join_c hFo (hb2.more) (hR.more) (by (try simp only [List.length_append]); omega) (by have h1 := tl.cnt_split; have h2 := tr.cnt_split; have h3 := tl.rt_.cnt_split; have h4 := tr.lf.cnt_split; (try simp only [Tr.cnt]); omega)) (fun r2 qs2 i2 w2 hst2 hF2 hq2 hR2 => ?_)
    exact WL_nil ⟨_, rfl, FX.snoc hst hRL hqs hst2 hF2 hq2 hR2 (Nat.le_refl _) rfl rfl⟩
   refine AnyE_nil fun vs y22_ hl hX => ?_
   obtain ⟨v1, rfl⟩ := len1 hl
   obtain ⟨r1, qs, hst, hFo, ⟨⟨i1, rfl, hR1⟩, -⟩, hqs⟩ := hX
   simp only [List.length_cons, List.length_nil, Nat.zero_add, Nat.mul_one, Nat.one_mul, Nat.mul_zero] at hqs
   refine O_callF enters87 rfl rfl rfl (join_c hFo (ha2.more) hR1 (by (try simp only [List.length_append]); omega) (by have h1 := tl.cnt_split; have h2 := tr.cnt_split; have h3 := tl.rt_.cnt_split; have h4 := tr.lf.cnt_split; (try simp only [Tr.cnt]); omega)) (fun r9 qs9 i9 w9 hst9 hF9 hq9 hR9 => ?_)
   refine O_assign rfl rfl rfl ?_
   refine WL_end [(8, _)] ⟨rfl, trivial⟩ ?_
   refine WP_ret ?_
   refine inBlk_ret ?_
   refine ret1 Try.results88 rfl ?_
   have hbal : Tr.bal tl k v tr = .node tl.lf tl.ky tl.vl (.node tl.rt_ k v tr) := by unfold Tr.bal; rw [if_pos (by omega), if_pos (by omega)]
   rw [hbal]
   exact FRet.then ((FStep.of_ext (e10.trans hy20)).trans hst) hqs hst9 hF9 hq9 hR9 (by decide)
  · --
   refine WP_skip ?_
   refine WP_seq ?_
   have hFW := (hF.ext (e10.trans hy20))
   have kg1 := ((((((((((b1.ext e2).ext e3).ext e4).ext e5).chg q6 (by first | assumption | omega)).chg q7 (by first | assumption | omega)).ext e8).ext e9).chg q10 (by first | assumption | omega)).ext hy20)
   have kg4 := (((((b6.chg q7 (by first | assumption | omega)).ext e8).ext e9).chg q10 (by first | assumption | omega)).ext hy20)
   have kg5 := ((((b7.ext e8).ext e9).chg q10 (by first | assumption | omega)).ext hy20)
   have kg9 := (b10.ext hy20)
   refine WP_sub [(0, _), (3, _), (5, _), (9, _), (11, _)] ⟨rfl, rfl, rfl, rfl, rfl, trivial⟩ ?_
   refine WP_anyE (FX y20 g r ps (1) [.node tl.lf tl.ky tl.vl tl.rt_.lf, .node tl.rt_.rt_ k v tr]) (fun w' => ExtP (FM g r) y20 w') 17 [0, 3, 5, 9, 11] [10, 16] [60, 66] mixed rfl (by kernel_rfl) (by kernel_rfl) (fun vs w' h => h.ext) (fun w' h => FX.start hFW h) ?_
   apply AnyE_val [0] rfl rfl rfl
   · --
    intro y23_ hy
    refine O_move rfl rfl rfl ?_
    exact WL_nil ⟨rfl, rfl⟩
   apply AnyE_val [11] rfl rfl rfl
   · --
    intro y23_ hy
    refine O_field F97_0 rfl rfl rfl ?_
    exact WL_nil ⟨rfl, rfl⟩
   apply AnyE_val [51] rfl rfl rfl
   · --
    intro y23_ hy
    refine O_loadA (vs := [_, _]) S54 rfl rfl rfl (kg9.extP hy (by rintro (h | h) <;> omega)) rfl rfl ?_
    exact WL_nil ⟨rfl, rfl⟩
   apply AnyE_val [0] rfl rfl rfl
   · --
    intro y23_ hy
    refine O_move rfl rfl rfl ?_
    exact WL_nil ⟨rfl, rfl⟩
   apply AnyE_val [9] rfl rfl rfl
   · --
    intro y23_ hy
    refine O_field F97_0 rfl rfl rfl ?_
    exact WL_nil ⟨rfl, rfl⟩
   apply AnyE_val [54] rfl rfl rfl
   · --
    intro y23_ hy
    refine O_loadA (vs := [_, _]) S54 rfl rfl rfl (kg4.extP hy (by rintro (h | h) <;> omega)) rfl rfl ?_
    exact WL_nil ⟨rfl, rfl⟩
   apply AnyE_val [9] rfl rfl rfl
   · --
    intro y23_ hy
    refine O_field F97_1 rfl rfl rfl ?_
    exact WL_nil ⟨rfl, rfl⟩
   apply AnyE_val [56] rfl rfl rfl
   · --
    intro y23_ hy
    refine O_loadC Try.underlying3 rfl rfl rfl rfl (kg4.extP hy (by rintro (h | h) <;> omega)) rfl ?_
    exact WL_nil ⟨rfl, rfl⟩
   apply AnyE_val [11] rfl rfl rfl
   · --
    intro y23_ hy
    refine O_field F97_1 rfl rfl rfl ?_
    exact WL_nil ⟨rfl, rfl⟩
   apply AnyE_val [58] rfl rfl rfl
   · --
    intro y23_ hy
    refine O_loadC Try.underlying3 rfl rfl rfl rfl (kg9.extP hy (by rintro (h | h) <;> omega)) rfl ?_
    exact WL_nil ⟨rfl, rfl⟩
   apply AnyE_eff 0 [53, 55, 57, 59] rfl rfl rfl
   · --
    intro vs y23_ hl hX
    obtain rfl : vs = [] := List.eq_nil_of_length_eq_zero hl
    obtain ⟨r1, qs, hst, hFo, hRL, hqs⟩ := hX
    have hqs' := hqs
    simp only [List.length_cons, List.length_nil, Nat.zero_add, Nat.mul_one, Nat.one_mul, Nat.mul_zero] at hqs'
    refine O_callF enters87 rfl rfl rfl (join_c hFo (ha2.more) (ha8.more) (by (try simp only [List.length_append]); omega) (by have h1 := tl.cnt_split; have h2 := tr.cnt_split; have h3 := tl.rt_.cnt_split; have h4 := tr.lf.cnt_split; (try simp only [Tr.cnt]); omega)) (fun r2 qs2 i2 w2 hst2 hF2 hq2 hR2 => ?_)
    exact WL_nil ⟨_, rfl, FX.snoc hst hRL hqs hst2 hF2 hq2 hR2 (Nat.le_refl _) rfl rfl⟩
   apply AnyE_val [0] rfl rfl rfl
   · --
    intro y23_ hy
    refine O_move rfl rfl rfl ?_
    exact WL_nil ⟨rfl, rfl⟩
   apply AnyE_val [5] rfl rfl rfl
   · --
    intro y23_ hy
    refine O_loadA (vs := [_, _]) S54 rfl rfl rfl (kg1.extP hy (by rintro (h | h) <;> omega)) rfl rfl ?_
    exact WL_nil ⟨rfl, rfl⟩
   apply AnyE_val [11] rfl rfl rfl
   · --
    intro y23_ hy
    refine O_field F97_2 rfl rfl rfl ?_
    exact WL_nil ⟨rfl, rfl⟩
   apply AnyE_val [63] rfl rfl rfl
   · --
    intro y23_ hy
    refine O_loadC Try.underlying3 rfl rfl rfl rfl (kg9.extP hy (by rintro (h | h) <;> omega)) rfl ?_
    exact WL_nil ⟨rfl, rfl⟩
   apply AnyE_val [3] rfl rfl rfl
   · --
    intro y23_ hy
    refine O_move rfl rfl rfl ?_
    exact WL_nil ⟨rfl, rfl⟩
   apply AnyE_eff 1 [61, 62, 64, 65] rfl rfl rfl
   · --
    intro vs y23_ hl hX
    obtain ⟨v1, rfl⟩ := len1 hl
    obtain ⟨r1, qs, hst, hFo, hRL, hqs⟩ := hX
    have hqs' := hqs
    simp only [List.length_cons, List.length_nil, Nat.zero_add, Nat.mul_one, Nat.one_mul, Nat.mul_zero] at hqs'
    refine O_callF enters87 rfl rfl rfl (join_c hFo (hb8.more) (hR.more) (by (try simp only [List.length_append]); omega) (by have h1 := tl.cnt_split; have h2 := tr.cnt_split; have h3 := tl.rt_.cnt_split; have h4 := tr.lf.cnt_split; (try simp only [Tr.cnt]); omega)) (fun r2 qs2 i2 w2 hst2 hF2 hq2 hR2 => ?_)
    exact WL_nil ⟨_, rfl, FX.snoc hst hRL hqs hst2 hF2 hq2 hR2 (Nat.le_refl _) rfl rfl⟩
   refine AnyE_nil fun vs y23_ hl hX => ?_
   obtain ⟨v1, v2, rfl⟩ := len2 hl
   obtain ⟨r1, qs, hst, hFo, ⟨⟨i1, rfl, hR1⟩, ⟨i2, rfl, hR2⟩, -⟩, hqs⟩ := hX
   simp only [List.length_cons, List.length_nil, Nat.zero_add, Nat.mul_one, Nat.one_mul, Nat.mul_zero] at hqs
   refine O_callF enters87 rfl rfl rfl (join_c hFo hR1 hR2 (by (try simp only [List.length_append]); omega) (by have h1 := tl.cnt_split; have h2 := tr.cnt_split; have h3 := tl.rt_.cnt_split; have h4 := tr.lf.cnt_split; (try simp only [Tr.cnt]); omega)) (fun r9 qs9 i9 w9 hst9 hF9 hq9 hR9 => ?_)
   refine O_assign rfl rfl rfl ?_
   refine WL_end [(8, _)] ⟨rfl, trivial⟩ ?_
   refine WP_ret ?_
   refine inBlk_ret ?_
   refine ret1 Try.results88 rfl ?_
   have hbal : Tr.bal tl k v tr = .node (.node tl.lf tl.ky tl.vl tl.rt_.lf) tl.rt_.ky tl.rt_.vl (.node tl.rt_.rt_ k v tr) := by unfold Tr.bal; rw [if_pos (by omega), if_neg (by omega)]
   rw [hbal]
   exact FRet.then ((FStep.of_ext (e10.trans hy20)).trans hst) hqs hst9 hF9 hq9 hR9 (by decide)
 · --
  refine WP_seq ?_
  refine WP_region ?_
  refine O_field F97_3 rfl rfl rfl ?_
  refine O_loadC Try.underlying3 rfl rfl rfl rfl b7 rfl ?_
  refine O_field F97_3 rfl rfl rfl ?_
  refine O_loadC Try.underlying3 rfl rfl rfl rfl (b6.chg q7 (by first | assumption | omega)) rfl ?_
  refine O_add rfl rfl rfl rfl (wrap_i64_id (by omega) (by omega)) ?_
  refine O_gtr rfl rfl rfl rfl rfl ?_
  refine O_assign rfl rfl rfl ?_
  refine WL_end [(0, _), (2, _), (3, _), (5, _), (10, _), (68, _)] ⟨rfl, rfl, rfl, rfl, rfl, rfl, trivial⟩ ?_
  refine WP_condD rfl (fun c68 => ?_) (fun c68 => ?_)
  · --
   refine WP_seq ?_
   refine WP_region ?_
   refine O_move rfl rfl rfl ?_
   refine O_field F97_1 rfl rfl rfl ?_
   refine O_loadC Try.underlying3 rfl rfl rfl rfl b7 rfl ?_
   refine O_call enters62 rfl rfl rfl (getT_c (hF.ext e7) ha3) (fun v24 w24 e24 h24 => ?_)
   have z24 := e24.size
   try simp only [val_dig] at h24
   obtain ⟨a24, b24, rfl, ha24, hb24⟩ := h24
   refine O_alloc S97 rfl rfl (fun g25 w25 b25 e25 gl25 gh25 => ?_)
   have z25 := e25.size
   refine O_storeA (cs' := [_, _, _, _, _, _]) S97 rfl rfl rfl b25 rfl rfl (one_cons rfl (one_cons rfl (one_cons rfl (one_cons rfl (one_cons rfl (one_cons rfl one_nil)))))) rfl (fun w26 b26 q26 => ?_)
   have z26 := Nat.le_of_eq q26.size.symm
   have e26 : Ext w w26 := q26.ext ((e7.trans e24).trans e25) (by omega)
   refine WL_end [(0, _), (2, _), (5, _), (10, _), (12, _)] ⟨rfl, rfl, rfl, rfl, rfl, trivial⟩ ?_
   refine WP_seq ?_
   refine WP_seq ?_
   refine WP_sub [(0, _), (2, _), (5, _), (10, _), (12, _)] ⟨rfl, rfl, rfl, rfl, rfl, trivial⟩ ?_
   refine WP_anyR 7 [0, 2, 5, 10, 12] mixed rfl (by kernel_rfl) ?_
   apply AnyR_val [0] rfl (by kernel_rfl)
   · --
    intro y27 hy27
    have zy27 := hy27.size
    refine AllV_nil ?_
    refine O_move rfl rfl rfl ?_
    exact WL_nil ⟨(Ext.refl _), rfl⟩
   apply AnyR_val [10] rfl (by kernel_rfl)
   · --
    intro y28 hy28
    have zy28 := hy28.size
    refine AllV_nil ?_
    refine O_field F97_2 rfl rfl rfl ?_
    exact WL_nil ⟨(Ext.refl _), rfl⟩
   apply AnyR_val [80] rfl (by kernel_rfl)
   · --
    intro y29 hy29
    have zy29 := hy29.size
    refine AllV_v ?_
    refine AllV_nil ?_
    refine O_loadC Try.underlying3 rfl rfl rfl rfl ((((b7.ext e24).ext e25).chg q26 (by first | assumption | omega)).ext hy29) rfl ?_
    exact WL_nil ⟨(Ext.refl _), rfl⟩
   apply AnyR_rel (GetR (tr.rt_)) [79, 81] rfl GetR.mono (by kernel_rfl)
   · --
    intro y30 hy30
    have zy30 := hy30.size
    refine AllV_v ?_
    refine AllV_v ?_
    refine AllV_nil ?_
    refine O_call enters62 rfl rfl rfl (getT_c (hF.ext (e26.trans hy30)) hb3) (fun v31 w31 e31 h31 => ?_)
    have z31 := e31.size
    try simp only [val_dig] at h31
    obtain ⟨a31, b31, rfl, ha31, hb31⟩ := h31
    exact WL_nil ⟨e31, _, rfl, ⟨a31, b31, rfl⟩⟩
   apply AnyR_val [82] rfl (by kernel_rfl)
   · --
    intro y32 hy32
    have zy32 := hy32.size
    refine AllV_r fun a33 b33 v33 la33 lb33 lc33 h33 ap33 => ?_
    clear ap33
    obtain ⟨ga33, gb33, rfl⟩ := h33
    refine AllV_nil ?_
    refine O_fieldV V97_3 rfl rfl rfl rfl ?_
    exact WL_nil ⟨(Ext.refl _), rfl⟩
   apply AnyR_val [12] rfl (by kernel_rfl)
   · --
    intro y34 hy34
    have zy34 := hy34.size
    refine AllV_nil ?_
    refine O_field F97_3 rfl rfl rfl ?_
    exact WL_nil ⟨(Ext.refl _), rfl⟩
   apply AnyR_val [84] rfl (by kernel_rfl)
   · --
    intro y35 hy35
    have zy35 := hy35.size
    refine AllV_v ?_
    refine AllV_nil ?_
    refine O_loadC Try.underlying3 rfl rfl rfl rfl (b26.ext hy35) rfl ?_
    exact WL_nil ⟨(Ext.refl _), rfl⟩
   refine AnyR_nil fun y36 hy36 => ?_
   have zy36 := hy36.size
   refine AllV_v ?_
   refine AllV_v ?_
   refine AllV_v ?_
   refine AllV_r fun a37 b37 v37 la37 lb37 lc37 h37 ap37 => ?_
   clear ap37
   obtain ⟨ga37, gb37, rfl⟩ := h37
   refine AllV_v ?_
   refine AllV_v ?_
   refine AllV_v ?_
   refine AllV_nil ?_
   refine O_geq rfl rfl rfl rfl rfl ?_
   refine WL_end [(0, _), (2, _), (5, _), (10, _), (12, _), (86, _)] ⟨rfl, rfl, rfl, rfl, rfl, rfl, trivial⟩ ?_
   refine WP_condD rfl (fun c86 => ?_) (fun c86 => ?_)
   · --
    refine WP_seq ?_
    have hFW := (hF.ext (e26.trans hy36))
    have kg1 := ((((((((((b1.ext e2).ext e3).ext e4).ext e5).chg q6 (by first | assumption | omega)).chg q7 (by first | assumption | omega)).ext e24).ext e25).chg q26 (by first | assumption | omega)).ext hy36)
    have kg4 := (((((b6.chg q7 (by first | assumption | omega)).ext e24).ext e25).chg q26 (by first | assumption | omega)).ext hy36)
    have kg5 := ((((b7.ext e24).ext e25).chg q26 (by first | assumption | omega)).ext hy36)
    have kg25 := (b26.ext hy36)
    refine WP_sub [(0, _), (2, _), (5, _), (10, _)] ⟨rfl, rfl, rfl, rfl, trivial⟩ ?_
    refine WP_anyE (FX y36 g r ps (1) [.node tl k v tr.lf]) (fun w' => ExtP (FM g r) y36 w') 11 [0, 2, 5, 10] [8] [95] mixed rfl (by kernel_rfl) (by kernel_rfl) (fun vs w' h => h.ext) (fun w' h => FX.start hFW h) ?_
    apply AnyE_val [0] rfl rfl rfl
    · --
     intro y38_ hy
     refine O_move rfl rfl rfl ?_
     exact WL_nil ⟨rfl, rfl⟩
    apply AnyE_val [10] rfl rfl rfl
    · --
     intro y38_ hy
     refine O_field F97_0 rfl rfl rfl ?_
     exact WL_nil ⟨rfl, rfl⟩
    apply AnyE_val [88] rfl rfl rfl
    · --
     intro y38_ hy
     refine O_loadA (vs := [_, _]) S54 rfl rfl rfl (kg5.extP hy (by rintro (h | h) <;> omega)) rfl rfl ?_
     exact WL_nil ⟨rfl, rfl⟩
    apply AnyE_val [0] rfl rfl rfl
    · --
     intro y38_ hy
     refine O_move rfl rfl rfl ?_
     exact WL_nil ⟨rfl, rfl⟩
    apply AnyE_val [5] rfl rfl rfl
    · --
     intro y38_ hy
     refine O_loadA (vs := [_, _]) S54 rfl rfl rfl (kg1.extP hy (by rintro (h | h) <;> omega)) rfl rfl ?_
     exact WL_nil ⟨rfl, rfl⟩
    apply AnyE_val [2] rfl rfl rfl
    · --
     intro y38_ hy
     refine O_move rfl rfl rfl ?_
     exact WL_nil ⟨rfl, rfl⟩
    apply AnyE_val [10] rfl rfl rfl
    · --
     intro y38_ hy
     refine O_field F97_1 rfl rfl rfl ?_
     exact WL_nil ⟨rfl, rfl⟩
    apply AnyE_val [93] rfl rfl rfl
    · --
     intro y38_ hy
     refine O_loadC Try.underlying3 rfl rfl rfl rfl (kg5.extP hy (by rintro (h | h) <;> omega)) rfl ?_
     exact WL_nil ⟨rfl, rfl⟩
    apply AnyE_eff 0 [90, 91, 92, 94] rfl rfl rfl
    · --
     intro vs y38_ hl hX
     obtain rfl : vs = [] := List.eq_nil_of_length_eq_zero hl
     obtain ⟨r1, qs, hst, hFo, hRL, hqs⟩ := hX
     have hqs' := hqs
     simp only [List.length_cons, List.length_nil, Nat.zero_add, Nat.mul_one, Nat.one_mul, Nat.mul_zero] at hqs'
     refine O_callF enters87 rfl rfl rfl (join_c hFo (hL.more) (ha3.more) (by (try simp only [List.length_append]); omega) (by have h1 := tl.cnt_split; have h2 := tr.cnt_split; have h3 := tl.rt_.cnt_split; have h4 := tr.lf.cnt_split; (try simp only [Tr.cnt]); omega)) (fun r2 qs2 i2 w2 hst2 hF2 hq2 hR2 => ?_)
     exact WL_nil ⟨_, rfl, FX.snoc hst hRL hqs hst2 hF2 hq2 hR2 (Nat.le_refl _) rfl rfl⟩
    apply AnyE_val [10] rfl rfl rfl
    · --
     intro y38_ hy
     refine O_field F97_2 rfl rfl rfl ?_
     exact WL_nil ⟨rfl, rfl⟩
    apply AnyE_val [96] rfl rfl rfl
    · --
     intro y38_ hy
     refine O_loadC Try.underlying3 rfl rfl rfl rfl (kg5.extP hy (by rintro (h | h) <;> omega)) rfl ?_
     exact WL_nil ⟨rfl, rfl⟩
    refine AnyE_nil fun vs y38_ hl hX => ?_
    obtain ⟨v1, rfl⟩ := len1 hl
    obtain ⟨r1, qs, hst, hFo, ⟨⟨i1, rfl, hR1⟩, -⟩, hqs⟩ := hX
    simp only [List.length_cons, List.length_nil, Nat.zero_add, Nat.mul_one, Nat.one_mul, Nat.mul_zero] at hqs
    refine O_callF enters87 rfl rfl rfl (join_c hFo hR1 (hb3.more) (by (try simp only [List.length_append]); omega) (by have h1 := tl.cnt_split; have h2 := tr.cnt_split; have h3 := tl.rt_.cnt_split; have h4 := tr.lf.cnt_split; (try simp only [Tr.cnt]); omega)) (fun r9 qs9 i9 w9 hst9 hF9 hq9 hR9 => ?_)
    refine O_assign rfl rfl rfl ?_
    refine WL_end [(8, _)] ⟨rfl, trivial⟩ ?_
    refine WP_ret ?_
    refine inBlk_ret ?_
    refine ret1 Try.results88 rfl ?_
    have hbal : Tr.bal tl k v tr = .node (.node tl k v tr.lf) tr.ky tr.vl tr.rt_ := by unfold Tr.bal; rw [if_neg (by omega), if_pos (by omega), if_pos (by omega)]
    rw [hbal]
    exact FRet.then ((FStep.of_ext (e26.trans hy36)).trans hst) hqs hst9 hF9 hq9 hR9 (by decide)
   · --
    refine WP_skip ?_
    refine WP_seq ?_
    have hFW := (hF.ext (e26.trans hy36))
    have kg1 := ((((((((((b1.ext e2).ext e3).ext e4).ext e5).chg q6 (by first | assumption | omega)).chg q7 (by first | assumption | omega)).ext e24).ext e25).chg q26 (by first | assumption | omega)).ext hy36)
    have kg4 := (((((b6.chg q7 (by first | assumption | omega)).ext e24).ext e25).chg q26 (by first | assumption | omega)).ext hy36)
    have kg5 := ((((b7.ext e24).ext e25).chg q26 (by first | assumption | omega)).ext hy36)
    have kg25 := (b26.ext hy36)
    refine WP_sub [(0, _), (2, _), (5, _), (10, _), (12, _)] ⟨rfl, rfl, rfl, rfl, rfl, trivial⟩ ?_
    refine WP_anyE (FX y36 g r ps (1) [.node tl k v tr.lf.lf, .node tr.lf.rt_ tr.ky tr.vl tr.rt_]) (fun w' => ExtP (FM g r) y36 w') 17 [0, 2, 5, 10, 12] [8, 16] [107, 115] mixed rfl (by kernel_rfl) (by kernel_rfl) (fun vs w' h => h.ext) (fun w' h => FX.start hFW h) ?_
    apply AnyE_val [0] rfl rfl rfl
    · --
     intro y39_ hy
     refine O_move rfl rfl rfl ?_
     exact WL_nil ⟨rfl, rfl⟩
    apply AnyE_val [12] rfl rfl rfl
    · --
     intro y39_ hy
     refine O_field F97_0 rfl rfl rfl ?_
     exact WL_nil ⟨rfl, rfl⟩
    apply AnyE_val [100] rfl rfl rfl
    · --
     intro y39_ hy
     refine O_loadA (vs := [_, _]) S54 rfl rfl rfl (kg25.extP hy (by rintro (h | h) <;> omega)) rfl rfl ?_
     exact WL_nil ⟨rfl, rfl⟩
    apply AnyE_val [0] rfl rfl rfl
    · --
     intro y39_ hy
     refine O_move rfl rfl rfl ?_
     exact WL_nil ⟨rfl, rfl⟩
    apply AnyE_val [5] rfl rfl rfl
    · --
     intro y39_ hy
     refine O_loadA (vs := [_, _]) S54 rfl rfl rfl (kg1.extP hy (by rintro (h | h) <;> omega)) rfl rfl ?_
     exact WL_nil ⟨rfl, rfl⟩
    apply AnyE_val [2] rfl rfl rfl
    · --
     intro y39_ hy
     refine O_move rfl rfl rfl ?_
     exact WL_nil ⟨rfl, rfl⟩
    apply AnyE_val [12] rfl rfl rfl
    · --
     intro y39_ hy
     refine O_field F97_1 rfl rfl rfl ?_
     exact WL_nil ⟨rfl, rfl⟩
    apply AnyE_val [105] rfl rfl rfl
    · --
     intro y39_ hy
     refine O_loadC Try.underlying3 rfl rfl rfl rfl (kg25.extP hy (by rintro (h | h) <;> omega)) rfl ?_
     exact WL_nil ⟨rfl, rfl⟩
    apply AnyE_eff 0 [102, 103, 104, 106] rfl rfl rfl
    · --
     intro vs y39_ hl hX
     obtain rfl : vs = [] := List.eq_nil_of_length_eq_zero hl
     obtain ⟨r1, qs, hst, hFo, hRL, hqs⟩ := hX
     have hqs' := hqs
     simp only [List.length_cons, List.length_nil, Nat.zero_add, Nat.mul_one, Nat.one_mul, Nat.mul_zero] at hqs'
     refine O_callF enters87 rfl rfl rfl (join_c hFo (hL.more) (ha24.more) (by (try simp only [List.length_append]); omega) (by have h1 := tl.cnt_split; have h2 := tr.cnt_split; have h3 := tl.rt_.cnt_split; have h4 := tr.lf.cnt_split; (try simp only [Tr.cnt]); omega)) (fun r2 qs2 i2 w2 hst2 hF2 hq2 hR2 => ?_)
     exact WL_nil ⟨_, rfl, FX.snoc hst hRL hqs hst2 hF2 hq2 hR2 (Nat.le_refl _) rfl rfl⟩
    apply AnyE_val [0] rfl rfl rfl
    · --
     intro y39_ hy
     refine O_move rfl rfl rfl ?_
     exact WL_nil ⟨rfl, rfl⟩
    apply AnyE_val [10] rfl rfl rfl
    · --
     intro y39_ hy
     refine O_field F97_0 rfl rfl rfl ?_
     exact WL_nil ⟨rfl, rfl⟩
    apply AnyE_val [109] rfl rfl rfl
    · --
     intro y39_ hy
     refine O_loadA (vs := [_, _]) S54 rfl rfl rfl (kg5.extP hy (by rintro (h | h) <;> omega)) rfl rfl ?_
     exact WL_nil ⟨rfl, rfl⟩
    apply AnyE_val [12] rfl rfl rfl
    · --
     intro y39_ hy
     refine O_field F97_2 rfl rfl rfl ?_
     exact WL_nil ⟨rfl, rfl⟩
    apply AnyE_val [111] rfl rfl rfl
    · --
     intro y39_ hy
     refine O_loadC Try.underlying3 rfl rfl rfl rfl (kg25.extP hy (by rintro (h | h) <;> omega)) rfl ?_
     exact WL_nil ⟨rfl, rfl⟩
    apply AnyE_val [10] rfl rfl rfl
    · --
     intro y39_ hy
     refine O_field F97_2 rfl rfl rfl ?_
     exact WL_nil ⟨rfl, rfl⟩
    apply AnyE_val [113] rfl rfl rfl
    · --
     intro y39_ hy
     refine O_loadC Try.underlying3 rfl rfl rfl rfl (kg5.extP hy (by rintro (h | h) <;> omega)) rfl ?_
     exact WL_nil ⟨rfl, rfl⟩
    apply AnyE_eff 1 [108, 110, 112, 114] rfl rfl rfl
    · --
     intro vs y39_ hl hX
     obtain ⟨v1, rfl⟩ := len1 hl
     obtain ⟨r1, qs, hst, hFo, hRL, hqs⟩ := hX
     have hqs' := hqs
     simp only [List.length_cons, List.length_nil, Nat.zero_add, Nat.mul_one, Nat.one_mul, Nat.mul_zero] at hqs'
     refine O_callF enters87 rfl rfl rfl (join_c hFo (hb24.more) (hb3.more) (by (try simp only [List.length_append]); omega) (by have h1 := tl.cnt_split; have h2 := tr.cnt_split; have h3 := tl.rt_.cnt_split; have h4 := tr.lf.cnt_split; (try simp only [Tr.cnt]); omega)) (fun r2 qs2 i2 w2 hst2 hF2 hq2 hR2 => ?_)
     exact WL_nil ⟨_, rfl, FX.snoc hst hRL hqs hst2 hF2 hq2 hR2 (Nat.le_refl _) rfl rfl⟩
    refine AnyE_nil fun vs y39_ hl hX => ?_
    obtain ⟨v1, v2, rfl⟩ := len2 hl
    obtain ⟨r1, qs, hst, hFo, ⟨⟨i1, rfl, hR1⟩, ⟨i2, rfl, hR2⟩, -⟩, hqs⟩ := hX
    simp only [List.length_cons, List.length_nil, Nat.zero_add, Nat.mul_one, Nat.one_mul, Nat.mul_zero] at hqs
    refine O_callF enters87 rfl rfl rfl (join_c hFo hR1 hR2 (by (try simp only [List.length_append]); omega) (by have h1 := tl.cnt_split; have h2 := tr.cnt_split; have h3 := tl.rt_.cnt_split; have h4 := tr.lf.cnt_split; (try simp only [Tr.cnt]); omega)) (fun r9 qs9 i9 w9 hst9 hF9 hq9 hR9 => ?_)
    refine O_assign rfl rfl rfl ?_
    refine WL_end [(8, _)] ⟨rfl, trivial⟩ ?_
    refine WP_ret ?_
    refine inBlk_ret ?_
    refine ret1 Try.results88 rfl ?_
    have hbal : Tr.bal tl k v tr = .node (.node tl k v tr.lf.lf) tr.lf.ky tr.lf.vl (.node tr.lf.rt_ tr.ky tr.vl tr.rt_) := by unfold Tr.bal; rw [if_neg (by omega), if_pos (by omega), if_neg (by omega)]
    rw [hbal]
    exact FRet.then ((FStep.of_ext (e26.trans hy36)).trans hst) hqs hst9 hF9 hq9 hR9 (by decide)
  · --
   refine WP_skip ?_
   refine WP_seq ?_
   refine WP_region ?_
   refine O_move rfl rfl rfl ?_
   refine O_loadA (vs := [_, _]) S54 rfl rfl rfl ((((((b1.ext e2).ext e3).ext e4).ext e5).chg q6 (by first | assumption | omega)).chg q7 (by first | assumption | omega)) rfl rfl ?_
   refine O_move rfl rfl rfl ?_
   refine O_move rfl rfl rfl ?_
   refine O_callF enters87 rfl rfl rfl (join_c (hF.ext e7) hL hR (by (try simp only [List.length_append]); omega) (by have h1 := tl.cnt_split; have h2 := tr.cnt_split; have h3 := tl.rt_.cnt_split; have h4 := tr.lf.cnt_split; (try simp only [Tr.cnt]); omega)) (fun r9 qs9 i9 w9 hst9 hF9 hq9 hR9 => ?_)
   refine O_assign rfl rfl rfl ?_
   refine WL_end [(8, _)] ⟨rfl, trivial⟩ ?_
   refine WP_ret ?_
   refine ret1 Try.results88 rfl ?_
   have hbal : Tr.bal tl k v tr = .node tl k v tr := by unfold Tr.bal; rw [if_neg (by omega), if_neg (by omega)]
   rw [hbal]
   exact FRet.then (N1 := 0) (qs := []) (FStep.of_ext e7) (Nat.zero_le _) hst9 (by rw [List.append_nil]; exact hF9) hq9 (by rw [List.append_nil]; exact hR9) (by decide)

end Go.Proofs.Ytoccimigjjndpaa

