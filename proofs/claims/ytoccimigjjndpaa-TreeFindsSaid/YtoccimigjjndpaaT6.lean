/-
  Walks.
-/
import Derived.Test.YtoccimigjjndpaaT5
set_option linter.unusedVariables false
set_option linter.unusedSimpArgs false
set_option maxRecDepth 100000
namespace Go.Proofs.Ytoccimigjjndpaa
open Go Go.RowKit
theorem Get_c {w : World} {g r : Nat} {ps : List Part} (hF : Fo w g r ps) {i : Int} {s : ByteArray} {t : Tr} (hR : Rep ps i t) :
    Calls Try.prog 33 #[.pointer (some ⟨g, 0, none⟩), .int .i64 i, .string s] w (Ret w fun r _ => r = .tuple #[.int .i64 ((t.get s).getD 0), .bool (t.get s).isSome]) := by
 refine enter (args := [_, _, _]) Try.func33 rfl Try.ntmps33 rfl ?_
 refine WP_seq ?_
 refine WP_region ?_
 refine O_assign rfl rfl rfl ?_
 refine O_assign rfl rfl rfl ?_
 refine WL_end [(0, _), (1, _), (2, _)] ⟨rfl, rfl, rfl, trivial⟩ ?_
 refine WP_seq ?_
 refine WP_block ?_
 refine WP_loop (S := Tr × Int) (fun (u, j) => [(0, .pointer (some ⟨g, 0, none⟩)), (1, .int .i64 j), (2, .string s)]) (fun (u, j) w' => Ext w w' ∧ Rep ps j u ∧ u.get s = t.get s) (fun (u, j) => u.ht) (t, i) ⟨rfl, rfl, rfl, trivial⟩ ⟨Ext.refl _, hR, rfl⟩ ?_
 rintro ⟨u, j⟩ w9 ⟨hE, hRu, hgu⟩
 show WP _ _ _ _ _ [(0, .pointer (some ⟨g, 0, none⟩)), (1, .int .i64 j), (2, .string s)] _
 have zE := hE.size
 refine WP_seq ?_
 refine WP_seq ?_
 refine WP_region ?_
 refine O_move rfl rfl rfl ?_
 refine O_move rfl rfl rfl ?_
 refine O_call enters67 rfl rfl rfl (empty_c (hF.ext hE) hRu) (fun v1 w1 e1 h1 => ?_)
 have z1 := e1.size
 obtain rfl := h1
 refine O_not rfl rfl rfl (decide_not).symm ?_
 refine WL_end [(0, _), (1, _), (2, _), (12, _)] ⟨rfl, rfl, rfl, rfl, trivial⟩ ?_
 refine WP_condN rfl (fun c12 => ?_) (fun c12 => ?_)
 · --
  refine WP_skip ?_
  refine WP_block ?_
  refine WP_seq ?_
  refine WP_region ?_
  refine O_move rfl rfl rfl ?_
  refine O_move rfl rfl rfl ?_
  refine O_call enters62 rfl rfl rfl (getT_c (hF.ext (hE.trans e1)) hRu) (fun v2 w2 e2 h2 => ?_)
  have z2 := e2.size
  try simp only [val_dig] at h2
  obtain ⟨a2, b2, rfl, ha2, hb2⟩ := h2
  refine O_alloc S97 rfl rfl (fun g3 w3 b3 e3 gl3 gh3 => ?_)
  have z3 := e3.size
  refine O_storeA (cs' := [_, _, _, _, _, _]) S97 rfl rfl rfl b3 rfl rfl (one_cons rfl (one_cons rfl (one_cons rfl (one_cons rfl (one_cons rfl (one_cons rfl one_nil)))))) rfl (fun w4 b4 q4 => ?_)
  have z4 := Nat.le_of_eq q4.size.symm
  have e4 : Ext w w4 := q4.ext (((hE.trans e1).trans e2).trans e3) (by omega)
  refine WL_end [(0, _), (2, _), (8, _)] ⟨rfl, rfl, rfl, trivial⟩ ?_
  refine WP_block ?_
  refine WP_seq ?_
  refine WP_region ?_
  refine O_move rfl rfl rfl ?_
  refine O_field F97_0 rfl rfl rfl ?_
  refine O_field F54_0 rfl rfl rfl ?_
  refine O_loadC Try.underlying9 rfl rfl rfl rfl b4 rfl ?_
  refine O_slss rfl rfl rfl rfl ?_
  refine O_assign rfl rfl rfl ?_
  refine WL_end [(0, _), (2, _), (8, _), (19, _)] ⟨rfl, rfl, rfl, rfl, trivial⟩ ?_
  refine WP_cond rfl (fun c19 => ?_) (fun c19 => ?_)
  · --
   refine WP_region ?_
   refine O_field F97_1 rfl rfl rfl ?_
   refine O_loadC Try.underlying3 rfl rfl rfl rfl b4 rfl ?_
   refine O_assign rfl rfl rfl ?_
   refine WL_end [(0, _), (1, _), (2, _)] ⟨rfl, rfl, rfl, trivial⟩ ?_
   exact ⟨(u.lf, _), ⟨rfl, rfl, rfl, trivial⟩, ⟨e4, ha2, (Tr.get_lt' c12 c19).symm.trans hgu⟩, Tr.ht_lf c12⟩
  · --
   refine WP_seq ?_
   refine WP_region ?_
   refine O_move rfl rfl rfl ?_
   refine O_field F97_0 rfl rfl rfl ?_
   refine O_field F54_0 rfl rfl rfl ?_
   refine O_loadC Try.underlying9 rfl rfl rfl rfl b4 rfl ?_
   refine O_sgtr rfl rfl rfl rfl ?_
   refine O_assign rfl rfl rfl ?_
   refine WL_end [(0, _), (2, _), (8, _), (27, _)] ⟨rfl, rfl, rfl, rfl, trivial⟩ ?_
   refine WP_cond rfl (fun c27 => ?_) (fun c27 => ?_)
   · --
    refine WP_region ?_
    refine O_field F97_2 rfl rfl rfl ?_
    refine O_loadC Try.underlying3 rfl rfl rfl rfl b4 rfl ?_
    refine O_assign rfl rfl rfl ?_
    refine WL_end [(0, _), (1, _), (2, _)] ⟨rfl, rfl, rfl, trivial⟩ ?_
    exact ⟨(u.rt_, _), ⟨rfl, rfl, rfl, trivial⟩, ⟨e4, hb2, (Tr.get_gt' c12 c19 c27).symm.trans hgu⟩, Tr.ht_rt c12⟩
   · --
    refine WP_seq ?_
    refine WP_region ?_
    refine O_field F97_0 rfl rfl rfl ?_
    refine O_field F54_1 rfl rfl rfl ?_
    refine O_loadC Try.underlying3 rfl rfl rfl rfl b4 rfl ?_
    refine O_assign rfl rfl rfl ?_
    refine O_assign rfl rfl rfl ?_
    refine WL_end [(6, _), (7, _)] ⟨rfl, rfl, trivial⟩ ?_
    refine WP_ret ?_
    refine inBlk_ret ?_
    refine inBlk_ret ?_
    refine inBlk_ret ?_
    refine ret2 Try.results33 rfl rfl ?_
    exact ⟨_, rfl, e4, by rw [← hgu, Tr.get_eq' c12 c19 c27]; rfl⟩
 · --
  refine WP_exit ?_
  refine inBlk_hit ?_
  refine WP_seq ?_
  refine WP_region ?_
  refine O_assign rfl rfl rfl ?_
  refine O_assign rfl rfl rfl ?_
  refine WL_end [(6, _), (7, _)] ⟨rfl, rfl, trivial⟩ ?_
  refine WP_ret ?_
  refine ret2 Try.results33 rfl rfl ?_
  exact ⟨_, rfl, (hE.trans e1), by rw [← hgu, Tr.get_nil c12]; rfl⟩
theorem Get_some {w : World} {g r : Nat} {ps : List Part} (hF : Fo w g r ps) {i x : Int} {s : ByteArray} {t : Tr} (hR : Rep ps i t) (h : t.get s = some x) : Calls Try.prog 33 #[.pointer (some ⟨g, 0, none⟩), .int .i64 i, .string s] w (Ret w fun r _ => r = .tuple #[.int .i64 x, .bool true]) :=
  (Get_c hF hR).mono fun _ w' ⟨r, he, hx', hr⟩ => ⟨r, he, hx', by rw [hr, h]; rfl⟩
theorem Get_none {w : World} {g r : Nat} {ps : List Part} (hF : Fo w g r ps) {i : Int} {s : ByteArray} {t : Tr} (hR : Rep ps i t) (h : t.get s = none) : Calls Try.prog 33 #[.pointer (some ⟨g, 0, none⟩), .int .i64 i, .string s] w (Ret w fun r _ => r = .tuple #[.int .i64 0, .bool false]) :=
  (Get_c hF hR).mono fun _ w' ⟨r, he, hx', hr⟩ => ⟨r, he, hx', by rw [hr, h]; rfl⟩

theorem Set_same {w : World} {g r : Nat} {ps : List Part} (hF : Fo w g r ps) {k : ByteArray} {v i : Int} {t : Tr} (hR : Rep ps i t) (hs : t.get k = some v) :
    Calls Try.prog 28 #[.pointer (some ⟨g, 0, none⟩), .int .i64 i, .string k, .int .i64 v] w (Ret w fun r _ => r = .int .i64 i) := by
 refine enter (args := [_, _, _, _]) Try.func28 rfl Try.ntmps28 rfl ?_
 refine WP_seq ?_
 refine WP_region ?_
 refine O_assign rfl rfl rfl ?_
 refine WL_end [(0, _), (1, _), (2, _), (3, _)] ⟨rfl, rfl, rfl, rfl, trivial⟩ ?_
 refine WP_seq ?_
 refine WP_seq ?_
 refine WP_region ?_
 refine O_move rfl rfl rfl ?_
 refine O_move rfl rfl rfl ?_
 refine O_move rfl rfl rfl ?_
 refine O_call enters33 rfl rfl rfl (Get_some hF hR hs) (fun v1 w1 e1 h1 => ?_)
 have z1 := e1.size
 try simp only [val_dig] at h1
 obtain rfl := h1
 refine O_move rfl rfl rfl ?_
 refine O_extract rfl rfl rfl rfl ?_
 refine O_extract rfl rfl rfl rfl ?_
 refine O_assign rfl rfl rfl ?_
 refine O_assign rfl rfl rfl ?_
 refine WL_end [(0, _), (1, _), (2, _), (3, _), (9, _), (10, _)] ⟨rfl, rfl, rfl, rfl, rfl, rfl, trivial⟩ ?_
 refine WP_seq ?_
 refine WP_region ?_
 refine O_move rfl rfl rfl ?_
 refine O_move rfl rfl rfl ?_
 refine O_move rfl rfl rfl ?_
 refine O_move rfl rfl rfl ?_
 refine O_eql (t := true) rfl rfl rfl rfl (decide_eq_true rfl) ?_
 refine O_pickT rfl rfl rfl rfl ?_
 refine WL_end [(0, _), (1, _), (2, _), (3, _), (23, _)] ⟨rfl, rfl, rfl, rfl, rfl, trivial⟩ ?_
 refine WP_condT rfl ?_
 refine WP_seq ?_
 refine WP_region ?_
 refine O_move rfl rfl rfl ?_
 refine O_assign rfl rfl rfl ?_
 refine WL_end [(8, _)] ⟨rfl, trivial⟩ ?_
 refine WP_ret ?_
 refine ret1 Try.results28 rfl ?_
 exact ⟨_, rfl, e1, rfl⟩
theorem Set_other {w : World} {g r : Nat} {ps : List Part} (hF : Fo w g r ps) {k : ByteArray} {v i x : Int} {t : Tr} (hR : Rep ps i t) (hs : t.get k = some x) (hne : ¬ x = v) (hb : ps.length + 3 * t.ht + 4 ≤ 100000000) (hc : t.cnt ≤ 10000000) :
    Calls Try.prog 28 #[.pointer (some ⟨g, 0, none⟩), .int .i64 i, .string k, .int .i64 v] w (FRet g r ps (t.set k v) (3 * t.ht + 1) w) := by
 refine enter (args := [_, _, _, _]) Try.func28 rfl Try.ntmps28 rfl ?_
 refine WP_seq ?_
 refine WP_region ?_
 refine O_assign rfl rfl rfl ?_
 refine WL_end [(0, _), (1, _), (2, _), (3, _)] ⟨rfl, rfl, rfl, rfl, trivial⟩ ?_
 refine WP_seq ?_
 refine WP_seq ?_
 refine WP_region ?_
 refine O_move rfl rfl rfl ?_
 refine O_move rfl rfl rfl ?_
 refine O_move rfl rfl rfl ?_
 refine O_call enters33 rfl rfl rfl (Get_some hF hR hs) (fun v1 w1 e1 h1 => ?_)
 have z1 := e1.size
 try simp only [val_dig] at h1
 obtain rfl := h1
 refine O_move rfl rfl rfl ?_
 refine O_extract rfl rfl rfl rfl ?_
 refine O_extract rfl rfl rfl rfl ?_
 refine O_assign rfl rfl rfl ?_
 refine O_assign rfl rfl rfl ?_
 refine WL_end [(0, _), (1, _), (2, _), (3, _), (9, _), (10, _)] ⟨rfl, rfl, rfl, rfl, rfl, rfl, trivial⟩ ?_
 refine WP_seq ?_
 refine WP_region ?_
 refine O_move rfl rfl rfl ?_
 refine O_move rfl rfl rfl ?_
 refine O_move rfl rfl rfl ?_
 refine O_move rfl rfl rfl ?_
 refine O_eql (t := false) rfl rfl rfl rfl (decide_eq_false hne) ?_
 refine O_pickT rfl rfl rfl rfl ?_
 refine WL_end [(0, _), (1, _), (2, _), (3, _), (23, _)] ⟨rfl, rfl, rfl, rfl, rfl, trivial⟩ ?_
 refine WP_condF rfl ?_
 refine WP_skip ?_
 refine WP_seq ?_
 refine WP_region ?_
 refine O_move rfl rfl rfl ?_
 refine O_move rfl rfl rfl ?_
 refine O_move rfl rfl rfl ?_
 refine O_move rfl rfl rfl ?_
 refine O_build (cs := [_, _]) B54 rfl rfl rfl (cells_cons rfl (cells_cons rfl cells_nil)) rfl ?_
 refine O_callF enters63 rfl rfl rfl (set_c t (hF.ext e1) hR hb hc) (fun r9 qs9 i9 w9 hst9 hF9 hq9 hR9 => ?_)
 refine O_assign rfl rfl rfl ?_
 refine WL_end [(8, _)] ⟨rfl, trivial⟩ ?_
 refine WP_ret ?_
 refine ret1 Try.results28 rfl ?_
 exact FRet.then (N1 := 0) (qs := []) (FStep.of_ext e1) (Nat.zero_le _) hst9 (by rw [List.append_nil]; exact hF9) hq9 (by rw [List.append_nil]; exact hR9) (by omega)
theorem Set_none {w : World} {g r : Nat} {ps : List Part} (hF : Fo w g r ps) {k : ByteArray} {v i : Int} {t : Tr} (hR : Rep ps i t) (hs : t.get k = none) (hb : ps.length + 3 * t.ht + 4 ≤ 100000000) (hc : t.cnt ≤ 10000000) :
    Calls Try.prog 28 #[.pointer (some ⟨g, 0, none⟩), .int .i64 i, .string k, .int .i64 v] w (FRet g r ps (t.set k v) (3 * t.ht + 1) w) := by
 refine enter (args := [_, _, _, _]) Try.func28 rfl Try.ntmps28 rfl ?_
 refine WP_seq ?_
 refine WP_region ?_
 refine O_assign rfl rfl rfl ?_
 refine WL_end [(0, _), (1, _), (2, _), (3, _)] ⟨rfl, rfl, rfl, rfl, trivial⟩ ?_
 refine WP_seq ?_
 refine WP_seq ?_
 refine WP_region ?_
 refine O_move rfl rfl rfl ?_
 refine O_move rfl rfl rfl ?_
 refine O_move rfl rfl rfl ?_
 refine O_call enters33 rfl rfl rfl (Get_none hF hR hs) (fun v1 w1 e1 h1 => ?_)
 have z1 := e1.size
 try simp only [val_dig] at h1
 obtain rfl := h1
 refine O_move rfl rfl rfl ?_
 refine O_extract rfl rfl rfl rfl ?_
 refine O_extract rfl rfl rfl rfl ?_
 refine O_assign rfl rfl rfl ?_
 refine O_assign rfl rfl rfl ?_
 refine WL_end [(0, _), (1, _), (2, _), (3, _), (9, _), (10, _)] ⟨rfl, rfl, rfl, rfl, rfl, rfl, trivial⟩ ?_
 refine WP_seq ?_
 refine WP_region ?_
 refine O_move rfl rfl rfl ?_
 refine O_move rfl rfl rfl ?_
 refine O_skip rfl rfl ?_
 refine O_skip rfl rfl ?_
 refine O_skip rfl rfl ?_
 refine O_pickF rfl rfl rfl rfl ?_
 refine WL_end [(0, _), (1, _), (2, _), (3, _), (23, _)] ⟨rfl, rfl, rfl, rfl, rfl, trivial⟩ ?_
 refine WP_condF rfl ?_
 refine WP_skip ?_
 refine WP_seq ?_
 refine WP_region ?_
 refine O_move rfl rfl rfl ?_
 refine O_move rfl rfl rfl ?_
 refine O_move rfl rfl rfl ?_
 refine O_move rfl rfl rfl ?_
 refine O_build (cs := [_, _]) B54 rfl rfl rfl (cells_cons rfl (cells_cons rfl cells_nil)) rfl ?_
 refine O_callF enters63 rfl rfl rfl (set_c t (hF.ext e1) hR hb hc) (fun r9 qs9 i9 w9 hst9 hF9 hq9 hR9 => ?_)
 refine O_assign rfl rfl rfl ?_
 refine WL_end [(8, _)] ⟨rfl, trivial⟩ ?_
 refine WP_ret ?_
 refine ret1 Try.results28 rfl ?_
 exact FRet.then (N1 := 0) (qs := []) (FStep.of_ext e1) (Nat.zero_le _) hst9 (by rw [List.append_nil]; exact hF9) hq9 (by rw [List.append_nil]; exact hR9) (by omega)

theorem Set_new {w : World} {g r : Nat} {ps : List Part} (hF : Fo w g r ps) {k : ByteArray} {v i : Int} {t : Tr} (hR : Rep ps i t) (hs : t.get k ≠ some v) (hb : ps.length + 3 * t.ht + 4 ≤ 100000000) (hc : t.cnt ≤ 10000000) : Calls Try.prog 28 #[.pointer (some ⟨g, 0, none⟩), .int .i64 i, .string k, .int .i64 v] w (FRet g r ps (t.set k v) (3 * t.ht + 1) w) := by
  cases h : t.get k with
  | none => exact Set_none hF hR h hb hc
  | some x => exact Set_other hF hR h (fun e => hs (by rw [h, e])) hb hc

theorem Drop_none {w : World} {g r : Nat} {ps : List Part} (hF : Fo w g r ps) {s : ByteArray} {i : Int} {t : Tr} (hR : Rep ps i t) (hs : t.get s = none) :
    Calls Try.prog 30 #[.pointer (some ⟨g, 0, none⟩), .int .i64 i, .string s] w (Ret w fun r _ => r = .tuple #[.int .i64 i, .bool false]) := by
 refine enter (args := [_, _, _]) Try.func30 rfl Try.ntmps30 rfl ?_
 refine WP_seq ?_
 refine WP_region ?_
 refine O_assign rfl rfl rfl ?_
 refine O_assign rfl rfl rfl ?_
 refine WL_end [(0, _), (1, _), (2, _)] ⟨rfl, rfl, rfl, trivial⟩ ?_
 refine WP_seq ?_
 refine WP_seq ?_
 refine WP_region ?_
 refine O_move rfl rfl rfl ?_
 refine O_move rfl rfl rfl ?_
 refine O_move rfl rfl rfl ?_
 refine O_call enters33 rfl rfl rfl (Get_none hF hR hs) (fun v1 w1 e1 h1 => ?_)
 have z1 := e1.size
 try simp only [val_dig] at h1
 obtain rfl := h1
 refine O_move rfl rfl rfl ?_
 refine O_extract rfl rfl rfl rfl ?_
 refine O_extract rfl rfl rfl rfl ?_
 refine O_assign rfl rfl rfl ?_
 refine O_assign rfl rfl rfl ?_
 refine WL_end [(0, _), (1, _), (2, _), (9, _)] ⟨rfl, rfl, rfl, rfl, trivial⟩ ?_
 refine WP_seq ?_
 refine WP_region ?_
 refine O_move rfl rfl rfl ?_
 refine O_not rfl rfl rfl rfl ?_
 refine WL_end [(0, _), (1, _), (2, _), (18, _)] ⟨rfl, rfl, rfl, rfl, trivial⟩ ?_
 refine WP_condT rfl ?_
 refine WP_seq ?_
 refine WP_region ?_
 refine O_move rfl rfl rfl ?_
 refine O_assign rfl rfl rfl ?_
 refine O_assign rfl rfl rfl ?_
 refine WL_end [(6, _), (7, _)] ⟨rfl, rfl, trivial⟩ ?_
 refine WP_ret ?_
 refine ret2 Try.results30 rfl rfl ?_
 exact ⟨_, rfl, e1, rfl⟩
theorem Drop_some {w : World} {g r : Nat} {ps : List Part} (hF : Fo w g r ps) {s : ByteArray} {i x : Int} {t : Tr} (hR : Rep ps i t) (hs : t.get s = some x) (ho : Tr.Ord t) (hb : ps.length + 3 * t.ht + 4 ≤ 100000000) (hc : t.cnt ≤ 10000000) :
    Calls Try.prog 30 #[.pointer (some ⟨g, 0, none⟩), .int .i64 i, .string s] w (FRetM (fun i => .tuple #[.int .i64 i, .bool true]) g r ps (t.drop s) (3 * t.ht) w) := by
 refine enter (args := [_, _, _]) Try.func30 rfl Try.ntmps30 rfl ?_
 refine WP_seq ?_
 refine WP_region ?_
 refine O_assign rfl rfl rfl ?_
 refine O_assign rfl rfl rfl ?_
 refine WL_end [(0, _), (1, _), (2, _)] ⟨rfl, rfl, rfl, trivial⟩ ?_
 refine WP_seq ?_
 refine WP_seq ?_
 refine WP_region ?_
 refine O_move rfl rfl rfl ?_
 refine O_move rfl rfl rfl ?_
 refine O_move rfl rfl rfl ?_
 refine O_call enters33 rfl rfl rfl (Get_some hF hR hs) (fun v1 w1 e1 h1 => ?_)
 have z1 := e1.size
 try simp only [val_dig] at h1
 obtain rfl := h1
 refine O_move rfl rfl rfl ?_
 refine O_extract rfl rfl rfl rfl ?_
 refine O_extract rfl rfl rfl rfl ?_
 refine O_assign rfl rfl rfl ?_
 refine O_assign rfl rfl rfl ?_
 refine WL_end [(0, _), (1, _), (2, _), (9, _)] ⟨rfl, rfl, rfl, rfl, trivial⟩ ?_
 refine WP_seq ?_
 refine WP_region ?_
 refine O_move rfl rfl rfl ?_
 refine O_not rfl rfl rfl rfl ?_
 refine WL_end [(0, _), (1, _), (2, _), (18, _)] ⟨rfl, rfl, rfl, rfl, trivial⟩ ?_
 refine WP_condF rfl ?_
 refine WP_skip ?_
 refine WP_seq ?_
 refine WP_region ?_
 refine O_move rfl rfl rfl ?_
 refine O_move rfl rfl rfl ?_
 refine O_move rfl rfl rfl ?_
 refine O_callF enters65 rfl rfl rfl (drop_c t (hF.ext e1) hR ho (by rw [hs]; simp) hb hc) (fun r9 qs9 i9 w9 hst9 hF9 hq9 hR9 => ?_)
 refine O_assign rfl rfl rfl ?_
 refine O_assign rfl rfl rfl ?_
 refine WL_end [(6, _), (7, _)] ⟨rfl, rfl, trivial⟩ ?_
 refine WP_ret ?_
 refine ret2 Try.results30 rfl rfl ?_
 exact ⟨r9, qs9, i9, rfl, (FStep.of_ext e1).trans hst9, hF9, hq9, hR9⟩

theorem Count_c {w : World} {g r : Nat} {ps : List Part} (hF : Fo w g r ps) {i : Int} {t : Tr} (hR : Rep ps i t) :
    Calls Try.prog 21 #[.pointer (some ⟨g, 0, none⟩), .int .i64 i] w (Ret w fun r _ => r = .int .i64 (t.cnt : Nat)) := by
 refine enter (args := [_, _]) Try.func21 rfl Try.ntmps21 rfl ?_
 refine WP_seq ?_
 refine WP_region ?_
 refine O_assign rfl rfl rfl ?_
 refine WL_end [(0, _), (1, _)] ⟨rfl, rfl, trivial⟩ ?_
 refine WP_seq ?_
 refine WP_region ?_
 refine O_move rfl rfl rfl ?_
 refine O_move rfl rfl rfl ?_
 refine O_call enters62 rfl rfl rfl (getT_c hF hR) (fun v1 w1 e1 h1 => ?_)
 have z1 := e1.size
 try simp only [val_dig] at h1
 obtain ⟨a1, b1, rfl, ha1, hb1⟩ := h1
 refine O_fieldV V97_4 rfl rfl rfl rfl ?_
 refine O_assign rfl rfl rfl ?_
 refine WL_end [(4, _)] ⟨rfl, trivial⟩ ?_
 refine WP_ret ?_
 refine ret1 Try.results21 rfl ?_
 exact ⟨_, rfl, e1, rfl⟩
theorem Height_c {w : World} {g r : Nat} {ps : List Part} (hF : Fo w g r ps) {i : Int} {t : Tr} (hR : Rep ps i t) :
    Calls Try.prog 25 #[.pointer (some ⟨g, 0, none⟩), .int .i64 i] w (Ret w fun r _ => r = .int .i64 (t.ht : Nat)) := by
 refine enter (args := [_, _]) Try.func25 rfl Try.ntmps25 rfl ?_
 refine WP_seq ?_
 refine WP_region ?_
 refine O_assign rfl rfl rfl ?_
 refine WL_end [(0, _), (1, _)] ⟨rfl, rfl, trivial⟩ ?_
 refine WP_seq ?_
 refine WP_region ?_
 refine O_move rfl rfl rfl ?_
 refine O_move rfl rfl rfl ?_
 refine O_call enters62 rfl rfl rfl (getT_c hF hR) (fun v1 w1 e1 h1 => ?_)
 have z1 := e1.size
 try simp only [val_dig] at h1
 obtain ⟨a1, b1, rfl, ha1, hb1⟩ := h1
 refine O_fieldV V97_3 rfl rfl rfl rfl ?_
 refine O_assign rfl rfl rfl ?_
 refine WL_end [(4, _)] ⟨rfl, trivial⟩ ?_
 refine WP_ret ?_
 refine ret1 Try.results25 rfl ?_
 exact ⟨_, rfl, e1, rfl⟩
theorem Size_c {w : World} {g r : Nat} {ps : List Part} (hF : Fo w g r ps) :
    Calls Try.prog 24 #[.pointer (some ⟨g, 0, none⟩)] w (Ret w fun r _ => r = .int .i64 (ps.length : Nat)) := by
 have hF0 := hF
 obtain ⟨fv, hB, hO, hne, hr⟩ := hF
 have hlm : (ps.map pcells).length = ps.length := List.length_map ..
 refine enter (args := [_]) Try.func24 rfl Try.ntmps24 rfl ?_
 refine WP_seq ?_
 refine WP_region ?_
 refine O_assign rfl rfl rfl ?_
 refine WL_end [(0, _)] ⟨rfl, trivial⟩ ?_
 refine WP_seq ?_
 refine WP_region ?_
 refine O_move rfl rfl rfl ?_
 refine O_nilCheck rfl rfl rfl ?_
 refine O_field F103_0 rfl rfl rfl ?_
 refine O_loadC Try.underlying101 rfl rfl rfl rfl hB rfl ?_
 refine K_len Eparts rfl rfl rfl hO.sl ?_
 refine O_assign rfl rfl rfl ?_
 refine WL_end [(2, _)] ⟨rfl, trivial⟩ ?_
 refine WP_ret ?_
 refine ret1 Try.results24 rfl ?_
 exact ⟨_, rfl, (Ext.refl _), by rw [hlm]⟩

theorem New_c {w : World} :
    Calls Try.prog 43 #[] w (Ret w fun r w' => ∃ g, r = .pointer (some ⟨g, 0, none⟩) ∧ Fo w' g g [] ∧ w.heap.size ≤ g ∧ g < w'.heap.size) := by
 refine enter (args := []) Try.func43 rfl Try.ntmps43 rfl ?_
 refine WP_seq ?_
 refine WP_region ?_
 refine O_assign rfl rfl rfl ?_
 refine WL_end [] trivial ?_
 refine WP_seq ?_
 refine WP_region ?_
 refine O_build (cs := [_]) B103 rfl rfl rfl cells_nil rfl ?_
 refine O_box _ rfl rfl rfl rfl (fun g1 w1 b1 e1 gl1 gh1 => ?_)
 have z1 := e1.size
 refine O_assign rfl rfl rfl ?_
 refine WL_end [(0, _)] ⟨rfl, trivial⟩ ?_
 refine WP_ret ?_
 refine ret1 Try.results43 rfl ?_
 exact ⟨_, rfl, e1, g1, rfl, ⟨_, b1, OwnK.nil _ _ _ _, (by simp [Value.ownBlock]), rfl⟩, gl1, gh1⟩

end Go.Proofs.Ytoccimigjjndpaa
