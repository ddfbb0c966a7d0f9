/-
  Walks.
-/
import Derived.Test.YtoccimigjjndpaaT6
set_option linter.unusedVariables false
set_option linter.unusedSimpArgs false
set_option maxRecDepth 100000
namespace Go.Proofs.Ytoccimigjjndpaa
open Go Go.RowKit
theorem Rank_c {w : World} {g r : Nat} {ps : List Part} (hF : Fo w g r ps) {i : Int} {s : ByteArray} {t : Tr} (hR : Rep ps i t) (ho : t.Ord) (hc : t.cnt ≤ 10000000) :
    Calls Try.prog 37 #[.pointer (some ⟨g, 0, none⟩), .int .i64 i, .string s] w (Ret w fun r _ => r = .int .i64 (eat t.env s : Nat)) := by
 refine enter (args := [_, _, _]) Try.func37 rfl Try.ntmps37 rfl ?_
 refine WP_seq ?_
 refine WP_region ?_
 refine O_assign rfl rfl rfl ?_
 refine WL_end [(0, _), (1, _), (2, _)] ⟨rfl, rfl, rfl, trivial⟩ ?_
 refine WP_seq ?_
 refine WP_region ?_
 refine O_assign rfl rfl rfl ?_
 refine WL_end [(0, _), (1, _), (2, _), (7, _)] ⟨rfl, rfl, rfl, rfl, trivial⟩ ?_
 refine WP_seq ?_
 refine WP_block ?_
 refine WP_loop (S := Tr × Int × Nat) (fun (u, j, q) => [(0, .pointer (some ⟨g, 0, none⟩)), (1, .int .i64 j), (2, .string s), (7, .int .i64 (q : Nat))]) (fun (u, j, q) w' => Ext w w' ∧ Rep ps j u ∧ u.Ord ∧ q + eat u.env s = eat t.env s ∧ u.cnt ≤ 10000000) (fun (u, j, q) => u.ht) (t, i, 0) ⟨rfl, rfl, rfl, rfl, trivial⟩ ⟨Ext.refl _, hR, ho, by omega, hc⟩ ?_
 rintro ⟨u, j, q⟩ w9 ⟨hE, hRu, hou, hq, hcu⟩
 show WP _ _ _ _ _ [(0, .pointer (some ⟨g, 0, none⟩)), (1, .int .i64 j), (2, .string s), (7, .int .i64 (q : Nat))] _
 have zE := hE.size
 have hsp := u.cnt_split
 have hel := eat_le t.env s
 rw [Tr.env_length] at hel
 refine WP_seq ?_
 refine WP_seq ?_
 refine WP_region ?_
 refine O_move rfl rfl rfl ?_
 refine O_move rfl rfl rfl ?_
 refine O_call enters67 rfl rfl rfl (empty_c (hF.ext hE) hRu) (fun v1 w1 e1 h1 => ?_)
 have z1 := e1.size
 obtain rfl := h1
 refine O_not rfl rfl rfl (decide_not).symm ?_
 refine WL_end [(0, _), (1, _), (2, _), (7, _), (12, _)] ⟨rfl, rfl, rfl, rfl, rfl, trivial⟩ ?_
 refine WP_condN rfl (fun c12 => ?_) (fun c12 => ?_)
 · --
  refine WP_skip ?_
  refine WP_block ?_
  refine WP_seq ?_
  refine WP_region ?_
  refine O_move rfl rfl rfl ?_
  refine O_move rfl rfl rfl ?_
  refine O_call enters62 rfl rfl rfl (getT_c (hF.ext (hE.trans e1)) hRu) (fun v2 w2 e2 h2 => ?_)
  have z2 := e2.size
  try simp only [val_dig] at h2
  obtain ⟨a2, b2, rfl, ha2, hb2⟩ := h2
  refine O_alloc S97 rfl rfl (fun g3 w3 b3 e3 gl3 gh3 => ?_)
  have z3 := e3.size
  refine O_storeA (cs' := [_, _, _, _, _, _]) S97 rfl rfl rfl b3 rfl rfl (one_cons rfl (one_cons rfl (one_cons rfl (one_cons rfl (one_cons rfl (one_cons rfl one_nil)))))) rfl (fun w4 b4 q4 => ?_)
  have z4 := Nat.le_of_eq q4.size.symm
  have e4 : Ext w w4 := q4.ext (((hE.trans e1).trans e2).trans e3) (by omega)
  refine WL_end [(0, _), (2, _), (7, _), (8, _)] ⟨rfl, rfl, rfl, rfl, trivial⟩ ?_
  refine WP_seq ?_
  refine WP_region ?_
  refine O_move rfl rfl rfl ?_
  refine O_field F97_0 rfl rfl rfl ?_
  refine O_field F54_0 rfl rfl rfl ?_
  refine O_loadC Try.underlying9 rfl rfl rfl rfl b4 rfl ?_
  refine O_sleq rfl rfl rfl rfl ?_
  refine WL_end [(0, _), (2, _), (7, _), (8, _), (20, _)] ⟨rfl, rfl, rfl, rfl, rfl, trivial⟩ ?_
  refine WP_cond rfl (fun c20 => ?_) (fun c20 => ?_)
  · --
   refine WP_region ?_
   refine O_field F97_1 rfl rfl rfl ?_
   refine O_loadC Try.underlying3 rfl rfl rfl rfl b4 rfl ?_
   refine O_assign rfl rfl rfl ?_
   refine WL_end [(0, _), (1, _), (2, _), (7, _)] ⟨rfl, rfl, rfl, rfl, trivial⟩ ?_
   exact ⟨(u.lf, _, q), ⟨rfl, rfl, rfl, rfl, trivial⟩, ⟨e4, ha2, Tr.ord_lf hou, by rw [← Tr.eat_left c12 (by simpa using c20)]; exact hq, by omega⟩, Tr.ht_lf c12⟩
  · --
   refine WP_seq ?_
   refine WP_region ?_
   refine O_move rfl rfl rfl ?_
   refine O_move rfl rfl rfl ?_
   refine O_field F97_1 rfl rfl rfl ?_
   refine O_loadC Try.underlying3 rfl rfl rfl rfl b4 rfl ?_
   refine O_call enters21 rfl rfl rfl (Count_c (hF.ext e4) ha2) (fun v5 w5 e5 h5 => ?_)
   have z5 := e5.size
   obtain rfl := h5
   refine O_add rfl rfl rfl rfl (wrap_i64_id (by omega) (by omega)) ?_
   refine O_add (r := ((q + (u.lf.cnt + 1) : Nat) : Int)) rfl rfl rfl rfl (by rw [IntKind.wrap_i64]; have := Tr.eat_right hou c12 (by simpa using c20); omega) ?_
   refine O_assign rfl rfl rfl ?_
   refine WL_end [(0, _), (2, _), (7, _), (8, _)] ⟨rfl, rfl, rfl, rfl, trivial⟩ ?_
   refine WP_region ?_
   refine O_field F97_2 rfl rfl rfl ?_
   refine O_loadC Try.underlying3 rfl rfl rfl rfl (b4.ext e5) rfl ?_
   refine O_assign rfl rfl rfl ?_
   refine WL_end [(0, _), (1, _), (2, _), (7, _)] ⟨rfl, rfl, rfl, rfl, trivial⟩ ?_
   exact ⟨(u.rt_, _, q + (u.lf.cnt + 1)), ⟨rfl, rfl, rfl, rfl, trivial⟩, ⟨(e4.trans e5), hb2, Tr.ord_rt hou, by have := Tr.eat_right hou c12 (by simpa using c20); omega, by omega⟩, Tr.ht_rt c12⟩
 · --
  refine WP_exit ?_
  refine inBlk_hit ?_
  refine WP_seq ?_
  refine WP_region ?_
  refine O_move rfl rfl rfl ?_
  refine O_assign rfl rfl rfl ?_
  refine WL_end [(6, _)] ⟨rfl, trivial⟩ ?_
  refine WP_ret ?_
  refine ret1 Try.results37 rfl ?_
  exact ⟨_, rfl, (hE.trans e1), by rw [← hq, Tr.ht_zero.1 c12]; rfl⟩

theorem At_c {w : World} {g r : Nat} {ps : List Part} (hF : Fo w g r ps) {i x : Int} {t : Tr} (hR : Rep ps i t) (hc : t.cnt ≤ 10000000) (hx1 : -9223372036854775808 ≤ x) (hx2 : x ≤ 9223372036854775807) :
    Calls Try.prog 39 #[.pointer (some ⟨g, 0, none⟩), .int .i64 i, .int .i64 x] w (Ret w fun r _ => r = match Tr.nth t.env x with | some b => .tuple #[.agg #[.string b.1, .int .i64 b.2], .bool true] | none => .tuple #[.agg #[.string ByteArray.empty, .int .i64 0], .bool false]) := by
 refine enter (args := [_, _, _]) Try.func39 rfl Try.ntmps39 rfl ?_
 refine WP_seq ?_
 refine WP_region ?_
 refine O_alloc S54 rfl rfl (fun g1 w1 b1 e1 gl1 gh1 => ?_)
 have z1 := e1.size
 refine O_assign rfl rfl rfl ?_
 refine WL_end [(0, _), (1, _), (2, _), (6, _)] ⟨rfl, rfl, rfl, rfl, trivial⟩ ?_
 refine WP_seq ?_
 refine WP_block ?_
 refine WP_loop (S := Tr × Int × Int) (fun (u, j, q) => [(0, .pointer (some ⟨g, 0, none⟩)), (1, .int .i64 j), (2, .int .i64 q), (6, .pointer (some ⟨g1, 0, none⟩))]) (fun (u, j, q) w' => (Ext w w' ∧ Bk w' g1 54 [.string ByteArray.empty, .int .i64 0]) ∧ Rep ps j u ∧ Tr.nth u.env q = Tr.nth t.env x ∧ u.cnt ≤ 10000000 ∧ -9223372036854775808 ≤ q ∧ q ≤ 9223372036854775807) (fun (u, j, q) => u.ht) (t, i, x) ⟨rfl, rfl, rfl, rfl, trivial⟩ ⟨⟨e1, b1⟩, hR, rfl, hc, hx1, hx2⟩ ?_
 rintro ⟨u, j, q⟩ w9 ⟨⟨hE, hb6⟩, hRu, hq, hcu, hq1, hq2⟩
 show WP _ _ _ _ _ [(0, .pointer (some ⟨g, 0, none⟩)), (1, .int .i64 j), (2, .int .i64 q), (6, .pointer (some ⟨g1, 0, none⟩))] _
 have zE := hE.size
 have hsp := u.cnt_split
 have l6 := hb6.lt
 refine WP_seq ?_
 refine WP_seq ?_
 refine WP_region ?_
 refine O_move rfl rfl rfl ?_
 refine O_move rfl rfl rfl ?_
 refine O_call enters67 rfl rfl rfl (empty_c (hF.ext hE) hRu) (fun v2 w2 e2 h2 => ?_)
 have z2 := e2.size
 obtain rfl := h2
 refine O_not rfl rfl rfl (decide_not).symm ?_
 refine WL_end [(0, _), (1, _), (2, _), (6, _), (13, _)] ⟨rfl, rfl, rfl, rfl, rfl, trivial⟩ ?_
 refine WP_condN rfl (fun c13 => ?_) (fun c13 => ?_)
 · --
  refine WP_skip ?_
  refine WP_block ?_
  refine WP_seq ?_
  refine WP_region ?_
  refine O_move rfl rfl rfl ?_
  refine O_move rfl rfl rfl ?_
  refine O_call enters62 rfl rfl rfl (getT_c (hF.ext (hE.trans e2)) hRu) (fun v3 w3 e3 h3 => ?_)
  have z3 := e3.size
  try simp only [val_dig] at h3
  obtain ⟨a3, b3, rfl, ha3, hb3⟩ := h3
  refine O_alloc S97 rfl rfl (fun g4 w4 b4 e4 gl4 gh4 => ?_)
  have z4 := e4.size
  refine O_storeA (cs' := [_, _, _, _, _, _]) S97 rfl rfl rfl b4 rfl rfl (one_cons rfl (one_cons rfl (one_cons rfl (one_cons rfl (one_cons rfl (one_cons rfl one_nil)))))) rfl (fun w5 b5 q5 => ?_)
  have z5 := Nat.le_of_eq q5.size.symm
  have e5 : Ext w w5 := q5.ext (((hE.trans e2).trans e3).trans e4) (by omega)
  refine WL_end [(0, _), (2, _), (6, _), (8, _)] ⟨rfl, rfl, rfl, rfl, trivial⟩ ?_
  refine WP_seq ?_
  refine WP_region ?_
  refine O_move rfl rfl rfl ?_
  refine O_field F97_1 rfl rfl rfl ?_
  refine O_loadC Try.underlying3 rfl rfl rfl rfl b5 rfl ?_
  refine O_call enters21 rfl rfl rfl (Count_c (hF.ext e5) ha3) (fun v6 w6 e6 h6 => ?_)
  have z6 := e6.size
  obtain rfl := h6
  refine O_assign rfl rfl rfl ?_
  refine WL_end [(0, _), (2, _), (6, _), (8, _), (9, _)] ⟨rfl, rfl, rfl, rfl, rfl, trivial⟩ ?_
  refine WP_block ?_
  refine WP_seq ?_
  refine WP_region ?_
  refine O_move rfl rfl rfl ?_
  refine O_move rfl rfl rfl ?_
  refine O_lss rfl rfl rfl rfl rfl ?_
  refine O_assign rfl rfl rfl ?_
  refine WL_end [(0, _), (2, _), (6, _), (8, _), (9, _), (23, _)] ⟨rfl, rfl, rfl, rfl, rfl, rfl, trivial⟩ ?_
  refine WP_condD rfl (fun c23 => ?_) (fun c23 => ?_)
  · --
   refine WP_region ?_
   refine O_field F97_1 rfl rfl rfl ?_
   refine O_loadC Try.underlying3 rfl rfl rfl rfl (b5.ext e6) rfl ?_
   refine O_assign rfl rfl rfl ?_
   refine WL_end [(0, _), (1, _), (2, _), (6, _)] ⟨rfl, rfl, rfl, rfl, trivial⟩ ?_
   exact ⟨(u.lf, _, q), ⟨rfl, rfl, rfl, rfl, trivial⟩, ⟨⟨(e5.trans e6), (((((hb6.ext e2).ext e3).ext e4).chg q5 (by first | assumption | omega)).ext e6)⟩, ha3, by rw [← Tr.nth_left c13 c23]; exact hq, by omega, hq1, hq2⟩, Tr.ht_lf c13⟩
  · --
   refine WP_seq ?_
   refine WP_region ?_
   refine O_move rfl rfl rfl ?_
   refine O_move rfl rfl rfl ?_
   refine O_gtr rfl rfl rfl rfl rfl ?_
   refine O_assign rfl rfl rfl ?_
   refine WL_end [(0, _), (2, _), (6, _), (8, _), (9, _), (29, _)] ⟨rfl, rfl, rfl, rfl, rfl, rfl, trivial⟩ ?_
   refine WP_condD rfl (fun c29 => ?_) (fun c29 => ?_)
   · --
    refine WP_seq ?_
    refine WP_region ?_
    refine O_move rfl rfl rfl ?_
    refine O_move rfl rfl rfl ?_
    refine O_add rfl rfl rfl rfl (wrap_i64_id (by omega) (by omega)) ?_
    refine O_sub (r := (q - (u.lf.cnt + 1))) rfl rfl rfl rfl (by rw [IntKind.wrap_i64]; omega) ?_
    refine O_assign rfl rfl rfl ?_
    refine WL_end [(0, _), (2, _), (6, _), (8, _)] ⟨rfl, rfl, rfl, rfl, trivial⟩ ?_
    refine WP_region ?_
    refine O_field F97_2 rfl rfl rfl ?_
    refine O_loadC Try.underlying3 rfl rfl rfl rfl (b5.ext e6) rfl ?_
    refine O_assign rfl rfl rfl ?_
    refine WL_end [(0, _), (1, _), (2, _), (6, _)] ⟨rfl, rfl, rfl, rfl, trivial⟩ ?_
    exact ⟨(u.rt_, _, q - (u.lf.cnt + 1)), ⟨rfl, rfl, rfl, rfl, trivial⟩, ⟨⟨(e5.trans e6), (((((hb6.ext e2).ext e3).ext e4).chg q5 (by first | assumption | omega)).ext e6)⟩, hb3, by rw [← Tr.nth_right c13 c29]; exact hq, by omega, by omega, by omega⟩, Tr.ht_rt c13⟩
   · --
    refine WP_seq ?_
    refine WP_region ?_
    refine O_field F97_0 rfl rfl rfl ?_
    refine O_loadA (vs := [_, _]) S54 rfl rfl rfl (b5.ext e6) rfl rfl ?_
    refine O_storeA (cs' := [_, _]) S54 rfl rfl rfl (((((hb6.ext e2).ext e3).ext e4).chg q5 (by first | assumption | omega)).ext e6) rfl rfl (one_cons rfl (one_cons rfl one_nil)) rfl (fun w7 b7 q7 => ?_)
    have z7 := Nat.le_of_eq q7.size.symm
    have e7 : Ext w w7 := q7.ext (e5.trans e6) (by omega)
    refine O_assign rfl rfl rfl ?_
    refine WL_end [(6, _), (7, _)] ⟨rfl, rfl, trivial⟩ ?_
    refine WP_ret ?_
    refine inBlk_ret ?_
    refine inBlk_ret ?_
    refine inBlk_ret ?_
    refine retL Try.results39 (.cell rfl S54 b7 rfl (.tmp rfl .nil)) ?_
    have hqe : q = (u.lf.cnt : Nat) := by omega
    exact ⟨_, rfl, e7, by rw [← hq, hqe, Tr.nth_at c13]; rfl⟩
 · --
  refine WP_exit ?_
  refine inBlk_hit ?_
  refine WP_seq ?_
  refine WP_region ?_
  refine O_build (cs := [_, _]) B54 rfl rfl rfl cells_nil rfl ?_
  refine O_storeA (cs' := [_, _]) S54 rfl rfl rfl (hb6.ext e2) rfl rfl (one_cons rfl (one_cons rfl one_nil)) rfl (fun w8 b8 q8 => ?_)
  have z8 := Nat.le_of_eq q8.size.symm
  have e8 : Ext w w8 := q8.ext (hE.trans e2) (by omega)
  refine O_assign rfl rfl rfl ?_
  refine WL_end [(6, _), (7, _)] ⟨rfl, rfl, trivial⟩ ?_
  refine WP_ret ?_
  refine retL Try.results39 (.cell rfl S54 b8 rfl (.tmp rfl .nil)) ?_
  exact ⟨_, rfl, e8, by rw [← hq, Tr.nth_nil c13]; rfl⟩

end Go.Proofs.Ytoccimigjjndpaa
