/-
  Walks.
-/
import Derived.Test.YtoccimigjjndpaaT1
set_option linter.unusedVariables false
set_option linter.unusedSimpArgs false
set_option maxRecDepth 100000
namespace Go.Proofs.Ytoccimigjjndpaa
open Go Go.RowKit
set_option maxHeartbeats 1000000 in
theorem join_c {w : World} {g r : Nat} {ps : List Part} (hF : Fo w g r ps) {k : ByteArray} {v a b : Int} {tl tr : Tr} (hL : Rep ps a tl) (hR : Rep ps b tr) (hb : ps.length + 1 ≤ 100000000) (hc : tl.cnt + tr.cnt ≤ 100000000) :
    Calls Try.prog 87 #[.pointer (some ⟨g, 0, none⟩), .agg #[.string k, .int .i64 v], .int .i64 a, .int .i64 b] w (FRet g r ps (.node tl k v tr) 1 w) := by
 have hF0 := hF
 obtain ⟨fv, hB, hO, hne, hr⟩ := hF
 have hlm : (ps.map pcells).length = ps.length := List.length_map ..
 have hh1 := tl.ht_le
 have hh2 := tr.ht_le
 refine enter (args := [_, _, _, _]) Try.func87 rfl Try.ntmps87 rfl ?_
 refine WP_seq ?_
 refine WP_region ?_
 refine O_box _ rfl rfl rfl rfl (fun g1 w1 b1 e1 gl1 gh1 => ?_)
 have z1 := e1.size
 refine O_assign rfl rfl rfl ?_
 refine WL_end [(0, _), (2, _), (3, _), (5, _)] ⟨rfl, rfl, rfl, rfl, trivial⟩ ?_
 refine WP_seq ?_
 refine WP_region ?_
 refine O_move rfl rfl rfl ?_
 refine O_move rfl rfl rfl ?_
 refine O_call enters62 rfl rfl rfl (getT_c (hF0.ext e1) hL) (fun v2 w2 e2 h2 => ?_)
 have z2 := e2.size
 try simp only [val_dig] at h2
 obtain ⟨a2, b2, rfl, ha2, hb2⟩ := h2
 refine O_move rfl rfl rfl ?_
 refine O_move rfl rfl rfl ?_
 refine O_call enters62 rfl rfl rfl (getT_c (hF0.ext (e1.trans e2)) hR) (fun v3 w3 e3 h3 => ?_)
 have z3 := e3.size
 try simp only [val_dig] at h3
 obtain ⟨a3, b3, rfl, ha3, hb3⟩ := h3
 refine O_alloc S97 rfl rfl (fun g4 w4 b4 e4 gl4 gh4 => ?_)
 have z4 := e4.size
 refine O_alloc S97 rfl rfl (fun g5 w5 b5 e5 gl5 gh5 => ?_)
 have z5 := e5.size
 refine O_storeA (cs' := [_, _, _, _, _, _]) S97 rfl rfl rfl (b4.ext e5) rfl rfl (one_cons rfl (one_cons rfl (one_cons rfl (one_cons rfl (one_cons rfl (one_cons rfl one_nil)))))) rfl (fun w6 b6 q6 => ?_)
 have z6 := Nat.le_of_eq q6.size.symm
 have e6 : Ext w w6 := q6.ext ((((e1.trans e2).trans e3).trans e4).trans e5) (by omega)
 refine O_storeA (cs' := [_, _, _, _, _, _]) S97 rfl rfl rfl (b5.chg q6 (by first | assumption | omega)) rfl rfl (one_cons rfl (one_cons rfl (one_cons rfl (one_cons rfl (one_cons rfl (one_cons rfl one_nil)))))) rfl (fun w7 b7 q7 => ?_)
 have z7 := Nat.le_of_eq q7.size.symm
 have e7 : Ext w w7 := q7.ext e6 (by omega)
 refine WL_end [(0, _), (2, _), (3, _), (5, _), (9, _), (10, _)] ⟨rfl, rfl, rfl, rfl, rfl, rfl, trivial⟩ ?_
 refine WP_seq ?_
 have hfl : ∀ j, fv.ownBlock = some j → j < w.heap.size := fun j hj => (hO.lt j hj).2
 have hOW := (hO.ext e7)
 have kg := (hB.ext e7)
 have kg1 := ((((((b1.ext e2).ext e3).ext e4).ext e5).chg q6 (by first | assumption | omega)).chg q7 (by first | assumption | omega))
 have kg4 := (b6.chg q7 (by first | assumption | omega))
 have kg5 := b7
 refine WP_sub [(0, _), (2, _), (3, _), (5, _), (9, _), (10, _)] ⟨rfl, rfl, rfl, rfl, rfl, rfl, trivial⟩ ?_
 refine WP_anyE (JX w7 fv (pcells ⟨k, v, a, b, ((max tl.ht tr.ht + 1 : Nat) : Int), ((tl.cnt + tr.cnt + 1 : Nat) : Int)⟩) (ps.map pcells)) (fun w' => ExtP (fun j => fv.ownBlock = some j) w7 w') 23 [0, 2, 3, 5, 9, 10] [21, 22] [38, 39] mixed rfl (by kernel_rfl) (by kernel_rfl) (fun vs w' h => JX.ext vs w' h) (fun w' h => h) ?_
 apply AnyE_val [0] rfl rfl rfl
 · --
  intro y8_ hy
  refine O_move rfl rfl rfl ?_
  exact WL_nil ⟨rfl, rfl⟩
 apply AnyE_val [0] rfl rfl rfl
 · --
  intro y8_ hy
  refine O_move rfl rfl rfl ?_
  exact WL_nil ⟨rfl, rfl⟩
 apply AnyE_val [18] rfl rfl rfl
 · --
  intro y8_ hy
  refine O_nilCheck rfl rfl rfl ?_
  exact WL_nil ⟨rfl, rfl⟩
 apply AnyE_val [19] rfl rfl rfl
 · --
  intro y8_ hy
  refine O_field F103_0 rfl rfl rfl ?_
  exact WL_nil ⟨rfl, rfl⟩
 apply AnyE_val [20] rfl rfl rfl
 · --
  intro y8_ hy
  refine O_loadC Try.underlying101 rfl rfl rfl rfl (kg.extP hy (by first | exact hne | (intro h; have := hfl _ h; omega))) rfl ?_
  exact WL_nil ⟨rfl, rfl⟩
 apply AnyE_val [5] rfl rfl rfl
 · --
  intro y8_ hy
  refine O_loadA (vs := [_, _]) S54 rfl rfl rfl (kg1.extP hy (by first | exact hne | (intro h; have := hfl _ h; omega))) rfl rfl ?_
  exact WL_nil ⟨rfl, rfl⟩
 apply AnyE_val [2] rfl rfl rfl
 · --
  intro y8_ hy
  refine O_move rfl rfl rfl ?_
  exact WL_nil ⟨rfl, rfl⟩
 apply AnyE_val [3] rfl rfl rfl
 · --
  intro y8_ hy
  refine O_move rfl rfl rfl ?_
  exact WL_nil ⟨rfl, rfl⟩
 apply AnyE_val [9] rfl rfl rfl
 · --
  intro y8_ hy
  refine O_field F97_3 rfl rfl rfl ?_
  exact WL_nil ⟨rfl, rfl⟩
 apply AnyE_val [25] rfl rfl rfl
 · --
  intro y8_ hy
  refine O_loadC Try.underlying3 rfl rfl rfl rfl (kg4.extP hy (by first | exact hne | (intro h; have := hfl _ h; omega))) rfl ?_
  exact WL_nil ⟨rfl, rfl⟩
 apply AnyE_val [10] rfl rfl rfl
 · --
  intro y8_ hy
  refine O_field F97_3 rfl rfl rfl ?_
  exact WL_nil ⟨rfl, rfl⟩
 apply AnyE_val [27] rfl rfl rfl
 · --
  intro y8_ hy
  refine O_loadC Try.underlying3 rfl rfl rfl rfl (kg5.extP hy (by first | exact hne | (intro h; have := hfl _ h; omega))) rfl ?_
  exact WL_nil ⟨rfl, rfl⟩
 apply AnyE_val [26, 28] rfl rfl rfl
 · --
  intro y8_ hy
  refine O_max rfl rfl rfl rfl rfl ?_
  exact WL_nil ⟨rfl, rfl⟩
 apply AnyE_val [29] rfl rfl rfl
 · --
  intro y8_ hy
  refine O_add (r := ((max tl.ht tr.ht + 1 : Nat) : Int)) rfl rfl rfl rfl (by rw [IntKind.wrap_i64]; omega) ?_
  exact WL_nil ⟨rfl, rfl⟩
 apply AnyE_val [9] rfl rfl rfl
 · --
  intro y8_ hy
  refine O_field F97_4 rfl rfl rfl ?_
  exact WL_nil ⟨rfl, rfl⟩
 apply AnyE_val [31] rfl rfl rfl
 · --
  intro y8_ hy
  refine O_loadC Try.underlying3 rfl rfl rfl rfl (kg4.extP hy (by first | exact hne | (intro h; have := hfl _ h; omega))) rfl ?_
  exact WL_nil ⟨rfl, rfl⟩
 apply AnyE_val [10] rfl rfl rfl
 · --
  intro y8_ hy
  refine O_field F97_4 rfl rfl rfl ?_
  exact WL_nil ⟨rfl, rfl⟩
 apply AnyE_val [33] rfl rfl rfl
 · --
  intro y8_ hy
  refine O_loadC Try.underlying3 rfl rfl rfl rfl (kg5.extP hy (by first | exact hne | (intro h; have := hfl _ h; omega))) rfl ?_
  exact WL_nil ⟨rfl, rfl⟩
 apply AnyE_val [32, 34] rfl rfl rfl
 · --
  intro y8_ hy
  refine O_add rfl rfl rfl rfl (wrap_i64_id (by omega) (by omega)) ?_
  exact WL_nil ⟨rfl, rfl⟩
 apply AnyE_val [35] rfl rfl rfl
 · --
  intro y8_ hy
  refine O_add (r := ((tl.cnt + tr.cnt + 1 : Nat) : Int)) rfl rfl rfl rfl (by rw [IntKind.wrap_i64]; omega) ?_
  exact WL_nil ⟨rfl, rfl⟩
 apply AnyE_val [22, 23, 24, 30, 36] rfl rfl rfl
 · --
  intro y8_ hy
  refine O_build (cs := [_, _, _, _, _, _]) B97 rfl rfl rfl (cells_cons rfl (cells_cons rfl (cells_cons rfl (cells_cons rfl (cells_cons rfl cells_nil))))) rfl ?_
  exact WL_nil ⟨rfl, rfl⟩
 apply AnyE_eff 0 [37] rfl rfl rfl
 · --
  intro vs y8_ hl hX
  obtain rfl : vs = [] := List.eq_nil_of_length_eq_zero hl
  have hX0 : Ext w7 y8_ := hX
  refine K_lit1 Eparts rfl rfl rfl rfl rfl rfl (fun v1 w1 hs1 he1 hb1 hz1 ho1 => ?_)
  exact WL_nil ⟨_, rfl, hX0.trans he1, hs1⟩
 apply AnyE_eff 1 [21, 38] rfl rfl rfl
 · --
  intro vs y8_ hl hX
  obtain ⟨v1, rfl⟩ := len1 hl
  obtain ⟨hX0, hX1⟩ := hX
  have zy := hX0.size
  refine K_append Eparts rfl rfl rfl rfl rfl (hOW.ext hX0) hX1 (by intro r hr u hu; simp only [List.mem_singleton] at hr; subst hr; simp only [pcells, List.mem_cons, List.not_mem_nil, or_false] at hu; rcases hu with rfl | rfl | rfl | rfl | rfl | rfl <;> rfl) (by simp only [List.length_cons, List.length_nil]; omega) rfl (Nat.zero_le _) (fun v2 w2 ho2 hg2 hk2 => ?_)
  exact WL_nil ⟨_, rfl, (hX0.toP).trans' (World.grownBy.toP hg2 fun k hk => hk) (fun _ _ h => h), ho2, hk2.imp id fun h => ⟨_, h, zy⟩⟩
 refine AnyE_nil fun vs y8_ hl hX => ?_
 obtain ⟨v1, v2, rfl⟩ := len2 hl
 obtain ⟨hp2, ho2, hk2⟩ := hX
 have hBy := kg.extP hp2 hne
 refine O_nilCheck rfl rfl rfl ?_
 refine O_field F103_0 rfl rfl rfl ?_
 refine O_storeC (cs' := [_]) one101 rfl rfl rfl ho2.one hBy rfl rfl (fun w25 b25 q25 => ?_)
 obtain ⟨r25, hst25, hF25, hs25⟩ := Fo.joined (q := ⟨k, v, a, b, ((max tl.ht tr.ht + 1 : Nat) : Int), ((tl.cnt + tr.cnt + 1 : Nat) : Int)⟩) e7 hB hne hr hp2 ho2 hk2 q25 b25
 refine WL_end [(0, _)] ⟨rfl, trivial⟩ ?_
 refine WP_seq ?_
 refine WP_region ?_
 refine O_move rfl rfl rfl ?_
 refine O_nilCheck rfl rfl rfl ?_
 refine O_field F103_0 rfl rfl rfl ?_
 refine O_loadC Try.underlying101 rfl rfl rfl rfl b25 rfl ?_
 refine K_len Eparts rfl rfl rfl hs25 ?_
 refine O_sub (r := ((ps.length : Nat) : Int)) rfl rfl rfl rfl (by rw [IntKind.wrap_i64]; simp only [List.length_append, List.length_cons, List.length_nil]; omega) ?_
 refine O_assign rfl rfl rfl ?_
 refine WL_end [(8, _)] ⟨rfl, trivial⟩ ?_
 refine WP_ret ?_
 refine ret1 Try.results87 rfl ?_
 exact ⟨r25, [⟨k, v, a, b, ((max tl.ht tr.ht + 1 : Nat) : Int), ((tl.cnt + tr.cnt + 1 : Nat) : Int)⟩], _, rfl, hst25, hF25, Nat.le_refl _, hL.mk hR k v⟩

end Go.Proofs.Ytoccimigjjndpaa
