/-
  Walks.
-/
import Derived.Test.YtoccimigjjndpaaV7
set_option linter.unusedVariables false
set_option linter.unusedSimpArgs false
set_option maxRecDepth 100000
namespace Go.Proofs.Ytoccimigjjndpaa
open Go Go.RowKit
theorem samech_T {w : World} {u v : Value} {a b : List Ch} (hs : SlC w u a) (hv : SlC w v b) (hl : a.length ≤ 1000000000) (he : a = b) : Calls Try.prog 46 #[u, v] w (Ret w fun r _ => r = .bool true) :=
  (samech_c hs hv hl).mono fun _ w' ⟨r, h1, h2, h3⟩ => ⟨r, h1, h2, by rw [h3, decide_eq_true he]⟩

/-- What building a tree makes. -/
def RBt (w0 w : World) (g : Nat) (ps : List Part) (E : Env) (e : Ending) (w' : World) : Prop :=
  ∃ qs i u, e = .returned (.int .i64 i) ∧ ExtT TFP w w' ∧ Ext w0 w' ∧ FG w0.heap.size w' g (ps ++ qs) ∧ qs.length ≤ 6000 ∧ Rep (ps ++ qs) i u ∧ Tr.Ord u ∧ Tr.Avl u ∧ u.env = E
theorem asc_snoc_lt {l : Env} {i : Nat} (h : Asc l) (hi : i < l.length) : ∀ a ∈ l.take i, nlt a.1 l[i].1 = true := by
  have h1 := asc_ascN h
  unfold AscN at h1
  rw [List.pairwise_map] at h1
  intro a ha
  obtain ⟨j, hj, rfl⟩ := List.mem_take_iff_getElem.1 ha
  have := (List.pairwise_iff_getElem.1 h1) j i (by omega) hi (by omega)
  exact this
theorem built_step {l : Env} {i : Nat} (h : Asc l) (hi : i < l.length) : eset (l.take i) l[i].1 l[i].2 = l.take (i + 1) := by
  rw [eset_snoc (asc_snoc_lt h hi), List.take_add_one, List.getElem?_eq_getElem hi]
  rfl

set_option maxHeartbeats 1000000 in
theorem built_c {w0 w : World} {g : Nat} {ps : List Part} {v : Value} {l : Env} (hE : Ext w0 w) (hF : FG w0.heap.size w g ps) (hs : OwB w0.heap.size w v l) (ha : Asc l) (hl : l.length ≤ 40) (hp : ps.length ≤ 1000000) :
    Calls Try.prog 45 #[.pointer (some ⟨g, 0, none⟩), v] w (RBt w0 w g ps l) := by
 have zW := hE.size
 refine enter (args := [_, v]) Try.func45 rfl Try.ntmps45 rfl ?_
 refine WP_seq ?_
 refine WP_region ?_
 refine O_assign rfl rfl rfl ?_
 refine WL_end [(0, _), (1, _)] ⟨rfl, rfl, trivial⟩ ?_
 refine WP_seq ?_
 refine WP_region ?_
 refine O_assign rfl rfl rfl ?_
 refine WL_end [(0, _), (1, _), (5, _)] ⟨rfl, rfl, rfl, trivial⟩ ?_
 refine WP_seq ?_
 refine WP_seq ?_
 refine WP_region ?_
 refine O_move rfl rfl rfl ?_
 refine B_len Ebind rfl rfl rfl hs.sl ?_
 refine O_move rfl rfl rfl ?_
 refine WL_end [(0, _), (5, _), (8, _), (9, _), (10, _)] ⟨rfl, rfl, rfl, rfl, rfl, trivial⟩ ?_
 refine WP_block ?_
 refine WP_loop (S := Nat × Int × List Part × Tr) (fun (i, r, qs, u) => [(0, .pointer (some ⟨g, 0, none⟩)), (5, .int .i64 r), (8, v), (9, .int .i64 (l.length : Nat)), (10, .int .i64 (i : Nat))]) (fun (i, r, qs, u) w' => (Ext w0 w' ∧ ExtT TFP w w' ∧ FG w0.heap.size w' g (ps ++ qs) ∧ OwB w0.heap.size w' v l) ∧ (Rep (ps ++ qs) r u ∧ Tr.Ord u ∧ Tr.Avl u ∧ u.env = l.take i) ∧ qs.length ≤ 130 * i ∧ i ≤ l.length) (fun (i, r, qs, u) => l.length - i) (0, -1, [], .leaf) ⟨rfl, rfl, rfl, rfl, rfl, trivial⟩ ⟨⟨hE, (show ExtT TFP _ _ from ExtT.refl _ _), (by rw [List.append_nil]; exact hF), hs⟩, ⟨rfl, trivial, trivial, rfl⟩, Nat.le_refl _, Nat.zero_le _⟩ ?_
 rintro ⟨i, r, qs, u⟩ w9 ⟨⟨hE9, hT9, hF9, hs9⟩, ⟨hR9, hO9, hA9, hv9⟩, hq9, hi⟩
 show WP _ _ _ _ _ [(0, .pointer (some ⟨g, 0, none⟩)), (5, .int .i64 r), (8, v), (9, .int .i64 (l.length : Nat)), (10, .int .i64 (i : Nat))] _
 have zE := hE9.size
 have hcn := Tr.env_length u
 rw [hv9, List.length_take] at hcn
 have hht := u.ht_le
 refine WP_seq ?_
 refine WP_region ?_
 refine O_lss rfl rfl rfl rfl rfl ?_
 refine WL_end [(0, _), (5, _), (8, _), (9, _), (10, _), (11, _)] ⟨rfl, rfl, rfl, rfl, rfl, rfl, trivial⟩ ?_
 refine WP_seq ?_
 refine WP_condD rfl (fun c11 => ?_) (fun c11 => ?_)
 · --
  refine WP_skip ?_
  refine WP_seq ?_
  refine WP_block ?_
  refine WP_seq ?_
  have hilt : i < l.length := by omega
  · --
   skip
   refine WP_region ?_
   refine B_index Ebind rfl rfl rfl rfl hs9.sl i rfl hilt (fun _ => ?_)
   refine K_load S54 rfl rfl rfl (SlB.row (j := i) hs9.sl hilt) rfl ?_
   refine O_alloc S54 rfl rfl (fun g1 w1 b1 e1 gl1 gh1 => ?_)
   have z1 := e1.size
   refine O_storeA (cs' := [_, _]) S54 rfl rfl rfl b1 rfl rfl (one_cons rfl (one_cons rfl one_nil)) rfl (fun w2 b2 q2 => ?_)
   have z2 := Nat.le_of_eq q2.size.symm
   have e2 : Ext w0 w2 := q2.ext (hE9.trans e1) (by omega)
   have m3 := q2.ext e1 (by omega)
   refine WL_end [(0, _), (5, _), (7, _), (8, _), (9, _), (10, _)] ⟨rfl, rfl, rfl, rfl, rfl, rfl, trivial⟩ ?_
   refine WP_region ?_
   refine O_move rfl rfl rfl ?_
   refine O_move rfl rfl rfl ?_
   refine O_field F54_0 rfl rfl rfl ?_
   refine O_loadC Try.underlying9 rfl rfl rfl rfl b2 rfl ?_
   refine O_field F54_1 rfl rfl rfl ?_
   refine O_loadC Try.underlying3 rfl rfl rfl rfl b2 rfl ?_
   refine O_callU enters28 rfl rfl rfl (Set_U (hF9.ext m3) (by omega) hR9 hO9 hA9 (by omega) (by rw [List.length_append]; omega) _ _) (fun qs8 r8 u8 w8 hT8 hb8 hF8 hq8 hR8 hO8 hA8 hv8 hs8 => ?_)
   have zT8 := hT8.size
   refine O_assign rfl rfl rfl ?_
   refine WL_end [(0, _), (5, _), (8, _), (9, _), (10, _)] ⟨rfl, rfl, rfl, rfl, rfl, trivial⟩ ?_
   refine WP_region ?_
   refine O_add rfl rfl rfl rfl (wrap_i64_id (by omega) (by omega)) ?_
   refine O_move rfl rfl rfl ?_
   refine WL_end [(0, _), (5, _), (8, _), (9, _), (10, _)] ⟨rfl, rfl, rfl, rfl, rfl, trivial⟩ ?_
   rw [hv9, built_step ha hilt] at hv8
   exact ⟨(i + 1, r8, qs ++ qs8, u8), ⟨rfl, rfl, rfl, rfl, rfl, trivial⟩, ⟨⟨(hb8 _ e2 (Nat.le_refl _)), hT9.trans (show ExtT TFP _ _ from (ExtT.trans (Ext.toT m3) (hT8.mono (by decide)))), by rw [← List.append_assoc]; exact hF8, ((hs9.ext m3).extT hT8 (by decide))⟩, ⟨by rw [← List.append_assoc]; exact hR8, hO8, hA8, hv8⟩, by rw [List.length_append]; omega, by omega⟩, by dsimp only; omega⟩
 · --
  refine WP_exit ?_
  refine inBlk_hit ?_
  refine WP_seq ?_
  refine WP_region ?_
  refine O_move rfl rfl rfl ?_
  refine O_assign rfl rfl rfl ?_
  refine WL_end [(4, _)] ⟨rfl, trivial⟩ ?_
  refine WP_ret ?_
  refine ret1 Try.results45 rfl ?_
  have hie : i = l.length := by omega
  subst hie
  rw [List.take_length] at hv9
  exact ⟨qs, r, u, rfl, hT9.trans (show ExtT TFP _ _ from ExtT.refl _ _), hE9, hF9, by omega, hR9, hO9, hA9, hv9⟩

end Go.Proofs.Ytoccimigjjndpaa
