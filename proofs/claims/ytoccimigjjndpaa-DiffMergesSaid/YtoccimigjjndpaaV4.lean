/-
  Walks.
-/
import Derived.Test.YtoccimigjjndpaaV3
set_option linter.unusedVariables false
set_option linter.unusedSimpArgs false
set_option maxRecDepth 100000
namespace Go.Proofs.Ytoccimigjjndpaa
open Go Go.RowKit
/-- The values read as the lists of bindings. -/
def LBs (w : World) (vals : List Value) (ls : List Env) : Prop := vals.length = ls.length ∧ ∀ (k : Nat) (v : Value) (l : Env), vals[k]? = some v → ls[k]? = some l → SlB w v l
theorem LBs.at_ {w : World} {vals : List Value} {ls : List Env} (h : LBs w vals ls) {k : Nat} (h1 : k < vals.length) (h2 : k < ls.length) : SlB w vals[k] ls[k] :=
  h.2 k _ _ (List.getElem?_eq_getElem h1) (List.getElem?_eq_getElem h2)
theorem LBs.two {w : World} {a b : Value} {l1 l2 : Env} (h1 : SlB w a l1) (h2 : SlB w b l2) : LBs w [a, b] [l1, l2] :=
  ⟨rfl, fun k v l hv hl => by
    match k, hv, hl with
    | 0, hv, hl => cases hv; cases hl; exact h1
    | 1, hv, hl => cases hv; cases hl; exact h2⟩
theorem LBs.three {w : World} {a b c : Value} {l1 l2 l3 : Env} (h1 : SlB w a l1) (h2 : SlB w b l2) (h3 : SlB w c l3) : LBs w [a, b, c] [l1, l2, l3] :=
  ⟨rfl, fun k v l hv hl => by
    match k, hv, hl with
    | 0, hv, hl => cases hv; cases hl; exact h1
    | 1, hv, hl => cases hv; cases hl; exact h2
    | 2, hv, hl => cases hv; cases hl; exact h3⟩
theorem rn_len {ls : List Env} {i : Nat} (h : i < ls.length) : (ls.take i).flatten.length + ls[i].length ≤ ls.flatten.length := by
  have h1 := congrArg List.length (congrArg List.flatten (List.take_append_drop i ls))
  rw [List.drop_eq_getElem_cons h, List.flatten_append, List.flatten_cons, List.length_append, List.length_append] at h1
  omega
theorem rn_step {L l : Env} {j : Nat} (h : j < l.length) : (L ++ l.take (j + 1)).map (·.1) = (L ++ l.take j).map (·.1) ++ [l[j].1] := by
  rw [List.take_add_one, List.getElem?_eq_getElem h, Option.toList_some, ← List.append_assoc, List.map_append]
  rfl
theorem rn_done {ls : List Env} {i : Nat} (h : i < ls.length) : (ls.take i).flatten ++ ls[i].take ls[i].length = (ls.take (i + 1)).flatten := by
  rw [List.take_length, List.take_add_one, List.getElem?_eq_getElem h, Option.toList_some, List.flatten_append]
  simp
theorem rn_sort {ls : List Env} (h : ∀ l ∈ ls, Asc l) : sortN (ls.flatten.map (·.1)) = mergeN (ls.map fun l => l.map (·.1)) := by
  rw [List.map_flatten]
  exact sortN_merge fun l hl => by
    obtain ⟨E, hE, rfl⟩ := List.mem_map.1 hl
    exact asc_ascN (h E hE)
theorem rchg_D {E1 E2 : Env} {s : ByteArray} (h : nodev E2 s = -1) : rchg E1 E2 s = some (2, s, nodev E1 s, -1) := if_pos h
theorem rchg_S {E1 E2 : Env} {s : ByteArray} (h : ¬ nodev E2 s = -1) (h2 : nodev E1 s ≠ nodev E2 s) : rchg E1 E2 s = some (1, s, nodev E1 s, nodev E2 s) := by unfold rchg; rw [if_neg h, if_neg h2]
theorem rchg_N {E1 E2 : Env} {s : ByteArray} (h : ¬ nodev E2 s = -1) (h2 : nodev E1 s = nodev E2 s) : rchg E1 E2 s = none := by unfold rchg; rw [if_neg h, if_pos h2]
theorem fmt_snoc {α β : Type} {f : α → Option β} {l : List α} {i : Nat} {b : β} (hi : i < l.length) (h : f l[i] = some b) : (l.take (i + 1)).filterMap f = (l.take i).filterMap f ++ [b] := by
  rw [List.take_add_one, List.getElem?_eq_getElem hi]; exact fm_snoc h
theorem fmt_skip {α β : Type} {f : α → Option β} {l : List α} {i : Nat} (hi : i < l.length) (h : f l[i] = none) : (l.take (i + 1)).filterMap f = (l.take i).filterMap f := by
  rw [List.take_add_one, List.getElem?_eq_getElem hi]; exact fm_skip h

set_option maxHeartbeats 1000000 in
theorem rnames_c {w : World} {v : Value} {vals : List Value} {ls : List Env} (hs : SlM fV w v vals) (hLB : LBs w vals ls) (hl : ls.flatten.length ≤ 1000000) (hvl : vals.length ≤ 1000) (ha : ∀ l ∈ ls, Asc l) :
    Calls Try.prog 77 #[v] w (Ret w fun r w' => OwM fS w.heap.size 9 w' r (mergeN (ls.map fun l => l.map (·.1)))) := by
 refine enter (args := [v]) Try.func77 rfl Try.ntmps77 rfl ?_
 refine WP_seq ?_
 refine WP_region ?_
 refine O_assign rfl rfl rfl ?_
 refine WL_end [(0, _)] ⟨rfl, trivial⟩ ?_
 refine WP_seq ?_
 refine WP_region ?_
 refine O_assign rfl rfl rfl ?_
 refine WL_end [(0, _), (3, _)] ⟨rfl, rfl, trivial⟩ ?_
 refine WP_seq ?_
 refine WP_seq ?_
 refine WP_region ?_
 refine O_move rfl rfl rfl ?_
 refine M_len M30 rfl rfl rfl hs ?_
 refine O_move rfl rfl rfl ?_
 refine WL_end [(3, _), (8, _), (9, _), (10, _)] ⟨rfl, rfl, rfl, rfl, trivial⟩ ?_
 refine WP_block ?_
 refine WP_loop (S := Nat × Value) (fun (i, ov) => [(3, ov), (8, v), (9, .int .i64 (vals.length : Nat)), (10, .int .i64 (i : Nat))]) (fun (i, ov) w' => Ext w w' ∧ OwM fS w.heap.size 9 w' ov ((ls.take i).flatten.map (·.1)) ∧ i ≤ vals.length) (fun (i, ov) => vals.length - i) (0, .slice none 0 0) ⟨rfl, rfl, rfl, rfl, trivial⟩ ⟨(Ext.refl _), OwM.nil _ _ _, Nat.zero_le _⟩ ?_
 rintro ⟨i, ov⟩ w9 ⟨hE, hov, hi⟩
 show WP _ _ _ _ _ [(3, ov), (8, v), (9, .int .i64 (vals.length : Nat)), (10, .int .i64 (i : Nat))] _
 have zE := hE.size
 refine WP_seq ?_
 refine WP_region ?_
 refine O_lss rfl rfl rfl rfl rfl ?_
 refine WL_end [(3, _), (8, _), (9, _), (10, _), (11, _)] ⟨rfl, rfl, rfl, rfl, rfl, trivial⟩ ?_
 refine WP_seq ?_
 refine WP_condD rfl (fun c11 => ?_) (fun c11 => ?_)
 · --
  refine WP_skip ?_
  refine WP_seq ?_
  refine WP_block ?_
  refine WP_seq ?_
  have hilt : i < vals.length := by omega
  have hil2 : i < ls.length := by have := hLB.1; omega
  have hsb0 := hLB.at_ hilt hil2
  · --
   skip
   refine WP_region ?_
   refine M_index M30 rfl rfl rfl rfl (hs.ext hE) i rfl hilt ?_
   refine M_load Try.underlying34 rfl rfl rfl rfl (hs.ext hE) hilt ?_
   refine O_assign rfl rfl rfl ?_
   refine WL_end [(3, _), (5, _), (8, _), (9, _), (10, _)] ⟨rfl, rfl, rfl, rfl, rfl, trivial⟩ ?_
   refine WP_seq ?_
   refine WP_region ?_
   refine O_move rfl rfl rfl ?_
   refine B_len Ebind rfl rfl rfl (hsb0.ext hE) ?_
   refine O_move rfl rfl rfl ?_
   refine WL_end [(3, _), (8, _), (9, _), (10, _), (14, _), (15, _), (16, _)] ⟨rfl, rfl, rfl, rfl, rfl, rfl, rfl, trivial⟩ ?_
   refine WP_block ?_
   refine WP_loop (S := Nat × Value) (fun (j, pv) => [(3, pv), (8, v), (9, .int .i64 (vals.length : Nat)), (10, .int .i64 (i : Nat)), (14, (vals[i])), (15, .int .i64 (ls[i].length : Nat)), (16, .int .i64 (j : Nat))]) (fun (j, pv) w' => Ext w w' ∧ OwM fS w.heap.size 9 w' pv (((ls.take i).flatten ++ ls[i].take j).map (·.1)) ∧ j ≤ ls[i].length) (fun (j, pv) => ls[i].length - j) (0, ov) ⟨rfl, rfl, rfl, rfl, rfl, rfl, rfl, trivial⟩ ⟨hE, by rw [List.take_zero, List.append_nil]; exact hov, Nat.zero_le _⟩ ?_
   rintro ⟨j, pv⟩ w8 ⟨hE8, hpv, hj⟩
   show WP _ _ _ _ _ [(3, pv), (8, v), (9, .int .i64 (vals.length : Nat)), (10, .int .i64 (i : Nat)), (14, (vals[i])), (15, .int .i64 (ls[i].length : Nat)), (16, .int .i64 (j : Nat))] _
   have zE8 := hE8.size
   have hrl := rn_len hil2
   refine WP_seq ?_
   refine WP_region ?_
   refine O_lss rfl rfl rfl rfl rfl ?_
   refine WL_end [(3, _), (8, _), (9, _), (10, _), (14, _), (15, _), (16, _), (17, _)] ⟨rfl, rfl, rfl, rfl, rfl, rfl, rfl, rfl, trivial⟩ ?_
   refine WP_seq ?_
   refine WP_condD rfl (fun c17 => ?_) (fun c17 => ?_)
   · --
    refine WP_skip ?_
    refine WP_seq ?_
    refine WP_block ?_
    refine WP_seq ?_
    have hjl : j < ls[i].length := by omega
    · --
     skip
     refine WP_region ?_
     refine B_index Ebind rfl rfl rfl rfl (hsb0.ext hE8) j rfl hjl (fun _ => ?_)
     refine K_load S54 rfl rfl rfl (SlB.row (j := j) (hsb0.ext hE8) hjl) rfl ?_
     refine O_alloc S54 rfl rfl (fun g1 w1 b1 e1 gl1 gh1 => ?_)
     have z1 := e1.size
     refine O_storeA (cs' := [_, _]) S54 rfl rfl rfl b1 rfl rfl (one_cons rfl (one_cons rfl one_nil)) rfl (fun w2 b2 q2 => ?_)
     have z2 := Nat.le_of_eq q2.size.symm
     have e2 : Ext w w2 := q2.ext (hE8.trans e1) (by omega)
     have m3 := q2.ext e1 (by omega)
     refine WL_end [(3, _), (7, _), (8, _), (9, _), (10, _), (14, _), (15, _), (16, _)] ⟨rfl, rfl, rfl, rfl, rfl, rfl, rfl, rfl, trivial⟩ ?_
     refine WP_region ?_
     refine O_move rfl rfl rfl ?_
     refine O_field F54_0 rfl rfl rfl ?_
     refine O_loadC Try.underlying9 rfl rfl rfl rfl b2 rfl ?_
     refine M_lit M52 rfl rfl fS [_] (by intro a _; rfl) rfl rfl rfl rfl rfl (fun v4 w4 o4 e4 => ?_)
     have z4 := e4.size
     refine M_append M52 rfl rfl rfl rfl rfl ((hpv.ext m3).ext e4) o4.sl (by simp) (by simp [Value.oneCell']) (by simp only [List.length_map, List.length_append, List.length_take, List.length_singleton]; omega) rfl (by omega) (fun v5 w5 o5 r5 q5 => ?_)
     have e5 : Ext w w5 := ((hpv.ext m3).ext e4).ext_grown r5 (e2.trans e4) (by omega)
     have z5 := r5.size
     have x5 := OwM.grownT ((hpv.ext m3).ext e4) r5
     refine O_assign rfl rfl rfl ?_
     refine WL_end [(3, _), (8, _), (9, _), (10, _), (14, _), (15, _), (16, _)] ⟨rfl, rfl, rfl, rfl, rfl, rfl, rfl, trivial⟩ ?_
     refine WP_region ?_
     refine O_add rfl rfl rfl rfl (wrap_i64_id (by omega) (by omega)) ?_
     refine O_move rfl rfl rfl ?_
     refine WL_end [(3, _), (8, _), (9, _), (10, _), (14, _), (15, _), (16, _)] ⟨rfl, rfl, rfl, rfl, rfl, rfl, rfl, trivial⟩ ?_
     exact ⟨(j + 1, _), ⟨rfl, rfl, rfl, rfl, rfl, rfl, rfl, trivial⟩, ⟨e5, by rw [rn_step hjl]; exact o5, by omega⟩, by dsimp only; omega⟩
   · --
    refine WP_exit ?_
    refine inBlk_hit ?_
    refine WP_region ?_
    refine O_add rfl rfl rfl rfl (wrap_i64_id (by omega) (by omega)) ?_
    refine O_move rfl rfl rfl ?_
    refine WL_end [(3, _), (8, _), (9, _), (10, _)] ⟨rfl, rfl, rfl, rfl, trivial⟩ ?_
    have hje : j = ls[i].length := by omega
    subst hje
    rw [rn_done hil2] at hpv
    exact ⟨(i + 1, _), ⟨rfl, rfl, rfl, rfl, trivial⟩, ⟨hE8, hpv, by omega⟩, by dsimp only; omega⟩
 · --
  refine WP_exit ?_
  refine inBlk_hit ?_
  refine WP_seq ?_
  have hie : i = ls.length := by have := hLB.1; omega
  subst hie
  rw [List.take_length] at hov
  have hle9 := hl
  · --
   skip
   refine WP_region ?_
   refine O_move rfl rfl rfl ?_
   refine O_call enters83 rfl rfl rfl (rsorted_c hov.sl (by rw [List.length_map]; exact hle9)) (fun v6 w6 e6 h6 => ?_)
   have z6 := e6.size
   refine O_assign rfl rfl rfl ?_
   refine WL_end [(2, _)] ⟨rfl, trivial⟩ ?_
   refine WP_ret ?_
   refine ret1 Try.results77 rfl ?_
   exact ⟨_, rfl, (hE.trans e6), by rw [← rn_sort ha]; exact (h6).mono (by omega)⟩

set_option maxHeartbeats 1000000 in
theorem rbetween_c {w : World} {u v : Value} {a b : Env} (hu : SlB w u a) (hv : SlB w v b) (h1 : Asc a) (h2 : Asc b) (hl : a.length + b.length ≤ 1000000) :
    Calls Try.prog 47 #[u, v] w (Ret w fun r w' => OwC w.heap.size w' r (rbetw a b)) := by
 refine enter (args := [u, v]) Try.func47 rfl Try.ntmps47 rfl ?_
 refine WP_seq ?_
 refine WP_region ?_
 refine O_assign rfl rfl rfl ?_
 refine WL_end [(0, _), (1, _)] ⟨rfl, rfl, trivial⟩ ?_
 refine WP_seq ?_
 refine WP_region ?_
 refine O_assign rfl rfl rfl ?_
 refine WL_end [(0, _), (1, _), (5, _)] ⟨rfl, rfl, rfl, trivial⟩ ?_
 refine WP_seq ?_
 refine WP_seq ?_
 obtain ⟨N, hN9⟩ : ∃ N, N = mergeN [a.map (·.1), b.map (·.1)] := ⟨_, rfl⟩
 have hNl := mergeN_len [a.map (·.1), b.map (·.1)]
 have hNt : totN [a.map (·.1), b.map (·.1)] = a.length + b.length := by simp [totN]
 rw [← hN9, hNt] at hNl
 · --
  skip
  refine WP_region ?_
  refine O_move rfl rfl rfl ?_
  refine O_move rfl rfl rfl ?_
  refine M_lit M30 rfl rfl fV [u, v] (by intro a ha; simp only [List.mem_cons, List.not_mem_nil, or_false] at ha; rcases ha with rfl | rfl; exact hu.one; exact hv.one) rfl rfl rfl rfl rfl (fun v1 w1 o1 e1 => ?_)
  have z1 := e1.size
  refine O_call enters77 rfl rfl rfl (rnames_c o1.sl (LBs.two (hu.ext e1) (hv.ext e1)) (by simp; omega) (by simp) (by intro l hl; simp only [List.mem_cons, List.not_mem_nil, or_false] at hl; rcases hl with rfl | rfl; exact h1; exact h2)) (fun v2 w2 e2 h2 => ?_)
  have z2 := e2.size
  have hn2 := (show OwM fS _ 9 _ v2 (mergeN [a.map (·.1), b.map (·.1)]) from h2)
  rw [← hN9] at hn2
  refine M_len M52 rfl rfl rfl hn2.sl ?_
  refine O_move rfl rfl rfl ?_
  refine WL_end [(0, _), (1, _), (5, _), (13, _), (14, _), (15, _)] ⟨rfl, rfl, rfl, rfl, rfl, rfl, trivial⟩ ?_
  refine WP_block ?_
  refine WP_loop (S := Nat × Value) (fun (i, ov) => [(0, u), (1, v), (5, ov), (13, v2), (14, .int .i64 (N.length : Nat)), (15, .int .i64 (i : Nat))]) (fun (i, ov) w' => Ext w w' ∧ OwM fS w.heap.size 9 w' v2 N ∧ OwC w.heap.size w' ov ((N.take i).filterMap (rchg a b)) ∧ i ≤ N.length) (fun (i, ov) => N.length - i) (0, .slice none 0 0) ⟨rfl, rfl, rfl, rfl, rfl, rfl, trivial⟩ ⟨(e1.trans e2), (hn2).mono (by omega), OwC.nil _ _, Nat.zero_le _⟩ ?_
  rintro ⟨i, ov⟩ w9 ⟨hE, hnl, hov, hi⟩
  show WP _ _ _ _ _ [(0, u), (1, v), (5, ov), (13, v2), (14, .int .i64 (N.length : Nat)), (15, .int .i64 (i : Nat))] _
  have zE := hE.size
  refine WP_seq ?_
  refine WP_region ?_
  refine O_lss rfl rfl rfl rfl rfl ?_
  refine WL_end [(0, _), (1, _), (5, _), (13, _), (14, _), (15, _), (16, _)] ⟨rfl, rfl, rfl, rfl, rfl, rfl, rfl, trivial⟩ ?_
  refine WP_seq ?_
  refine WP_condD rfl (fun c16 => ?_) (fun c16 => ?_)
  · --
   refine WP_skip ?_
   refine WP_seq ?_
   refine WP_block ?_
   refine WP_seq ?_
   have hilt : i < N.length := by omega
   · --
    skip
    refine WP_region ?_
    refine M_index M52 rfl rfl rfl rfl hnl.sl i rfl hilt ?_
    refine M_load Try.underlying9 rfl rfl rfl rfl hnl.sl hilt ?_
    refine O_assign rfl rfl rfl ?_
    refine WL_end [(0, _), (1, _), (5, _), (7, _), (13, _), (14, _), (15, _)] ⟨rfl, rfl, rfl, rfl, rfl, rfl, rfl, trivial⟩ ?_
    refine WP_seq ?_
    refine WP_region ?_
    refine O_move rfl rfl rfl ?_
    refine O_move rfl rfl rfl ?_
    refine O_call enters78 rfl rfl rfl (rnode_c (hu.ext hE) (by (try simp only [lens]); omega)) (fun v3 w3 e3 h3 => ?_)
    have z3 := e3.size
    obtain rfl := h3
    refine O_move rfl rfl rfl ?_
    refine O_move rfl rfl rfl ?_
    refine O_call enters78 rfl rfl rfl (rnode_c (hv.ext (hE.trans e3)) (by (try simp only [lens]); omega)) (fun v4 w4 e4 h4 => ?_)
    have z4 := e4.size
    obtain rfl := h4
    refine O_assign rfl rfl rfl ?_
    refine O_assign rfl rfl rfl ?_
    refine WL_end [(0, _), (1, _), (5, _), (7, _), (8, _), (9, _), (13, _), (14, _), (15, _)] ⟨rfl, rfl, rfl, rfl, rfl, rfl, rfl, rfl, rfl, trivial⟩ ?_
    refine WP_block ?_
    refine WP_seq ?_
    refine WP_region ?_
    refine O_move rfl rfl rfl ?_
    refine O_eql rfl rfl rfl rfl rfl ?_
    refine O_assign rfl rfl rfl ?_
    refine WL_end [(0, _), (1, _), (5, _), (7, _), (8, _), (9, _), (13, _), (14, _), (15, _), (25, _)] ⟨rfl, rfl, rfl, rfl, rfl, rfl, rfl, rfl, rfl, rfl, trivial⟩ ?_
    refine WP_condD rfl (fun c25 => ?_) (fun c25 => ?_)
    · --
     refine WP_region ?_
     refine O_move rfl rfl rfl ?_
     refine O_move rfl rfl rfl ?_
     refine O_move rfl rfl rfl ?_
     refine O_build (cs := [_, _, _, _]) B74 rfl rfl rfl (cells_cons rfl (cells_cons rfl (cells_cons rfl (cells_cons rfl cells_nil)))) rfl ?_
     refine C_lit1 (b := (2, N[i], nodev a N[i], -1)) Echange rfl rfl rfl (fun v5 w5 o5 e5 => ?_)
     have z5 := e5.size
     refine C_append Echange rfl rfl rfl rfl (((hov.ext e3).ext e4).ext e5) o5.sl (by have hfl := List.length_filterMap_le (rchg a b) (N.take i); rw [List.length_take] at hfl; simp only [List.length_singleton]; omega) rfl (by omega) (fun v6 w6 o6 r6 k6 => ?_)
     have e6 : Ext w w6 := (((hov.ext e3).ext e4).ext e5).ext_grown r6 (((hE.trans e3).trans e4).trans e5) (by omega)
     have z6 := r6.size
     have x6 := OwC.grownT (((hov.ext e3).ext e4).ext e5) r6
     refine O_assign rfl rfl rfl ?_
     refine WL_end [(0, _), (1, _), (5, _), (13, _), (14, _), (15, _)] ⟨rfl, rfl, rfl, rfl, rfl, rfl, trivial⟩ ?_
     refine WP_region ?_
     refine O_add rfl rfl rfl rfl (wrap_i64_id (by omega) (by omega)) ?_
     refine O_move rfl rfl rfl ?_
     refine WL_end [(0, _), (1, _), (5, _), (13, _), (14, _), (15, _)] ⟨rfl, rfl, rfl, rfl, rfl, rfl, trivial⟩ ?_
     first
       | exact ⟨(i + 1, _), ⟨rfl, rfl, rfl, rfl, rfl, rfl, trivial⟩, ⟨e6, ((((hnl.ext e3).ext e4).ext e5).extT x6 (by decide)), by rw [fmt_snoc hilt (rchg_D (by assumption))]; exact o6, by omega⟩, by dsimp only; omega⟩
       | exact ⟨(i + 1, _), ⟨rfl, rfl, rfl, rfl, rfl, rfl, trivial⟩, ⟨e6, ((((hnl.ext e3).ext e4).ext e5).extT x6 (by decide)), by rw [fmt_snoc hilt (rchg_S (by assumption) (by assumption))]; exact o6, by omega⟩, by dsimp only; omega⟩
       | exact ⟨(i + 1, _), ⟨rfl, rfl, rfl, rfl, rfl, rfl, trivial⟩, ⟨e6, ((((hnl.ext e3).ext e4).ext e5).extT x6 (by decide)), by rw [fmt_skip hilt (rchg_N (by assumption) (by assumption))]; exact o6, by omega⟩, by dsimp only; omega⟩
    · --
     refine WP_seq ?_
     refine WP_region ?_
     refine O_move rfl rfl rfl ?_
     refine O_move rfl rfl rfl ?_
     refine O_neq rfl rfl rfl rfl rfl ?_
     refine O_assign rfl rfl rfl ?_
     refine WL_end [(0, _), (1, _), (5, _), (7, _), (8, _), (9, _), (13, _), (14, _), (15, _), (34, _)] ⟨rfl, rfl, rfl, rfl, rfl, rfl, rfl, rfl, rfl, rfl, trivial⟩ ?_
     refine WP_condN rfl (fun c34 => ?_) (fun c34 => ?_)
     · --
      refine WP_region ?_
      refine O_move rfl rfl rfl ?_
      refine O_move rfl rfl rfl ?_
      refine O_move rfl rfl rfl ?_
      refine O_move rfl rfl rfl ?_
      refine O_build (cs := [_, _, _, _]) B74 rfl rfl rfl (cells_cons rfl (cells_cons rfl (cells_cons rfl (cells_cons rfl cells_nil)))) rfl ?_
      refine C_lit1 (b := (1, N[i], nodev a N[i], nodev b N[i])) Echange rfl rfl rfl (fun v7 w7 o7 e7 => ?_)
      have z7 := e7.size
      refine C_append Echange rfl rfl rfl rfl (((hov.ext e3).ext e4).ext e7) o7.sl (by have hfl := List.length_filterMap_le (rchg a b) (N.take i); rw [List.length_take] at hfl; simp only [List.length_singleton]; omega) rfl (by omega) (fun v8 w8 o8 r8 k8 => ?_)
      have e8 : Ext w w8 := (((hov.ext e3).ext e4).ext e7).ext_grown r8 (((hE.trans e3).trans e4).trans e7) (by omega)
      have z8 := r8.size
      have x8 := OwC.grownT (((hov.ext e3).ext e4).ext e7) r8
      refine O_assign rfl rfl rfl ?_
      refine WL_end [(0, _), (1, _), (5, _), (13, _), (14, _), (15, _)] ⟨rfl, rfl, rfl, rfl, rfl, rfl, trivial⟩ ?_
      refine WP_region ?_
      refine O_add rfl rfl rfl rfl (wrap_i64_id (by omega) (by omega)) ?_
      refine O_move rfl rfl rfl ?_
      refine WL_end [(0, _), (1, _), (5, _), (13, _), (14, _), (15, _)] ⟨rfl, rfl, rfl, rfl, rfl, rfl, trivial⟩ ?_
      first
        | exact ⟨(i + 1, _), ⟨rfl, rfl, rfl, rfl, rfl, rfl, trivial⟩, ⟨e8, ((((hnl.ext e3).ext e4).ext e7).extT x8 (by decide)), by rw [fmt_snoc hilt (rchg_D (by assumption))]; exact o8, by omega⟩, by dsimp only; omega⟩
        | exact ⟨(i + 1, _), ⟨rfl, rfl, rfl, rfl, rfl, rfl, trivial⟩, ⟨e8, ((((hnl.ext e3).ext e4).ext e7).extT x8 (by decide)), by rw [fmt_snoc hilt (rchg_S (by assumption) (by assumption))]; exact o8, by omega⟩, by dsimp only; omega⟩
        | exact ⟨(i + 1, _), ⟨rfl, rfl, rfl, rfl, rfl, rfl, trivial⟩, ⟨e8, ((((hnl.ext e3).ext e4).ext e7).extT x8 (by decide)), by rw [fmt_skip hilt (rchg_N (by assumption) (by assumption))]; exact o8, by omega⟩, by dsimp only; omega⟩
     · --
      refine WP_skip ?_
      refine WP_region ?_
      refine O_add rfl rfl rfl rfl (wrap_i64_id (by omega) (by omega)) ?_
      refine O_move rfl rfl rfl ?_
      refine WL_end [(0, _), (1, _), (5, _), (13, _), (14, _), (15, _)] ⟨rfl, rfl, rfl, rfl, rfl, rfl, trivial⟩ ?_
      first
        | exact ⟨(i + 1, _), ⟨rfl, rfl, rfl, rfl, rfl, rfl, trivial⟩, ⟨((hE.trans e3).trans e4), ((hnl.ext e3).ext e4), by rw [fmt_snoc hilt (rchg_D (by assumption))]; exact ((hov.ext e3).ext e4), by omega⟩, by dsimp only; omega⟩
        | exact ⟨(i + 1, _), ⟨rfl, rfl, rfl, rfl, rfl, rfl, trivial⟩, ⟨((hE.trans e3).trans e4), ((hnl.ext e3).ext e4), by rw [fmt_snoc hilt (rchg_S (by assumption) (by assumption))]; exact ((hov.ext e3).ext e4), by omega⟩, by dsimp only; omega⟩
        | exact ⟨(i + 1, _), ⟨rfl, rfl, rfl, rfl, rfl, rfl, trivial⟩, ⟨((hE.trans e3).trans e4), ((hnl.ext e3).ext e4), by rw [fmt_skip hilt (rchg_N (by assumption) (by assumption))]; exact ((hov.ext e3).ext e4), by omega⟩, by dsimp only; omega⟩
  · --
   refine WP_exit ?_
   refine inBlk_hit ?_
   refine WP_seq ?_
   refine WP_region ?_
   refine O_move rfl rfl rfl ?_
   refine O_assign rfl rfl rfl ?_
   refine WL_end [(4, _)] ⟨rfl, trivial⟩ ?_
   refine WP_ret ?_
   refine ret1 Try.results47 rfl ?_
   have hie : i = N.length := by omega
   subst hie
   rw [List.take_length, hN9] at hov
   exact ⟨_, rfl, hE, hov⟩

end Go.Proofs.Ytoccimigjjndpaa
