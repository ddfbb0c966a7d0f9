/-
  Walks.
-/
import Derived.Test.YtoccimigjjndpaaV19
set_option linter.unusedVariables false
set_option linter.unusedSimpArgs false
set_option maxRecDepth 100000
namespace Go.Proofs.Ytoccimigjjndpaa
open Go Go.RowKit
theorem mval_y {o a b : Env} {s : ByteArray} (h : nodev a s = nodev o s) : mval o a b s = nodev b s := if_pos h
theorem mval_n {o a b : Env} {s : ByteArray} (h : ¬ nodev a s = nodev o s) : mval o a b s = nodev a s := if_neg h
def rmf (o a b : Env) (s : ByteArray) : Option Bd := if mval o a b s = -1 then none else some (s, mval o a b s)
theorem rmf_N {o a b : Env} {s : ByteArray} (h : mval o a b s = -1) : rmf o a b s = none := if_pos h
theorem rmf_S {o a b : Env} {s : ByteArray} {n : Int} (he : mval o a b s = n) (h : ¬ n = -1) : rmf o a b s = some (s, n) := by subst he; exact if_neg h
theorem fltt_snoc {f : ByteArray → Bool} {U : Nm} {i : Nat} (hi : i < U.length) (h : f U[i] = true) : (U.take (i + 1)).filter f = (U.take i).filter f ++ [U[i]] := by
  rw [List.take_add_one, List.getElem?_eq_getElem hi, Option.toList_some, flt_snoc h]
theorem fltt_skip {f : ByteArray → Bool} {U : Nm} {i : Nat} (hi : i < U.length) (h : f U[i] = false) : (U.take (i + 1)).filter f = (U.take i).filter f := by
  rw [List.take_add_one, List.getElem?_eq_getElem hi, Option.toList_some, flt_skip h]

set_option maxHeartbeats 1000000 in
theorem rmerge_c {w : World} {u v x : Value} {o a b : Env} (hu : SlB w u o) (hv : SlB w v a) (hx : SlB w x b) (h1 : Asc o) (h2 : Asc a) (h3 : Asc b) (hl : o.length + a.length + b.length ≤ 1000) :
    Calls Try.prog 55 #[u, v, x] w (Ret w fun r w' => ∃ y z, r = .tuple #[y, z] ∧ OwB w.heap.size w' y (rmrg o a b) ∧ OwM fS w.heap.size 9 w' z (mbad o a b)) := by
 refine enter (args := [u, v, x]) Try.func55 rfl Try.ntmps55 rfl ?_
 refine WP_seq ?_
 refine WP_region ?_
 refine O_assign rfl rfl rfl ?_
 refine O_assign rfl rfl rfl ?_
 refine WL_end [(0, _), (1, _), (2, _)] ⟨rfl, rfl, rfl, trivial⟩ ?_
 refine WP_seq ?_
 refine WP_region ?_
 refine O_assign rfl rfl rfl ?_
 refine WL_end [(0, _), (1, _), (2, _), (8, _)] ⟨rfl, rfl, rfl, rfl, trivial⟩ ?_
 refine WP_seq ?_
 refine WP_region ?_
 refine O_assign rfl rfl rfl ?_
 refine WL_end [(0, _), (1, _), (2, _), (8, _), (9, _)] ⟨rfl, rfl, rfl, rfl, rfl, trivial⟩ ?_
 refine WP_seq ?_
 refine WP_seq ?_
 obtain ⟨N, hN9⟩ : ∃ N, N = mergeN [o.map (·.1), a.map (·.1), b.map (·.1)] := ⟨_, rfl⟩
 have hNl := mergeN_len [o.map (·.1), a.map (·.1), b.map (·.1)]
 have hNt : totN [o.map (·.1), a.map (·.1), b.map (·.1)] = o.length + a.length + b.length := by simp [totN]; omega
 rw [← hN9, hNt] at hNl
 · --
  skip
  refine WP_region ?_
  refine O_move rfl rfl rfl ?_
  refine O_move rfl rfl rfl ?_
  refine O_move rfl rfl rfl ?_
  refine M_lit M30 rfl rfl fV [u, v, x] (by intro a ha; simp only [List.mem_cons, List.not_mem_nil, or_false] at ha; rcases ha with rfl | rfl | rfl; exact hu.one; exact hv.one; exact hx.one) rfl rfl rfl rfl rfl (fun v1 w1 o1 e1 => ?_)
  have z1 := e1.size
  refine O_call enters77 rfl rfl rfl (rnames_c o1.sl (LBs.three (hu.ext e1) (hv.ext e1) (hx.ext e1)) (by simp; omega) (by simp) (by intro l hl; simp only [List.mem_cons, List.not_mem_nil, or_false] at hl; rcases hl with rfl | rfl | rfl; exact h1; exact h2; exact h3)) (fun v2 w2 e2 h2 => ?_)
  have z2 := e2.size
  have hn2 := (show OwM fS _ 9 _ v2 (mergeN [o.map (·.1), a.map (·.1), b.map (·.1)]) from h2)
  rw [← hN9] at hn2
  refine M_len M52 rfl rfl rfl hn2.sl ?_
  refine O_move rfl rfl rfl ?_
  refine WL_end [(0, _), (1, _), (2, _), (8, _), (9, _), (20, _), (21, _), (22, _)] ⟨rfl, rfl, rfl, rfl, rfl, rfl, rfl, rfl, trivial⟩ ?_
  refine WP_block ?_
  refine WP_loop (S := Nat × Value × Value) (fun (i, ov, bv) => [(0, u), (1, v), (2, x), (8, ov), (9, bv), (20, v2), (21, .int .i64 (N.length : Nat)), (22, .int .i64 (i : Nat))]) (fun (i, ov, bv) w' => Ext w w' ∧ OwM fS w.heap.size 9 w' v2 N ∧ OwB w.heap.size w' ov ((N.take i).filterMap (rmf o a b)) ∧ (OwM fS w.heap.size 9 w' bv ((N.take i).filter (confl o a b)) ∧ (∀ k1 k2, v2.ownBlock = some k1 → bv.ownBlock = some k2 → k1 ≠ k2)) ∧ i ≤ N.length) (fun (i, ov, bv) => N.length - i) (0, .slice none 0 0, .slice none 0 0) ⟨rfl, rfl, rfl, rfl, rfl, rfl, rfl, rfl, trivial⟩ ⟨(e1.trans e2), (hn2).mono (by omega), OwB.nil _ _, ⟨OwM.nil _ _ _, fun _ _ _ h => by cases h⟩, Nat.zero_le _⟩ ?_
  rintro ⟨i, ov, bv⟩ w9 ⟨hE, hnl, hov, ⟨hbv, hkk⟩, hi⟩
  show WP _ _ _ _ _ [(0, u), (1, v), (2, x), (8, ov), (9, bv), (20, v2), (21, .int .i64 (N.length : Nat)), (22, .int .i64 (i : Nat))] _
  have zE := hE.size
  refine WP_seq ?_
  refine WP_region ?_
  refine O_lss rfl rfl rfl rfl rfl ?_
  refine WL_end [(0, _), (1, _), (2, _), (8, _), (9, _), (20, _), (21, _), (22, _), (23, _)] ⟨rfl, rfl, rfl, rfl, rfl, rfl, rfl, rfl, rfl, trivial⟩ ?_
  refine WP_seq ?_
  refine WP_condD rfl (fun c23 => ?_) (fun c23 => ?_)
  · --
   refine WP_skip ?_
   refine WP_seq ?_
   refine WP_block ?_
   refine WP_seq ?_
   have hilt : i < N.length := by omega
   · --
    skip
    refine WP_region ?_
    refine M_index M52 rfl rfl rfl rfl hnl.sl i rfl hilt ?_
    refine M_load Try.underlying9 rfl rfl rfl rfl hnl.sl hilt ?_
    refine O_assign rfl rfl rfl ?_
    refine WL_end [(0, _), (1, _), (2, _), (8, _), (9, _), (11, _), (20, _), (21, _), (22, _)] ⟨rfl, rfl, rfl, rfl, rfl, rfl, rfl, rfl, rfl, trivial⟩ ?_
    refine WP_seq ?_
    refine WP_region ?_
    refine O_move rfl rfl rfl ?_
    refine O_move rfl rfl rfl ?_
    refine O_call enters78 rfl rfl rfl (rnode_c (hu.ext hE) (by (try simp only [lens]); omega)) (fun v3 w3 e3 h3 => ?_)
    have z3 := e3.size
    obtain rfl := h3
    refine O_move rfl rfl rfl ?_
    refine O_move rfl rfl rfl ?_
    refine O_call enters78 rfl rfl rfl (rnode_c (hv.ext (hE.trans e3)) (by (try simp only [lens]); omega)) (fun v4 w4 e4 h4 => ?_)
    have z4 := e4.size
    obtain rfl := h4
    refine O_move rfl rfl rfl ?_
    refine O_move rfl rfl rfl ?_
    refine O_call enters78 rfl rfl rfl (rnode_c (hx.ext ((hE.trans e3).trans e4)) (by (try simp only [lens]); omega)) (fun v5 w5 e5 h5 => ?_)
    have z5 := e5.size
    obtain rfl := h5
    refine O_assign rfl rfl rfl ?_
    refine O_assign rfl rfl rfl ?_
    refine O_assign rfl rfl rfl ?_
    refine WL_end [(0, _), (1, _), (2, _), (8, _), (9, _), (11, _), (12, _), (13, _), (14, _), (20, _), (21, _), (22, _)] ⟨rfl, rfl, rfl, rfl, rfl, rfl, rfl, rfl, rfl, rfl, rfl, rfl, trivial⟩ ?_
    refine WP_seq ?_
    refine WP_region ?_
    refine O_move rfl rfl rfl ?_
    refine O_assign rfl rfl rfl ?_
    refine WL_end [(0, _), (1, _), (2, _), (8, _), (9, _), (11, _), (12, _), (13, _), (14, _), (15, _), (20, _), (21, _), (22, _)] ⟨rfl, rfl, rfl, rfl, rfl, rfl, rfl, rfl, rfl, rfl, rfl, rfl, rfl, trivial⟩ ?_
    refine WP_seq ?_
    refine WP_seq ?_
    rcases mg_cases o a b [] N[i] with ⟨hyx, hz, hgs⟩ | ⟨hyx, hz, hgs⟩ | ⟨hyx, hz⟩ | ⟨hyx, h5, h6⟩ | ⟨hyx, h5⟩ | ⟨hyx, h5, h6⟩
    · --
     skip
     refine WP_region ?_
     refine O_move rfl rfl rfl ?_
     refine O_move rfl rfl rfl ?_
     refine O_eql (t := true) rfl rfl rfl rfl (decide_eq_true hyx) ?_
     refine WL_end [(0, _), (1, _), (2, _), (8, _), (9, _), (11, _), (12, _), (13, _), (14, _), (15, _), (20, _), (21, _), (22, _), (38, _)] ⟨rfl, rfl, rfl, rfl, rfl, rfl, rfl, rfl, rfl, rfl, rfl, rfl, rfl, rfl, trivial⟩ ?_
     refine WP_condT rfl ?_
     refine WP_region ?_
     refine O_move rfl rfl rfl ?_
     refine O_assign rfl rfl rfl ?_
     refine WL_end [(0, _), (1, _), (2, _), (8, _), (9, _), (11, _), (15, _), (20, _), (21, _), (22, _)] ⟨rfl, rfl, rfl, rfl, rfl, rfl, rfl, rfl, rfl, rfl, trivial⟩ ?_
     refine WP_seq ?_
     refine WP_region ?_
     refine O_move rfl rfl rfl ?_
     refine O_neq (t := false) rfl rfl rfl rfl (decide_eq_false (fun h => h hz)) ?_
     refine WL_end [(0, _), (1, _), (2, _), (8, _), (9, _), (11, _), (15, _), (20, _), (21, _), (22, _), (53, _)] ⟨rfl, rfl, rfl, rfl, rfl, rfl, rfl, rfl, rfl, rfl, rfl, trivial⟩ ?_
     refine WP_condF rfl ?_
     refine WP_skip ?_
     refine WP_region ?_
     refine O_add rfl rfl rfl rfl (wrap_i64_id (by omega) (by omega)) ?_
     refine O_move rfl rfl rfl ?_
     refine WL_end [(0, _), (1, _), (2, _), (8, _), (9, _), (20, _), (21, _), (22, _)] ⟨rfl, rfl, rfl, rfl, rfl, rfl, rfl, rfl, trivial⟩ ?_
     first
       | exact ⟨(i + 1, _, _), ⟨rfl, rfl, rfl, rfl, rfl, rfl, rfl, rfl, trivial⟩, ⟨(((hE.trans e3).trans e4).trans e5), (((hnl.ext e3).ext e4).ext e5), by rw [fmt_skip hilt (rmf_N ((mval_y hyx).trans hz))]; exact (((hov.ext e3).ext e4).ext e5), ⟨by rw [fltt_skip hilt (cf_1 hyx)]; exact (((hbv.ext e3).ext e4).ext e5), hkk⟩, by omega⟩, by dsimp only; omega⟩
    · --
     skip
     refine WP_region ?_
     refine O_move rfl rfl rfl ?_
     refine O_move rfl rfl rfl ?_
     refine O_eql (t := true) rfl rfl rfl rfl (decide_eq_true hyx) ?_
     refine WL_end [(0, _), (1, _), (2, _), (8, _), (9, _), (11, _), (12, _), (13, _), (14, _), (15, _), (20, _), (21, _), (22, _), (38, _)] ⟨rfl, rfl, rfl, rfl, rfl, rfl, rfl, rfl, rfl, rfl, rfl, rfl, rfl, rfl, trivial⟩ ?_
     refine WP_condT rfl ?_
     refine WP_region ?_
     refine O_move rfl rfl rfl ?_
     refine O_assign rfl rfl rfl ?_
     refine WL_end [(0, _), (1, _), (2, _), (8, _), (9, _), (11, _), (15, _), (20, _), (21, _), (22, _)] ⟨rfl, rfl, rfl, rfl, rfl, rfl, rfl, rfl, rfl, rfl, trivial⟩ ?_
     refine WP_seq ?_
     refine WP_region ?_
     refine O_move rfl rfl rfl ?_
     refine O_neq (t := false) rfl rfl rfl rfl (decide_eq_false (fun h => h hz)) ?_
     refine WL_end [(0, _), (1, _), (2, _), (8, _), (9, _), (11, _), (15, _), (20, _), (21, _), (22, _), (53, _)] ⟨rfl, rfl, rfl, rfl, rfl, rfl, rfl, rfl, rfl, rfl, rfl, trivial⟩ ?_
     refine WP_condF rfl ?_
     refine WP_skip ?_
     refine WP_region ?_
     refine O_add rfl rfl rfl rfl (wrap_i64_id (by omega) (by omega)) ?_
     refine O_move rfl rfl rfl ?_
     refine WL_end [(0, _), (1, _), (2, _), (8, _), (9, _), (20, _), (21, _), (22, _)] ⟨rfl, rfl, rfl, rfl, rfl, rfl, rfl, rfl, trivial⟩ ?_
     first
       | exact ⟨(i + 1, _, _), ⟨rfl, rfl, rfl, rfl, rfl, rfl, rfl, rfl, trivial⟩, ⟨(((hE.trans e3).trans e4).trans e5), (((hnl.ext e3).ext e4).ext e5), by rw [fmt_skip hilt (rmf_N ((mval_y hyx).trans hz))]; exact (((hov.ext e3).ext e4).ext e5), ⟨by rw [fltt_skip hilt (cf_1 hyx)]; exact (((hbv.ext e3).ext e4).ext e5), hkk⟩, by omega⟩, by dsimp only; omega⟩
    · --
     skip
     refine WP_region ?_
     refine O_move rfl rfl rfl ?_
     refine O_move rfl rfl rfl ?_
     refine O_eql (t := true) rfl rfl rfl rfl (decide_eq_true hyx) ?_
     refine WL_end [(0, _), (1, _), (2, _), (8, _), (9, _), (11, _), (12, _), (13, _), (14, _), (15, _), (20, _), (21, _), (22, _), (38, _)] ⟨rfl, rfl, rfl, rfl, rfl, rfl, rfl, rfl, rfl, rfl, rfl, rfl, rfl, rfl, trivial⟩ ?_
     refine WP_condT rfl ?_
     refine WP_region ?_
     refine O_move rfl rfl rfl ?_
     refine O_assign rfl rfl rfl ?_
     refine WL_end [(0, _), (1, _), (2, _), (8, _), (9, _), (11, _), (15, _), (20, _), (21, _), (22, _)] ⟨rfl, rfl, rfl, rfl, rfl, rfl, rfl, rfl, rfl, rfl, trivial⟩ ?_
     refine WP_seq ?_
     refine WP_region ?_
     refine O_move rfl rfl rfl ?_
     refine O_neq (t := true) rfl rfl rfl rfl (decide_eq_true hz) ?_
     refine WL_end [(0, _), (1, _), (2, _), (8, _), (9, _), (11, _), (15, _), (20, _), (21, _), (22, _), (53, _)] ⟨rfl, rfl, rfl, rfl, rfl, rfl, rfl, rfl, rfl, rfl, rfl, trivial⟩ ?_
     refine WP_condT rfl ?_
     refine WP_region ?_
     refine O_move rfl rfl rfl ?_
     refine O_move rfl rfl rfl ?_
     refine O_move rfl rfl rfl ?_
     refine O_build (cs := [_, _]) B54 rfl rfl rfl (cells_cons rfl (cells_cons rfl cells_nil)) rfl ?_
     refine B_lit1 (b := (N[i], nodev b N[i])) Ebind rfl rfl rfl (fun v6 w6 o6 e6 => ?_)
     have z6 := e6.size
     refine B_append Ebind rfl rfl rfl rfl ((((hov.ext e3).ext e4).ext e5).ext e6) o6.sl (by have hfm := List.length_filterMap_le (rmf o a b) (N.take i); rw [List.length_take] at hfm; simp only [List.length_singleton]; omega) rfl (by omega) (fun v7 w7 o7 r7 k7 => ?_)
     have e7 : Ext w w7 := ((((hov.ext e3).ext e4).ext e5).ext e6).ext_grown r7 ((((hE.trans e3).trans e4).trans e5).trans e6) (by omega)
     have z7 := r7.size
     have x7 := OwB.grownT ((((hov.ext e3).ext e4).ext e5).ext e6) r7
     refine O_assign rfl rfl rfl ?_
     refine WL_end [(0, _), (1, _), (2, _), (8, _), (9, _), (20, _), (21, _), (22, _)] ⟨rfl, rfl, rfl, rfl, rfl, rfl, rfl, rfl, trivial⟩ ?_
     refine WP_region ?_
     refine O_add rfl rfl rfl rfl (wrap_i64_id (by omega) (by omega)) ?_
     refine O_move rfl rfl rfl ?_
     refine WL_end [(0, _), (1, _), (2, _), (8, _), (9, _), (20, _), (21, _), (22, _)] ⟨rfl, rfl, rfl, rfl, rfl, rfl, rfl, rfl, trivial⟩ ?_
     first
       | exact ⟨(i + 1, _, _), ⟨rfl, rfl, rfl, rfl, rfl, rfl, rfl, rfl, trivial⟩, ⟨e7, (((((hnl.ext e3).ext e4).ext e5).ext e6).extT x7 (by decide)), by rw [fmt_snoc hilt (rmf_S (mval_y hyx) hz)]; exact o7, ⟨by rw [fltt_skip hilt (cf_1 hyx)]; exact (((((hbv.ext e3).ext e4).ext e5).ext e6).extT x7 (by decide)), hkk⟩, by omega⟩, by dsimp only; omega⟩
    · --
     skip
     refine WP_region ?_
     refine O_move rfl rfl rfl ?_
     refine O_move rfl rfl rfl ?_
     refine O_eql (t := false) rfl rfl rfl rfl (decide_eq_false hyx) ?_
     refine WL_end [(0, _), (1, _), (2, _), (8, _), (9, _), (11, _), (12, _), (13, _), (14, _), (15, _), (20, _), (21, _), (22, _), (38, _)] ⟨rfl, rfl, rfl, rfl, rfl, rfl, rfl, rfl, rfl, rfl, rfl, rfl, rfl, rfl, trivial⟩ ?_
     refine WP_condF rfl ?_
     refine WP_seq ?_
     refine WP_region ?_
     refine O_move rfl rfl rfl ?_
     refine O_move rfl rfl rfl ?_
     refine O_neq (t := true) rfl rfl rfl rfl (decide_eq_true h5) ?_
     refine O_move rfl rfl rfl ?_
     refine O_move rfl rfl rfl ?_
     refine O_move rfl rfl rfl ?_
     refine O_neq (t := true) rfl rfl rfl rfl (decide_eq_true h6) ?_
     refine O_pickT rfl rfl rfl rfl ?_
     refine WL_end [(0, _), (1, _), (2, _), (8, _), (9, _), (11, _), (15, _), (20, _), (21, _), (22, _), (47, _)] ⟨rfl, rfl, rfl, rfl, rfl, rfl, rfl, rfl, rfl, rfl, rfl, trivial⟩ ?_
     refine WP_condT rfl ?_
     refine WP_region ?_
     refine O_move rfl rfl rfl ?_
     refine O_move rfl rfl rfl ?_
     refine M_lit M52 rfl rfl fS [_] (by intro a _; rfl) rfl rfl rfl rfl rfl (fun v8 w8 o8 e8 => ?_)
     have z8 := e8.size
     have hfl := List.length_filter_le (confl o a b) (N.take i)
     rw [List.length_take] at hfl
     have hnl7 := ((((hnl.ext e3).ext e4).ext e5).ext e8)
     have hov7 := ((((hov.ext e3).ext e4).ext e5).ext e8)
     have hbv7 := ((((hbv.ext e3).ext e4).ext e5).ext e8)
     refine M_appendK M52 rfl (by decide) rfl rfl rfl rfl hbv7 o8.sl (fun a _ => rfl) (by simp only [List.length_singleton]; omega) (by omega) (fun v70 w70 o70 r70 k70 => ?_)
     have e70 : Ext w w70 := hbv7.extGrown r70 ((((hE.trans e3).trans e4).trans e5).trans e8) (Nat.le_refl _)
     have z70 := r70.size
     have hnl70 := hnl7.grownOff (fun e => by rw [e] at hilt; exact absurd hilt (by simp)) r70 (fun e => hkk _ _ (hnl7.ownK (fun e => by rw [e] at hilt; exact absurd hilt (by simp))) e rfl)
     have hov70 := hov7.extT (OwM.grownT hbv7 r70) (by decide)
     have hkk70 : ∀ k1 k2, v2.ownBlock = some k1 → v70.ownBlock = some k2 → k1 ≠ k2 := fun k1 k2 q1 q2 => by
       rcases k70 with k | k
       · exact hkk k1 k2 q1 (k ▸ q2)
       · have q3 := (hnl7.blkK q1).2
         rw [k] at q2
         injection q2 with q2
         omega
     refine O_assign rfl rfl rfl ?_
     refine WL_end [(0, _), (1, _), (2, _), (8, _), (9, _), (11, _), (15, _), (20, _), (21, _), (22, _)] ⟨rfl, rfl, rfl, rfl, rfl, rfl, rfl, rfl, rfl, rfl, trivial⟩ ?_
     refine WP_seq ?_
     refine WP_region ?_
     refine O_move rfl rfl rfl ?_
     refine O_neq rfl rfl rfl rfl rfl ?_
     refine WL_end [(0, _), (1, _), (2, _), (8, _), (9, _), (11, _), (15, _), (20, _), (21, _), (22, _), (53, _)] ⟨rfl, rfl, rfl, rfl, rfl, rfl, rfl, rfl, rfl, rfl, rfl, trivial⟩ ?_
     refine WP_condN rfl (fun c53 => ?_) (fun c53 => ?_)
     · --
      refine WP_region ?_
      refine O_move rfl rfl rfl ?_
      refine O_move rfl rfl rfl ?_
      refine O_move rfl rfl rfl ?_
      refine O_build (cs := [_, _]) B54 rfl rfl rfl (cells_cons rfl (cells_cons rfl cells_nil)) rfl ?_
      refine B_lit1 (b := (N[i], nodev a N[i])) Ebind rfl rfl rfl (fun v9 w9 o9 e9 => ?_)
      have z9 := e9.size
      refine B_append Ebind rfl rfl rfl rfl (hov70.ext e9) o9.sl (by have hfm := List.length_filterMap_le (rmf o a b) (N.take i); rw [List.length_take] at hfm; simp only [List.length_singleton]; omega) rfl (by omega) (fun v10 w10 o10 r10 k10 => ?_)
      have e10 : Ext w w10 := (hov70.ext e9).ext_grown r10 (e70.trans e9) (by omega)
      have z10 := r10.size
      have x10 := OwB.grownT (hov70.ext e9) r10
      refine O_assign rfl rfl rfl ?_
      refine WL_end [(0, _), (1, _), (2, _), (8, _), (9, _), (20, _), (21, _), (22, _)] ⟨rfl, rfl, rfl, rfl, rfl, rfl, rfl, rfl, trivial⟩ ?_
      refine WP_region ?_
      refine O_add rfl rfl rfl rfl (wrap_i64_id (by omega) (by omega)) ?_
      refine O_move rfl rfl rfl ?_
      refine WL_end [(0, _), (1, _), (2, _), (8, _), (9, _), (20, _), (21, _), (22, _)] ⟨rfl, rfl, rfl, rfl, rfl, rfl, rfl, rfl, trivial⟩ ?_
      first
        | exact ⟨(i + 1, _, _), ⟨rfl, rfl, rfl, rfl, rfl, rfl, rfl, rfl, trivial⟩, ⟨e10, ((hnl70.ext e9).extT x10 (by decide)), by rw [fmt_snoc hilt (rmf_S (mval_n hyx) (by assumption))]; exact o10, ⟨by rw [fltt_snoc hilt (cf_T hyx h5 h6)]; exact ((o70.ext e9).extT x10 (by decide)), hkk70⟩, by omega⟩, by dsimp only; omega⟩
        | exact ⟨(i + 1, _, _), ⟨rfl, rfl, rfl, rfl, rfl, rfl, rfl, rfl, trivial⟩, ⟨e10, ((hnl70.ext e9).extT x10 (by decide)), by rw [fmt_skip hilt (rmf_N ((mval_n hyx).trans (by assumption)))]; exact o10, ⟨by rw [fltt_snoc hilt (cf_T hyx h5 h6)]; exact ((o70.ext e9).extT x10 (by decide)), hkk70⟩, by omega⟩, by dsimp only; omega⟩
     · --
      refine WP_skip ?_
      refine WP_region ?_
      refine O_add rfl rfl rfl rfl (wrap_i64_id (by omega) (by omega)) ?_
      refine O_move rfl rfl rfl ?_
      refine WL_end [(0, _), (1, _), (2, _), (8, _), (9, _), (20, _), (21, _), (22, _)] ⟨rfl, rfl, rfl, rfl, rfl, rfl, rfl, rfl, trivial⟩ ?_
      first
        | exact ⟨(i + 1, _, _), ⟨rfl, rfl, rfl, rfl, rfl, rfl, rfl, rfl, trivial⟩, ⟨e70, hnl70, by rw [fmt_snoc hilt (rmf_S (mval_n hyx) (by assumption))]; exact hov70, ⟨by rw [fltt_snoc hilt (cf_T hyx h5 h6)]; exact o70, hkk70⟩, by omega⟩, by dsimp only; omega⟩
        | exact ⟨(i + 1, _, _), ⟨rfl, rfl, rfl, rfl, rfl, rfl, rfl, rfl, trivial⟩, ⟨e70, hnl70, by rw [fmt_skip hilt (rmf_N ((mval_n hyx).trans (by assumption)))]; exact hov70, ⟨by rw [fltt_snoc hilt (cf_T hyx h5 h6)]; exact o70, hkk70⟩, by omega⟩, by dsimp only; omega⟩
    · --
     skip
     refine WP_region ?_
     refine O_move rfl rfl rfl ?_
     refine O_move rfl rfl rfl ?_
     refine O_eql (t := false) rfl rfl rfl rfl (decide_eq_false hyx) ?_
     refine WL_end [(0, _), (1, _), (2, _), (8, _), (9, _), (11, _), (12, _), (13, _), (14, _), (15, _), (20, _), (21, _), (22, _), (38, _)] ⟨rfl, rfl, rfl, rfl, rfl, rfl, rfl, rfl, rfl, rfl, rfl, rfl, rfl, rfl, trivial⟩ ?_
     refine WP_condF rfl ?_
     refine WP_seq ?_
     refine WP_region ?_
     refine O_move rfl rfl rfl ?_
     refine O_move rfl rfl rfl ?_
     refine O_neq (t := false) rfl rfl rfl rfl (decide_eq_false (fun h => h h5)) ?_
     refine O_move rfl rfl rfl ?_
     refine O_skip rfl rfl ?_
     refine O_skip rfl rfl ?_
     refine O_skip rfl rfl ?_
     refine O_pickF rfl rfl rfl rfl ?_
     refine WL_end [(0, _), (1, _), (2, _), (8, _), (9, _), (11, _), (15, _), (20, _), (21, _), (22, _), (47, _)] ⟨rfl, rfl, rfl, rfl, rfl, rfl, rfl, rfl, rfl, rfl, rfl, trivial⟩ ?_
     refine WP_condF rfl ?_
     refine WP_skip ?_
     refine WP_seq ?_
     refine WP_region ?_
     refine O_move rfl rfl rfl ?_
     refine O_neq rfl rfl rfl rfl rfl ?_
     refine WL_end [(0, _), (1, _), (2, _), (8, _), (9, _), (11, _), (15, _), (20, _), (21, _), (22, _), (53, _)] ⟨rfl, rfl, rfl, rfl, rfl, rfl, rfl, rfl, rfl, rfl, rfl, trivial⟩ ?_
     refine WP_condN rfl (fun c53 => ?_) (fun c53 => ?_)
     · --
      refine WP_region ?_
      refine O_move rfl rfl rfl ?_
      refine O_move rfl rfl rfl ?_
      refine O_move rfl rfl rfl ?_
      refine O_build (cs := [_, _]) B54 rfl rfl rfl (cells_cons rfl (cells_cons rfl cells_nil)) rfl ?_
      refine B_lit1 (b := (N[i], nodev a N[i])) Ebind rfl rfl rfl (fun v11 w11 o11 e11 => ?_)
      have z11 := e11.size
      refine B_append Ebind rfl rfl rfl rfl ((((hov.ext e3).ext e4).ext e5).ext e11) o11.sl (by have hfm := List.length_filterMap_le (rmf o a b) (N.take i); rw [List.length_take] at hfm; simp only [List.length_singleton]; omega) rfl (by omega) (fun v12 w12 o12 r12 k12 => ?_)
      have e12 : Ext w w12 := ((((hov.ext e3).ext e4).ext e5).ext e11).ext_grown r12 ((((hE.trans e3).trans e4).trans e5).trans e11) (by omega)
      have z12 := r12.size
      have x12 := OwB.grownT ((((hov.ext e3).ext e4).ext e5).ext e11) r12
      refine O_assign rfl rfl rfl ?_
      refine WL_end [(0, _), (1, _), (2, _), (8, _), (9, _), (20, _), (21, _), (22, _)] ⟨rfl, rfl, rfl, rfl, rfl, rfl, rfl, rfl, trivial⟩ ?_
      refine WP_region ?_
      refine O_add rfl rfl rfl rfl (wrap_i64_id (by omega) (by omega)) ?_
      refine O_move rfl rfl rfl ?_
      refine WL_end [(0, _), (1, _), (2, _), (8, _), (9, _), (20, _), (21, _), (22, _)] ⟨rfl, rfl, rfl, rfl, rfl, rfl, rfl, rfl, trivial⟩ ?_
      first
        | exact ⟨(i + 1, _, _), ⟨rfl, rfl, rfl, rfl, rfl, rfl, rfl, rfl, trivial⟩, ⟨e12, (((((hnl.ext e3).ext e4).ext e5).ext e11).extT x12 (by decide)), by rw [fmt_snoc hilt (rmf_S (mval_n hyx) (by assumption))]; exact o12, ⟨by rw [fltt_skip hilt (cf_2 hyx h5)]; exact (((((hbv.ext e3).ext e4).ext e5).ext e11).extT x12 (by decide)), hkk⟩, by omega⟩, by dsimp only; omega⟩
        | exact ⟨(i + 1, _, _), ⟨rfl, rfl, rfl, rfl, rfl, rfl, rfl, rfl, trivial⟩, ⟨e12, (((((hnl.ext e3).ext e4).ext e5).ext e11).extT x12 (by decide)), by rw [fmt_skip hilt (rmf_N ((mval_n hyx).trans (by assumption)))]; exact o12, ⟨by rw [fltt_skip hilt (cf_2 hyx h5)]; exact (((((hbv.ext e3).ext e4).ext e5).ext e11).extT x12 (by decide)), hkk⟩, by omega⟩, by dsimp only; omega⟩
     · --
      refine WP_skip ?_
      refine WP_region ?_
      refine O_add rfl rfl rfl rfl (wrap_i64_id (by omega) (by omega)) ?_
      refine O_move rfl rfl rfl ?_
      refine WL_end [(0, _), (1, _), (2, _), (8, _), (9, _), (20, _), (21, _), (22, _)] ⟨rfl, rfl, rfl, rfl, rfl, rfl, rfl, rfl, trivial⟩ ?_
      first
        | exact ⟨(i + 1, _, _), ⟨rfl, rfl, rfl, rfl, rfl, rfl, rfl, rfl, trivial⟩, ⟨(((hE.trans e3).trans e4).trans e5), (((hnl.ext e3).ext e4).ext e5), by rw [fmt_snoc hilt (rmf_S (mval_n hyx) (by assumption))]; exact (((hov.ext e3).ext e4).ext e5), ⟨by rw [fltt_skip hilt (cf_2 hyx h5)]; exact (((hbv.ext e3).ext e4).ext e5), hkk⟩, by omega⟩, by dsimp only; omega⟩
        | exact ⟨(i + 1, _, _), ⟨rfl, rfl, rfl, rfl, rfl, rfl, rfl, rfl, trivial⟩, ⟨(((hE.trans e3).trans e4).trans e5), (((hnl.ext e3).ext e4).ext e5), by rw [fmt_skip hilt (rmf_N ((mval_n hyx).trans (by assumption)))]; exact (((hov.ext e3).ext e4).ext e5), ⟨by rw [fltt_skip hilt (cf_2 hyx h5)]; exact (((hbv.ext e3).ext e4).ext e5), hkk⟩, by omega⟩, by dsimp only; omega⟩
    · --
     skip
     refine WP_region ?_
     refine O_move rfl rfl rfl ?_
     refine O_move rfl rfl rfl ?_
     refine O_eql (t := false) rfl rfl rfl rfl (decide_eq_false hyx) ?_
     refine WL_end [(0, _), (1, _), (2, _), (8, _), (9, _), (11, _), (12, _), (13, _), (14, _), (15, _), (20, _), (21, _), (22, _), (38, _)] ⟨rfl, rfl, rfl, rfl, rfl, rfl, rfl, rfl, rfl, rfl, rfl, rfl, rfl, rfl, trivial⟩ ?_
     refine WP_condF rfl ?_
     refine WP_seq ?_
     refine WP_region ?_
     refine O_move rfl rfl rfl ?_
     refine O_move rfl rfl rfl ?_
     refine O_neq (t := true) rfl rfl rfl rfl (decide_eq_true h5) ?_
     refine O_move rfl rfl rfl ?_
     refine O_move rfl rfl rfl ?_
     refine O_move rfl rfl rfl ?_
     refine O_neq (t := false) rfl rfl rfl rfl (decide_eq_false (fun h => h h6)) ?_
     refine O_pickT rfl rfl rfl rfl ?_
     refine WL_end [(0, _), (1, _), (2, _), (8, _), (9, _), (11, _), (15, _), (20, _), (21, _), (22, _), (47, _)] ⟨rfl, rfl, rfl, rfl, rfl, rfl, rfl, rfl, rfl, rfl, rfl, trivial⟩ ?_
     refine WP_condF rfl ?_
     refine WP_skip ?_
     refine WP_seq ?_
     refine WP_region ?_
     refine O_move rfl rfl rfl ?_
     refine O_neq rfl rfl rfl rfl rfl ?_
     refine WL_end [(0, _), (1, _), (2, _), (8, _), (9, _), (11, _), (15, _), (20, _), (21, _), (22, _), (53, _)] ⟨rfl, rfl, rfl, rfl, rfl, rfl, rfl, rfl, rfl, rfl, rfl, trivial⟩ ?_
     refine WP_condN rfl (fun c53 => ?_) (fun c53 => ?_)
     · --
      refine WP_region ?_
      refine O_move rfl rfl rfl ?_
      refine O_move rfl rfl rfl ?_
      refine O_move rfl rfl rfl ?_
      refine O_build (cs := [_, _]) B54 rfl rfl rfl (cells_cons rfl (cells_cons rfl cells_nil)) rfl ?_
      refine B_lit1 (b := (N[i], nodev a N[i])) Ebind rfl rfl rfl (fun v13 w13 o13 e13 => ?_)
      have z13 := e13.size
      refine B_append Ebind rfl rfl rfl rfl ((((hov.ext e3).ext e4).ext e5).ext e13) o13.sl (by have hfm := List.length_filterMap_le (rmf o a b) (N.take i); rw [List.length_take] at hfm; simp only [List.length_singleton]; omega) rfl (by omega) (fun v14 w14 o14 r14 k14 => ?_)
      have e14 : Ext w w14 := ((((hov.ext e3).ext e4).ext e5).ext e13).ext_grown r14 ((((hE.trans e3).trans e4).trans e5).trans e13) (by omega)
      have z14 := r14.size
      have x14 := OwB.grownT ((((hov.ext e3).ext e4).ext e5).ext e13) r14
      refine O_assign rfl rfl rfl ?_
      refine WL_end [(0, _), (1, _), (2, _), (8, _), (9, _), (20, _), (21, _), (22, _)] ⟨rfl, rfl, rfl, rfl, rfl, rfl, rfl, rfl, trivial⟩ ?_
      refine WP_region ?_
      refine O_add rfl rfl rfl rfl (wrap_i64_id (by omega) (by omega)) ?_
      refine O_move rfl rfl rfl ?_
      refine WL_end [(0, _), (1, _), (2, _), (8, _), (9, _), (20, _), (21, _), (22, _)] ⟨rfl, rfl, rfl, rfl, rfl, rfl, rfl, rfl, trivial⟩ ?_
      first
        | exact ⟨(i + 1, _, _), ⟨rfl, rfl, rfl, rfl, rfl, rfl, rfl, rfl, trivial⟩, ⟨e14, (((((hnl.ext e3).ext e4).ext e5).ext e13).extT x14 (by decide)), by rw [fmt_snoc hilt (rmf_S (mval_n hyx) (by assumption))]; exact o14, ⟨by rw [fltt_skip hilt (cf_3 hyx h5 h6)]; exact (((((hbv.ext e3).ext e4).ext e5).ext e13).extT x14 (by decide)), hkk⟩, by omega⟩, by dsimp only; omega⟩
        | exact ⟨(i + 1, _, _), ⟨rfl, rfl, rfl, rfl, rfl, rfl, rfl, rfl, trivial⟩, ⟨e14, (((((hnl.ext e3).ext e4).ext e5).ext e13).extT x14 (by decide)), by rw [fmt_skip hilt (rmf_N ((mval_n hyx).trans (by assumption)))]; exact o14, ⟨by rw [fltt_skip hilt (cf_3 hyx h5 h6)]; exact (((((hbv.ext e3).ext e4).ext e5).ext e13).extT x14 (by decide)), hkk⟩, by omega⟩, by dsimp only; omega⟩
     · --
      refine WP_skip ?_
      refine WP_region ?_
      refine O_add rfl rfl rfl rfl (wrap_i64_id (by omega) (by omega)) ?_
      refine O_move rfl rfl rfl ?_
      refine WL_end [(0, _), (1, _), (2, _), (8, _), (9, _), (20, _), (21, _), (22, _)] ⟨rfl, rfl, rfl, rfl, rfl, rfl, rfl, rfl, trivial⟩ ?_
      first
        | exact ⟨(i + 1, _, _), ⟨rfl, rfl, rfl, rfl, rfl, rfl, rfl, rfl, trivial⟩, ⟨(((hE.trans e3).trans e4).trans e5), (((hnl.ext e3).ext e4).ext e5), by rw [fmt_snoc hilt (rmf_S (mval_n hyx) (by assumption))]; exact (((hov.ext e3).ext e4).ext e5), ⟨by rw [fltt_skip hilt (cf_3 hyx h5 h6)]; exact (((hbv.ext e3).ext e4).ext e5), hkk⟩, by omega⟩, by dsimp only; omega⟩
        | exact ⟨(i + 1, _, _), ⟨rfl, rfl, rfl, rfl, rfl, rfl, rfl, rfl, trivial⟩, ⟨(((hE.trans e3).trans e4).trans e5), (((hnl.ext e3).ext e4).ext e5), by rw [fmt_skip hilt (rmf_N ((mval_n hyx).trans (by assumption)))]; exact (((hov.ext e3).ext e4).ext e5), ⟨by rw [fltt_skip hilt (cf_3 hyx h5 h6)]; exact (((hbv.ext e3).ext e4).ext e5), hkk⟩, by omega⟩, by dsimp only; omega⟩
  · --
   refine WP_exit ?_
   refine inBlk_hit ?_
   refine WP_seq ?_
   refine WP_region ?_
   refine O_move rfl rfl rfl ?_
   refine O_move rfl rfl rfl ?_
   refine O_assign rfl rfl rfl ?_
   refine O_assign rfl rfl rfl ?_
   refine WL_end [(6, _), (7, _)] ⟨rfl, rfl, trivial⟩ ?_
   refine WP_ret ?_
   refine ret2 Try.results55 rfl rfl ?_
   have hie : i = N.length := by omega
   subst hie
   rw [List.take_length, hN9] at hov hbv
   exact ⟨_, rfl, hE, _, _, rfl, hov, hbv⟩

end Go.Proofs.Ytoccimigjjndpaa
