/-
  Walks.
-/
import Derived.Test.YtoccimigjjndpaaCmp
set_option linter.unusedVariables false
set_option linter.unusedSimpArgs false
set_option maxRecDepth 100000
namespace Go.Proofs.Ytoccimigjjndpaa
open Go Go.RowKit
set_option maxHeartbeats 1000000 in
theorem rcompose_c {w : World} {u v : Value} {l1 l2 : List Ch} (hs1 : SlC w u l1) (hs2 : SlC w v l2) (hl1 : l1.length ≤ 10000) (hl2 : l2.length ≤ 10000) (ha1 : AscN (cnms l1)) (ha2 : AscN (cnms l2)) :
    Calls Try.prog 53 #[u, v] w (Ret w fun r w' => ((cmpU l1 l2).any (clash l1 l2) = false ∧ ∃ x, r = .tuple #[x, .bool true] ∧ OwC w.heap.size w' x ((cmpU l1 l2).filterMap (rcmp1 l1 l2))) ∨ ((cmpU l1 l2).any (clash l1 l2) = true ∧ r = .tuple #[.slice none 0 0, .bool false])) := by
 refine enter (args := [u, v]) Try.func53 rfl Try.ntmps53 rfl ?_
 refine WP_seq ?_
 refine WP_region ?_
 refine O_assign rfl rfl rfl ?_
 refine O_assign rfl rfl rfl ?_
 refine WL_end [(0, _), (1, _)] ⟨rfl, rfl, trivial⟩ ?_
 refine WP_seq ?_
 refine WP_region ?_
 refine O_assign rfl rfl rfl ?_
 refine WL_end [(0, _), (1, _), (6, _)] ⟨rfl, rfl, rfl, trivial⟩ ?_
 refine WP_seq ?_
 refine WP_seq ?_
 refine WP_region ?_
 refine C_lit0 Echange rfl rfl (fun v18 w18 o18 e18 => ?_)
 have z18 := e18.size
 refine O_move rfl rfl rfl ?_
 refine C_append Echange rfl rfl rfl rfl o18 (hs1.ext e18) (by simp only [List.length_append, List.length_nil]; omega) rfl (by omega) (fun v1 w1 o1 r1 k1 => ?_)
 have e1 : Ext w w1 := o18.ext_grown r1 e18 (by omega)
 have z1 := r1.size
 have x1 := OwC.grownT o18 r1
 refine O_move rfl rfl rfl ?_
 refine C_append Echange rfl rfl rfl rfl o1 (hs2.ext e1) (by simp only [List.length_append, List.length_nil]; omega) rfl (by omega) (fun v2 w2 o2 r2 k2 => ?_)
 have e2 : Ext w w2 := o1.ext_grown r2 e1 (by omega)
 have z2 := r2.size
 have x2 := OwC.grownT o1 r2
 rw [List.nil_append] at o2
 refine C_len Echange rfl rfl rfl o2.sl ?_
 refine O_move rfl rfl rfl ?_
 refine WL_end [(0, _), (1, _), (6, _), (22, _), (23, _), (24, _)] ⟨rfl, rfl, rfl, rfl, rfl, rfl, trivial⟩ ?_
 refine WP_block ?_
 refine WP_loop (S := Nat × Value) (fun (i, ov) => [(0, u), (1, v), (6, ov), (22, v2), (23, .int .i64 ((l1 ++ l2).length : Nat)), (24, .int .i64 (i : Nat))]) (fun (i, ov) w' => Ext w w' ∧ OwC w.heap.size w' v2 (l1 ++ l2) ∧ OwM fS w.heap.size 9 w' ov (((l1 ++ l2).take i).map (·.2.1)) ∧ i ≤ (l1 ++ l2).length) (fun (i, ov) => (l1 ++ l2).length - i) (0, .slice none 0 0) ⟨rfl, rfl, rfl, rfl, rfl, rfl, trivial⟩ ⟨e2, (o2).mono (by omega), OwM.nil _ _ _, Nat.zero_le _⟩ ?_
 rintro ⟨i, ov⟩ w9 ⟨hE, hal, hov, hi⟩
 show WP _ _ _ _ _ [(0, u), (1, v), (6, ov), (22, v2), (23, .int .i64 ((l1 ++ l2).length : Nat)), (24, .int .i64 (i : Nat))] _
 have zE := hE.size
 have hll : (l1 ++ l2).length = l1.length + l2.length := List.length_append
 refine WP_seq ?_
 refine WP_region ?_
 refine O_lss rfl rfl rfl rfl rfl ?_
 refine WL_end [(0, _), (1, _), (6, _), (22, _), (23, _), (24, _), (25, _)] ⟨rfl, rfl, rfl, rfl, rfl, rfl, rfl, trivial⟩ ?_
 refine WP_seq ?_
 refine WP_condD rfl (fun c25 => ?_) (fun c25 => ?_)
 · --
  refine WP_skip ?_
  refine WP_seq ?_
  refine WP_block ?_
  refine WP_seq ?_
  have hilt : i < (l1 ++ l2).length := by omega
  · --
   skip
   refine WP_region ?_
   refine C_index Echange rfl rfl rfl rfl hal.sl i rfl hilt (fun _ => ?_)
   refine K_load S74 rfl rfl rfl (SlC.row (j := i) hal.sl hilt) rfl ?_
   refine O_alloc S74 rfl rfl (fun g3 w3 b3 e3 gl3 gh3 => ?_)
   have z3 := e3.size
   refine O_storeA (cs' := [_, _, _, _]) S74 rfl rfl rfl b3 rfl rfl (one_cons rfl (one_cons rfl (one_cons rfl (one_cons rfl one_nil)))) rfl (fun w4 b4 q4 => ?_)
   have z4 := Nat.le_of_eq q4.size.symm
   have e4 : Ext w w4 := q4.ext (hE.trans e3) (by omega)
   have m5 := q4.ext e3 (by omega)
   refine WL_end [(0, _), (1, _), (6, _), (8, _), (22, _), (23, _), (24, _)] ⟨rfl, rfl, rfl, rfl, rfl, rfl, rfl, trivial⟩ ?_
   refine WP_region ?_
   refine O_move rfl rfl rfl ?_
   refine O_field F74_1 rfl rfl rfl ?_
   refine O_loadC Try.underlying9 rfl rfl rfl rfl b4 rfl ?_
   refine M_lit M52 rfl rfl fS [_] (by intro a _; rfl) rfl rfl rfl rfl rfl (fun v6 w6 o6 e6 => ?_)
   have z6 := e6.size
   refine M_append M52 rfl rfl rfl rfl rfl ((hov.ext m5).ext e6) o6.sl (by simp) (by simp [Value.oneCell']) (by simp only [List.length_map, List.length_take, List.length_singleton]; omega) rfl (by omega) (fun v7 w7 o7 r7 q7 => ?_)
   have e7 : Ext w w7 := ((hov.ext m5).ext e6).ext_grown r7 (e4.trans e6) (by omega)
   have z7 := r7.size
   have x7 := OwM.grownT ((hov.ext m5).ext e6) r7
   refine O_assign rfl rfl rfl ?_
   refine WL_end [(0, _), (1, _), (6, _), (22, _), (23, _), (24, _)] ⟨rfl, rfl, rfl, rfl, rfl, rfl, trivial⟩ ?_
   refine WP_region ?_
   refine O_add rfl rfl rfl rfl (wrap_i64_id (by omega) (by omega)) ?_
   refine O_move rfl rfl rfl ?_
   refine WL_end [(0, _), (1, _), (6, _), (22, _), (23, _), (24, _)] ⟨rfl, rfl, rfl, rfl, rfl, rfl, trivial⟩ ?_
   exact ⟨(i + 1, _), ⟨rfl, rfl, rfl, rfl, rfl, rfl, trivial⟩, ⟨e7, (((hal.ext m5).ext e6).extT x7 (by decide)), by rw [List.take_add_one, List.getElem?_eq_getElem hilt]; simp only [List.map_append, Option.toList_some, List.map_cons, List.map_nil]; exact o7, by omega⟩, by dsimp only; omega⟩
 · --
  refine WP_exit ?_
  refine inBlk_hit ?_
  refine WP_seq ?_
  obtain ⟨U, hU⟩ : ∃ U, U = cmpU l1 l2 := ⟨_, rfl⟩
  have hUl := mergeN_len [cnms l1, cnms l2]
  have hUt : totN [cnms l1, cnms l2] = l1.length + l2.length := by simp [totN, cnms]
  rw [show mergeN [cnms l1, cnms l2] = U from hU.symm, hUt] at hUl
  · --
   skip
   refine WP_region ?_
   refine O_assign rfl rfl rfl ?_
   refine WL_end [(0, _), (1, _), (6, _), (9, _)] ⟨rfl, rfl, rfl, rfl, trivial⟩ ?_
   refine WP_seq ?_
   refine WP_seq ?_
   refine WP_region ?_
   refine O_move rfl rfl rfl ?_
   refine O_call enters83 rfl rfl rfl (rsorted_c hov.sl (by simp only [List.length_map, List.length_take]; omega)) (fun v8 w8 e8 h8 => ?_)
   have z8 := e8.size
   have hu8 := h8
   rw [show i = (l1 ++ l2).length from by omega, List.take_length, cmp_sort ha1 ha2, ← hU] at hu8
   refine M_len M52 rfl rfl rfl hu8.sl ?_
   refine O_move rfl rfl rfl ?_
   refine WL_end [(0, _), (1, _), (9, _), (35, _), (36, _), (37, _)] ⟨rfl, rfl, rfl, rfl, rfl, rfl, trivial⟩ ?_
   refine WP_block ?_
   refine WP_loop (S := Nat × Value) (fun (k, oc) => [(0, u), (1, v), (9, oc), (35, v8), (36, .int .i64 (U.length : Nat)), (37, .int .i64 (k : Nat))]) (fun (k, oc) w' => Ext w w' ∧ OwM fS w.heap.size 9 w' v8 U ∧ OwC w.heap.size w' oc ((U.take k).filterMap (rcmp1 l1 l2)) ∧ (U.take k).any (clash l1 l2) = false ∧ k ≤ U.length) (fun (k, oc) => U.length - k) (0, .slice none 0 0) ⟨rfl, rfl, rfl, rfl, rfl, rfl, trivial⟩ ⟨(hE.trans e8), (hu8).mono (by omega), OwC.nil _ _, rfl, Nat.zero_le _⟩ ?_
   rintro ⟨k, oc⟩ w8 ⟨hE8, hnl, hoc, hcl, hk⟩
   show WP _ _ _ _ _ [(0, u), (1, v), (9, oc), (35, v8), (36, .int .i64 (U.length : Nat)), (37, .int .i64 (k : Nat))] _
   have zE8 := hE8.size
   refine WP_seq ?_
   refine WP_region ?_
   refine O_lss rfl rfl rfl rfl rfl ?_
   refine WL_end [(0, _), (1, _), (9, _), (35, _), (36, _), (37, _), (38, _)] ⟨rfl, rfl, rfl, rfl, rfl, rfl, rfl, trivial⟩ ?_
   refine WP_seq ?_
   refine WP_condD rfl (fun c38 => ?_) (fun c38 => ?_)
   · --
    refine WP_skip ?_
    refine WP_seq ?_
    refine WP_block ?_
    refine WP_seq ?_
    have hkl : k < U.length := by omega
    have hmm : U[k] ∈ cmpU l1 l2 := by rw [← hU]; exact List.getElem_mem hkl
    · --
     skip
     refine WP_region ?_
     refine M_index M52 rfl rfl rfl rfl hnl.sl k rfl hkl ?_
     refine M_load Try.underlying9 rfl rfl rfl rfl hnl.sl hkl ?_
     refine O_assign rfl rfl rfl ?_
     refine WL_end [(0, _), (1, _), (9, _), (11, _), (35, _), (36, _), (37, _)] ⟨rfl, rfl, rfl, rfl, rfl, rfl, rfl, trivial⟩ ?_
     refine WP_seq ?_
     rcases cmp_cases hmm with ⟨x, y, hx, hy⟩ | ⟨x, hx, hy⟩ | ⟨y, hx, hy⟩
     · --
      skip
      refine WP_region ?_
      refine O_move rfl rfl rfl ?_
      refine O_move rfl rfl rfl ?_
      refine O_call enters84 rfl rfl rfl (rfind_S (hs1.ext hE8) (by (try simp only [lens]); omega) hx) (fun v9 w9 e9 h9 => ?_)
      have z9 := e9.size
      try simp only [val_dig] at h9
      obtain rfl := h9
      refine O_move rfl rfl rfl ?_
      refine O_extract rfl rfl rfl rfl ?_
      refine O_extract rfl rfl rfl rfl ?_
      refine O_alloc S74 rfl rfl (fun g10 w10 b10 e10 gl10 gh10 => ?_)
      have z10 := e10.size
      refine O_storeA (cs' := [_, _, _, _]) S74 rfl rfl rfl b10 rfl rfl (one_cons rfl (one_cons rfl (one_cons rfl (one_cons rfl one_nil)))) rfl (fun w11 b11 q11 => ?_)
      have z11 := Nat.le_of_eq q11.size.symm
      have e11 : Ext w w11 := q11.ext ((hE8.trans e9).trans e10) (by omega)
      have m12 := q11.ext e10 (by omega)
      refine O_assign rfl rfl rfl ?_
      refine WL_end [(0, _), (1, _), (9, _), (11, _), (12, _), (13, _), (35, _), (36, _), (37, _)] ⟨rfl, rfl, rfl, rfl, rfl, rfl, rfl, rfl, rfl, trivial⟩ ?_
      refine WP_seq ?_
      refine WP_region ?_
      refine O_move rfl rfl rfl ?_
      refine O_move rfl rfl rfl ?_
      refine O_call enters84 rfl rfl rfl (rfind_S (hs2.ext e11) (by (try simp only [lens]); omega) hy) (fun v13 w13 e13 h13 => ?_)
      have z13 := e13.size
      try simp only [val_dig] at h13
      obtain rfl := h13
      refine O_move rfl rfl rfl ?_
      refine O_extract rfl rfl rfl rfl ?_
      refine O_extract rfl rfl rfl rfl ?_
      refine O_alloc S74 rfl rfl (fun g14 w14 b14 e14 gl14 gh14 => ?_)
      have z14 := e14.size
      refine O_storeA (cs' := [_, _, _, _]) S74 rfl rfl rfl b14 rfl rfl (one_cons rfl (one_cons rfl (one_cons rfl (one_cons rfl one_nil)))) rfl (fun w15 b15 q15 => ?_)
      have z15 := Nat.le_of_eq q15.size.symm
      have e15 : Ext w w15 := q15.ext ((e11.trans e13).trans e14) (by omega)
      have m16 := q15.ext e14 (by omega)
      refine O_assign rfl rfl rfl ?_
      refine WL_end [(0, _), (1, _), (9, _), (11, _), (12, _), (13, _), (14, _), (15, _), (35, _), (36, _), (37, _)] ⟨rfl, rfl, rfl, rfl, rfl, rfl, rfl, rfl, rfl, rfl, rfl, trivial⟩ ?_
      refine WP_block ?_
      refine WP_seq ?_
      refine WP_region ?_
      refine O_move rfl rfl rfl ?_
      refine O_move rfl rfl rfl ?_
      refine O_move rfl rfl rfl ?_
      refine O_pickT rfl rfl rfl rfl ?_
      refine O_move rfl rfl rfl ?_
      refine O_field F74_3 rfl rfl rfl ?_
      refine O_loadC Try.underlying3 rfl rfl rfl rfl ((b11.ext e13).ext m16) rfl ?_
      refine O_field F74_2 rfl rfl rfl ?_
      refine O_loadC Try.underlying3 rfl rfl rfl rfl b15 rfl ?_
      refine O_neq rfl rfl rfl rfl rfl ?_
      refine O_pickT rfl rfl rfl rfl ?_
      refine O_assign rfl rfl rfl ?_
      refine WL_end [(0, _), (1, _), (9, _), (11, _), (12, _), (13, _), (14, _), (15, _), (35, _), (36, _), (37, _), (57, _)] ⟨rfl, rfl, rfl, rfl, rfl, rfl, rfl, rfl, rfl, rfl, rfl, rfl, trivial⟩ ?_
      refine WP_condN rfl (fun c57 => ?_) (fun c57 => ?_)
      · --
       refine WP_seq ?_
       refine WP_region ?_
       refine O_assign rfl rfl rfl ?_
       refine O_assign rfl rfl rfl ?_
       refine WL_end [(4, _), (5, _)] ⟨rfl, rfl, trivial⟩ ?_
       refine WP_ret ?_
       refine inBlk_ret ?_
       refine inBlk_ret ?_
       refine inBlk_ret ?_
       refine ret2 Try.results53 rfl rfl ?_
       first
         | exact ⟨_, rfl, e15, .inr ⟨hU ▸ any_at hkl (clash_T hx hy (by assumption)), rfl⟩⟩
         | (have hke : k = U.length := by omega
            subst hke
            rw [List.take_length] at hoc hcl
            rw [hU] at hoc hcl
            exact ⟨_, rfl, e15, .inl ⟨hcl, _, rfl, hoc⟩⟩)
      · --
       refine WP_seq ?_
       refine WP_region ?_
       refine O_move rfl rfl rfl ?_
       refine O_move rfl rfl rfl ?_
       refine O_move rfl rfl rfl ?_
       refine O_pickT rfl rfl rfl rfl ?_
       refine O_assign rfl rfl rfl ?_
       refine WL_end [(0, _), (1, _), (9, _), (11, _), (12, _), (13, _), (14, _), (35, _), (36, _), (37, _), (69, _)] ⟨rfl, rfl, rfl, rfl, rfl, rfl, rfl, rfl, rfl, rfl, rfl, trivial⟩ ?_
       refine WP_condT rfl ?_
       refine WP_seq ?_
       refine WP_region ?_
       refine O_move rfl rfl rfl ?_
       refine O_field F74_2 rfl rfl rfl ?_
       refine O_loadC Try.underlying3 rfl rfl rfl rfl ((b11.ext e13).ext m16) rfl ?_
       refine O_field F74_3 rfl rfl rfl ?_
       refine O_loadC Try.underlying3 rfl rfl rfl rfl b15 rfl ?_
       refine O_call enters85 rfl rfl rfl (rchange_c) (fun v17 w17 e17 h17 => ?_)
       have z17 := e17.size
       try simp only [val_dig] at h17
       obtain rfl := h17
       refine O_move rfl rfl rfl ?_
       refine O_extract rfl rfl rfl rfl ?_
       refine O_extract rfl rfl rfl rfl ?_
       refine O_alloc S74 rfl rfl (fun g18 w18 b18 e18 gl18 gh18 => ?_)
       have z18 := e18.size
       refine O_storeA (cs' := [_, _, _, _]) S74 rfl rfl rfl b18 rfl rfl (one_cons rfl (one_cons rfl (one_cons rfl (one_cons rfl one_nil)))) rfl (fun w19 b19 q19 => ?_)
       have z19 := Nat.le_of_eq q19.size.symm
       have e19 : Ext w w19 := q19.ext ((e15.trans e17).trans e18) (by omega)
       have m20 := q19.ext e18 (by omega)
       refine O_assign rfl rfl rfl ?_
       refine WL_end [(0, _), (1, _), (9, _), (16, _), (17, _), (35, _), (36, _), (37, _)] ⟨rfl, rfl, rfl, rfl, rfl, rfl, rfl, rfl, trivial⟩ ?_
       refine WP_seq ?_
       refine WP_region ?_
       refine O_move rfl rfl rfl ?_
       refine WL_end [(0, _), (1, _), (9, _), (16, _), (35, _), (36, _), (37, _), (83, _)] ⟨rfl, rfl, rfl, rfl, rfl, rfl, rfl, rfl, trivial⟩ ?_
       refine WP_condD rfl (fun c83 => ?_) (fun c83 => ?_)
       · --
        refine WP_region ?_
        refine O_move rfl rfl rfl ?_
        refine O_loadA (vs := [_, _, _, _]) S74 rfl rfl rfl b19 rfl rfl ?_
        refine C_lit1 (b := chOf U[k] x.2.2.1 y.2.2.2) Echange rfl rfl rfl (fun v21 w21 o21 e21 => ?_)
        have z21 := e21.size
        refine C_append Echange rfl rfl rfl rfl (((((((hoc.ext e9).ext m12).ext e13).ext m16).ext e17).ext m20).ext e21) o21.sl (by have hfl := List.length_filterMap_le (rcmp1 l1 l2) (U.take k); rw [List.length_take] at hfl; simp only [List.length_singleton]; omega) rfl (by omega) (fun v22 w22 o22 r22 k22 => ?_)
        have e22 : Ext w w22 := (((((((hoc.ext e9).ext m12).ext e13).ext m16).ext e17).ext m20).ext e21).ext_grown r22 (e19.trans e21) (by omega)
        have z22 := r22.size
        have x22 := OwC.grownT (((((((hoc.ext e9).ext m12).ext e13).ext m16).ext e17).ext m20).ext e21) r22
        refine O_assign rfl rfl rfl ?_
        refine WL_end [(0, _), (1, _), (9, _), (35, _), (36, _), (37, _)] ⟨rfl, rfl, rfl, rfl, rfl, rfl, trivial⟩ ?_
        refine WP_region ?_
        refine O_add rfl rfl rfl rfl (wrap_i64_id (by omega) (by omega)) ?_
        refine O_move rfl rfl rfl ?_
        refine WL_end [(0, _), (1, _), (9, _), (35, _), (36, _), (37, _)] ⟨rfl, rfl, rfl, rfl, rfl, rfl, trivial⟩ ?_
        first
          | exact ⟨(k + 1, _), ⟨rfl, rfl, rfl, rfl, rfl, rfl, trivial⟩, ⟨e22, ((((((((hnl.ext e9).ext m12).ext e13).ext m16).ext e17).ext m20).ext e21).extT x22 (by decide)), by rw [fmt_snoc hkl ((rcmp1_B hx hy).trans (chq_ne (by assumption)))]; exact o22, anyt_skip hkl hcl (clash_F hx hy (by assumption)), by omega⟩, by dsimp only; omega⟩
          | exact ⟨(k + 1, _), ⟨rfl, rfl, rfl, rfl, rfl, rfl, trivial⟩, ⟨e22, ((((((((hnl.ext e9).ext m12).ext e13).ext m16).ext e17).ext m20).ext e21).extT x22 (by decide)), by rw [fmt_skip hkl ((rcmp1_B hx hy).trans (chq_eq (by assumption)))]; exact o22, anyt_skip hkl hcl (clash_F hx hy (by assumption)), by omega⟩, by dsimp only; omega⟩
       · --
        refine WP_skip ?_
        refine WP_region ?_
        refine O_add rfl rfl rfl rfl (wrap_i64_id (by omega) (by omega)) ?_
        refine O_move rfl rfl rfl ?_
        refine WL_end [(0, _), (1, _), (9, _), (35, _), (36, _), (37, _)] ⟨rfl, rfl, rfl, rfl, rfl, rfl, trivial⟩ ?_
        first
          | exact ⟨(k + 1, _), ⟨rfl, rfl, rfl, rfl, rfl, rfl, trivial⟩, ⟨e19, ((((((hnl.ext e9).ext m12).ext e13).ext m16).ext e17).ext m20), by rw [fmt_snoc hkl ((rcmp1_B hx hy).trans (chq_ne (by assumption)))]; exact ((((((hoc.ext e9).ext m12).ext e13).ext m16).ext e17).ext m20), anyt_skip hkl hcl (clash_F hx hy (by assumption)), by omega⟩, by dsimp only; omega⟩
          | exact ⟨(k + 1, _), ⟨rfl, rfl, rfl, rfl, rfl, rfl, trivial⟩, ⟨e19, ((((((hnl.ext e9).ext m12).ext e13).ext m16).ext e17).ext m20), by rw [fmt_skip hkl ((rcmp1_B hx hy).trans (chq_eq (by assumption)))]; exact ((((((hoc.ext e9).ext m12).ext e13).ext m16).ext e17).ext m20), anyt_skip hkl hcl (clash_F hx hy (by assumption)), by omega⟩, by dsimp only; omega⟩
     · --
      skip
      refine WP_region ?_
      refine O_move rfl rfl rfl ?_
      refine O_move rfl rfl rfl ?_
      refine O_call enters84 rfl rfl rfl (rfind_S (hs1.ext hE8) (by (try simp only [lens]); omega) hx) (fun v23 w23 e23 h23 => ?_)
      have z23 := e23.size
      try simp only [val_dig] at h23
      obtain rfl := h23
      refine O_move rfl rfl rfl ?_
      refine O_extract rfl rfl rfl rfl ?_
      refine O_extract rfl rfl rfl rfl ?_
      refine O_alloc S74 rfl rfl (fun g24 w24 b24 e24 gl24 gh24 => ?_)
      have z24 := e24.size
      refine O_storeA (cs' := [_, _, _, _]) S74 rfl rfl rfl b24 rfl rfl (one_cons rfl (one_cons rfl (one_cons rfl (one_cons rfl one_nil)))) rfl (fun w25 b25 q25 => ?_)
      have z25 := Nat.le_of_eq q25.size.symm
      have e25 : Ext w w25 := q25.ext ((hE8.trans e23).trans e24) (by omega)
      have m26 := q25.ext e24 (by omega)
      refine O_assign rfl rfl rfl ?_
      refine WL_end [(0, _), (1, _), (9, _), (11, _), (12, _), (13, _), (35, _), (36, _), (37, _)] ⟨rfl, rfl, rfl, rfl, rfl, rfl, rfl, rfl, rfl, trivial⟩ ?_
      refine WP_seq ?_
      refine WP_region ?_
      refine O_move rfl rfl rfl ?_
      refine O_move rfl rfl rfl ?_
      refine O_call enters84 rfl rfl rfl (rfind_N (hs2.ext e25) (by (try simp only [lens]); omega) hy) (fun v27 w27 e27 h27 => ?_)
      have z27 := e27.size
      try simp only [val_dig] at h27
      obtain rfl := h27
      refine O_move rfl rfl rfl ?_
      refine O_extract rfl rfl rfl rfl ?_
      refine O_extract rfl rfl rfl rfl ?_
      refine O_alloc S74 rfl rfl (fun g28 w28 b28 e28 gl28 gh28 => ?_)
      have z28 := e28.size
      refine O_storeA (cs' := [_, _, _, _]) S74 rfl rfl rfl b28 rfl rfl (one_cons rfl (one_cons rfl (one_cons rfl (one_cons rfl one_nil)))) rfl (fun w29 b29 q29 => ?_)
      have z29 := Nat.le_of_eq q29.size.symm
      have e29 : Ext w w29 := q29.ext ((e25.trans e27).trans e28) (by omega)
      have m30 := q29.ext e28 (by omega)
      refine O_assign rfl rfl rfl ?_
      refine WL_end [(0, _), (1, _), (9, _), (11, _), (12, _), (13, _), (14, _), (15, _), (35, _), (36, _), (37, _)] ⟨rfl, rfl, rfl, rfl, rfl, rfl, rfl, rfl, rfl, rfl, rfl, trivial⟩ ?_
      refine WP_block ?_
      refine WP_seq ?_
      refine WP_region ?_
      refine O_move rfl rfl rfl ?_
      refine O_move rfl rfl rfl ?_
      refine O_move rfl rfl rfl ?_
      refine O_pickT rfl rfl rfl rfl ?_
      refine O_move rfl rfl rfl ?_
      refine O_skip rfl rfl ?_
      refine O_skip rfl rfl ?_
      refine O_skip rfl rfl ?_
      refine O_skip rfl rfl ?_
      refine O_skip rfl rfl ?_
      refine O_pickF rfl rfl rfl rfl ?_
      refine O_assign rfl rfl rfl ?_
      refine WL_end [(0, _), (1, _), (9, _), (11, _), (12, _), (13, _), (14, _), (15, _), (35, _), (36, _), (37, _), (57, _)] ⟨rfl, rfl, rfl, rfl, rfl, rfl, rfl, rfl, rfl, rfl, rfl, rfl, trivial⟩ ?_
      refine WP_condF rfl ?_
      refine WP_seq ?_
      refine WP_region ?_
      refine O_move rfl rfl rfl ?_
      refine O_move rfl rfl rfl ?_
      refine O_move rfl rfl rfl ?_
      refine O_pickT rfl rfl rfl rfl ?_
      refine O_assign rfl rfl rfl ?_
      refine WL_end [(0, _), (1, _), (9, _), (11, _), (12, _), (13, _), (14, _), (35, _), (36, _), (37, _), (69, _)] ⟨rfl, rfl, rfl, rfl, rfl, rfl, rfl, rfl, rfl, rfl, rfl, trivial⟩ ?_
      refine WP_condF rfl ?_
      refine WP_seq ?_
      refine WP_region ?_
      refine O_move rfl rfl rfl ?_
      refine O_assign rfl rfl rfl ?_
      refine WL_end [(0, _), (1, _), (9, _), (12, _), (14, _), (35, _), (36, _), (37, _), (88, _)] ⟨rfl, rfl, rfl, rfl, rfl, rfl, rfl, rfl, rfl, trivial⟩ ?_
      refine WP_condT rfl ?_
      refine WP_region ?_
      refine O_move rfl rfl rfl ?_
      refine O_loadA (vs := [_, _, _, _]) S74 rfl rfl rfl ((b25.ext e27).ext m30) rfl rfl ?_
      refine C_lit1 (b := x) Echange rfl rfl rfl (fun v31 w31 o31 e31 => ?_)
      have z31 := e31.size
      refine C_append Echange rfl rfl rfl rfl (((((hoc.ext e23).ext m26).ext e27).ext m30).ext e31) o31.sl (by have hfl := List.length_filterMap_le (rcmp1 l1 l2) (U.take k); rw [List.length_take] at hfl; simp only [List.length_singleton]; omega) rfl (by omega) (fun v32 w32 o32 r32 k32 => ?_)
      have e32 : Ext w w32 := (((((hoc.ext e23).ext m26).ext e27).ext m30).ext e31).ext_grown r32 (e29.trans e31) (by omega)
      have z32 := r32.size
      have x32 := OwC.grownT (((((hoc.ext e23).ext m26).ext e27).ext m30).ext e31) r32
      refine O_assign rfl rfl rfl ?_
      refine WL_end [(0, _), (1, _), (9, _), (35, _), (36, _), (37, _)] ⟨rfl, rfl, rfl, rfl, rfl, rfl, trivial⟩ ?_
      refine WP_region ?_
      refine O_add rfl rfl rfl rfl (wrap_i64_id (by omega) (by omega)) ?_
      refine O_move rfl rfl rfl ?_
      refine WL_end [(0, _), (1, _), (9, _), (35, _), (36, _), (37, _)] ⟨rfl, rfl, rfl, rfl, rfl, rfl, trivial⟩ ?_
      first
        | exact ⟨(k + 1, _), ⟨rfl, rfl, rfl, rfl, rfl, rfl, trivial⟩, ⟨e32, ((((((hnl.ext e23).ext m26).ext e27).ext m30).ext e31).extT x32 (by decide)), by rw [fmt_snoc hkl (rcmp1_X hx hy)]; exact o32, anyt_skip hkl hcl (clash_N2 hy), by omega⟩, by dsimp only; omega⟩
     · --
      skip
      refine WP_region ?_
      refine O_move rfl rfl rfl ?_
      refine O_move rfl rfl rfl ?_
      refine O_call enters84 rfl rfl rfl (rfind_N (hs1.ext hE8) (by (try simp only [lens]); omega) hx) (fun v33 w33 e33 h33 => ?_)
      have z33 := e33.size
      try simp only [val_dig] at h33
      obtain rfl := h33
      refine O_move rfl rfl rfl ?_
      refine O_extract rfl rfl rfl rfl ?_
      refine O_extract rfl rfl rfl rfl ?_
      refine O_alloc S74 rfl rfl (fun g34 w34 b34 e34 gl34 gh34 => ?_)
      have z34 := e34.size
      refine O_storeA (cs' := [_, _, _, _]) S74 rfl rfl rfl b34 rfl rfl (one_cons rfl (one_cons rfl (one_cons rfl (one_cons rfl one_nil)))) rfl (fun w35 b35 q35 => ?_)
      have z35 := Nat.le_of_eq q35.size.symm
      have e35 : Ext w w35 := q35.ext ((hE8.trans e33).trans e34) (by omega)
      have m36 := q35.ext e34 (by omega)
      refine O_assign rfl rfl rfl ?_
      refine WL_end [(0, _), (1, _), (9, _), (11, _), (12, _), (13, _), (35, _), (36, _), (37, _)] ⟨rfl, rfl, rfl, rfl, rfl, rfl, rfl, rfl, rfl, trivial⟩ ?_
      refine WP_seq ?_
      refine WP_region ?_
      refine O_move rfl rfl rfl ?_
      refine O_move rfl rfl rfl ?_
      refine O_call enters84 rfl rfl rfl (rfind_S (hs2.ext e35) (by (try simp only [lens]); omega) hy) (fun v37 w37 e37 h37 => ?_)
      have z37 := e37.size
      try simp only [val_dig] at h37
      obtain rfl := h37
      refine O_move rfl rfl rfl ?_
      refine O_extract rfl rfl rfl rfl ?_
      refine O_extract rfl rfl rfl rfl ?_
      refine O_alloc S74 rfl rfl (fun g38 w38 b38 e38 gl38 gh38 => ?_)
      have z38 := e38.size
      refine O_storeA (cs' := [_, _, _, _]) S74 rfl rfl rfl b38 rfl rfl (one_cons rfl (one_cons rfl (one_cons rfl (one_cons rfl one_nil)))) rfl (fun w39 b39 q39 => ?_)
      have z39 := Nat.le_of_eq q39.size.symm
      have e39 : Ext w w39 := q39.ext ((e35.trans e37).trans e38) (by omega)
      have m40 := q39.ext e38 (by omega)
      refine O_assign rfl rfl rfl ?_
      refine WL_end [(0, _), (1, _), (9, _), (11, _), (12, _), (13, _), (14, _), (15, _), (35, _), (36, _), (37, _)] ⟨rfl, rfl, rfl, rfl, rfl, rfl, rfl, rfl, rfl, rfl, rfl, trivial⟩ ?_
      refine WP_block ?_
      refine WP_seq ?_
      refine WP_region ?_
      refine O_move rfl rfl rfl ?_
      refine O_move rfl rfl rfl ?_
      refine O_skip rfl rfl ?_
      refine O_pickF rfl rfl rfl rfl ?_
      refine O_move rfl rfl rfl ?_
      refine O_skip rfl rfl ?_
      refine O_skip rfl rfl ?_
      refine O_skip rfl rfl ?_
      refine O_skip rfl rfl ?_
      refine O_skip rfl rfl ?_
      refine O_pickF rfl rfl rfl rfl ?_
      refine O_assign rfl rfl rfl ?_
      refine WL_end [(0, _), (1, _), (9, _), (11, _), (12, _), (13, _), (14, _), (15, _), (35, _), (36, _), (37, _), (57, _)] ⟨rfl, rfl, rfl, rfl, rfl, rfl, rfl, rfl, rfl, rfl, rfl, rfl, trivial⟩ ?_
      refine WP_condF rfl ?_
      refine WP_seq ?_
      refine WP_region ?_
      refine O_move rfl rfl rfl ?_
      refine O_move rfl rfl rfl ?_
      refine O_skip rfl rfl ?_
      refine O_pickF rfl rfl rfl rfl ?_
      refine O_assign rfl rfl rfl ?_
      refine WL_end [(0, _), (1, _), (9, _), (11, _), (12, _), (13, _), (14, _), (35, _), (36, _), (37, _), (69, _)] ⟨rfl, rfl, rfl, rfl, rfl, rfl, rfl, rfl, rfl, rfl, rfl, trivial⟩ ?_
      refine WP_condF rfl ?_
      refine WP_seq ?_
      refine WP_region ?_
      refine O_move rfl rfl rfl ?_
      refine O_assign rfl rfl rfl ?_
      refine WL_end [(0, _), (1, _), (9, _), (12, _), (14, _), (35, _), (36, _), (37, _), (88, _)] ⟨rfl, rfl, rfl, rfl, rfl, rfl, rfl, rfl, rfl, trivial⟩ ?_
      refine WP_condF rfl ?_
      refine WP_region ?_
      refine O_move rfl rfl rfl ?_
      refine O_loadA (vs := [_, _, _, _]) S74 rfl rfl rfl b39 rfl rfl ?_
      refine C_lit1 (b := y) Echange rfl rfl rfl (fun v41 w41 o41 e41 => ?_)
      have z41 := e41.size
      refine C_append Echange rfl rfl rfl rfl (((((hoc.ext e33).ext m36).ext e37).ext m40).ext e41) o41.sl (by have hfl := List.length_filterMap_le (rcmp1 l1 l2) (U.take k); rw [List.length_take] at hfl; simp only [List.length_singleton]; omega) rfl (by omega) (fun v42 w42 o42 r42 k42 => ?_)
      have e42 : Ext w w42 := (((((hoc.ext e33).ext m36).ext e37).ext m40).ext e41).ext_grown r42 (e39.trans e41) (by omega)
      have z42 := r42.size
      have x42 := OwC.grownT (((((hoc.ext e33).ext m36).ext e37).ext m40).ext e41) r42
      refine O_assign rfl rfl rfl ?_
      refine WL_end [(0, _), (1, _), (9, _), (35, _), (36, _), (37, _)] ⟨rfl, rfl, rfl, rfl, rfl, rfl, trivial⟩ ?_
      refine WP_region ?_
      refine O_add rfl rfl rfl rfl (wrap_i64_id (by omega) (by omega)) ?_
      refine O_move rfl rfl rfl ?_
      refine WL_end [(0, _), (1, _), (9, _), (35, _), (36, _), (37, _)] ⟨rfl, rfl, rfl, rfl, rfl, rfl, trivial⟩ ?_
      first
        | exact ⟨(k + 1, _), ⟨rfl, rfl, rfl, rfl, rfl, rfl, trivial⟩, ⟨e42, ((((((hnl.ext e33).ext m36).ext e37).ext m40).ext e41).extT x42 (by decide)), by rw [fmt_snoc hkl (rcmp1_Y hx hy)]; exact o42, anyt_skip hkl hcl (clash_N1 hx), by omega⟩, by dsimp only; omega⟩
   · --
    refine WP_exit ?_
    refine inBlk_hit ?_
    refine WP_seq ?_
    refine WP_region ?_
    refine O_move rfl rfl rfl ?_
    refine O_assign rfl rfl rfl ?_
    refine O_assign rfl rfl rfl ?_
    refine WL_end [(4, _), (5, _)] ⟨rfl, rfl, trivial⟩ ?_
    refine WP_ret ?_
    refine ret2 Try.results53 rfl rfl ?_
    first
      | exact ⟨_, rfl, hE8, .inr ⟨hU ▸ any_at hkl (clash_T hx hy (by assumption)), rfl⟩⟩
      | (have hke : k = U.length := by omega
         subst hke
         rw [List.take_length] at hoc hcl
         rw [hU] at hoc hcl
         exact ⟨_, rfl, hE8, .inl ⟨hcl, _, rfl, hoc⟩⟩)

end Go.Proofs.Ytoccimigjjndpaa
