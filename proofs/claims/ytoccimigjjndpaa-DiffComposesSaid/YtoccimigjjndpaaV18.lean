/-
  Walks.
-/
import Derived.Test.YtoccimigjjndpaaV16
import Derived.Test.YtoccimigjjndpaaV17
import Derived.Test.YtoccimigjjndpaaV8
set_option linter.unusedVariables false
set_option linter.unusedSimpArgs false
set_option maxRecDepth 100000
namespace Go.Proofs.Ytoccimigjjndpaa
open Go Go.RowKit
theorem cmpL_len (l1 l2 : List Ch) : (cmpL l1 l2).length ≤ l1.length + l2.length := by
  have h1 := List.length_filterMap_le (cmp1 l1 l2) (cmpU l1 l2)
  have h2 := mergeN_len [cnms l1, cnms l2]
  have h3 : totN [cnms l1, cnms l2] = l1.length + l2.length := by simp [totN, cnms]
  rw [h3] at h2
  exact Nat.le_trans h1 h2
theorem cmp_ref {x y q z : Env} : (cmpU (betw x y) (betw q z)).filterMap (rcmp1 (betw x y) (betw q z)) = cmpL (betw x y) (betw q z) :=
  filterMap_same fun s hs => rcmp1_eq hs
theorem no_clashA (x y z : Env) : ¬ (cmpU (betw x y) (betw y z)).any (clash (betw x y) (betw y z)) = true := fun h => by
  have h1 := no_clash x y z
  rw [List.all_eq_true] at h1
  obtain ⟨s, hs, hc⟩ := List.any_eq_true.1 h
  have h2 := h1 s hs
  rw [hc] at h2
  cases h2

set_option maxHeartbeats 1000000 in
theorem law_DiffComposes {w : World} {pa pb pc pd : Value} {la lb lc ld : List Int} (hpa : SlM fI w pa la) (hpb : SlM fI w pb lb) (hpc : SlM fI w pc lc) (hpd : SlM fI w pd ld) :
    Calls Try.prog 11 #[pa, pb, pc, pd] w (Ret w fun r _ => r = .bool true) := by
 refine enter (args := [pa, pb, pc, pd]) Try.func11 rfl Try.ntmps11 rfl ?_
 refine WP_seq ?_
 refine WP_region ?_
 refine O_assign rfl rfl rfl ?_
 refine WL_end [(0, _), (1, _), (2, _), (3, _)] ⟨rfl, rfl, rfl, rfl, trivial⟩ ?_
 refine WP_seq ?_
 refine WP_seq ?_
 refine WP_region ?_
 refine O_call enters41 rfl rfl rfl (awake29_c) (fun v1 w1 e1 h1 => ?_)
 have z1 := e1.size
 obtain rfl := h1
 refine O_not rfl rfl rfl rfl ?_
 refine WL_end [(0, _), (1, _), (2, _), (3, _), (20, _)] ⟨rfl, rfl, rfl, rfl, rfl, trivial⟩ ?_
 refine WP_condF rfl ?_
 refine WP_skip ?_
 refine WP_seq ?_
 refine WP_seq ?_
 refine WP_region ?_
 refine O_move rfl rfl rfl ?_
 refine M_len M22 rfl rfl rfl (hpa.ext e1) ?_
 refine O_gtr rfl rfl rfl rfl rfl ?_
 refine O_move rfl rfl rfl ?_
 refine WL_dec 24 rfl (fun g24 => ?_) (fun g24 => ?_)
 · --
  refine O_skip rfl rfl ?_
  refine O_skip rfl rfl ?_
  refine O_skip rfl rfl ?_
  refine O_pickT rfl rfl rfl rfl ?_
  refine O_move rfl rfl rfl ?_
  refine O_skip rfl rfl ?_
  refine O_skip rfl rfl ?_
  refine O_skip rfl rfl ?_
  refine O_pickT rfl rfl rfl rfl ?_
  refine O_move rfl rfl rfl ?_
  refine O_skip rfl rfl ?_
  refine O_skip rfl rfl ?_
  refine O_skip rfl rfl ?_
  refine O_pickT rfl rfl rfl rfl ?_
  refine WL_end [(0, _), (1, _), (2, _), (3, _), (38, _)] ⟨rfl, rfl, rfl, rfl, rfl, trivial⟩ ?_
  refine WP_condT rfl ?_
  refine WP_seq ?_
  refine WP_region ?_
  refine O_assign rfl rfl rfl ?_
  refine WL_end [(8, _)] ⟨rfl, trivial⟩ ?_
  refine WP_ret ?_
  refine ret1 Try.results11 rfl ?_
  exact ⟨_, rfl, e1, rfl⟩
 · --
  refine O_move rfl rfl rfl ?_
  refine M_len M22 rfl rfl rfl (hpb.ext e1) ?_
  refine O_gtr rfl rfl rfl rfl rfl ?_
  refine O_pickF rfl rfl rfl rfl ?_
  refine O_move rfl rfl rfl ?_
  refine WL_dec 29 rfl (fun g29 => ?_) (fun g29 => ?_)
  · --
   refine O_skip rfl rfl ?_
   refine O_skip rfl rfl ?_
   refine O_skip rfl rfl ?_
   refine O_pickT rfl rfl rfl rfl ?_
   refine O_move rfl rfl rfl ?_
   refine O_skip rfl rfl ?_
   refine O_skip rfl rfl ?_
   refine O_skip rfl rfl ?_
   refine O_pickT rfl rfl rfl rfl ?_
   refine WL_end [(0, _), (1, _), (2, _), (3, _), (38, _)] ⟨rfl, rfl, rfl, rfl, rfl, trivial⟩ ?_
   refine WP_condT rfl ?_
   refine WP_seq ?_
   refine WP_region ?_
   refine O_assign rfl rfl rfl ?_
   refine WL_end [(8, _)] ⟨rfl, trivial⟩ ?_
   refine WP_ret ?_
   refine ret1 Try.results11 rfl ?_
   exact ⟨_, rfl, e1, rfl⟩
  · --
   refine O_move rfl rfl rfl ?_
   refine M_len M22 rfl rfl rfl (hpc.ext e1) ?_
   refine O_gtr rfl rfl rfl rfl rfl ?_
   refine O_pickF rfl rfl rfl rfl ?_
   refine O_move rfl rfl rfl ?_
   refine WL_dec 34 rfl (fun g34 => ?_) (fun g34 => ?_)
   · --
    refine O_skip rfl rfl ?_
    refine O_skip rfl rfl ?_
    refine O_skip rfl rfl ?_
    refine O_pickT rfl rfl rfl rfl ?_
    refine WL_end [(0, _), (1, _), (2, _), (3, _), (38, _)] ⟨rfl, rfl, rfl, rfl, rfl, trivial⟩ ?_
    refine WP_condT rfl ?_
    refine WP_seq ?_
    refine WP_region ?_
    refine O_assign rfl rfl rfl ?_
    refine WL_end [(8, _)] ⟨rfl, trivial⟩ ?_
    refine WP_ret ?_
    refine ret1 Try.results11 rfl ?_
    exact ⟨_, rfl, e1, rfl⟩
   · --
    refine O_move rfl rfl rfl ?_
    refine M_len M22 rfl rfl rfl (hpd.ext e1) ?_
    refine O_gtr rfl rfl rfl rfl rfl ?_
    refine O_pickF rfl rfl rfl rfl ?_
    refine WL_end [(0, _), (1, _), (2, _), (3, _), (38, _)] ⟨rfl, rfl, rfl, rfl, rfl, trivial⟩ ?_
    refine WP_condD rfl (fun c38 => ?_) (fun c38 => ?_)
    · --
     refine WP_seq ?_
     refine WP_region ?_
     refine O_assign rfl rfl rfl ?_
     refine WL_end [(8, _)] ⟨rfl, trivial⟩ ?_
     refine WP_ret ?_
     refine ret1 Try.results11 rfl ?_
     exact ⟨_, rfl, e1, rfl⟩
    · --
     refine WP_skip ?_
     refine WP_seq ?_
     refine WP_region ?_
     refine O_move rfl rfl rfl ?_
     refine O_call enters42 rfl rfl rfl (list29_c (hpa.ext e1) (by (try simp only [lens]); omega)) (fun v2 w2 e2 h2 => ?_)
     have z2 := e2.size
     obtain ⟨x, hx0, Lx⟩ := h2
     have hx : OwB w.heap.size _ _ x := hx0.mono (by omega)
     obtain ⟨Ax, Px, Nx, Kx⟩ := Lx
     refine O_move rfl rfl rfl ?_
     refine O_call enters42 rfl rfl rfl (list29_c (hpb.ext (e1.trans e2)) (by (try simp only [lens]); omega)) (fun v3 w3 e3 h3 => ?_)
     have z3 := e3.size
     obtain ⟨y, hy0, Ly⟩ := h3
     have hy : OwB w.heap.size _ _ y := hy0.mono (by omega)
     obtain ⟨Ay, Py, Ny, Ky⟩ := Ly
     refine O_move rfl rfl rfl ?_
     refine O_call enters42 rfl rfl rfl (list29_c (hpc.ext ((e1.trans e2).trans e3)) (by (try simp only [lens]); omega)) (fun v4 w4 e4 h4 => ?_)
     have z4 := e4.size
     obtain ⟨z, hz0, Lz⟩ := h4
     have hz : OwB w.heap.size _ _ z := hz0.mono (by omega)
     obtain ⟨Az, Pz, Nz, Kz⟩ := Lz
     refine O_move rfl rfl rfl ?_
     refine O_call enters42 rfl rfl rfl (list29_c (hpd.ext (((e1.trans e2).trans e3).trans e4)) (by (try simp only [lens]); omega)) (fun v5 w5 e5 h5 => ?_)
     have z5 := e5.size
     obtain ⟨q, hq0, Lq⟩ := h5
     have hq : OwB w.heap.size _ _ q := hq0.mono (by omega)
     obtain ⟨Aq, Pq, Nq, Kq⟩ := Lq
     refine O_assign rfl rfl rfl ?_
     refine O_assign rfl rfl rfl ?_
     refine O_assign rfl rfl rfl ?_
     refine O_assign rfl rfl rfl ?_
     refine WL_end [(9, _), (10, _), (11, _), (12, _)] ⟨rfl, rfl, rfl, rfl, trivial⟩ ?_
     refine WP_seq ?_
     have bl1 := betw_len x y
     have bl2 := betw_len y z
     have bl3 := betw_len q z
     have bl4 := betw_len x z
     · --
      skip
      refine WP_region ?_
      refine O_move rfl rfl rfl ?_
      refine O_move rfl rfl rfl ?_
      refine O_call enters47 rfl rfl rfl (rbetween_c (((hx.ext e3).ext e4).ext e5).sl ((hy.ext e4).ext e5).sl Ax Ay (by (try simp only [lens]); omega)) (fun v6 w6 e6 h6 => ?_)
      have z6 := e6.size
      have k6 := h6
      rw [rbetw_eq Ax Ay Px Py] at k6
      refine O_move rfl rfl rfl ?_
      refine O_move rfl rfl rfl ?_
      refine O_call enters47 rfl rfl rfl (rbetween_c (((hy.ext e4).ext e5).ext e6).sl ((hz.ext e5).ext e6).sl Ay Az (by (try simp only [lens]); omega)) (fun v7 w7 e7 h7 => ?_)
      have z7 := e7.size
      have k7 := h7
      rw [rbetw_eq Ay Az Py Pz] at k7
      refine O_call enters52 rfl rfl rfl (compose_c (k6.ext e7).sl k7.sl (by (try simp only [lens]); omega) (by (try simp only [lens]); omega)) (fun v8 w8 e8 h8 => ?_)
      have z8 := e8.size
      obtain ⟨hnc, x8, rfl, hO8⟩ | ⟨hcl, _⟩ := h8
      rotate_left
      · exact absurd hcl (no_clashA x y z)
      rw [cmp_betw Ax Ay Az] at hO8
      refine O_move rfl rfl rfl ?_
      refine O_extract rfl rfl rfl rfl ?_
      refine O_extract rfl rfl rfl rfl ?_
      refine O_assign rfl rfl rfl ?_
      refine O_assign rfl rfl rfl ?_
      refine WL_end [(9, _), (10, _), (11, _), (12, _), (13, _), (14, _)] ⟨rfl, rfl, rfl, rfl, rfl, rfl, trivial⟩ ?_
      refine WP_seq ?_
      by_cases hcl9 : (cmpU (betw x y) (betw q z)).any (clash (betw x y) (betw q z)) = true
      · --
       skip
       refine WP_region ?_
       refine O_move rfl rfl rfl ?_
       refine O_move rfl rfl rfl ?_
       refine O_call enters47 rfl rfl rfl (rbetween_c ((((((hx.ext e3).ext e4).ext e5).ext e6).ext e7).ext e8).sl (((((hy.ext e4).ext e5).ext e6).ext e7).ext e8).sl Ax Ay (by (try simp only [lens]); omega)) (fun v9 w9 e9 h9 => ?_)
       have z9 := e9.size
       have k9 := h9
       rw [rbetw_eq Ax Ay Px Py] at k9
       refine O_move rfl rfl rfl ?_
       refine O_move rfl rfl rfl ?_
       refine O_call enters47 rfl rfl rfl (rbetween_c ((((hq.ext e6).ext e7).ext e8).ext e9).sl (((((hz.ext e5).ext e6).ext e7).ext e8).ext e9).sl Aq Az (by (try simp only [lens]); omega)) (fun v10 w10 e10 h10 => ?_)
       have z10 := e10.size
       have k10 := h10
       rw [rbetw_eq Aq Az Pq Pz] at k10
       refine O_call enters52 rfl rfl rfl (compose_c (k9.ext e10).sl k10.sl (by (try simp only [lens]); omega) (by (try simp only [lens]); omega)) (fun v11 w11 e11 h11 => ?_)
       have z11 := e11.size
       obtain ⟨hnc, _⟩ | ⟨_, rfl⟩ := h11
       · rw [hcl9] at hnc; cases hnc
       refine O_move rfl rfl rfl ?_
       refine O_extract rfl rfl rfl rfl ?_
       refine O_extract rfl rfl rfl rfl ?_
       refine O_assign rfl rfl rfl ?_
       refine O_assign rfl rfl rfl ?_
       refine WL_end [(9, _), (10, _), (11, _), (12, _), (13, _), (14, _), (15, _), (16, _)] ⟨rfl, rfl, rfl, rfl, rfl, rfl, rfl, rfl, trivial⟩ ?_
       refine WP_seq ?_
       refine WP_region ?_
       refine O_move rfl rfl rfl ?_
       refine O_move rfl rfl rfl ?_
       refine O_call enters47 rfl rfl rfl (rbetween_c (((((((((hx.ext e3).ext e4).ext e5).ext e6).ext e7).ext e8).ext e9).ext e10).ext e11).sl ((((((((hy.ext e4).ext e5).ext e6).ext e7).ext e8).ext e9).ext e10).ext e11).sl Ax Ay (by (try simp only [lens]); omega)) (fun v12 w12 e12 h12 => ?_)
       have z12 := e12.size
       have k12 := h12
       rw [rbetw_eq Ax Ay Px Py] at k12
       refine O_move rfl rfl rfl ?_
       refine O_move rfl rfl rfl ?_
       refine O_call enters47 rfl rfl rfl (rbetween_c (((((((hq.ext e6).ext e7).ext e8).ext e9).ext e10).ext e11).ext e12).sl ((((((((hz.ext e5).ext e6).ext e7).ext e8).ext e9).ext e10).ext e11).ext e12).sl Aq Az (by (try simp only [lens]); omega)) (fun v13 w13 e13 h13 => ?_)
       have z13 := e13.size
       have k13 := h13
       rw [rbetw_eq Aq Az Pq Pz] at k13
       refine O_call enters53 rfl rfl rfl (rcompose_c (k12.ext e13).sl k13.sl (by (try simp only [lens]); omega) (by (try simp only [lens]); omega) (betw_asc Ax Ay) (betw_asc Aq Az)) (fun v14 w14 e14 h14 => ?_)
       have z14 := e14.size
       obtain ⟨hnc, _⟩ | ⟨_, rfl⟩ := h14
       · rw [hcl9] at hnc; cases hnc
       refine O_move rfl rfl rfl ?_
       refine O_extract rfl rfl rfl rfl ?_
       refine O_extract rfl rfl rfl rfl ?_
       refine O_assign rfl rfl rfl ?_
       refine O_assign rfl rfl rfl ?_
       refine WL_end [(9, _), (11, _), (13, _), (14, _), (15, _), (16, _), (17, _), (18, _)] ⟨rfl, rfl, rfl, rfl, rfl, rfl, rfl, rfl, trivial⟩ ?_
       refine WP_seq ?_
       refine WP_region ?_
       refine O_move rfl rfl rfl ?_
       refine O_eql (t := true) rfl rfl rfl rfl (decide_eq_true rfl) ?_
       refine O_move rfl rfl rfl ?_
       refine O_move rfl rfl rfl ?_
       refine O_move rfl rfl rfl ?_
       refine O_move rfl rfl rfl ?_
       refine O_call enters47 rfl rfl rfl (rbetween_c ((((((((((((hx.ext e3).ext e4).ext e5).ext e6).ext e7).ext e8).ext e9).ext e10).ext e11).ext e12).ext e13).ext e14).sl ((((((((((hz.ext e5).ext e6).ext e7).ext e8).ext e9).ext e10).ext e11).ext e12).ext e13).ext e14).sl Ax Az (by (try simp only [lens]); omega)) (fun v15 w15 e15 h15 => ?_)
       have z15 := e15.size
       have k15 := h15
       rw [rbetw_eq Ax Az Px Pz] at k15
       refine O_call enters46 rfl rfl rfl (samech_T (((((((hO8.ext e9).ext e10).ext e11).ext e12).ext e13).ext e14).ext e15).sl k15.sl (by (try simp only [lens]); omega) rfl) (fun v16 w16 e16 h16 => ?_)
       have z16 := e16.size
       obtain rfl := h16
       refine O_pickT rfl rfl rfl rfl ?_
       refine O_move rfl rfl rfl ?_
       refine O_move rfl rfl rfl ?_
       refine O_eql (t := false) rfl rfl rfl rfl (decide_eq_false (by decide)) ?_
       refine O_move rfl rfl rfl ?_
       refine O_beql Try.underlying4 rfl rfl rfl rfl rfl ?_
       refine O_pickT rfl rfl rfl rfl ?_
       refine O_move rfl rfl rfl ?_
       refine O_move rfl rfl rfl ?_
       refine O_move rfl rfl rfl ?_
       refine O_call enters46 rfl rfl rfl (samech_T (SlC.nil _) (SlC.nil _) (by decide) rfl) (fun v17 w17 e17 h17 => ?_)
       have z17 := e17.size
       obtain rfl := h17
       refine O_pickT rfl rfl rfl rfl ?_
       refine O_move rfl rfl rfl ?_
       refine O_move rfl rfl rfl ?_
       refine O_eql (t := false) rfl rfl rfl rfl (decide_eq_false (by decide)) ?_
       refine O_move rfl rfl rfl ?_
       refine O_move rfl rfl rfl ?_
       refine O_eql (t := true) rfl rfl rfl rfl (decide_eq_true rfl) ?_
       refine O_pickF rfl rfl rfl rfl ?_
       refine O_pickT rfl rfl rfl rfl ?_
       refine O_assign rfl rfl rfl ?_
       refine WL_end [(8, _)] ⟨rfl, trivial⟩ ?_
       refine WP_ret ?_
       refine ret1 Try.results11 rfl ?_
       exact ⟨_, rfl, ((((((((((((((((e1.trans e2).trans e3).trans e4).trans e5).trans e6).trans e7).trans e8).trans e9).trans e10).trans e11).trans e12).trans e13).trans e14).trans e15).trans e16).trans e17), rfl⟩
      · --
       skip
       refine WP_region ?_
       refine O_move rfl rfl rfl ?_
       refine O_move rfl rfl rfl ?_
       refine O_call enters47 rfl rfl rfl (rbetween_c ((((((hx.ext e3).ext e4).ext e5).ext e6).ext e7).ext e8).sl (((((hy.ext e4).ext e5).ext e6).ext e7).ext e8).sl Ax Ay (by (try simp only [lens]); omega)) (fun v18 w18 e18 h18 => ?_)
       have z18 := e18.size
       have k18 := h18
       rw [rbetw_eq Ax Ay Px Py] at k18
       refine O_move rfl rfl rfl ?_
       refine O_move rfl rfl rfl ?_
       refine O_call enters47 rfl rfl rfl (rbetween_c ((((hq.ext e6).ext e7).ext e8).ext e18).sl (((((hz.ext e5).ext e6).ext e7).ext e8).ext e18).sl Aq Az (by (try simp only [lens]); omega)) (fun v19 w19 e19 h19 => ?_)
       have z19 := e19.size
       have k19 := h19
       rw [rbetw_eq Aq Az Pq Pz] at k19
       refine O_call enters52 rfl rfl rfl (compose_c (k18.ext e19).sl k19.sl (by (try simp only [lens]); omega) (by (try simp only [lens]); omega)) (fun v20 w20 e20 h20 => ?_)
       have z20 := e20.size
       obtain ⟨hnc, x20, rfl, hO20⟩ | ⟨hcl, _⟩ := h20
       rotate_left
       · exact absurd hcl hcl9
       refine O_move rfl rfl rfl ?_
       refine O_extract rfl rfl rfl rfl ?_
       refine O_extract rfl rfl rfl rfl ?_
       refine O_assign rfl rfl rfl ?_
       refine O_assign rfl rfl rfl ?_
       refine WL_end [(9, _), (10, _), (11, _), (12, _), (13, _), (14, _), (15, _), (16, _)] ⟨rfl, rfl, rfl, rfl, rfl, rfl, rfl, rfl, trivial⟩ ?_
       refine WP_seq ?_
       refine WP_region ?_
       refine O_move rfl rfl rfl ?_
       refine O_move rfl rfl rfl ?_
       refine O_call enters47 rfl rfl rfl (rbetween_c (((((((((hx.ext e3).ext e4).ext e5).ext e6).ext e7).ext e8).ext e18).ext e19).ext e20).sl ((((((((hy.ext e4).ext e5).ext e6).ext e7).ext e8).ext e18).ext e19).ext e20).sl Ax Ay (by (try simp only [lens]); omega)) (fun v21 w21 e21 h21 => ?_)
       have z21 := e21.size
       have k21 := h21
       rw [rbetw_eq Ax Ay Px Py] at k21
       refine O_move rfl rfl rfl ?_
       refine O_move rfl rfl rfl ?_
       refine O_call enters47 rfl rfl rfl (rbetween_c (((((((hq.ext e6).ext e7).ext e8).ext e18).ext e19).ext e20).ext e21).sl ((((((((hz.ext e5).ext e6).ext e7).ext e8).ext e18).ext e19).ext e20).ext e21).sl Aq Az (by (try simp only [lens]); omega)) (fun v22 w22 e22 h22 => ?_)
       have z22 := e22.size
       have k22 := h22
       rw [rbetw_eq Aq Az Pq Pz] at k22
       refine O_call enters53 rfl rfl rfl (rcompose_c (k21.ext e22).sl k22.sl (by (try simp only [lens]); omega) (by (try simp only [lens]); omega) (betw_asc Ax Ay) (betw_asc Aq Az)) (fun v23 w23 e23 h23 => ?_)
       have z23 := e23.size
       obtain ⟨hnc, x23, rfl, hO23⟩ | ⟨hcl, _⟩ := h23
       rotate_left
       · exact absurd hcl hcl9
       rw [cmp_ref] at hO23
       refine O_move rfl rfl rfl ?_
       refine O_extract rfl rfl rfl rfl ?_
       refine O_extract rfl rfl rfl rfl ?_
       refine O_assign rfl rfl rfl ?_
       refine O_assign rfl rfl rfl ?_
       refine WL_end [(9, _), (11, _), (13, _), (14, _), (15, _), (16, _), (17, _), (18, _)] ⟨rfl, rfl, rfl, rfl, rfl, rfl, rfl, rfl, trivial⟩ ?_
       refine WP_seq ?_
       refine WP_region ?_
       refine O_move rfl rfl rfl ?_
       refine O_eql (t := true) rfl rfl rfl rfl (decide_eq_true rfl) ?_
       refine O_move rfl rfl rfl ?_
       refine O_move rfl rfl rfl ?_
       refine O_move rfl rfl rfl ?_
       refine O_move rfl rfl rfl ?_
       refine O_call enters47 rfl rfl rfl (rbetween_c ((((((((((((hx.ext e3).ext e4).ext e5).ext e6).ext e7).ext e8).ext e18).ext e19).ext e20).ext e21).ext e22).ext e23).sl ((((((((((hz.ext e5).ext e6).ext e7).ext e8).ext e18).ext e19).ext e20).ext e21).ext e22).ext e23).sl Ax Az (by (try simp only [lens]); omega)) (fun v24 w24 e24 h24 => ?_)
       have z24 := e24.size
       have k24 := h24
       rw [rbetw_eq Ax Az Px Pz] at k24
       refine O_call enters46 rfl rfl rfl (samech_T (((((((hO8.ext e18).ext e19).ext e20).ext e21).ext e22).ext e23).ext e24).sl k24.sl (by (try simp only [lens]); omega) rfl) (fun v25 w25 e25 h25 => ?_)
       have z25 := e25.size
       obtain rfl := h25
       refine O_pickT rfl rfl rfl rfl ?_
       refine O_move rfl rfl rfl ?_
       refine O_move rfl rfl rfl ?_
       refine O_eql (t := true) rfl rfl rfl rfl (decide_eq_true rfl) ?_
       refine O_move rfl rfl rfl ?_
       refine O_beql Try.underlying4 rfl rfl rfl rfl rfl ?_
       refine O_pickT rfl rfl rfl rfl ?_
       refine O_move rfl rfl rfl ?_
       refine O_move rfl rfl rfl ?_
       refine O_move rfl rfl rfl ?_
       refine O_call enters46 rfl rfl rfl (samech_T (((((hO20.ext e21).ext e22).ext e23).ext e24).ext e25).sl ((hO23.ext e24).ext e25).sl (by have := cmpL_len (betw x y) (betw q z); omega) rfl) (fun v26 w26 e26 h26 => ?_)
       have z26 := e26.size
       obtain rfl := h26
       refine O_pickT rfl rfl rfl rfl ?_
       refine O_move rfl rfl rfl ?_
       refine O_move rfl rfl rfl ?_
       refine O_eql (t := true) rfl rfl rfl rfl (decide_eq_true rfl) ?_
       refine O_move rfl rfl rfl ?_
       refine O_skip rfl rfl ?_
       refine O_skip rfl rfl ?_
       refine O_pickT rfl rfl rfl rfl ?_
       refine O_pickT rfl rfl rfl rfl ?_
       refine O_assign rfl rfl rfl ?_
       refine WL_end [(8, _)] ⟨rfl, trivial⟩ ?_
       refine WP_ret ?_
       refine ret1 Try.results11 rfl ?_
       exact ⟨_, rfl, ((((((((((((((((e1.trans e2).trans e3).trans e4).trans e5).trans e6).trans e7).trans e8).trans e18).trans e19).trans e20).trans e21).trans e22).trans e23).trans e24).trans e25).trans e26), rfl⟩

end Go.Proofs.Ytoccimigjjndpaa
