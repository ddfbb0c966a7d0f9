/-
  Walks.
-/
import Derived.Test.YtoccimigjjndpaaStc
set_option linter.unusedVariables false
set_option linter.unusedSimpArgs false
set_option maxRecDepth 100000
namespace Go.Proofs.Ytoccimigjjndpaa
open Go Go.RowKit
set_option maxHeartbeats 1000000 in
theorem law_DiffValid {w : World} {rv u v : Value} {rl : List Ch} {l m : List Int} {p q b3 : Int} (hrv : SlC w rv rl) (hu : SlM fI w u l) (hv : SlM fI w v m) :
    Calls Try.prog 10 #[rv, u, v, .int .i64 p, .int .i64 q, .int .i64 b3] w (Ret w fun r _ => r = .bool true) := by
 refine enter (args := [rv, u, v, _, _, _]) Try.func10 rfl Try.ntmps10 rfl ?_
 refine WP_seq ?_
 refine WP_region ?_
 refine O_assign rfl rfl rfl ?_
 refine WL_end [(0, _), (1, _), (2, _), (3, _), (4, _), (5, _)] ⟨rfl, rfl, rfl, rfl, rfl, rfl, trivial⟩ ?_
 refine WP_seq ?_
 refine WP_seq ?_
 refine WP_region ?_
 refine O_call enters41 rfl rfl rfl (awake29_c) (fun v1 w1 e1 h1 => ?_)
 have z1 := e1.size
 obtain rfl := h1
 refine O_not rfl rfl rfl rfl ?_
 refine WL_end [(0, _), (1, _), (2, _), (3, _), (4, _), (5, _), (17, _)] ⟨rfl, rfl, rfl, rfl, rfl, rfl, rfl, trivial⟩ ?_
 refine WP_condF rfl ?_
 refine WP_skip ?_
 refine WP_seq ?_
 refine WP_seq ?_
 refine WP_region ?_
 refine O_move rfl rfl rfl ?_
 refine C_len Echange rfl rfl rfl (hrv.ext e1) ?_
 refine O_gtr rfl rfl rfl rfl rfl ?_
 refine O_move rfl rfl rfl ?_
 refine WL_dec 21 rfl (fun g21 => ?_) (fun g21 => ?_)
 · --
  refine O_skip rfl rfl ?_
  refine O_skip rfl rfl ?_
  refine O_skip rfl rfl ?_
  refine O_pickT rfl rfl rfl rfl ?_
  refine O_move rfl rfl rfl ?_
  refine O_skip rfl rfl ?_
  refine O_skip rfl rfl ?_
  refine O_skip rfl rfl ?_
  refine O_pickT rfl rfl rfl rfl ?_
  refine WL_end [(0, _), (1, _), (2, _), (3, _), (4, _), (5, _), (30, _)] ⟨rfl, rfl, rfl, rfl, rfl, rfl, rfl, trivial⟩ ?_
  refine WP_condT rfl ?_
  refine WP_seq ?_
  refine WP_region ?_
  refine O_assign rfl rfl rfl ?_
  refine WL_end [(12, _)] ⟨rfl, trivial⟩ ?_
  refine WP_ret ?_
  refine ret1 Try.results10 rfl ?_
  exact ⟨_, rfl, e1, rfl⟩
 · --
  refine O_move rfl rfl rfl ?_
  refine M_len M22 rfl rfl rfl (hu.ext e1) ?_
  refine O_gtr rfl rfl rfl rfl rfl ?_
  refine O_pickF rfl rfl rfl rfl ?_
  refine O_move rfl rfl rfl ?_
  refine WL_dec 26 rfl (fun g26 => ?_) (fun g26 => ?_)
  · --
   refine O_skip rfl rfl ?_
   refine O_skip rfl rfl ?_
   refine O_skip rfl rfl ?_
   refine O_pickT rfl rfl rfl rfl ?_
   refine WL_end [(0, _), (1, _), (2, _), (3, _), (4, _), (5, _), (30, _)] ⟨rfl, rfl, rfl, rfl, rfl, rfl, rfl, trivial⟩ ?_
   refine WP_condT rfl ?_
   refine WP_seq ?_
   refine WP_region ?_
   refine O_assign rfl rfl rfl ?_
   refine WL_end [(12, _)] ⟨rfl, trivial⟩ ?_
   refine WP_ret ?_
   refine ret1 Try.results10 rfl ?_
   exact ⟨_, rfl, e1, rfl⟩
  · --
   refine O_move rfl rfl rfl ?_
   refine M_len M22 rfl rfl rfl (hv.ext e1) ?_
   refine O_gtr rfl rfl rfl rfl rfl ?_
   refine O_pickF rfl rfl rfl rfl ?_
   refine WL_end [(0, _), (1, _), (2, _), (3, _), (4, _), (5, _), (30, _)] ⟨rfl, rfl, rfl, rfl, rfl, rfl, rfl, trivial⟩ ?_
   refine WP_condD rfl (fun c30 => ?_) (fun c30 => ?_)
   · --
    refine WP_seq ?_
    refine WP_region ?_
    refine O_assign rfl rfl rfl ?_
    refine WL_end [(12, _)] ⟨rfl, trivial⟩ ?_
    refine WP_ret ?_
    refine ret1 Try.results10 rfl ?_
    exact ⟨_, rfl, e1, rfl⟩
   · --
    refine WP_skip ?_
    refine WP_seq ?_
    refine WP_seq ?_
    refine WP_region ?_
    refine O_move rfl rfl rfl ?_
    refine C_len Echange rfl rfl rfl (hrv.ext e1) ?_
    refine O_move rfl rfl rfl ?_
    refine WL_end [(0, _), (1, _), (2, _), (3, _), (4, _), (5, _), (32, _), (33, _)] ⟨rfl, rfl, rfl, rfl, rfl, rfl, rfl, rfl, trivial⟩ ?_
    refine WP_block ?_
    refine WP_loop (S := Nat) (fun i => [(0, rv), (1, u), (2, v), (3, .int .i64 p), (4, .int .i64 q), (5, .int .i64 b3), (32, .int .i64 (rl.length : Nat)), (33, .int .i64 (i : Nat))]) (fun i w' => Ext w w' ∧ i ≤ rl.length) (fun i => rl.length - i) 0 ⟨rfl, rfl, rfl, rfl, rfl, rfl, rfl, rfl, trivial⟩ ⟨e1, Nat.zero_le _⟩ ?_
    rintro i w9 ⟨hE, hi⟩
    have zE := hE.size
    refine WP_seq ?_
    refine WP_region ?_
    refine O_lss rfl rfl rfl rfl rfl ?_
    refine WL_end [(0, _), (1, _), (2, _), (3, _), (4, _), (5, _), (32, _), (33, _), (34, _)] ⟨rfl, rfl, rfl, rfl, rfl, rfl, rfl, rfl, rfl, trivial⟩ ?_
    refine WP_seq ?_
    refine WP_condD rfl (fun c34 => ?_) (fun c34 => ?_)
    · --
     refine WP_skip ?_
     refine WP_seq ?_
     refine WP_block ?_
     refine WP_seq ?_
     refine WP_region ?_
     refine O_move rfl rfl rfl ?_
     refine O_assign rfl rfl rfl ?_
     refine WL_end [(0, _), (1, _), (2, _), (3, _), (4, _), (5, _), (13, _), (32, _), (33, _)] ⟨rfl, rfl, rfl, rfl, rfl, rfl, rfl, rfl, rfl, trivial⟩ ?_
     refine WP_seq ?_
     have hilt : i < rl.length := by omega
     · --
      skip
      refine WP_region ?_
      refine O_move rfl rfl rfl ?_
      refine O_move rfl rfl rfl ?_
      refine C_index Echange rfl rfl rfl rfl (hrv.ext hE) i rfl hilt (fun _ => ?_)
      refine K_field F74_1 rfl rfl rfl ?_
      refine B_cell Try.underlying9 rfl rfl rfl rfl (SlC.row (j := i) (hrv.ext hE) hilt) rfl ?_
      refine O_lenS Try.underlying9 rfl rfl rfl ?_
      refine O_gtr rfl rfl rfl rfl rfl ?_
      refine WL_end [(0, _), (1, _), (2, _), (3, _), (4, _), (5, _), (32, _), (33, _), (42, _)] ⟨rfl, rfl, rfl, rfl, rfl, rfl, rfl, rfl, rfl, trivial⟩ ?_
      refine WP_condD rfl (fun c42 => ?_) (fun c42 => ?_)
      · --
       refine WP_seq ?_
       refine WP_region ?_
       refine O_assign rfl rfl rfl ?_
       refine WL_end [(12, _)] ⟨rfl, trivial⟩ ?_
       refine WP_ret ?_
       refine inBlk_ret ?_
       refine inBlk_ret ?_
       refine ret1 Try.results10 rfl ?_
       exact ⟨_, rfl, hE, rfl⟩
      · --
       refine WP_skip ?_
       refine WP_region ?_
       refine O_add rfl rfl rfl rfl (wrap_i64_id (by omega) (by omega)) ?_
       refine O_move rfl rfl rfl ?_
       refine WL_end [(0, _), (1, _), (2, _), (3, _), (4, _), (5, _), (32, _), (33, _)] ⟨rfl, rfl, rfl, rfl, rfl, rfl, rfl, rfl, trivial⟩ ?_
       exact ⟨i + 1, ⟨rfl, rfl, rfl, rfl, rfl, rfl, rfl, rfl, trivial⟩, ⟨hE, by omega⟩, by omega⟩
    · --
     refine WP_exit ?_
     refine inBlk_hit ?_
     refine WP_seq ?_
     refine WP_region ?_
     refine O_move rfl rfl rfl ?_
     refine O_call enters42 rfl rfl rfl (list29_c (hu.ext hE) (by (try simp only [lens]); omega)) (fun v2 w2 e2 h2 => ?_)
     have z2 := e2.size
     obtain ⟨x, hx0, Lx⟩ := h2
     have hx : OwB w.heap.size _ _ x := hx0.mono (by omega)
     obtain ⟨Ax, Px, Nx, Kx⟩ := Lx
     refine O_move rfl rfl rfl ?_
     refine O_call enters42 rfl rfl rfl (list29_c (hv.ext (hE.trans e2)) (by (try simp only [lens]); omega)) (fun v3 w3 e3 h3 => ?_)
     have z3 := e3.size
     obtain ⟨y, hy0, Ly⟩ := h3
     have hy : OwB w.heap.size _ _ y := hy0.mono (by omega)
     obtain ⟨Ay, Py, Ny, Ky⟩ := Ly
     refine O_call enters47 rfl rfl rfl (rbetween_c (hx.ext e3).sl hy.sl Ax Ay (by (try simp only [lens]); omega)) (fun v4 w4 e4 h4 => ?_)
     have z4 := e4.size
     have k4 := h4
     rw [rbetw_eq Ax Ay Px Py] at k4
     have bl := betw_len x y
     have bnm := betw_names Nx Ny
     obtain ⟨N, hN9⟩ : ∃ N, N = betw x y := ⟨_, rfl⟩
     rw [← hN9] at bl bnm k4
     refine O_assign rfl rfl rfl ?_
     refine WL_end [(0, _), (3, _), (4, _), (5, _), (14, _)] ⟨rfl, rfl, rfl, rfl, rfl, trivial⟩ ?_
     refine WP_seq ?_
     refine WP_seq ?_
     refine WP_region ?_
     refine O_move rfl rfl rfl ?_
     refine O_call enters49 rfl rfl rfl (format_c k4.sl (by (try simp only [lens]); omega) (fun c hc => by have := bnm c hc; omega) (by have := fmt_len bnm; omega)) (fun v5 w5 e5 h5 => ?_)
     have z5 := e5.size
     obtain rfl := h5
     refine O_move rfl rfl rfl ?_
     refine O_call enters50 rfl rfl rfl (rformat_c (k4.ext e5).sl (by (try simp only [lens]); omega) (fun c hc => by have := bnm c hc; omega) (fun i => by have := frm_size bnm i; omega)) (fun v6 w6 e6 h6 => ?_)
     have z6 := e6.size
     obtain rfl := h6
     refine O_sneqB (tb := false) rfl rfl rfl rfl (by rw [frm_fmt, decide_eq_true rfl]; rfl) ?_
     refine WL_end [(0, _), (3, _), (4, _), (5, _), (14, _), (53, _)] ⟨rfl, rfl, rfl, rfl, rfl, rfl, trivial⟩ ?_
     refine WP_condF rfl ?_
     refine WP_skip ?_
     refine WP_seq ?_
     refine WP_seq ?_
     refine WP_region ?_
     refine O_move rfl rfl rfl ?_
     refine C_len Echange rfl rfl rfl ((k4.ext e5).ext e6).sl ?_
     refine O_gtr rfl rfl rfl rfl rfl ?_
     refine WL_end [(0, _), (3, _), (4, _), (5, _), (14, _), (56, _)] ⟨rfl, rfl, rfl, rfl, rfl, rfl, trivial⟩ ?_
     refine WP_condD rfl (fun c56 => ?_) (fun c56 => ?_)
     · --
      refine WP_seq ?_
      refine WP_region ?_
      refine O_move rfl rfl rfl ?_
      refine O_move rfl rfl rfl ?_
      refine C_len Echange rfl rfl rfl ((k4.ext e5).ext e6).sl ?_
      refine O_call enters18 rfl rfl rfl (modN_c (by (try simp only [lens]); omega) (by (try simp only [lens]); omega)) (fun v7 w7 e7 h7 => ?_)
      have z7 := e7.size
      obtain ⟨kn, rfl, hkn⟩ := h7
      refine O_assign rfl rfl rfl ?_
      refine WL_end [(0, _), (4, _), (5, _), (14, _), (15, _)] ⟨rfl, rfl, rfl, rfl, rfl, trivial⟩ ?_
      refine WP_seq ?_
      refine WP_region ?_
      refine O_move rfl rfl rfl ?_
      refine O_call enters18 rfl rfl rfl (modN_c (by (try simp only [lens]); omega) (by (try simp only [lens]); omega)) (fun v8 w8 e8 h8 => ?_)
      have z8 := e8.size
      obtain ⟨fn, rfl, hfn⟩ := h8
      refine WL_end [(0, _), (5, _), (14, _), (15, _), (62, _)] ⟨rfl, rfl, rfl, rfl, rfl, trivial⟩ ?_
      refine WP_block ?_
      refine WP_seq ?_
      refine WP_region ?_
      refine O_eql rfl rfl rfl rfl rfl ?_
      refine O_assign rfl rfl rfl ?_
      refine WL_end [(0, _), (5, _), (14, _), (15, _), (62, _), (67, _)] ⟨rfl, rfl, rfl, rfl, rfl, rfl, trivial⟩ ?_
      refine WP_condD rfl (fun c67 => ?_) (fun c67 => ?_)
      · --
       have hkl : kn < N.length := by omega
       · --
        skip
        refine WP_region ?_
        refine O_move rfl rfl rfl ?_
        refine O_move rfl rfl rfl ?_
        refine O_move rfl rfl rfl ?_
        refine C_index Echange rfl rfl rfl rfl ((((k4.ext e5).ext e6).ext e7).ext e8).sl kn rfl hkl (fun _ => ?_)
        refine K_field F74_0 rfl rfl rfl ?_
        refine C_storeF (k := kn) (off := 0) (c' := (b3, N[kn].2.1, N[kn].2.2.1, N[kn].2.2.2)) one3 rfl rfl rfl rfl ((((k4.ext e5).ext e6).ext e7).ext e8) hkl (by decide) rfl (fun w70 o70 q70 b70 => ?_)
        have z70 := Nat.le_of_eq q70.size.symm
        have e70 : Ext w w70 := q70.ext (((((((hE.trans e2).trans e3).trans e4).trans e5).trans e6).trans e7).trans e8) (by omega)
        have x70 := OwC.chgT ((((k4.ext e5).ext e6).ext e7).ext e8) (by intro e; rw [e] at hkl; exact absurd hkl (by simp)) q70
        refine WL_end [(0, _), (14, _)] ⟨rfl, rfl, trivial⟩ ?_
        refine WP_seq ?_
        refine WP_region ?_
        refine O_move rfl rfl rfl ?_
        refine O_call enters48 rfl rfl rfl (cvalid_c (hrv.ext e70) (by first | omega | (rw [List.length_set]; omega))) (fun v9 w9 e9 h9 => ?_)
        have z9 := e9.size
        obtain rfl := h9
        refine O_move rfl rfl rfl ?_
        refine O_call enters51 rfl rfl rfl (rcvalid_c (hrv.ext (e70.trans e9)) (by first | omega | (rw [List.length_set]; omega))) (fun v10 w10 e10 h10 => ?_)
        have z10 := e10.size
        obtain rfl := h10
        refine O_beql Try.underlying4 (t := true) rfl rfl rfl rfl (by simp) ?_
        refine O_move rfl rfl rfl ?_
        refine O_move rfl rfl rfl ?_
        refine O_call enters48 rfl rfl rfl (cvalid_c ((o70.ext e9).ext e10).sl (by first | omega | (rw [List.length_set]; omega))) (fun v11 w11 e11 h11 => ?_)
        have z11 := e11.size
        obtain rfl := h11
        refine O_move rfl rfl rfl ?_
        refine O_call enters51 rfl rfl rfl (rcvalid_c (((o70.ext e9).ext e10).ext e11).sl (by first | omega | (rw [List.length_set]; omega))) (fun v12 w12 e12 h12 => ?_)
        have z12 := e12.size
        obtain rfl := h12
        refine O_beql Try.underlying4 (t := true) rfl rfl rfl rfl (by simp) ?_
        refine O_pickT rfl rfl rfl rfl ?_
        refine O_assign rfl rfl rfl ?_
        refine WL_end [(12, _)] ⟨rfl, trivial⟩ ?_
        refine WP_ret ?_
        refine ret1 Try.results10 rfl ?_
        exact ⟨_, rfl, ((((e70.trans e9).trans e10).trans e11).trans e12), rfl⟩
      · --
       refine WP_seq ?_
       refine WP_region ?_
       refine O_eql rfl rfl rfl rfl rfl ?_
       refine O_assign rfl rfl rfl ?_
       refine WL_end [(0, _), (5, _), (14, _), (15, _), (62, _), (74, _)] ⟨rfl, rfl, rfl, rfl, rfl, rfl, trivial⟩ ?_
       refine WP_condD rfl (fun c74 => ?_) (fun c74 => ?_)
       · --
        have hkl : kn < N.length := by omega
        · --
         skip
         refine WP_region ?_
         refine O_move rfl rfl rfl ?_
         refine O_move rfl rfl rfl ?_
         refine O_move rfl rfl rfl ?_
         refine C_index Echange rfl rfl rfl rfl ((((k4.ext e5).ext e6).ext e7).ext e8).sl kn rfl hkl (fun _ => ?_)
         refine K_field F74_2 rfl rfl rfl ?_
         refine C_storeF (k := kn) (off := 2) (c' := (N[kn].1, N[kn].2.1, b3, N[kn].2.2.2)) one3 rfl rfl rfl rfl ((((k4.ext e5).ext e6).ext e7).ext e8) hkl (by decide) rfl (fun w70 o70 q70 b70 => ?_)
         have z70 := Nat.le_of_eq q70.size.symm
         have e70 : Ext w w70 := q70.ext (((((((hE.trans e2).trans e3).trans e4).trans e5).trans e6).trans e7).trans e8) (by omega)
         have x70 := OwC.chgT ((((k4.ext e5).ext e6).ext e7).ext e8) (by intro e; rw [e] at hkl; exact absurd hkl (by simp)) q70
         refine WL_end [(0, _), (14, _)] ⟨rfl, rfl, trivial⟩ ?_
         refine WP_seq ?_
         refine WP_region ?_
         refine O_move rfl rfl rfl ?_
         refine O_call enters48 rfl rfl rfl (cvalid_c (hrv.ext e70) (by first | omega | (rw [List.length_set]; omega))) (fun v13 w13 e13 h13 => ?_)
         have z13 := e13.size
         obtain rfl := h13
         refine O_move rfl rfl rfl ?_
         refine O_call enters51 rfl rfl rfl (rcvalid_c (hrv.ext (e70.trans e13)) (by first | omega | (rw [List.length_set]; omega))) (fun v14 w14 e14 h14 => ?_)
         have z14 := e14.size
         obtain rfl := h14
         refine O_beql Try.underlying4 (t := true) rfl rfl rfl rfl (by simp) ?_
         refine O_move rfl rfl rfl ?_
         refine O_move rfl rfl rfl ?_
         refine O_call enters48 rfl rfl rfl (cvalid_c ((o70.ext e13).ext e14).sl (by first | omega | (rw [List.length_set]; omega))) (fun v15 w15 e15 h15 => ?_)
         have z15 := e15.size
         obtain rfl := h15
         refine O_move rfl rfl rfl ?_
         refine O_call enters51 rfl rfl rfl (rcvalid_c (((o70.ext e13).ext e14).ext e15).sl (by first | omega | (rw [List.length_set]; omega))) (fun v16 w16 e16 h16 => ?_)
         have z16 := e16.size
         obtain rfl := h16
         refine O_beql Try.underlying4 (t := true) rfl rfl rfl rfl (by simp) ?_
         refine O_pickT rfl rfl rfl rfl ?_
         refine O_assign rfl rfl rfl ?_
         refine WL_end [(12, _)] ⟨rfl, trivial⟩ ?_
         refine WP_ret ?_
         refine ret1 Try.results10 rfl ?_
         exact ⟨_, rfl, ((((e70.trans e13).trans e14).trans e15).trans e16), rfl⟩
       · --
        refine WP_seq ?_
        refine WP_region ?_
        refine O_eql rfl rfl rfl rfl rfl ?_
        refine O_assign rfl rfl rfl ?_
        refine WL_end [(0, _), (5, _), (14, _), (15, _), (81, _)] ⟨rfl, rfl, rfl, rfl, rfl, trivial⟩ ?_
        refine WP_condD rfl (fun c81 => ?_) (fun c81 => ?_)
        · --
         have hkl : kn < N.length := by omega
         · --
          skip
          refine WP_region ?_
          refine O_move rfl rfl rfl ?_
          refine O_move rfl rfl rfl ?_
          refine O_move rfl rfl rfl ?_
          refine C_index Echange rfl rfl rfl rfl ((((k4.ext e5).ext e6).ext e7).ext e8).sl kn rfl hkl (fun _ => ?_)
          refine K_field F74_3 rfl rfl rfl ?_
          refine C_storeF (k := kn) (off := 3) (c' := (N[kn].1, N[kn].2.1, N[kn].2.2.1, b3)) one3 rfl rfl rfl rfl ((((k4.ext e5).ext e6).ext e7).ext e8) hkl (by decide) rfl (fun w70 o70 q70 b70 => ?_)
          have z70 := Nat.le_of_eq q70.size.symm
          have e70 : Ext w w70 := q70.ext (((((((hE.trans e2).trans e3).trans e4).trans e5).trans e6).trans e7).trans e8) (by omega)
          have x70 := OwC.chgT ((((k4.ext e5).ext e6).ext e7).ext e8) (by intro e; rw [e] at hkl; exact absurd hkl (by simp)) q70
          refine WL_end [(0, _), (14, _)] ⟨rfl, rfl, trivial⟩ ?_
          refine WP_seq ?_
          refine WP_region ?_
          refine O_move rfl rfl rfl ?_
          refine O_call enters48 rfl rfl rfl (cvalid_c (hrv.ext e70) (by first | omega | (rw [List.length_set]; omega))) (fun v17 w17 e17 h17 => ?_)
          have z17 := e17.size
          obtain rfl := h17
          refine O_move rfl rfl rfl ?_
          refine O_call enters51 rfl rfl rfl (rcvalid_c (hrv.ext (e70.trans e17)) (by first | omega | (rw [List.length_set]; omega))) (fun v18 w18 e18 h18 => ?_)
          have z18 := e18.size
          obtain rfl := h18
          refine O_beql Try.underlying4 (t := true) rfl rfl rfl rfl (by simp) ?_
          refine O_move rfl rfl rfl ?_
          refine O_move rfl rfl rfl ?_
          refine O_call enters48 rfl rfl rfl (cvalid_c ((o70.ext e17).ext e18).sl (by first | omega | (rw [List.length_set]; omega))) (fun v19 w19 e19 h19 => ?_)
          have z19 := e19.size
          obtain rfl := h19
          refine O_move rfl rfl rfl ?_
          refine O_call enters51 rfl rfl rfl (rcvalid_c (((o70.ext e17).ext e18).ext e19).sl (by first | omega | (rw [List.length_set]; omega))) (fun v20 w20 e20 h20 => ?_)
          have z20 := e20.size
          obtain rfl := h20
          refine O_beql Try.underlying4 (t := true) rfl rfl rfl rfl (by simp) ?_
          refine O_pickT rfl rfl rfl rfl ?_
          refine O_assign rfl rfl rfl ?_
          refine WL_end [(12, _)] ⟨rfl, trivial⟩ ?_
          refine WP_ret ?_
          refine ret1 Try.results10 rfl ?_
          exact ⟨_, rfl, ((((e70.trans e17).trans e18).trans e19).trans e20), rfl⟩
        · --
         have hkl : kn < N.length := by omega
         · --
          skip
          refine WP_region ?_
          refine O_move rfl rfl rfl ?_
          refine O_move rfl rfl rfl ?_
          refine C_index Echange rfl rfl rfl rfl ((((k4.ext e5).ext e6).ext e7).ext e8).sl kn rfl hkl (fun _ => ?_)
          refine K_field F74_1 rfl rfl rfl ?_
          refine C_storeF (k := kn) (off := 1) (c' := (N[kn].1, ⟨#[101]⟩, N[kn].2.2.1, N[kn].2.2.2)) one9 rfl rfl rfl rfl ((((k4.ext e5).ext e6).ext e7).ext e8) hkl (by decide) rfl (fun w70 o70 q70 b70 => ?_)
          have z70 := Nat.le_of_eq q70.size.symm
          have e70 : Ext w w70 := q70.ext (((((((hE.trans e2).trans e3).trans e4).trans e5).trans e6).trans e7).trans e8) (by omega)
          have x70 := OwC.chgT ((((k4.ext e5).ext e6).ext e7).ext e8) (by intro e; rw [e] at hkl; exact absurd hkl (by simp)) q70
          refine WL_end [(0, _), (14, _)] ⟨rfl, rfl, trivial⟩ ?_
          refine WP_seq ?_
          refine WP_region ?_
          refine O_move rfl rfl rfl ?_
          refine O_call enters48 rfl rfl rfl (cvalid_c (hrv.ext e70) (by first | omega | (rw [List.length_set]; omega))) (fun v21 w21 e21 h21 => ?_)
          have z21 := e21.size
          obtain rfl := h21
          refine O_move rfl rfl rfl ?_
          refine O_call enters51 rfl rfl rfl (rcvalid_c (hrv.ext (e70.trans e21)) (by first | omega | (rw [List.length_set]; omega))) (fun v22 w22 e22 h22 => ?_)
          have z22 := e22.size
          obtain rfl := h22
          refine O_beql Try.underlying4 (t := true) rfl rfl rfl rfl (by simp) ?_
          refine O_move rfl rfl rfl ?_
          refine O_move rfl rfl rfl ?_
          refine O_call enters48 rfl rfl rfl (cvalid_c ((o70.ext e21).ext e22).sl (by first | omega | (rw [List.length_set]; omega))) (fun v23 w23 e23 h23 => ?_)
          have z23 := e23.size
          obtain rfl := h23
          refine O_move rfl rfl rfl ?_
          refine O_call enters51 rfl rfl rfl (rcvalid_c (((o70.ext e21).ext e22).ext e23).sl (by first | omega | (rw [List.length_set]; omega))) (fun v24 w24 e24 h24 => ?_)
          have z24 := e24.size
          obtain rfl := h24
          refine O_beql Try.underlying4 (t := true) rfl rfl rfl rfl (by simp) ?_
          refine O_pickT rfl rfl rfl rfl ?_
          refine O_assign rfl rfl rfl ?_
          refine WL_end [(12, _)] ⟨rfl, trivial⟩ ?_
          refine WP_ret ?_
          refine ret1 Try.results10 rfl ?_
          exact ⟨_, rfl, ((((e70.trans e21).trans e22).trans e23).trans e24), rfl⟩
     · --
      refine WP_skip ?_
      refine WP_seq ?_
      refine WP_region ?_
      refine O_move rfl rfl rfl ?_
      refine O_call enters48 rfl rfl rfl (cvalid_c (hrv.ext (((((hE.trans e2).trans e3).trans e4).trans e5).trans e6)) (by first | omega | (rw [List.length_set]; omega))) (fun v25 w25 e25 h25 => ?_)
      have z25 := e25.size
      obtain rfl := h25
      refine O_move rfl rfl rfl ?_
      refine O_call enters51 rfl rfl rfl (rcvalid_c (hrv.ext ((((((hE.trans e2).trans e3).trans e4).trans e5).trans e6).trans e25)) (by first | omega | (rw [List.length_set]; omega))) (fun v26 w26 e26 h26 => ?_)
      have z26 := e26.size
      obtain rfl := h26
      refine O_beql Try.underlying4 (t := true) rfl rfl rfl rfl (by simp) ?_
      refine O_move rfl rfl rfl ?_
      refine O_move rfl rfl rfl ?_
      refine O_call enters48 rfl rfl rfl (cvalid_c ((((k4.ext e5).ext e6).ext e25).ext e26).sl (by first | omega | (rw [List.length_set]; omega))) (fun v27 w27 e27 h27 => ?_)
      have z27 := e27.size
      obtain rfl := h27
      refine O_move rfl rfl rfl ?_
      refine O_call enters51 rfl rfl rfl (rcvalid_c (((((k4.ext e5).ext e6).ext e25).ext e26).ext e27).sl (by first | omega | (rw [List.length_set]; omega))) (fun v28 w28 e28 h28 => ?_)
      have z28 := e28.size
      obtain rfl := h28
      refine O_beql Try.underlying4 (t := true) rfl rfl rfl rfl (by simp) ?_
      refine O_pickT rfl rfl rfl rfl ?_
      refine O_assign rfl rfl rfl ?_
      refine WL_end [(12, _)] ⟨rfl, trivial⟩ ?_
      refine WP_ret ?_
      refine ret1 Try.results10 rfl ?_
      exact ⟨_, rfl, (((((((((hE.trans e2).trans e3).trans e4).trans e5).trans e6).trans e25).trans e26).trans e27).trans e28), rfl⟩

end Go.Proofs.Ytoccimigjjndpaa
