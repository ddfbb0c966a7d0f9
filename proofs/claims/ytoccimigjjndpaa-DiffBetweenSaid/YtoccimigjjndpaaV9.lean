/-
  Walks.
-/
import Derived.Test.YtoccimigjjndpaaV8
set_option linter.unusedVariables false
set_option linter.unusedSimpArgs false
set_option maxRecDepth 100000
namespace Go.Proofs.Ytoccimigjjndpaa
open Go Go.RowKit
set_option maxHeartbeats 1000000 in
theorem law_DiffBetween {w : World} {u v : Value} {l m : List Int} (hu : SlM fI w u l) (hv : SlM fI w v m) :
    Calls Try.prog 9 #[u, v] w (Ret w fun r _ => r = .bool true) := by
 refine enter (args := [u, v]) Try.func9 rfl Try.ntmps9 rfl ?_
 refine WP_seq ?_
 refine WP_region ?_
 refine O_assign rfl rfl rfl ?_
 refine WL_end [(0, _), (1, _)] ⟨rfl, rfl, trivial⟩ ?_
 refine WP_seq ?_
 refine WP_seq ?_
 refine WP_region ?_
 refine O_call enters41 rfl rfl rfl (awake29_c) (fun v1 w1 e1 h1 => ?_)
 have z1 := e1.size
 obtain rfl := h1
 refine O_not rfl rfl rfl rfl ?_
 refine WL_end [(0, _), (1, _), (10, _)] ⟨rfl, rfl, rfl, trivial⟩ ?_
 refine WP_condF rfl ?_
 refine WP_skip ?_
 refine WP_seq ?_
 refine WP_seq ?_
 refine WP_region ?_
 refine O_move rfl rfl rfl ?_
 refine M_len M22 rfl rfl rfl (hu.ext e1) ?_
 refine O_gtr rfl rfl rfl rfl rfl ?_
 refine O_move rfl rfl rfl ?_
 refine WL_dec 14 rfl (fun g14 => ?_) (fun g14 => ?_)
 · --
  refine O_skip rfl rfl ?_
  refine O_skip rfl rfl ?_
  refine O_skip rfl rfl ?_
  refine O_pickT rfl rfl rfl rfl ?_
  refine WL_end [(0, _), (1, _), (18, _)] ⟨rfl, rfl, rfl, trivial⟩ ?_
  refine WP_condT rfl ?_
  refine WP_seq ?_
  refine WP_region ?_
  refine O_assign rfl rfl rfl ?_
  refine WL_end [(4, _)] ⟨rfl, trivial⟩ ?_
  refine WP_ret ?_
  refine ret1 Try.results9 rfl ?_
  exact ⟨_, rfl, e1, rfl⟩
 · --
  refine O_move rfl rfl rfl ?_
  refine M_len M22 rfl rfl rfl (hv.ext e1) ?_
  refine O_gtr rfl rfl rfl rfl rfl ?_
  refine O_pickF rfl rfl rfl rfl ?_
  refine WL_end [(0, _), (1, _), (18, _)] ⟨rfl, rfl, rfl, trivial⟩ ?_
  refine WP_condD rfl (fun c18 => ?_) (fun c18 => ?_)
  · --
   refine WP_seq ?_
   refine WP_region ?_
   refine O_assign rfl rfl rfl ?_
   refine WL_end [(4, _)] ⟨rfl, trivial⟩ ?_
   refine WP_ret ?_
   refine ret1 Try.results9 rfl ?_
   exact ⟨_, rfl, e1, rfl⟩
  · --
   refine WP_skip ?_
   refine WP_seq ?_
   refine WP_region ?_
   refine O_move rfl rfl rfl ?_
   refine O_call enters42 rfl rfl rfl (list29_c (hu.ext e1) (by (try simp only [lens]); omega)) (fun v2 w2 e2 h2 => ?_)
   have z2 := e2.size
   obtain ⟨x, hx0, Lx⟩ := h2
   have hx : OwB w.heap.size _ _ x := hx0.mono (by omega)
   obtain ⟨Ax, Px, Nx, Kx⟩ := Lx
   refine O_move rfl rfl rfl ?_
   refine O_call enters42 rfl rfl rfl (list29_c (hv.ext (e1.trans e2)) (by (try simp only [lens]); omega)) (fun v3 w3 e3 h3 => ?_)
   have z3 := e3.size
   obtain ⟨y, hy0, Ly⟩ := h3
   have hy : OwB w.heap.size _ _ y := hy0.mono (by omega)
   obtain ⟨Ay, Py, Ny, Ky⟩ := Ly
   refine O_assign rfl rfl rfl ?_
   refine O_assign rfl rfl rfl ?_
   refine WL_end [(5, _), (6, _)] ⟨rfl, rfl, trivial⟩ ?_
   refine WP_seq ?_
   refine WP_region ?_
   refine O_call enters43 rfl rfl rfl (New_c) (fun v4 w4 e4 h4 => ?_)
   have z4 := e4.size
   obtain ⟨gf, rfl, hF0, hg0, hg1⟩ := h4
   have hG0 : FG w.heap.size w4 gf [] := ⟨gf, hF0, by omega, by omega⟩
   refine O_assign rfl rfl rfl ?_
   refine WL_end [(5, _), (6, _), (7, _)] ⟨rfl, rfl, rfl, trivial⟩ ?_
   refine WP_seq ?_
   refine WP_region ?_
   refine O_move rfl rfl rfl ?_
   refine O_move rfl rfl rfl ?_
   refine O_move rfl rfl rfl ?_
   have hpl5 : ([] : List Part).length ≤ 100000 := by simp only [List.length_append, List.length_nil]; omega
   refine O_callR enters45 rfl rfl rfl (built_c (ps := []) (((e1.trans e2).trans e3).trans e4) hG0 ((hx.ext e3).ext e4) Ax (by omega) (by omega)) (fun e5 w5 hb5 => ?_)
   obtain ⟨qs, is, s, rfl, hT5, hE5, hF5, hqs, hRs, hOs, hAs, hvs⟩ := hb5
   refine ⟨_, rfl, ?_⟩
   have zT5 := hT5.size
   have hcs := Tr.env_length s
   rw [hvs] at hcs
   have hhs := bigB s hAs (by omega)
   refine O_move rfl rfl rfl ?_
   refine O_move rfl rfl rfl ?_
   have hpl6 : (([] ++ qs) : List Part).length ≤ 100000 := by simp only [List.length_append, List.length_nil]; omega
   refine O_callR enters45 rfl rfl rfl (built_c (ps := ([] ++ qs)) hE5 hF5 ((hy.ext e4).extT hT5 (by decide)) Ay (by omega) (by omega)) (fun e6 w6 hb6 => ?_)
   obtain ⟨qt, it, t, rfl, hT6, hE6, hF6, hqt, hRt, hOt, hAt, hvt⟩ := hb6
   refine ⟨_, rfl, ?_⟩
   replace hRs := hRs.more (qs := qt)
   have zT6 := hT6.size
   have hct := Tr.env_length t
   rw [hvt] at hct
   have hht := bigB t hAt (by omega)
   refine O_call enters44 rfl rfl rfl (between_c hF6 hRs hOs hRt hOt (by (try simp only [lens]); omega)) (fun v7 w7 e7 h7 => ?_)
   have z7 := e7.size
   have k7 := h7
   rw [hvs, hvt] at k7
   have blxy := betw_len x y
   refine O_assign rfl rfl rfl ?_
   refine WL_end [(5, _), (6, _), (7, _), (8, _)] ⟨rfl, rfl, rfl, rfl, trivial⟩ ?_
   refine WP_seq ?_
   refine WP_region ?_
   refine O_move rfl rfl rfl ?_
   refine O_move rfl rfl rfl ?_
   refine O_move rfl rfl rfl ?_
   refine O_call enters47 rfl rfl rfl (rbetween_c (((((hx.ext e3).ext e4).extT hT5 (by decide)).extT hT6 (by decide)).ext e7).sl ((((hy.ext e4).extT hT5 (by decide)).extT hT6 (by decide)).ext e7).sl Ax Ay (by (try simp only [lens]); omega)) (fun v8 w8 e8 h8 => ?_)
   have z8 := e8.size
   have k8 := h8
   rw [rbetw_eq Ax Ay Px Py] at k8
   refine O_call enters46 rfl rfl rfl (samech_T (k7.ext e8).sl k8.sl (by (try simp only [lens]); omega) rfl) (fun v9 w9 e9 h9 => ?_)
   have z9 := e9.size
   obtain rfl := h9
   refine O_move rfl rfl rfl ?_
   refine O_move rfl rfl rfl ?_
   refine O_call enters48 rfl rfl rfl (cvalid_T ((k7.ext e8).ext e9).sl (by (try simp only [lens]); omega) (betw_valid Ax Ay Px Py)) (fun v10 w10 e10 h10 => ?_)
   have z10 := e10.size
   obtain rfl := h10
   refine O_pickT rfl rfl rfl rfl ?_
   refine O_move rfl rfl rfl ?_
   refine O_move rfl rfl rfl ?_
   refine O_move rfl rfl rfl ?_
   refine O_move rfl rfl rfl ?_
   have hpl11 : ((([] ++ qs) ++ qt) : List Part).length ≤ 100000 := by simp only [List.length_append, List.length_nil]; omega
   refine O_callR enters45 rfl rfl rfl (built_c (ps := (([] ++ qs) ++ qt)) ((((hE6.trans e7).trans e8).trans e9).trans e10) ((((hF6.ext e7).ext e8).ext e9).ext e10) ((((((((hx.ext e3).ext e4).extT hT5 (by decide)).extT hT6 (by decide)).ext e7).ext e8).ext e9).ext e10) Ax (by omega) (by omega)) (fun e11 w11 hb11 => ?_)
   obtain ⟨qs2, is2, s2, rfl, hT11, hE11, hF11, hqs2, hRs2, hOs2, hAs2, hvs2⟩ := hb11
   refine ⟨_, rfl, ?_⟩
   replace hRs := hRs.more (qs := qs2)
   replace hRt := hRt.more (qs := qs2)
   have zT11 := hT11.size
   have hcs2 := Tr.env_length s2
   rw [hvs2] at hcs2
   have hhs2 := bigB s2 hAs2 (by omega)
   refine O_move rfl rfl rfl ?_
   refine O_move rfl rfl rfl ?_
   have hpl12 : (((([] ++ qs) ++ qt) ++ qs2) : List Part).length ≤ 100000 := by simp only [List.length_append, List.length_nil]; omega
   refine O_callR enters45 rfl rfl rfl (built_c (ps := ((([] ++ qs) ++ qt) ++ qs2)) hE11 hF11 (((((((((hx.ext e3).ext e4).extT hT5 (by decide)).extT hT6 (by decide)).ext e7).ext e8).ext e9).ext e10).extT hT11 (by decide)) Ax (by omega) (by omega)) (fun e12 w12 hb12 => ?_)
   obtain ⟨qs3, is3, s3, rfl, hT12, hE12, hF12, hqs3, hRs3, hOs3, hAs3, hvs3⟩ := hb12
   refine ⟨_, rfl, ?_⟩
   replace hRs := hRs.more (qs := qs3)
   replace hRt := hRt.more (qs := qs3)
   replace hRs2 := hRs2.more (qs := qs3)
   have zT12 := hT12.size
   have hcs3 := Tr.env_length s3
   rw [hvs3] at hcs3
   have hhs3 := bigB s3 hAs3 (by omega)
   refine O_call enters44 rfl rfl rfl (between_c hF12 hRs2 hOs2 hRs3 hOs3 (by (try simp only [lens]); omega)) (fun v13 w13 e13 h13 => ?_)
   have z13 := e13.size
   have k13 := h13
   rw [hvs2, hvs3] at k13
   rw [betw_self] at k13
   refine C_len Echange rfl rfl rfl k13.sl ?_
   refine O_eql (t := true) rfl rfl rfl rfl (decide_eq_true rfl) ?_
   refine O_pickT rfl rfl rfl rfl ?_
   refine O_assign rfl rfl rfl ?_
   refine WL_end [(4, _)] ⟨rfl, trivial⟩ ?_
   refine WP_ret ?_
   refine ret1 Try.results9 rfl ?_
   exact ⟨_, rfl, (hE12.trans e13), rfl⟩

end Go.Proofs.Ytoccimigjjndpaa
