/-
  Walks.
-/
import Derived.Test.YtoccimigjjndpaaV10
set_option linter.unusedVariables false
set_option linter.unusedSimpArgs false
set_option maxRecDepth 100000
namespace Go.Proofs.Ytoccimigjjndpaa
open Go Go.RowKit
set_option maxHeartbeats 1000000 in
theorem law_DiffInverts {w : World} {u v : Value} {l m : List Int} (hu : SlM fI w u l) (hv : SlM fI w v m) :
    Calls Try.prog 14 #[u, v] w (Ret w fun r _ => r = .bool true) := by
 refine enter (args := [u, v]) Try.func14 rfl Try.ntmps14 rfl ?_
 refine WP_seq ?_
 refine WP_region ?_
 refine O_assign rfl rfl rfl ?_
 refine WL_end [(0, _), (1, _)] ⟨rfl, rfl, trivial⟩ ?_
 refine WP_seq ?_
 refine WP_seq ?_
 refine WP_region ?_
 refine O_call enters41 rfl rfl rfl (awake29_c) (fun v1 w1 e1 h1 => ?_)
 have z1 := e1.size
 obtain rfl := h1
 refine O_not rfl rfl rfl rfl ?_
 refine WL_end [(0, _), (1, _), (15, _)] ⟨rfl, rfl, rfl, trivial⟩ ?_
 refine WP_condF rfl ?_
 refine WP_skip ?_
 refine WP_seq ?_
 refine WP_seq ?_
 refine WP_region ?_
 refine O_move rfl rfl rfl ?_
 refine M_len M22 rfl rfl rfl (hu.ext e1) ?_
 refine O_gtr rfl rfl rfl rfl rfl ?_
 refine O_move rfl rfl rfl ?_
 refine WL_dec 19 rfl (fun g19 => ?_) (fun g19 => ?_)
 · --
  refine O_skip rfl rfl ?_
  refine O_skip rfl rfl ?_
  refine O_skip rfl rfl ?_
  refine O_pickT rfl rfl rfl rfl ?_
  refine WL_end [(0, _), (1, _), (23, _)] ⟨rfl, rfl, rfl, trivial⟩ ?_
  refine WP_condT rfl ?_
  refine WP_seq ?_
  refine WP_region ?_
  refine O_assign rfl rfl rfl ?_
  refine WL_end [(4, _)] ⟨rfl, trivial⟩ ?_
  refine WP_ret ?_
  refine ret1 Try.results14 rfl ?_
  exact ⟨_, rfl, e1, rfl⟩
 · --
  refine O_move rfl rfl rfl ?_
  refine M_len M22 rfl rfl rfl (hv.ext e1) ?_
  refine O_gtr rfl rfl rfl rfl rfl ?_
  refine O_pickF rfl rfl rfl rfl ?_
  refine WL_end [(0, _), (1, _), (23, _)] ⟨rfl, rfl, rfl, trivial⟩ ?_
  refine WP_condD rfl (fun c23 => ?_) (fun c23 => ?_)
  · --
   refine WP_seq ?_
   refine WP_region ?_
   refine O_assign rfl rfl rfl ?_
   refine WL_end [(4, _)] ⟨rfl, trivial⟩ ?_
   refine WP_ret ?_
   refine ret1 Try.results14 rfl ?_
   exact ⟨_, rfl, e1, rfl⟩
  · --
   refine WP_skip ?_
   refine WP_seq ?_
   refine WP_region ?_
   refine O_move rfl rfl rfl ?_
   refine O_call enters42 rfl rfl rfl (list29_c (hu.ext e1) (by (try simp only [lens]); omega)) (fun v2 w2 e2 h2 => ?_)
   have z2 := e2.size
   obtain ⟨x, hx0, Lx⟩ := h2
   have hx : OwB w.heap.size _ _ x := hx0.mono (by omega)
   obtain ⟨Ax, Px, Nx, Kx⟩ := Lx
   refine O_move rfl rfl rfl ?_
   refine O_call enters42 rfl rfl rfl (list29_c (hv.ext (e1.trans e2)) (by (try simp only [lens]); omega)) (fun v3 w3 e3 h3 => ?_)
   have z3 := e3.size
   obtain ⟨y, hy0, Ly⟩ := h3
   have hy : OwB w.heap.size _ _ y := hy0.mono (by omega)
   obtain ⟨Ay, Py, Ny, Ky⟩ := Ly
   refine O_assign rfl rfl rfl ?_
   refine O_assign rfl rfl rfl ?_
   refine WL_end [(5, _), (6, _)] ⟨rfl, rfl, trivial⟩ ?_
   refine WP_seq ?_
   refine WP_region ?_
   refine O_call enters43 rfl rfl rfl (New_c) (fun v4 w4 e4 h4 => ?_)
   have z4 := e4.size
   obtain ⟨gf, rfl, hF0, hg0, hg1⟩ := h4
   have hG0 : FG w.heap.size w4 gf [] := ⟨gf, hF0, by omega, by omega⟩
   refine O_assign rfl rfl rfl ?_
   refine WL_end [(5, _), (6, _), (7, _)] ⟨rfl, rfl, rfl, trivial⟩ ?_
   refine WP_seq ?_
   refine WP_region ?_
   refine O_move rfl rfl rfl ?_
   refine O_move rfl rfl rfl ?_
   have hpl5 : ([] : List Part).length ≤ 100000 := by simp only [List.length_append, List.length_nil]; omega
   refine O_callR enters45 rfl rfl rfl (built_c (ps := []) (((e1.trans e2).trans e3).trans e4) hG0 ((hx.ext e3).ext e4) Ax (by omega) (by omega)) (fun e5 w5 hb5 => ?_)
   obtain ⟨qs, is, s, rfl, hT5, hE5, hF5, hqs, hRs, hOs, hAs, hvs⟩ := hb5
   refine ⟨_, rfl, ?_⟩
   have zT5 := hT5.size
   have hcs := Tr.env_length s
   rw [hvs] at hcs
   have hhs := bigB s hAs (by omega)
   refine O_move rfl rfl rfl ?_
   refine O_move rfl rfl rfl ?_
   have hpl6 : (([] ++ qs) : List Part).length ≤ 100000 := by simp only [List.length_append, List.length_nil]; omega
   refine O_callR enters45 rfl rfl rfl (built_c (ps := ([] ++ qs)) hE5 hF5 ((hy.ext e4).extT hT5 (by decide)) Ay (by omega) (by omega)) (fun e6 w6 hb6 => ?_)
   obtain ⟨qt, it, t, rfl, hT6, hE6, hF6, hqt, hRt, hOt, hAt, hvt⟩ := hb6
   refine ⟨_, rfl, ?_⟩
   replace hRs := hRs.more (qs := qt)
   have zT6 := hT6.size
   have hct := Tr.env_length t
   rw [hvt] at hct
   have hht := bigB t hAt (by omega)
   refine O_assign rfl rfl rfl ?_
   refine O_assign rfl rfl rfl ?_
   refine WL_end [(5, _), (6, _), (7, _), (8, _), (9, _)] ⟨rfl, rfl, rfl, rfl, rfl, trivial⟩ ?_
   refine WP_seq ?_
   refine WP_region ?_
   refine O_move rfl rfl rfl ?_
   refine O_move rfl rfl rfl ?_
   refine O_move rfl rfl rfl ?_
   refine O_call enters44 rfl rfl rfl (between_c hF6 hRs hOs hRt hOt (by (try simp only [lens]); omega)) (fun v7 w7 e7 h7 => ?_)
   have z7 := e7.size
   have k7 := h7
   rw [hvs, hvt] at k7
   have blxy := betw_len x y
   have blyx := betw_len y x
   refine O_assign rfl rfl rfl ?_
   refine WL_end [(5, _), (6, _), (7, _), (9, _), (10, _)] ⟨rfl, rfl, rfl, rfl, rfl, trivial⟩ ?_
   refine WP_seq ?_
   refine WP_region ?_
   refine O_move rfl rfl rfl ?_
   refine O_call enters59 rfl rfl rfl (invert_c k7.sl (by (try simp only [lens]); omega)) (fun v8 w8 e8 h8 => ?_)
   have z8 := e8.size
   have k8 := h8
   rw [betw_inv Ax Ay] at k8
   refine O_assign rfl rfl rfl ?_
   refine WL_end [(5, _), (6, _), (7, _), (9, _), (10, _), (11, _)] ⟨rfl, rfl, rfl, rfl, rfl, rfl, trivial⟩ ?_
   refine WP_seq ?_
   refine WP_region ?_
   refine O_move rfl rfl rfl ?_
   refine O_move rfl rfl rfl ?_
   refine O_move rfl rfl rfl ?_
   have hpl9 : ((([] ++ qs) ++ qt) : List Part).length ≤ 100000 := by simp only [List.length_append, List.length_nil]; omega
   have hok9 : validB (betw y x) = true ∧ chkE t.env (betw y x) = true := ⟨betw_valid Ay Ax Py Px, by rw [hvt]; exact betw_chk y x⟩
   refine O_callR enters57 rfl rfl rfl (apply_c ((hE6.trans e7).trans e8) ((hF6.ext e7).ext e8) hRt hOt hAt (fun w1 _ hT1 => (OwC.extT k8 hT1 (by decide)).sl) (by omega) (by omega) (by omega)) (fun e9 w9 hb9 => ?_)
   obtain ⟨⟨hT9, hE9⟩, ⟨_, qu, iu, u1, rfl, hF9, hqu, hRu, hOu, hAu, hvu⟩ | ⟨hno, _⟩⟩ := hb9
   rotate_left
   · exact absurd hok9 hno
   rw [hvt, betw_apply Ay Ax Py Px] at hvu
   refine ⟨_, rfl, ?_⟩
   have zT9 := hT9.size
   have hcu := Tr.env_length u1
   have hlu := congrArg List.length hvu
   refine O_move rfl rfl rfl ?_
   refine O_extract rfl rfl rfl rfl ?_
   refine O_extract rfl rfl rfl rfl ?_
   refine O_assign rfl rfl rfl ?_
   refine O_assign rfl rfl rfl ?_
   refine WL_end [(5, _), (6, _), (7, _), (10, _), (11, _), (12, _), (13, _)] ⟨rfl, rfl, rfl, rfl, rfl, rfl, rfl, trivial⟩ ?_
   refine WP_seq ?_
   refine WP_region ?_
   refine O_move rfl rfl rfl ?_
   refine O_move rfl rfl rfl ?_
   refine O_move rfl rfl rfl ?_
   refine O_call enters47 rfl rfl rfl (rbetween_c ((((((hy.ext e4).extT hT5 (by decide)).extT hT6 (by decide)).ext e7).ext e8).extT hT9 (by decide)).sl (((((((hx.ext e3).ext e4).extT hT5 (by decide)).extT hT6 (by decide)).ext e7).ext e8).extT hT9 (by decide)).sl Ay Ax (by (try simp only [lens]); omega)) (fun v10 w10 e10 h10 => ?_)
   have z10 := e10.size
   have k10 := h10
   rw [rbetw_eq Ay Ax Py Px] at k10
   refine O_call enters46 rfl rfl rfl (samech_T ((k8.extT hT9 (by decide)).ext e10).sl k10.sl (by (try simp only [lens]); omega) rfl) (fun v11 w11 e11 h11 => ?_)
   have z11 := e11.size
   obtain rfl := h11
   refine O_move rfl rfl rfl ?_
   refine O_move rfl rfl rfl ?_
   refine O_eql (t := true) rfl rfl rfl rfl (decide_eq_true rfl) ?_
   refine O_pickT rfl rfl rfl rfl ?_
   refine O_move rfl rfl rfl ?_
   refine O_move rfl rfl rfl ?_
   refine O_move rfl rfl rfl ?_
   refine O_call enters20 rfl rfl rfl (List_G ((hF9.ext e10).ext e11) hRu (by (try simp only [lens]); omega)) (fun v12 w12 e12 h12 => ?_)
   have z12 := e12.size
   refine O_move rfl rfl rfl ?_
   refine O_call enters19 rfl rfl rfl (same_T h12.sl ((((((((((hx.ext e3).ext e4).extT hT5 (by decide)).extT hT6 (by decide)).ext e7).ext e8).extT hT9 (by decide)).ext e10).ext e11).ext e12).sl (by (try simp only [lens]); omega) hvu) (fun v13 w13 e13 h13 => ?_)
   have z13 := e13.size
   obtain rfl := h13
   refine O_pickT rfl rfl rfl rfl ?_
   refine O_move rfl rfl rfl ?_
   refine O_move rfl rfl rfl ?_
   refine O_call enters59 rfl rfl rfl (invert_c (((((k8.extT hT9 (by decide)).ext e10).ext e11).ext e12).ext e13).sl (by (try simp only [lens]); omega)) (fun v14 w14 e14 h14 => ?_)
   have z14 := e14.size
   have k14 := h14
   rw [betw_inv Ay Ax] at k14
   refine O_move rfl rfl rfl ?_
   refine O_call enters46 rfl rfl rfl (samech_T k14.sl (((((((k7.ext e8).extT hT9 (by decide)).ext e10).ext e11).ext e12).ext e13).ext e14).sl (by (try simp only [lens]); omega) rfl) (fun v15 w15 e15 h15 => ?_)
   have z15 := e15.size
   obtain rfl := h15
   refine O_pickT rfl rfl rfl rfl ?_
   refine O_assign rfl rfl rfl ?_
   refine WL_end [(4, _)] ⟨rfl, trivial⟩ ?_
   refine WP_ret ?_
   refine ret1 Try.results14 rfl ?_
   exact ⟨_, rfl, ((((((hE9.trans e10).trans e11).trans e12).trans e13).trans e14).trans e15), rfl⟩

end Go.Proofs.Ytoccimigjjndpaa
