/-
  Walks.
-/
import Derived.Test.YtoccimigjjndpaaV20
import Derived.Test.YtoccimigjjndpaaV21
import Derived.Test.YtoccimigjjndpaaV8
set_option linter.unusedVariables false
set_option linter.unusedSimpArgs false
set_option maxRecDepth 100000
namespace Go.Proofs.Ytoccimigjjndpaa
open Go Go.RowKit
theorem mU_len (o a b : Env) : (mU o a b).length ≤ o.length + a.length + b.length := by
  have h1 := mergeN_len [o.map (·.1), a.map (·.1), b.map (·.1)]
  have h2 : totN [o.map (·.1), a.map (·.1), b.map (·.1)] = o.length + a.length + b.length := by simp [totN]; omega
  rw [h2] at h1
  exact h1
theorem mrgE_len (o a b : Env) : (mrgE o a b).length ≤ a.length + (o.length + a.length + b.length) :=
  Nat.le_trans (mfold_len o a b (mU o a b) a) (Nat.add_le_add_left (mU_len o a b) _)
theorem mbad_len (o a b : Env) : (mbad o a b).length ≤ o.length + a.length + b.length := Nat.le_trans (List.length_filter_le _ _) (mU_len o a b)
theorem samet_T {w : World} {u v : Value} {a b : Nm} (hs : SlM fS w u a) (hv : SlM fS w v b) (hl : a.length ≤ 1000000000) (he : a = b) : Calls Try.prog 56 #[u, v] w (Ret w fun r _ => r = .bool true) :=
  (samet_c hs hv hl).mono fun _ w' ⟨r, h1, h2, h3⟩ => ⟨r, h1, h2, by rw [h3, decide_eq_true he]⟩

set_option maxHeartbeats 1000000 in
theorem law_DiffMerges {w : World} {pa pb pc : Value} {la lb lc : List Int} (hpa : SlM fI w pa la) (hpb : SlM fI w pb lb) (hpc : SlM fI w pc lc) :
    Calls Try.prog 12 #[pa, pb, pc] w (Ret w fun r _ => r = .bool true) := by
 refine enter (args := [pa, pb, pc]) Try.func12 rfl Try.ntmps12 rfl ?_
 refine WP_seq ?_
 refine WP_region ?_
 refine O_assign rfl rfl rfl ?_
 refine WL_end [(0, _), (1, _), (2, _)] ⟨rfl, rfl, rfl, trivial⟩ ?_
 refine WP_seq ?_
 refine WP_seq ?_
 refine WP_region ?_
 refine O_call enters41 rfl rfl rfl (awake29_c) (fun v1 w1 e1 h1 => ?_)
 have z1 := e1.size
 obtain rfl := h1
 refine O_not rfl rfl rfl rfl ?_
 refine WL_end [(0, _), (1, _), (2, _), (23, _)] ⟨rfl, rfl, rfl, rfl, trivial⟩ ?_
 refine WP_condF rfl ?_
 refine WP_skip ?_
 refine WP_seq ?_
 refine WP_seq ?_
 refine WP_region ?_
 refine O_move rfl rfl rfl ?_
 refine M_len M22 rfl rfl rfl (hpa.ext e1) ?_
 refine O_gtr rfl rfl rfl rfl rfl ?_
 refine O_move rfl rfl rfl ?_
 refine WL_dec 27 rfl (fun g27 => ?_) (fun g27 => ?_)
 · --
  refine O_skip rfl rfl ?_
  refine O_skip rfl rfl ?_
  refine O_skip rfl rfl ?_
  refine O_pickT rfl rfl rfl rfl ?_
  refine O_move rfl rfl rfl ?_
  refine O_skip rfl rfl ?_
  refine O_skip rfl rfl ?_
  refine O_skip rfl rfl ?_
  refine O_pickT rfl rfl rfl rfl ?_
  refine WL_end [(0, _), (1, _), (2, _), (36, _)] ⟨rfl, rfl, rfl, rfl, trivial⟩ ?_
  refine WP_condT rfl ?_
  refine WP_seq ?_
  refine WP_region ?_
  refine O_assign rfl rfl rfl ?_
  refine WL_end [(6, _)] ⟨rfl, trivial⟩ ?_
  refine WP_ret ?_
  refine ret1 Try.results12 rfl ?_
  exact ⟨_, rfl, e1, rfl⟩
 · --
  refine O_move rfl rfl rfl ?_
  refine M_len M22 rfl rfl rfl (hpb.ext e1) ?_
  refine O_gtr rfl rfl rfl rfl rfl ?_
  refine O_pickF rfl rfl rfl rfl ?_
  refine O_move rfl rfl rfl ?_
  refine WL_dec 32 rfl (fun g32 => ?_) (fun g32 => ?_)
  · --
   refine O_skip rfl rfl ?_
   refine O_skip rfl rfl ?_
   refine O_skip rfl rfl ?_
   refine O_pickT rfl rfl rfl rfl ?_
   refine WL_end [(0, _), (1, _), (2, _), (36, _)] ⟨rfl, rfl, rfl, rfl, trivial⟩ ?_
   refine WP_condT rfl ?_
   refine WP_seq ?_
   refine WP_region ?_
   refine O_assign rfl rfl rfl ?_
   refine WL_end [(6, _)] ⟨rfl, trivial⟩ ?_
   refine WP_ret ?_
   refine ret1 Try.results12 rfl ?_
   exact ⟨_, rfl, e1, rfl⟩
  · --
   refine O_move rfl rfl rfl ?_
   refine M_len M22 rfl rfl rfl (hpc.ext e1) ?_
   refine O_gtr rfl rfl rfl rfl rfl ?_
   refine O_pickF rfl rfl rfl rfl ?_
   refine WL_end [(0, _), (1, _), (2, _), (36, _)] ⟨rfl, rfl, rfl, rfl, trivial⟩ ?_
   refine WP_condD rfl (fun c36 => ?_) (fun c36 => ?_)
   · --
    refine WP_seq ?_
    refine WP_region ?_
    refine O_assign rfl rfl rfl ?_
    refine WL_end [(6, _)] ⟨rfl, trivial⟩ ?_
    refine WP_ret ?_
    refine ret1 Try.results12 rfl ?_
    exact ⟨_, rfl, e1, rfl⟩
   · --
    refine WP_skip ?_
    refine WP_seq ?_
    refine WP_region ?_
    refine O_move rfl rfl rfl ?_
    refine O_call enters42 rfl rfl rfl (list29_c (hpa.ext e1) (by (try simp only [lens]); omega)) (fun v2 w2 e2 h2 => ?_)
    have z2 := e2.size
    obtain ⟨x, hx0, Lx⟩ := h2
    have hx : OwB w.heap.size _ _ x := hx0.mono (by omega)
    obtain ⟨Ax, Px, Nx, Kx⟩ := Lx
    refine O_move rfl rfl rfl ?_
    refine O_call enters42 rfl rfl rfl (list29_c (hpb.ext (e1.trans e2)) (by (try simp only [lens]); omega)) (fun v3 w3 e3 h3 => ?_)
    have z3 := e3.size
    obtain ⟨y, hy0, Ly⟩ := h3
    have hy : OwB w.heap.size _ _ y := hy0.mono (by omega)
    obtain ⟨Ay, Py, Ny, Ky⟩ := Ly
    refine O_move rfl rfl rfl ?_
    refine O_call enters42 rfl rfl rfl (list29_c (hpc.ext ((e1.trans e2).trans e3)) (by (try simp only [lens]); omega)) (fun v4 w4 e4 h4 => ?_)
    have z4 := e4.size
    obtain ⟨z, hz0, Lz⟩ := h4
    have hz : OwB w.heap.size _ _ z := hz0.mono (by omega)
    obtain ⟨Az, Pz, Nz, Kz⟩ := Lz
    refine O_assign rfl rfl rfl ?_
    refine O_assign rfl rfl rfl ?_
    refine O_assign rfl rfl rfl ?_
    refine WL_end [(7, _), (8, _), (9, _)] ⟨rfl, rfl, rfl, trivial⟩ ?_
    refine WP_seq ?_
    refine WP_region ?_
    refine O_call enters43 rfl rfl rfl (New_c) (fun v5 w5 e5 h5 => ?_)
    have z5 := e5.size
    obtain ⟨gf, rfl, hF0, hg0, hg1⟩ := h5
    have hG0 : FG w.heap.size w5 gf [] := ⟨gf, hF0, by omega, by omega⟩
    refine O_assign rfl rfl rfl ?_
    refine WL_end [(7, _), (8, _), (9, _), (10, _)] ⟨rfl, rfl, rfl, rfl, trivial⟩ ?_
    refine WP_seq ?_
    refine WP_region ?_
    refine O_move rfl rfl rfl ?_
    refine O_move rfl rfl rfl ?_
    have hpl6 : ([] : List Part).length ≤ 100000 := by simp only [List.length_append, List.length_nil]; omega
    refine O_callR enters45 rfl rfl rfl (built_c (ps := []) ((((e1.trans e2).trans e3).trans e4).trans e5) hG0 (((hx.ext e3).ext e4).ext e5) Ax (by omega) (by omega)) (fun e6 w6 hb6 => ?_)
    obtain ⟨qtp, itp, tp, rfl, hT6, hE6, hF6, hqtp, hRtp, hOtp, hAtp, hvtp⟩ := hb6
    refine ⟨_, rfl, ?_⟩
    have zT6 := hT6.size
    have hctp := Tr.env_length tp
    rw [hvtp] at hctp
    have hhtp := bigB tp hAtp (by omega)
    refine O_move rfl rfl rfl ?_
    refine O_move rfl rfl rfl ?_
    have hpl7 : (([] ++ qtp) : List Part).length ≤ 100000 := by simp only [List.length_append, List.length_nil]; omega
    refine O_callR enters45 rfl rfl rfl (built_c (ps := ([] ++ qtp)) hE6 hF6 (((hy.ext e4).ext e5).extT hT6 (by decide)) Ay (by omega) (by omega)) (fun e7 w7 hb7 => ?_)
    obtain ⟨qtq, itq, tq, rfl, hT7, hE7, hF7, hqtq, hRtq, hOtq, hAtq, hvtq⟩ := hb7
    refine ⟨_, rfl, ?_⟩
    replace hRtp := hRtp.more (qs := qtq)
    have zT7 := hT7.size
    have hctq := Tr.env_length tq
    rw [hvtq] at hctq
    have hhtq := bigB tq hAtq (by omega)
    refine O_move rfl rfl rfl ?_
    refine O_move rfl rfl rfl ?_
    have hpl8 : ((([] ++ qtp) ++ qtq) : List Part).length ≤ 100000 := by simp only [List.length_append, List.length_nil]; omega
    refine O_callR enters45 rfl rfl rfl (built_c (ps := (([] ++ qtp) ++ qtq)) hE7 hF7 (((hz.ext e5).extT hT6 (by decide)).extT hT7 (by decide)) Az (by omega) (by omega)) (fun e8 w8 hb8 => ?_)
    obtain ⟨qtr, itr, tr, rfl, hT8, hE8, hF8, hqtr, hRtr, hOtr, hAtr, hvtr⟩ := hb8
    refine ⟨_, rfl, ?_⟩
    replace hRtp := hRtp.more (qs := qtr)
    replace hRtq := hRtq.more (qs := qtr)
    have zT8 := hT8.size
    have hctr := Tr.env_length tr
    rw [hvtr] at hctr
    have hhtr := bigB tr hAtr (by omega)
    refine O_assign rfl rfl rfl ?_
    refine O_assign rfl rfl rfl ?_
    refine O_assign rfl rfl rfl ?_
    refine WL_end [(7, _), (8, _), (9, _), (10, _), (11, _), (12, _), (13, _)] ⟨rfl, rfl, rfl, rfl, rfl, rfl, rfl, trivial⟩ ?_
    refine WP_seq ?_
    refine WP_region ?_
    refine O_move rfl rfl rfl ?_
    refine O_move rfl rfl rfl ?_
    refine O_move rfl rfl rfl ?_
    refine O_move rfl rfl rfl ?_
    have hpl9 : (((([] ++ qtp) ++ qtq) ++ qtr) : List Part).length ≤ 1000000 := by simp only [List.length_append, List.length_nil]; omega
    refine O_callR enters54 rfl rfl rfl (merge_c (ps := ((([] ++ qtp) ++ qtq) ++ qtr)) hE8 hF8 hRtp hOtp hRtq hOtq hAtq hRtr hOtr (by omega) (by omega)) (fun e9 w9 hb9 => ?_)
    obtain ⟨qm1, im1, m1, cm1, rfl, hT9, hE9, hF9, hqm1, ⟨hRm1, hOm1, hAm1, hvm1⟩, hCm10⟩ := hb9
    simp only [hvtp, hvtq, hvtr] at hvm1 hCm10
    have hCm1 : OwM fS w.heap.size _ _ _ _ := hCm10.mono (by omega)
    refine ⟨_, rfl, ?_⟩
    replace hRtp := hRtp.more (qs := qm1)
    replace hRtq := hRtq.more (qs := qm1)
    replace hRtr := hRtr.more (qs := qm1)
    have zT9 := hT9.size
    have hcm1 := Tr.env_length m1
    have hlm1 := congrArg List.length hvm1
    have hkm1 := mrgE_len x y z
    refine O_move rfl rfl rfl ?_
    refine O_extract rfl rfl rfl rfl ?_
    refine O_extract rfl rfl rfl rfl ?_
    refine O_assign rfl rfl rfl ?_
    refine O_assign rfl rfl rfl ?_
    refine WL_end [(7, _), (8, _), (9, _), (10, _), (11, _), (12, _), (13, _), (14, _), (15, _)] ⟨rfl, rfl, rfl, rfl, rfl, rfl, rfl, rfl, rfl, trivial⟩ ?_
    refine WP_seq ?_
    refine WP_region ?_
    refine O_move rfl rfl rfl ?_
    refine O_move rfl rfl rfl ?_
    refine O_move rfl rfl rfl ?_
    refine O_call enters55 rfl rfl rfl (rmerge_c (((((((hx.ext e3).ext e4).ext e5).extT hT6 (by decide)).extT hT7 (by decide)).extT hT8 (by decide)).extT hT9 (by decide)).sl ((((((hy.ext e4).ext e5).extT hT6 (by decide)).extT hT7 (by decide)).extT hT8 (by decide)).extT hT9 (by decide)).sl (((((hz.ext e5).extT hT6 (by decide)).extT hT7 (by decide)).extT hT8 (by decide)).extT hT9 (by decide)).sl Ax Ay Az (by (try simp only [lens]); omega)) (fun v10 w10 e10 h10 => ?_)
    have z10 := e10.size
    obtain ⟨y9, z9, rfl, hy90, hz90⟩ := h10
    have hy9 : OwB w.heap.size _ _ _ := hy90.mono (by omega)
    have hz9 : OwM fS w.heap.size _ _ _ _ := hz90.mono (by omega)
    rw [rmrg_eq Ax Ay Az Py Pz] at hy9
    refine O_move rfl rfl rfl ?_
    refine O_extract rfl rfl rfl rfl ?_
    refine O_extract rfl rfl rfl rfl ?_
    refine O_assign rfl rfl rfl ?_
    refine O_assign rfl rfl rfl ?_
    refine WL_end [(8, _), (10, _), (11, _), (12, _), (13, _), (14, _), (15, _), (16, _), (17, _)] ⟨rfl, rfl, rfl, rfl, rfl, rfl, rfl, rfl, rfl, trivial⟩ ?_
    refine WP_seq ?_
    refine WP_region ?_
    refine O_move rfl rfl rfl ?_
    refine O_move rfl rfl rfl ?_
    refine O_move rfl rfl rfl ?_
    refine O_move rfl rfl rfl ?_
    have hpl11 : ((((([] ++ qtp) ++ qtq) ++ qtr) ++ qm1) : List Part).length ≤ 1000000 := by simp only [List.length_append, List.length_nil]; omega
    refine O_callR enters54 rfl rfl rfl (merge_c (ps := (((([] ++ qtp) ++ qtq) ++ qtr) ++ qm1)) (hE9.trans e10) (hF9.ext e10) hRtp hOtp hRtr hOtr hAtr hRtq hOtq (by omega) (by omega)) (fun e11 w11 hb11 => ?_)
    obtain ⟨qm2, im2, m2, cm2, rfl, hT11, hE11, hF11, hqm2, ⟨hRm2, hOm2, hAm2, hvm2⟩, hCm20⟩ := hb11
    simp only [hvtp, hvtq, hvtr] at hvm2 hCm20
    rw [mbad_swap Ax Ay Az] at hCm20
    have hCm2 : OwM fS w.heap.size _ _ _ _ := hCm20.mono (by omega)
    refine ⟨_, rfl, ?_⟩
    replace hRtp := hRtp.more (qs := qm2)
    replace hRtq := hRtq.more (qs := qm2)
    replace hRtr := hRtr.more (qs := qm2)
    replace hRm1 := hRm1.more (qs := qm2)
    have zT11 := hT11.size
    have hcm2 := Tr.env_length m2
    have hlm2 := congrArg List.length hvm2
    have hkm2 := mrgE_len x z y
    refine O_move rfl rfl rfl ?_
    refine O_extract rfl rfl rfl rfl ?_
    refine O_extract rfl rfl rfl rfl ?_
    refine O_assign rfl rfl rfl ?_
    refine O_assign rfl rfl rfl ?_
    refine WL_end [(8, _), (10, _), (11, _), (12, _), (14, _), (15, _), (16, _), (17, _), (18, _), (19, _)] ⟨rfl, rfl, rfl, rfl, rfl, rfl, rfl, rfl, rfl, rfl, trivial⟩ ?_
    refine WP_seq ?_
    refine WP_seq ?_
    refine WP_region ?_
    refine O_move rfl rfl rfl ?_
    refine O_move rfl rfl rfl ?_
    refine O_call enters20 rfl rfl rfl (List_G hF11 hRm1 (by (try simp only [lens]); omega)) (fun v12 w12 e12 h12 => ?_)
    have z12 := e12.size
    refine O_move rfl rfl rfl ?_
    refine O_call enters19 rfl rfl rfl (same_T h12.sl ((hy9.extT hT11 (by decide)).ext e12).sl (by (try simp only [lens]); omega) hvm1) (fun v13 w13 e13 h13 => ?_)
    have z13 := e13.size
    obtain rfl := h13
    refine O_not rfl rfl rfl rfl ?_
    refine O_move rfl rfl rfl ?_
    refine O_move rfl rfl rfl ?_
    refine O_move rfl rfl rfl ?_
    refine O_call enters56 rfl rfl rfl (samet_T ((((hCm1.ext e10).extT hT11 (by decide)).ext e12).ext e13).sl (((hz9.extT hT11 (by decide)).ext e12).ext e13).sl (by have := mbad_len x y z; omega) rfl) (fun v14 w14 e14 h14 => ?_)
    have z14 := e14.size
    obtain rfl := h14
    refine O_not rfl rfl rfl rfl ?_
    refine O_pickF rfl rfl rfl rfl ?_
    refine O_move rfl rfl rfl ?_
    refine O_move rfl rfl rfl ?_
    refine O_move rfl rfl rfl ?_
    refine O_call enters56 rfl rfl rfl (samet_T (((hCm2.ext e12).ext e13).ext e14).sl (((((hCm1.ext e10).extT hT11 (by decide)).ext e12).ext e13).ext e14).sl (by have := mbad_len x y z; omega) rfl) (fun v15 w15 e15 h15 => ?_)
    have z15 := e15.size
    obtain rfl := h15
    refine O_not rfl rfl rfl rfl ?_
    refine O_pickF rfl rfl rfl rfl ?_
    refine WL_end [(8, _), (10, _), (11, _), (12, _), (15, _), (16, _), (18, _), (93, _)] ⟨rfl, rfl, rfl, rfl, rfl, rfl, rfl, rfl, trivial⟩ ?_
    refine WP_condF rfl ?_
    refine WP_skip ?_
    refine WP_seq ?_
    refine WP_region ?_
    refine O_move rfl rfl rfl ?_
    refine O_move rfl rfl rfl ?_
    refine O_move rfl rfl rfl ?_
    refine O_move rfl rfl rfl ?_
    have hpl16 : (((((([] ++ qtp) ++ qtq) ++ qtr) ++ qm1) ++ qm2) : List Part).length ≤ 1000000 := by simp only [List.length_append, List.length_nil]; omega
    refine O_callR enters54 rfl rfl rfl (merge_c (ps := ((((([] ++ qtp) ++ qtq) ++ qtr) ++ qm1) ++ qm2)) ((((hE11.trans e12).trans e13).trans e14).trans e15) ((((hF11.ext e12).ext e13).ext e14).ext e15) hRtp hOtp hRtq hOtq hAtq hRtp hOtp (by omega) (by omega)) (fun e16 w16 hb16 => ?_)
    obtain ⟨qm3, im3, m3, cm3, rfl, hT16, hE16, hF16, hqm3, ⟨hRm3, hOm3, hAm3, hvm3⟩, hCm30⟩ := hb16
    simp only [hvtp, hvtq, hvtr] at hvm3 hCm30
    rw [mrg_base Ax Ay Px Py] at hvm3
    rw [mbad_base] at hCm30
    have hCm3 : OwM fS w.heap.size _ _ _ _ := hCm30.mono (by omega)
    refine ⟨_, rfl, ?_⟩
    replace hRtp := hRtp.more (qs := qm3)
    replace hRtq := hRtq.more (qs := qm3)
    replace hRtr := hRtr.more (qs := qm3)
    replace hRm1 := hRm1.more (qs := qm3)
    replace hRm2 := hRm2.more (qs := qm3)
    have zT16 := hT16.size
    have hcm3 := Tr.env_length m3
    have hlm3 := congrArg List.length hvm3
    have hkm3 := mrgE_len x y x
    refine O_move rfl rfl rfl ?_
    refine O_extract rfl rfl rfl rfl ?_
    refine O_extract rfl rfl rfl rfl ?_
    refine O_assign rfl rfl rfl ?_
    refine O_assign rfl rfl rfl ?_
    refine WL_end [(8, _), (10, _), (15, _), (16, _), (18, _), (20, _), (21, _)] ⟨rfl, rfl, rfl, rfl, rfl, rfl, rfl, trivial⟩ ?_
    refine WP_seq ?_
    refine WP_region ?_
    refine O_move rfl rfl rfl ?_
    refine M_len M52 rfl rfl rfl (((((((hCm1.ext e10).extT hT11 (by decide)).ext e12).ext e13).ext e14).ext e15).extT hT16 (by decide)).sl ?_
    refine O_gtr rfl rfl rfl rfl rfl ?_
    refine O_move rfl rfl rfl ?_
    refine WL_dec 105 rfl (fun g105 => ?_) (fun g105 => ?_)
    · --
     refine O_skip rfl rfl ?_
     refine O_skip rfl rfl ?_
     refine O_skip rfl rfl ?_
     refine O_skip rfl rfl ?_
     refine O_skip rfl rfl ?_
     refine O_pickT rfl rfl rfl rfl ?_
     refine O_move rfl rfl rfl ?_
     refine O_move rfl rfl rfl ?_
     refine M_len M52 rfl rfl rfl hCm3.sl ?_
     refine O_eql (t := true) rfl rfl rfl rfl (decide_eq_true rfl) ?_
     refine O_pickT rfl rfl rfl rfl ?_
     refine O_move rfl rfl rfl ?_
     refine O_move rfl rfl rfl ?_
     refine O_move rfl rfl rfl ?_
     refine O_call enters20 rfl rfl rfl (List_G hF16 hRm3 (by (try simp only [lens]); omega)) (fun v17 w17 e17 h17 => ?_)
     have z17 := e17.size
     refine O_move rfl rfl rfl ?_
     refine O_call enters19 rfl rfl rfl (same_T h17.sl ((((((((((((((hy.ext e4).ext e5).extT hT6 (by decide)).extT hT7 (by decide)).extT hT8 (by decide)).extT hT9 (by decide)).ext e10).extT hT11 (by decide)).ext e12).ext e13).ext e14).ext e15).extT hT16 (by decide)).ext e17).sl (by (try simp only [lens]); omega) hvm3) (fun v18 w18 e18 h18 => ?_)
     have z18 := e18.size
     obtain rfl := h18
     refine O_pickT rfl rfl rfl rfl ?_
     refine O_assign rfl rfl rfl ?_
     refine WL_end [(6, _)] ⟨rfl, trivial⟩ ?_
     refine WP_ret ?_
     refine ret1 Try.results12 rfl ?_
     exact ⟨_, rfl, ((hE16.trans e17).trans e18), rfl⟩
    · --
     refine O_move rfl rfl rfl ?_
     refine O_move rfl rfl rfl ?_
     refine O_call enters20 rfl rfl rfl (List_G hF16 hRm2 (by (try simp only [lens]); omega)) (fun v19 w19 e19 h19 => ?_)
     have z19 := e19.size
     refine O_move rfl rfl rfl ?_
     have hmb9 : mbad x y z = [] := List.eq_nil_of_length_eq_zero (by omega)
     refine O_call enters19 rfl rfl rfl (same_T h19.sl (((((((hy9.extT hT11 (by decide)).ext e12).ext e13).ext e14).ext e15).extT hT16 (by decide)).ext e19).sl (by (try simp only [lens]); omega) (hvm2.trans (mrg_swap Ax Ay Az Py Pz hmb9))) (fun v20 w20 e20 h20 => ?_)
     have z20 := e20.size
     obtain rfl := h20
     refine O_pickF rfl rfl rfl rfl ?_
     refine O_move rfl rfl rfl ?_
     refine O_move rfl rfl rfl ?_
     refine M_len M52 rfl rfl rfl ((hCm3.ext e19).ext e20).sl ?_
     refine O_eql (t := true) rfl rfl rfl rfl (decide_eq_true rfl) ?_
     refine O_pickT rfl rfl rfl rfl ?_
     refine O_move rfl rfl rfl ?_
     refine O_move rfl rfl rfl ?_
     refine O_move rfl rfl rfl ?_
     refine O_call enters20 rfl rfl rfl (List_G ((hF16.ext e19).ext e20) hRm3 (by (try simp only [lens]); omega)) (fun v21 w21 e21 h21 => ?_)
     have z21 := e21.size
     refine O_move rfl rfl rfl ?_
     refine O_call enters19 rfl rfl rfl (same_T h21.sl ((((((((((((((((hy.ext e4).ext e5).extT hT6 (by decide)).extT hT7 (by decide)).extT hT8 (by decide)).extT hT9 (by decide)).ext e10).extT hT11 (by decide)).ext e12).ext e13).ext e14).ext e15).extT hT16 (by decide)).ext e19).ext e20).ext e21).sl (by (try simp only [lens]); omega) hvm3) (fun v22 w22 e22 h22 => ?_)
     have z22 := e22.size
     obtain rfl := h22
     refine O_pickT rfl rfl rfl rfl ?_
     refine O_assign rfl rfl rfl ?_
     refine WL_end [(6, _)] ⟨rfl, trivial⟩ ?_
     refine WP_ret ?_
     refine ret1 Try.results12 rfl ?_
     exact ⟨_, rfl, ((((hE16.trans e19).trans e20).trans e21).trans e22), rfl⟩

end Go.Proofs.Ytoccimigjjndpaa
