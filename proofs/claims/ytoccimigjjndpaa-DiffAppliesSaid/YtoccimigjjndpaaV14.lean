/-
  Walks.
-/
import Derived.Test.YtoccimigjjndpaaV11
set_option linter.unusedVariables false
set_option linter.unusedSimpArgs false
set_option maxRecDepth 100000
namespace Go.Proofs.Ytoccimigjjndpaa
open Go Go.RowKit
/-- The values read as the lists of changes. -/
def LCs (w : World) (vals : List Value) (ls : List (List Ch)) : Prop := vals.length = ls.length ∧ ∀ (k : Nat) (v : Value) (l : List Ch), vals[k]? = some v → ls[k]? = some l → SlC w v l
theorem LCs.at_ {w : World} {vals : List Value} {ls : List (List Ch)} (h : LCs w vals ls) {k : Nat} (h1 : k < vals.length) (h2 : k < ls.length) : SlC w vals[k] ls[k] :=
  h.2 k _ _ (List.getElem?_eq_getElem h1) (List.getElem?_eq_getElem h2)
theorem LCs.three {w : World} {a b c : Value} {l1 l2 l3 : List Ch} (h1 : SlC w a l1) (h2 : SlC w b l2) (h3 : SlC w c l3) : LCs w [a, b, c] [l1, l2, l3] :=
  ⟨rfl, fun k v l hv hl => by
    match k, hv, hl with
    | 0, hv, hl => cases hv; cases hl; exact h1
    | 1, hv, hl => cases hv; cases hl; exact h2
    | 2, hv, hl => cases hv; cases hl; exact h3⟩
theorem rap_ok {E : Env} {l : List Ch} (h : Asc E) (hv : validB l = true) (hc : chkE E l = true) : rapL E l = some (apL E l) := by
  rw [rapL_eq h (validB_ok hv).2, if_pos hc]
theorem rap_no {E : Env} {l : List Ch} (h : Asc E) (hn : ¬ (validB l = true ∧ chkE E l = true)) : ¬ (validB l = true ∧ (rapL E l).isSome = true) := fun ⟨hv, hs⟩ => by
  rw [rapL_eq h (validB_ok hv).2] at hs
  by_cases hc : chkE E l = true
  · exact hn ⟨hv, hc⟩
  · rw [if_neg hc] at hs; cases hs

set_option maxHeartbeats 1000000 in
theorem law_DiffApplies {w : World} {pa pb pc rv : Value} {la lb lc : List Int} {rl : List Ch} (hpa : SlM fI w pa la) (hpb : SlM fI w pb lb) (hpc : SlM fI w pc lc) (hrv : SlC w rv rl) :
    Calls Try.prog 13 #[pa, pb, pc, rv] w (Ret w fun r _ => r = .bool true) := by
 refine enter (args := [pa, pb, pc, rv]) Try.func13 rfl Try.ntmps13 rfl ?_
 refine WP_seq ?_
 refine WP_region ?_
 refine O_assign rfl rfl rfl ?_
 refine WL_end [(0, _), (1, _), (2, _), (3, _)] ⟨rfl, rfl, rfl, rfl, trivial⟩ ?_
 refine WP_seq ?_
 refine WP_seq ?_
 refine WP_region ?_
 refine O_call enters41 rfl rfl rfl (awake29_c) (fun v1 w1 e1 h1 => ?_)
 have z1 := e1.size
 obtain rfl := h1
 refine O_not rfl rfl rfl rfl ?_
 refine WL_end [(0, _), (1, _), (2, _), (3, _), (22, _)] ⟨rfl, rfl, rfl, rfl, rfl, trivial⟩ ?_
 refine WP_condF rfl ?_
 refine WP_skip ?_
 refine WP_seq ?_
 refine WP_seq ?_
 refine WP_region ?_
 refine O_move rfl rfl rfl ?_
 refine M_len M22 rfl rfl rfl (hpa.ext e1) ?_
 refine O_gtr rfl rfl rfl rfl rfl ?_
 refine O_move rfl rfl rfl ?_
 refine WL_dec 26 rfl (fun g26 => ?_) (fun g26 => ?_)
 · --
  refine O_skip rfl rfl ?_
  refine O_skip rfl rfl ?_
  refine O_skip rfl rfl ?_
  refine O_pickT rfl rfl rfl rfl ?_
  refine O_move rfl rfl rfl ?_
  refine O_skip rfl rfl ?_
  refine O_skip rfl rfl ?_
  refine O_skip rfl rfl ?_
  refine O_pickT rfl rfl rfl rfl ?_
  refine O_move rfl rfl rfl ?_
  refine O_skip rfl rfl ?_
  refine O_skip rfl rfl ?_
  refine O_skip rfl rfl ?_
  refine O_pickT rfl rfl rfl rfl ?_
  refine WL_end [(0, _), (1, _), (2, _), (3, _), (40, _)] ⟨rfl, rfl, rfl, rfl, rfl, trivial⟩ ?_
  refine WP_condT rfl ?_
  refine WP_seq ?_
  refine WP_region ?_
  refine O_assign rfl rfl rfl ?_
  refine WL_end [(8, _)] ⟨rfl, trivial⟩ ?_
  refine WP_ret ?_
  refine ret1 Try.results13 rfl ?_
  exact ⟨_, rfl, e1, rfl⟩
 · --
  refine O_move rfl rfl rfl ?_
  refine M_len M22 rfl rfl rfl (hpb.ext e1) ?_
  refine O_gtr rfl rfl rfl rfl rfl ?_
  refine O_pickF rfl rfl rfl rfl ?_
  refine O_move rfl rfl rfl ?_
  refine WL_dec 31 rfl (fun g31 => ?_) (fun g31 => ?_)
  · --
   refine O_skip rfl rfl ?_
   refine O_skip rfl rfl ?_
   refine O_skip rfl rfl ?_
   refine O_pickT rfl rfl rfl rfl ?_
   refine O_move rfl rfl rfl ?_
   refine O_skip rfl rfl ?_
   refine O_skip rfl rfl ?_
   refine O_skip rfl rfl ?_
   refine O_pickT rfl rfl rfl rfl ?_
   refine WL_end [(0, _), (1, _), (2, _), (3, _), (40, _)] ⟨rfl, rfl, rfl, rfl, rfl, trivial⟩ ?_
   refine WP_condT rfl ?_
   refine WP_seq ?_
   refine WP_region ?_
   refine O_assign rfl rfl rfl ?_
   refine WL_end [(8, _)] ⟨rfl, trivial⟩ ?_
   refine WP_ret ?_
   refine ret1 Try.results13 rfl ?_
   exact ⟨_, rfl, e1, rfl⟩
  · --
   refine O_move rfl rfl rfl ?_
   refine M_len M22 rfl rfl rfl (hpc.ext e1) ?_
   refine O_gtr rfl rfl rfl rfl rfl ?_
   refine O_pickF rfl rfl rfl rfl ?_
   refine O_move rfl rfl rfl ?_
   refine WL_dec 36 rfl (fun g36 => ?_) (fun g36 => ?_)
   · --
    refine O_skip rfl rfl ?_
    refine O_skip rfl rfl ?_
    refine O_skip rfl rfl ?_
    refine O_pickT rfl rfl rfl rfl ?_
    refine WL_end [(0, _), (1, _), (2, _), (3, _), (40, _)] ⟨rfl, rfl, rfl, rfl, rfl, trivial⟩ ?_
    refine WP_condT rfl ?_
    refine WP_seq ?_
    refine WP_region ?_
    refine O_assign rfl rfl rfl ?_
    refine WL_end [(8, _)] ⟨rfl, trivial⟩ ?_
    refine WP_ret ?_
    refine ret1 Try.results13 rfl ?_
    exact ⟨_, rfl, e1, rfl⟩
   · --
    refine O_move rfl rfl rfl ?_
    refine C_len Echange rfl rfl rfl (hrv.ext e1) ?_
    refine O_gtr rfl rfl rfl rfl rfl ?_
    refine O_pickF rfl rfl rfl rfl ?_
    refine WL_end [(0, _), (1, _), (2, _), (3, _), (40, _)] ⟨rfl, rfl, rfl, rfl, rfl, trivial⟩ ?_
    refine WP_condD rfl (fun c40 => ?_) (fun c40 => ?_)
    · --
     refine WP_seq ?_
     refine WP_region ?_
     refine O_assign rfl rfl rfl ?_
     refine WL_end [(8, _)] ⟨rfl, trivial⟩ ?_
     refine WP_ret ?_
     refine ret1 Try.results13 rfl ?_
     exact ⟨_, rfl, e1, rfl⟩
    · --
     refine WP_skip ?_
     refine WP_seq ?_
     refine WP_seq ?_
     refine WP_region ?_
     refine O_move rfl rfl rfl ?_
     refine C_len Echange rfl rfl rfl (hrv.ext e1) ?_
     refine O_move rfl rfl rfl ?_
     refine WL_end [(0, _), (1, _), (2, _), (3, _), (42, _), (43, _)] ⟨rfl, rfl, rfl, rfl, rfl, rfl, trivial⟩ ?_
     refine WP_block ?_
     refine WP_loop (S := Nat) (fun i => [(0, pa), (1, pb), (2, pc), (3, rv), (42, .int .i64 (rl.length : Nat)), (43, .int .i64 (i : Nat))]) (fun i w' => Ext w w' ∧ i ≤ rl.length) (fun i => rl.length - i) 0 ⟨rfl, rfl, rfl, rfl, rfl, rfl, trivial⟩ ⟨e1, Nat.zero_le _⟩ ?_
     rintro i w9 ⟨hE, hi⟩
     have zE := hE.size
     refine WP_seq ?_
     refine WP_region ?_
     refine O_lss rfl rfl rfl rfl rfl ?_
     refine WL_end [(0, _), (1, _), (2, _), (3, _), (42, _), (43, _), (44, _)] ⟨rfl, rfl, rfl, rfl, rfl, rfl, rfl, trivial⟩ ?_
     refine WP_seq ?_
     refine WP_condD rfl (fun c44 => ?_) (fun c44 => ?_)
     · --
      refine WP_skip ?_
      refine WP_seq ?_
      refine WP_block ?_
      refine WP_seq ?_
      refine WP_region ?_
      refine O_move rfl rfl rfl ?_
      refine O_assign rfl rfl rfl ?_
      refine WL_end [(0, _), (1, _), (2, _), (3, _), (9, _), (42, _), (43, _)] ⟨rfl, rfl, rfl, rfl, rfl, rfl, rfl, trivial⟩ ?_
      refine WP_seq ?_
      have hilt : i < rl.length := by omega
      · --
       skip
       refine WP_region ?_
       refine O_move rfl rfl rfl ?_
       refine O_move rfl rfl rfl ?_
       refine C_index Echange rfl rfl rfl rfl (hrv.ext hE) i rfl hilt (fun _ => ?_)
       refine K_field F74_1 rfl rfl rfl ?_
       refine B_cell Try.underlying9 rfl rfl rfl rfl (SlC.row (j := i) (hrv.ext hE) hilt) rfl ?_
       refine O_lenS Try.underlying9 rfl rfl rfl ?_
       refine O_gtr rfl rfl rfl rfl rfl ?_
       refine WL_end [(0, _), (1, _), (2, _), (3, _), (42, _), (43, _), (52, _)] ⟨rfl, rfl, rfl, rfl, rfl, rfl, rfl, trivial⟩ ?_
       refine WP_condD rfl (fun c52 => ?_) (fun c52 => ?_)
       · --
        refine WP_seq ?_
        refine WP_region ?_
        refine O_assign rfl rfl rfl ?_
        refine WL_end [(8, _)] ⟨rfl, trivial⟩ ?_
        refine WP_ret ?_
        refine inBlk_ret ?_
        refine inBlk_ret ?_
        refine ret1 Try.results13 rfl ?_
        exact ⟨_, rfl, hE, rfl⟩
       · --
        refine WP_skip ?_
        refine WP_region ?_
        refine O_add rfl rfl rfl rfl (wrap_i64_id (by omega) (by omega)) ?_
        refine O_move rfl rfl rfl ?_
        refine WL_end [(0, _), (1, _), (2, _), (3, _), (42, _), (43, _)] ⟨rfl, rfl, rfl, rfl, rfl, rfl, trivial⟩ ?_
        exact ⟨i + 1, ⟨rfl, rfl, rfl, rfl, rfl, rfl, trivial⟩, ⟨hE, by omega⟩, by omega⟩
     · --
      refine WP_exit ?_
      refine inBlk_hit ?_
      refine WP_seq ?_
      refine WP_region ?_
      refine O_move rfl rfl rfl ?_
      refine O_call enters42 rfl rfl rfl (list29_c (hpa.ext hE) (by (try simp only [lens]); omega)) (fun v2 w2 e2 h2 => ?_)
      have z2 := e2.size
      obtain ⟨x, hx0, Lx⟩ := h2
      have hx : OwB w.heap.size _ _ x := hx0.mono (by omega)
      obtain ⟨Ax, Px, Nx, Kx⟩ := Lx
      refine O_move rfl rfl rfl ?_
      refine O_call enters42 rfl rfl rfl (list29_c (hpb.ext (hE.trans e2)) (by (try simp only [lens]); omega)) (fun v3 w3 e3 h3 => ?_)
      have z3 := e3.size
      obtain ⟨y, hy0, Ly⟩ := h3
      have hy : OwB w.heap.size _ _ y := hy0.mono (by omega)
      obtain ⟨Ay, Py, Ny, Ky⟩ := Ly
      refine O_move rfl rfl rfl ?_
      refine O_call enters42 rfl rfl rfl (list29_c (hpc.ext ((hE.trans e2).trans e3)) (by (try simp only [lens]); omega)) (fun v4 w4 e4 h4 => ?_)
      have z4 := e4.size
      obtain ⟨z, hz0, Lz⟩ := h4
      have hz : OwB w.heap.size _ _ z := hz0.mono (by omega)
      obtain ⟨Az, Pz, Nz, Kz⟩ := Lz
      refine O_assign rfl rfl rfl ?_
      refine O_assign rfl rfl rfl ?_
      refine O_assign rfl rfl rfl ?_
      refine WL_end [(3, _), (10, _), (11, _), (12, _)] ⟨rfl, rfl, rfl, rfl, trivial⟩ ?_
      refine WP_seq ?_
      refine WP_region ?_
      refine O_call enters43 rfl rfl rfl (New_c) (fun v5 w5 e5 h5 => ?_)
      have z5 := e5.size
      obtain ⟨gf, rfl, hF0, hg0, hg1⟩ := h5
      have hG0 : FG w.heap.size w5 gf [] := ⟨gf, hF0, by omega, by omega⟩
      refine O_assign rfl rfl rfl ?_
      refine WL_end [(3, _), (10, _), (11, _), (12, _), (13, _)] ⟨rfl, rfl, rfl, rfl, rfl, trivial⟩ ?_
      refine WP_seq ?_
      refine WP_region ?_
      refine O_move rfl rfl rfl ?_
      refine O_move rfl rfl rfl ?_
      have hpl6 : ([] : List Part).length ≤ 100000 := by simp only [List.length_append, List.length_nil]; omega
      refine O_callR enters45 rfl rfl rfl (built_c (ps := []) ((((hE.trans e2).trans e3).trans e4).trans e5) hG0 (((hx.ext e3).ext e4).ext e5) Ax (by omega) (by omega)) (fun e6 w6 hb6 => ?_)
      obtain ⟨qs, is, s, rfl, hT6, hE6, hF6, hqs, hRs, hOs, hAs, hvs⟩ := hb6
      refine ⟨_, rfl, ?_⟩
      have zT6 := hT6.size
      have hcs := Tr.env_length s
      rw [hvs] at hcs
      have hhs := bigB s hAs (by omega)
      refine O_assign rfl rfl rfl ?_
      refine WL_end [(3, _), (10, _), (11, _), (12, _), (13, _), (14, _)] ⟨rfl, rfl, rfl, rfl, rfl, rfl, trivial⟩ ?_
      refine WP_seq ?_
      refine WP_seq ?_
      refine WP_region ?_
      refine O_move rfl rfl rfl ?_
      refine O_move rfl rfl rfl ?_
      refine O_call enters47 rfl rfl rfl (rbetween_c ((((hx.ext e3).ext e4).ext e5).extT hT6 (by decide)).sl (((hy.ext e4).ext e5).extT hT6 (by decide)).sl Ax Ay (by (try simp only [lens]); omega)) (fun v7 w7 e7 h7 => ?_)
      have z7 := e7.size
      have k7 := h7
      rw [rbetw_eq Ax Ay Px Py] at k7
      refine O_move rfl rfl rfl ?_
      refine O_move rfl rfl rfl ?_
      refine O_call enters47 rfl rfl rfl (rbetween_c (((hz.ext e5).extT hT6 (by decide)).ext e7).sl ((((hy.ext e4).ext e5).extT hT6 (by decide)).ext e7).sl Az Ay (by (try simp only [lens]); omega)) (fun v8 w8 e8 h8 => ?_)
      have z8 := e8.size
      have k8 := h8
      rw [rbetw_eq Az Ay Pz Py] at k8
      refine O_move rfl rfl rfl ?_
      refine M_lit M88 rfl rfl fV [_, _, _] (by intro a ha; simp only [List.mem_cons, List.not_mem_nil, or_false] at ha; rcases ha with rfl | rfl | rfl; exact (k7.ext e8).one; exact k8.one; exact hrv.one) rfl rfl rfl rfl rfl (fun v9 w9 o9 e9 => ?_)
      have z9 := e9.size
      refine M_len M88 rfl rfl rfl o9.sl ?_
      refine O_move rfl rfl rfl ?_
      refine WL_end [(10, _), (13, _), (14, _), (71, _), (72, _), (73, _)] ⟨rfl, rfl, rfl, rfl, rfl, rfl, trivial⟩ ?_
      refine WP_block ?_
      have hxL := (((((((hx.ext e3).ext e4).ext e5).extT hT6 (by decide)).ext e7).ext e8).ext e9)
      have hlvL := o9
      have hEL : Ext w w9 := (((hE6.trans e7).trans e8).trans e9)
      have zL := hEL.size
      have bl1 := betw_len x y
      have bl2 := betw_len z y
      have hRd : ∀ w1, Ext w w1 → ExtT TFP w9 w1 → LCs w1 [v7, v8, rv] [betw x y, betw z y, rl] := fun w1 h1 h2 => LCs.three ((((k7.ext e8).ext e9)).extT h2 (by decide)).sl (((k8.ext e9)).extT h2 (by decide)).sl (hrv.ext h1)
      have hll : ∀ l ∈ [betw x y, betw z y, rl], l.length ≤ 100 := by
        intro l hl
        simp only [List.mem_cons, List.not_mem_nil, or_false] at hl
        rcases hl with rfl | rfl | rfl <;> omega
      have hvl : [v7, v8, rv].length = 3 := rfl
      have hsl : [betw x y, betw z y, rl].length = 3 := rfl
      generalize [v7, v8, rv] = vals at hlvL hRd hvl
      generalize [betw x y, betw z y, rl] = ls at hRd hll hsl
      refine WP_loop (S := Nat × List Part) (fun (k, q2) => [(10, v2), (13, .pointer (some ⟨gf, 0, none⟩)), (14, .int .i64 is), (71, v9), (72, .int .i64 (vals.length : Nat)), (73, .int .i64 (k : Nat))]) (fun (k, q2) w' => (Ext w w' ∧ ExtT TFP w9 w' ∧ FG w.heap.size w' gf (([] ++ qs) ++ q2)) ∧ q2.length ≤ 13000 * k ∧ k ≤ 3) (fun (k, q2) => 3 - k) (0, []) ⟨rfl, rfl, rfl, rfl, rfl, rfl, trivial⟩ ⟨⟨(((hE6.trans e7).trans e8).trans e9), ExtT.refl _ _, by rw [List.append_nil]; exact (((hF6.ext e7).ext e8).ext e9)⟩, Nat.le_refl _, Nat.zero_le _⟩ ?_
      rintro ⟨k, q2⟩ w9 ⟨⟨hE9, hT9, hF9⟩, hq2, hk⟩
      show WP _ _ _ _ _ [(10, v2), (13, .pointer (some ⟨gf, 0, none⟩)), (14, .int .i64 is), (71, v9), (72, .int .i64 (vals.length : Nat)), (73, .int .i64 (k : Nat))] _
      have zE := hE9.size
      have hx9 := hxL.extT hT9 (by decide)
      have hlv9 := hlvL.extT hT9 (by decide)
      have hRk := hRs.more (qs := q2)
      have hpl9 : (([] ++ qs) ++ q2 : List Part).length ≤ 100000 := by simp only [List.length_append, List.length_nil]; omega
      refine WP_seq ?_
      refine WP_region ?_
      refine O_lss rfl rfl rfl rfl rfl ?_
      refine WL_end [(10, _), (13, _), (14, _), (71, _), (72, _), (73, _), (74, _)] ⟨rfl, rfl, rfl, rfl, rfl, rfl, rfl, trivial⟩ ?_
      refine WP_seq ?_
      refine WP_condD rfl (fun c74 => ?_) (fun c74 => ?_)
      · --
       refine WP_skip ?_
       refine WP_seq ?_
       refine WP_block ?_
       refine WP_seq ?_
       have hkv : k < vals.length := by omega
       have hkl : k < ls.length := by omega
       have hl9 := hll ls[k] (List.getElem_mem hkl)
       · --
        skip
        refine WP_region ?_
        refine M_index M88 rfl rfl rfl rfl hlv9.sl k rfl hkv ?_
        refine M_load Try.underlying66 rfl rfl rfl rfl hlv9.sl hkv ?_
        refine O_assign rfl rfl rfl ?_
        refine WL_end [(10, _), (13, _), (14, _), (16, _), (71, _), (72, _), (73, _)] ⟨rfl, rfl, rfl, rfl, rfl, rfl, rfl, trivial⟩ ?_
        refine WP_seq ?_
        by_cases hok : validB ls[k] = true ∧ chkE x ls[k] = true
        · --
         skip
         refine WP_region ?_
         refine O_move rfl rfl rfl ?_
         refine O_move rfl rfl rfl ?_
         refine O_move rfl rfl rfl ?_
         refine O_callR enters57 rfl rfl rfl (apply_c hE9 hF9 hRk hOs hAs (fun w1 h1 h2 => (hRd w1 h1 (hT9.trans (ExtT.trans (show ExtT TFP _ _ from ExtT.refl _ _) h2))).at_ hkv hkl) hl9 (by omega) (by omega)) (fun e7 w7 hb7 => ?_)
         unfold RAp at hb7
         rw [hvs] at hb7
         obtain ⟨⟨hT7, hE7⟩, ⟨_, qu, iu, u1, rfl, hF7, hqu, hRu, hOu, hAu, hvu⟩ | ⟨hno, _⟩⟩ := hb7
         rotate_left
         · exact absurd hok hno
         refine ⟨_, rfl, ?_⟩
         have zT7 := hT7.size
         have hcu := Tr.env_length u1
         have hal9 := apL_len ls[k] x
         have hlu := congrArg List.length hvu
         refine O_move rfl rfl rfl ?_
         refine O_extract rfl rfl rfl rfl ?_
         refine O_extract rfl rfl rfl rfl ?_
         refine O_assign rfl rfl rfl ?_
         refine O_assign rfl rfl rfl ?_
         refine WL_end [(10, _), (13, _), (14, _), (16, _), (17, _), (18, _), (71, _), (72, _), (73, _)] ⟨rfl, rfl, rfl, rfl, rfl, rfl, rfl, rfl, rfl, trivial⟩ ?_
         refine WP_seq ?_
         refine WP_region ?_
         refine O_move rfl rfl rfl ?_
         refine O_move rfl rfl rfl ?_
         refine O_call enters58 rfl rfl rfl (rapply_c (hx9.extT hT7 (by decide)).sl ((hRd _ hE7 (hT9.trans (show ExtT TFP _ _ from (hT7.mono (by decide))))).at_ hkv hkl) (by (try simp only [lens]); omega) (by (try simp only [lens]); omega)) (fun v10 w10 e10 h10 => ?_)
         have z10 := e10.size
         obtain ⟨hva, E2, hra, x9, rfl, hsx⟩ | ⟨hno, _⟩ := h10
         rotate_left
         · exact absurd ⟨hok.1, by rw [rap_ok Ax hok.1 hok.2]; rfl⟩ hno
         rw [rap_ok Ax hok.1 hok.2] at hra
         obtain rfl := Option.some.inj hra
         refine O_move rfl rfl rfl ?_
         refine O_extract rfl rfl rfl rfl ?_
         refine O_extract rfl rfl rfl rfl ?_
         refine O_assign rfl rfl rfl ?_
         refine O_assign rfl rfl rfl ?_
         refine WL_end [(10, _), (13, _), (14, _), (17, _), (18, _), (19, _), (20, _), (71, _), (72, _), (73, _)] ⟨rfl, rfl, rfl, rfl, rfl, rfl, rfl, rfl, rfl, rfl, trivial⟩ ?_
         refine WP_seq ?_
         refine WP_region ?_
         refine O_move rfl rfl rfl ?_
         refine O_eql (t := true) rfl rfl rfl rfl (decide_eq_true rfl) ?_
         refine O_move rfl rfl rfl ?_
         refine O_bneq Try.underlying4 rfl rfl rfl rfl rfl ?_
         refine O_move rfl rfl rfl ?_
         refine O_move rfl rfl rfl ?_
         refine O_move rfl rfl rfl ?_
         refine O_move rfl rfl rfl ?_
         refine O_move rfl rfl rfl ?_
         refine O_call enters20 rfl rfl rfl (List_G (hF7.ext e10) hRu (by (try simp only [lens]); omega)) (fun v11 w11 e11 h11 => ?_)
         have z11 := e11.size
         refine O_move rfl rfl rfl ?_
         refine O_call enters19 rfl rfl rfl (same_T h11.sl (hsx.ext e11) (by (try simp only [lens]); omega) hvu) (fun v12 w12 e12 h12 => ?_)
         have z12 := e12.size
         obtain rfl := h12
         refine O_not rfl rfl rfl rfl ?_
         refine O_pickT rfl rfl rfl rfl ?_
         refine O_pickF rfl rfl rfl rfl ?_
         refine O_move rfl rfl rfl ?_
         refine O_move rfl rfl rfl ?_
         refine O_not rfl rfl rfl rfl ?_
         refine O_move rfl rfl rfl ?_
         refine O_skip rfl rfl ?_
         refine O_skip rfl rfl ?_
         refine O_skip rfl rfl ?_
         refine O_skipU rfl rfl rfl ?_
         refine O_skipU rfl rfl rfl ?_
         refine O_skip rfl rfl ?_
         refine O_pickF rfl rfl rfl rfl ?_
         refine O_pickF rfl rfl rfl rfl ?_
         refine WL_end [(10, _), (13, _), (14, _), (71, _), (72, _), (73, _), (116, _)] ⟨rfl, rfl, rfl, rfl, rfl, rfl, rfl, trivial⟩ ?_
         refine WP_condF rfl ?_
         refine WP_skip ?_
         refine WP_region ?_
         refine O_add rfl rfl rfl rfl (wrap_i64_id (by omega) (by omega)) ?_
         refine O_move rfl rfl rfl ?_
         refine WL_end [(10, _), (13, _), (14, _), (71, _), (72, _), (73, _)] ⟨rfl, rfl, rfl, rfl, rfl, rfl, trivial⟩ ?_
         exact ⟨(k + 1, q2 ++ qu), ⟨rfl, rfl, rfl, rfl, rfl, rfl, trivial⟩, ⟨⟨(((hE7.trans e10).trans e11).trans e12), hT9.trans (show ExtT TFP _ _ from (ExtT.trans (ExtT.trans (ExtT.trans (hT7.mono (by decide)) (Ext.toT e10)) (Ext.toT e11)) (Ext.toT e12))), by rw [← List.append_assoc]; exact (((hF7.ext e10).ext e11).ext e12)⟩, by rw [List.length_append]; omega, by omega⟩, by dsimp only; omega⟩
        · --
         skip
         refine WP_region ?_
         refine O_move rfl rfl rfl ?_
         refine O_move rfl rfl rfl ?_
         refine O_move rfl rfl rfl ?_
         refine O_callR enters57 rfl rfl rfl (apply_c hE9 hF9 hRk hOs hAs (fun w1 h1 h2 => (hRd w1 h1 (hT9.trans (ExtT.trans (show ExtT TFP _ _ from ExtT.refl _ _) h2))).at_ hkv hkl) hl9 (by omega) (by omega)) (fun e7 w7 hb7 => ?_)
         unfold RAp at hb7
         rw [hvs] at hb7
         obtain ⟨⟨hT7, hE7⟩, ⟨hyes, _⟩ | ⟨_, rfl, hF7⟩⟩ := hb7
         · exact absurd hyes hok
         refine ⟨_, rfl, ?_⟩
         have zT7 := hT7.size
         refine O_move rfl rfl rfl ?_
         refine O_extract rfl rfl rfl rfl ?_
         refine O_extract rfl rfl rfl rfl ?_
         refine O_assign rfl rfl rfl ?_
         refine O_assign rfl rfl rfl ?_
         refine WL_end [(10, _), (13, _), (14, _), (16, _), (17, _), (18, _), (71, _), (72, _), (73, _)] ⟨rfl, rfl, rfl, rfl, rfl, rfl, rfl, rfl, rfl, trivial⟩ ?_
         refine WP_seq ?_
         refine WP_region ?_
         refine O_move rfl rfl rfl ?_
         refine O_move rfl rfl rfl ?_
         refine O_call enters58 rfl rfl rfl (rapply_c (hx9.extT hT7 (by decide)).sl ((hRd _ hE7 (hT9.trans (show ExtT TFP _ _ from (hT7.mono (by decide))))).at_ hkv hkl) (by (try simp only [lens]); omega) (by (try simp only [lens]); omega)) (fun v13 w13 e13 h13 => ?_)
         have z13 := e13.size
         obtain ⟨hva, E2, hra, _⟩ | ⟨_, rfl⟩ := h13
         · exact absurd ⟨hva, by rw [hra]; rfl⟩ (rap_no Ax hok)
         refine O_move rfl rfl rfl ?_
         refine O_extract rfl rfl rfl rfl ?_
         refine O_extract rfl rfl rfl rfl ?_
         refine O_assign rfl rfl rfl ?_
         refine O_assign rfl rfl rfl ?_
         refine WL_end [(10, _), (13, _), (14, _), (17, _), (18, _), (19, _), (20, _), (71, _), (72, _), (73, _)] ⟨rfl, rfl, rfl, rfl, rfl, rfl, rfl, rfl, rfl, rfl, trivial⟩ ?_
         refine WP_seq ?_
         refine WP_region ?_
         refine O_move rfl rfl rfl ?_
         refine O_eql (t := false) rfl rfl rfl rfl (decide_eq_false (by decide)) ?_
         refine O_move rfl rfl rfl ?_
         refine O_bneq Try.underlying4 rfl rfl rfl rfl rfl ?_
         refine O_move rfl rfl rfl ?_
         refine O_move rfl rfl rfl ?_
         refine O_move rfl rfl rfl ?_
         refine O_skip rfl rfl ?_
         refine O_skip rfl rfl ?_
         refine O_skip rfl rfl ?_
         refine O_skip rfl rfl ?_
         refine O_skip rfl rfl ?_
         refine O_skip rfl rfl ?_
         refine O_pickF rfl rfl rfl rfl ?_
         refine O_pickF rfl rfl rfl rfl ?_
         refine O_move rfl rfl rfl ?_
         refine O_move rfl rfl rfl ?_
         refine O_not rfl rfl rfl rfl ?_
         refine O_move rfl rfl rfl ?_
         refine O_move rfl rfl rfl ?_
         refine O_neq (t := false) rfl rfl rfl rfl (decide_eq_false (fun h => h rfl)) ?_
         refine O_move rfl rfl rfl ?_
         refine O_move rfl rfl rfl ?_
         refine O_neq (t := false) rfl rfl rfl rfl (decide_eq_false (fun h => h rfl)) ?_
         refine O_pickF rfl rfl rfl rfl ?_
         refine O_pickT rfl rfl rfl rfl ?_
         refine O_pickF rfl rfl rfl rfl ?_
         refine WL_end [(10, _), (13, _), (14, _), (71, _), (72, _), (73, _), (116, _)] ⟨rfl, rfl, rfl, rfl, rfl, rfl, rfl, trivial⟩ ?_
         refine WP_condF rfl ?_
         refine WP_skip ?_
         refine WP_region ?_
         refine O_add rfl rfl rfl rfl (wrap_i64_id (by omega) (by omega)) ?_
         refine O_move rfl rfl rfl ?_
         refine WL_end [(10, _), (13, _), (14, _), (71, _), (72, _), (73, _)] ⟨rfl, rfl, rfl, rfl, rfl, rfl, trivial⟩ ?_
         exact ⟨(k + 1, q2), ⟨rfl, rfl, rfl, rfl, rfl, rfl, trivial⟩, ⟨⟨(hE7.trans e13), hT9.trans (show ExtT TFP _ _ from (ExtT.trans (hT7.mono (by decide)) (Ext.toT e13))), (hF7.ext e13)⟩, by omega, by omega⟩, by dsimp only; omega⟩
      · --
       refine WP_exit ?_
       refine inBlk_hit ?_
       refine WP_seq ?_
       refine WP_region ?_
       refine O_move rfl rfl rfl ?_
       refine O_move rfl rfl rfl ?_
       refine O_call enters20 rfl rfl rfl (List_G hF9 hRk (by (try simp only [lens]); omega)) (fun v14 w14 e14 h14 => ?_)
       have z14 := e14.size
       refine O_move rfl rfl rfl ?_
       refine O_call enters19 rfl rfl rfl (same_T h14.sl (hx9.ext e14).sl (by rw [hvs]; omega) hvs) (fun v15 w15 e15 h15 => ?_)
       have z15 := e15.size
       obtain rfl := h15
       refine O_assign rfl rfl rfl ?_
       refine WL_end [(8, _)] ⟨rfl, trivial⟩ ?_
       refine WP_ret ?_
       refine ret1 Try.results13 rfl ?_
       exact ⟨_, rfl, ((hE9.trans e14).trans e15), rfl⟩

end Go.Proofs.Ytoccimigjjndpaa
