/-
  Walks.
-/
import Derived.Test.YtoccimigjjndpaaT11
set_option linter.unusedVariables false
set_option linter.unusedSimpArgs false
set_option maxRecDepth 100000
namespace Go.Proofs.Ytoccimigjjndpaa
open Go Go.RowKit
set_option maxHeartbeats 4000000 in
theorem grow_c {w : World} {v : Value} {l : List Int} {m : Nat} (hl : SlM fI w v l) (hll : l.length ≤ 120) (hm : m ≤ 100) :
    Calls Try.prog 17 #[v, .int .i64 (m : Nat)] w (Ret w fun r w' => ∃ gx gf rs ts, r = .tuple #[.pointer (some ⟨gx, 0, none⟩), .bool true] ∧ GS w.heap.size w' gx gf rs ts ∧ rs.length ≤ l.length + 1 + m) := by
 refine enter (args := [v, _]) Try.func17 rfl Try.ntmps17 rfl ?_
 refine WP_seq ?_
 refine WP_region ?_
 refine O_assign rfl rfl rfl ?_
 refine O_assign rfl rfl rfl ?_
 refine WL_end [(0, _), (1, _)] ⟨rfl, rfl, trivial⟩ ?_
 refine WP_seq ?_
 refine WP_region ?_
 refine O_call enters43 rfl rfl rfl (New_c) (fun v1 w1 e1 h1 => ?_)
 have z1 := e1.size
 obtain ⟨gf, rfl, hF0, hg0, hg1⟩ := h1
 have hG0 : FG w.heap.size w1 gf [] := ⟨gf, hF0, by omega, by omega⟩
 refine M_lit M22 rfl rfl fI [-1] (by intro a _; rfl) rfl rfl rfl rfl rfl (fun v2 w2 o2 e2 => ?_)
 have z2 := e2.size
 refine M_lit M30 rfl rfl fV [.slice none 0 0] (by intro a ha; simp at ha; subst ha; rfl) rfl rfl rfl rfl rfl (fun v3 w3 o3 e3 => ?_)
 have z3 := e3.size
 refine O_build (cs := [_, _, _]) B32 rfl rfl rfl (cells_cons rfl (cells_cons ((o2.ext e3)).cells1 (cells_cons (o3).cells1 cells_nil))) rfl ?_
 refine O_box _ rfl rfl rfl rfl (fun g4 w4 b4 e4 gl4 gh4 => ?_)
 have z4 := e4.size
 refine O_assign rfl rfl rfl ?_
 refine WL_end [(0, _), (1, _), (6, _)] ⟨rfl, rfl, rfl, trivial⟩ ?_
 refine WP_seq ?_
 refine WP_region ?_
 refine O_move rfl rfl rfl ?_
 refine O_call enters22 rfl rfl rfl (newtape_c (hl.ext (((e1.trans e2).trans e3).trans e4))) (fun v5 w5 e5 h5 => ?_)
 have z5 := e5.size
 obtain ⟨tp, rfl, hB0, ht0, ht1⟩ := h5
 have htp : w.heap.size ≤ tp := by omega
 refine O_assign rfl rfl rfl ?_
 refine WL_end [(1, _), (6, _), (7, _)] ⟨rfl, rfl, rfl, trivial⟩ ?_
 refine WP_seq ?_
 refine WP_block ?_
 refine WP_loop (S := Nat × List Int × List Tr) (fun (a, rs, ts) => [(1, .int .i64 (m : Nat)), (6, .pointer (some ⟨g4, 0, none⟩)), (7, .pointer (some ⟨tp, 0, none⟩))]) (fun (a, rs, ts) w' => Ext w w' ∧ Bk w' tp 100 [v, .int .i64 (a : Nat)] ∧ GS w.heap.size w' g4 gf rs ts ∧ a ≤ l.length ∧ rs.length ≤ a + 1) (fun (a, rs, ts) => l.length - a) (0, [-1], [.leaf]) ⟨rfl, rfl, rfl, trivial⟩ ⟨((((e1.trans e2).trans e3).trans e4).trans e5), hB0, ⟨_, _, _, _, (b4.ext e5), ((((hG0.ext e2).ext e3).ext e4).ext e5), ((((o2.ext e3).ext e4).ext e5).mono (by omega)), (((o3.ext e4).ext e5).mono (by omega)), Lists.start _ _, Good.start _, by simp, by simp, by omega⟩, Nat.zero_le _, by simp⟩ ?_
 rintro ⟨a, rs, ts⟩ w9 ⟨hE, hB, ⟨ps, vr, vl, lv, hx, hF, hr, hv, hLL, hG, hps, hrs, hgx⟩, ha, hlen⟩
 show WP _ _ _ _ _ [(1, .int .i64 (m : Nat)), (6, .pointer (some ⟨g4, 0, none⟩)), (7, .pointer (some ⟨tp, 0, none⟩))] _
 have zE := hE.size
 refine WP_seq ?_
 refine WP_seq ?_
 refine WP_region ?_
 refine O_move rfl rfl rfl ?_
 refine O_call enters23 rfl rfl rfl (more_c hl hE hB) (fun v6 w6 e6 h6 => ?_)
 have z6 := e6.size
 obtain rfl := h6
 refine WL_end [(1, _), (6, _), (7, _), (27, _)] ⟨rfl, rfl, rfl, rfl, trivial⟩ ?_
 refine WP_condD rfl (fun c27 => ?_) (fun c27 => ?_)
 · --
  refine WP_skip ?_
  refine WP_block ?_
  refine WP_seq ?_
  refine WP_region ?_
  refine O_move rfl rfl rfl ?_
  refine O_nilCheck rfl rfl rfl ?_
  refine O_field F32_1 rfl rfl rfl ?_
  refine O_loadC Try.underlying22 rfl rfl rfl rfl (hx.ext e6) rfl ?_
  refine M_len M22 rfl rfl rfl (hr.ext e6).sl ?_
  refine O_sub rfl rfl rfl rfl (wrap_i64_id (by omega) (by omega)) ?_
  refine O_assign rfl rfl rfl ?_
  refine WL_end [(1, _), (6, _), (7, _), (8, _)] ⟨rfl, rfl, rfl, rfl, trivial⟩ ?_
  refine WP_seq ?_
  refine WP_seq ?_
  refine WP_region ?_
  refine O_move rfl rfl rfl ?_
  have zx7 := ((hE.trans e6)).size
  refine O_callT (k := _) enters27 rfl rfl rfl (next_c hl (hE.trans e6) htp (hB.ext e6) (by omega) (by omega) (by decide) (by decide)) (fun r7 a7 w7 hr7 hs7 hE7 hT7 hB7 h17 h27 h37 => ?_)
  have zE7 := hE7.size
  have zT7 := hT7.size
  refine O_eql rfl rfl rfl rfl rfl ?_
  refine WL_end [(1, _), (6, _), (7, _), (8, _), (36, _)] ⟨rfl, rfl, rfl, rfl, rfl, trivial⟩ ?_
  refine WP_joinK (S := Int × Nat) (fun (k, b) => [(1, .int .i64 (m : Nat)), (6, .pointer (some ⟨g4, 0, none⟩)), (7, .pointer (some ⟨tp, 0, none⟩)), (8, .int .i64 k)]) (fun (k, b) w' => Ext w w' ∧ Bk w' tp 100 [v, .int .i64 (b : Nat)] ∧ GS w.heap.size w' g4 gf rs ts ∧ a < b ∧ b ≤ l.length ∧ 0 ≤ k ∧ k < (rs.length : Int)) ?_ ?_
  · --
   refine WP_condD rfl (fun c36 => ?_) (fun c36 => ?_)
   · --
    refine WP_region ?_
    refine O_move rfl rfl rfl ?_
    refine O_move rfl rfl rfl ?_
    refine O_nilCheck rfl rfl rfl ?_
    refine O_field F32_1 rfl rfl rfl ?_
    refine O_loadC Try.underlying22 rfl rfl rfl rfl ((hx.ext e6).extT hT7 (by decide)) rfl ?_
    refine M_len M22 rfl rfl rfl ((hr.ext e6).extT hT7 (by decide)).sl ?_
    have zx8 := (hE7).size
    refine O_callT (k := _) enters27 rfl rfl rfl (next_c hl hE7 htp hB7 (by omega) (by omega) (by omega) (by omega)) (fun r8 a8 w8 hr8 hs8 hE8 hT8 hB8 h18 h28 h38 => ?_)
    have zE8 := hE8.size
    have zT8 := hT8.size
    refine O_assign rfl rfl rfl ?_
    refine WL_end [(1, _), (6, _), (7, _), (8, _)] ⟨rfl, rfl, rfl, rfl, trivial⟩ ?_
    exact ⟨(_, _), ⟨rfl, rfl, rfl, rfl, trivial⟩, ⟨hE8, hB8, ⟨_, _, _, _, (((hx.ext e6).extT hT7 (by decide)).extT hT8 (by decide)), (((hF.ext e6).extT' hT7 (by decide)).extT' hT8 (by decide)), (((hr.ext e6).extT hT7 (by decide)).extT hT8 (by decide)), (((hv.ext e6).extT hT7 (by decide)).extT hT8 (by decide)), (((hLL.ext e6).extT hT7 (by decide)).extT hT8 (by decide)), hG, hps, hrs, hgx⟩, by omega, by omega, by (try dsimp only); omega, by (try dsimp only); omega⟩⟩
   · --
    refine WP_skip ?_
    exact ⟨(_, _), ⟨rfl, rfl, rfl, rfl, trivial⟩, ⟨hE7, hB7, ⟨_, _, _, _, ((hx.ext e6).extT hT7 (by decide)), ((hF.ext e6).extT' hT7 (by decide)), ((hr.ext e6).extT hT7 (by decide)), ((hv.ext e6).extT hT7 (by decide)), ((hLL.ext e6).extT hT7 (by decide)), hG, hps, hrs, hgx⟩, by omega, by omega, by (try dsimp only); omega, by (try dsimp only); omega⟩⟩
  · --
   rintro ⟨k, b⟩ w8 ⟨hE8, hB8, ⟨ps8, vr8, vl8, lv8, hx8, hF8, hr8, hv8, hLL8, hG8, hps8, hrs8, hgx8⟩, hab, hbl, hk0, hk1⟩
   show WP _ _ _ _ _ [(1, .int .i64 (m : Nat)), (6, .pointer (some ⟨g4, 0, none⟩)), (7, .pointer (some ⟨tp, 0, none⟩)), (8, .int .i64 k)] _
   have zE8 := hE8.size
   obtain ⟨kn, rfl⟩ : ∃ kn : Nat, k = (kn : Int) := ⟨k.toNat, by omega⟩
   have hk2 : kn < rs.length := by omega
   have hk3 : kn < ts.length := by have := hG8.1; omega
   have hk4 : kn < lv8.length := by have := hLL8.1; omega
   have hlvl : lv8.length ≤ rs.length := by have := hLL8.1; have := hG8.1; omega
   obtain ⟨hRk, hOk, hAk, hCk⟩ := hG8.at_ hk2 hk3
   have h40 := bigB ts[kn] hAk (by omega)
   have henk := Tr.env_length ts[kn]
   refine WP_seq ?_
   refine WP_region ?_
   refine O_move rfl rfl rfl ?_
   refine O_callNm enters26 rfl rfl rfl (name_c hl hE8 htp hB8 (by omega) (by omega)) (fun s9 a9 w9 hz9 hE9 hT9 hB9 h19 h29 h39 => ?_)
   have zE9 := hE9.size
   have zT9 := hT9.size
   refine O_assign rfl rfl rfl ?_
   refine WL_end [(1, _), (6, _), (7, _), (8, _), (9, _)] ⟨rfl, rfl, rfl, rfl, rfl, trivial⟩ ?_
   refine WP_seq ?_
   refine WP_seq ?_
   refine WP_region ?_
   refine O_move rfl rfl rfl ?_
   have zx10 := (hE9).size
   refine O_callT (k := _) enters27 rfl rfl rfl (next_c hl hE9 htp hB9 (by omega) (by omega) (by decide) (by decide)) (fun r10 a10 w10 hr10 hs10 hE10 hT10 hB10 h110 h210 h310 => ?_)
   have zE10 := hE10.size
   have zT10 := hT10.size
   refine O_eql rfl rfl rfl rfl rfl ?_
   refine WL_end [(1, _), (6, _), (7, _), (8, _), (9, _), (48, _)] ⟨rfl, rfl, rfl, rfl, rfl, rfl, trivial⟩ ?_
   refine WP_condD rfl (fun c48 => ?_) (fun c48 => ?_)
   · --
    refine WP_seq ?_
    by_cases hs : egot ts[kn].env s9
    · --
     skip
     refine WP_sub [(1, _), (6, _), (7, _), (8, _), (9, _)] ⟨rfl, rfl, rfl, rfl, rfl, trivial⟩ ?_
     refine WP_anyF (XD (FRetU (fun i => .tuple #[.int .i64 i, .bool true]) w.heap.size gf ps8 rs[kn] ts[kn].env (edrop ts[kn].env s9) (3 * ts[kn].ht) w10) w10) (fun w' => ExtT TFP w10 w') 17 [1, 6, 7, 8, 9] [12, 13, 14, 15, 16] [some 62, some 49, some 63, some 64, some 10] [[], [0], [1], [1], [2]] mixed rfl (by kernel_rfl) (by kernel_rfl) XD.toT (fun w' h => XD.start h) ?_
     apply AnyF_val [6] XD.toT rfl rfl rfl
     · --
      intro y12_ hy
      refine O_move rfl rfl rfl ?_
      exact WL_nil ⟨rfl, rfl⟩
     apply AnyF_val [50] XD.toT rfl rfl rfl
     · --
      intro y12_ hy
      refine O_nilCheck rfl rfl rfl ?_
      exact WL_nil ⟨rfl, rfl⟩
     apply AnyF_val [51] XD.toT rfl rfl rfl
     · --
      intro y12_ hy
      refine O_field F32_0 rfl rfl rfl ?_
      exact WL_nil ⟨rfl, rfl⟩
     apply AnyF_val [52] XD.toT rfl rfl rfl
     · --
      intro y12_ hy
      refine O_loadC Try.underlying29 rfl rfl rfl rfl (((hx8.extT hT9 (by decide)).extT hT10 (by decide)).extT hy (by decide)) rfl ?_
      exact WL_nil ⟨rfl, rfl⟩
     apply AnyF_val [6] XD.toT rfl rfl rfl
     · --
      intro y12_ hy
      refine O_move rfl rfl rfl ?_
      exact WL_nil ⟨rfl, rfl⟩
     apply AnyF_val [54] XD.toT rfl rfl rfl
     · --
      intro y12_ hy
      refine O_nilCheck rfl rfl rfl ?_
      exact WL_nil ⟨rfl, rfl⟩
     apply AnyF_val [55] XD.toT rfl rfl rfl
     · --
      intro y12_ hy
      refine O_field F32_1 rfl rfl rfl ?_
      exact WL_nil ⟨rfl, rfl⟩
     apply AnyF_val [56] XD.toT rfl rfl rfl
     · --
      intro y12_ hy
      refine O_loadC Try.underlying22 rfl rfl rfl rfl (((hx8.extT hT9 (by decide)).extT hT10 (by decide)).extT hy (by decide)) rfl ?_
      exact WL_nil ⟨rfl, rfl⟩
     apply AnyF_val [8] XD.toT rfl rfl rfl
     · --
      intro y12_ hy
      refine O_move rfl rfl rfl ?_
      exact WL_nil ⟨rfl, rfl⟩
     apply AnyF_val [57, 58] XD.toT rfl rfl rfl
     · --
      intro y12_ hy
      refine M_index M22 rfl rfl rfl rfl (((hr8.extT hT9 (by decide)).extT hT10 (by decide)).extT hy (by decide)).sl kn rfl hk2 ?_
      exact WL_nil ⟨rfl, rfl⟩
     apply AnyF_val [59] XD.toT rfl rfl rfl
     · --
      intro y12_ hy
      refine M_load Try.underlying3 rfl rfl rfl rfl (((hr8.extT hT9 (by decide)).extT hT10 (by decide)).extT hy (by decide)).sl hk2 ?_
      exact WL_nil ⟨rfl, rfl⟩
     apply AnyF_val [9] XD.toT rfl rfl rfl
     · --
      intro y12_ hy
      refine O_move rfl rfl rfl ?_
      exact WL_nil ⟨rfl, rfl⟩
     apply AnyF_eff 0 [] [53, 60, 61] rfl rfl rfl rfl
     · --
      intro vs y12_ hl hnone hwait hX
      obtain ⟨v0, v1, v2, v3, v4, rfl⟩ := len5' hl
      obtain rfl : v0 = none := by simpa using hnone
      have hX0 : Ext w10 y12_ := hX.1 rfl
      have zy := hX0.size
      refine O_callR enters30 rfl rfl rfl (Drop_UT (((hF8.extT' hT9 (by decide)).extT' hT10 (by decide)).ext hX0) (by omega) hRk hOk hAk (by omega) (by omega) _ hs) (fun e2 w2 hR2 => ?_)
      have hR3 := FRetU.pre hX0 hR2
      obtain ⟨qs2, i2, u2, he2, -⟩ := hR2
      subst he2
      exact ⟨_, rfl, WL_nil ⟨_, rfl, XD.s0 hX hR3⟩⟩
     apply AnyF_eff 1 [0] [62] rfl rfl rfl rfl
     · --
      intro vs y12_ hl hnone hwait hX
      obtain ⟨v0, v1, v2, v3, v4, rfl⟩ := len5' hl
      obtain rfl : v1 = none := by simpa using hnone
      obtain ⟨u9, hu9⟩ := hwait 0 (by simp)
      obtain rfl : v0 = some u9 := by simpa using hu9
      refine O_move rfl rfl rfl ?_
      exact WL_nil ⟨_, rfl, XD.s1 hX⟩
     apply AnyF_eff 2 [1] [49] rfl rfl rfl rfl
     · --
      intro vs y12_ hl hnone hwait hX
      obtain ⟨v0, v1, v2, v3, v4, rfl⟩ := len5' hl
      obtain rfl : v2 = none := by simpa using hnone
      obtain ⟨u9, hu9⟩ := hwait 1 (by simp)
      obtain rfl : v1 = some u9 := by simpa using hu9
      obtain ⟨h1, h2, h3, h4, h5, h6⟩ := id hX
      obtain rfl := h3 _ rfl
      obtain ⟨q9, j9, t9, he9, -⟩ := h2 _ rfl
      cases he9
      refine O_extract rfl rfl rfl rfl ?_
      exact WL_nil ⟨_, rfl, XD.s2 hX rfl⟩
     apply AnyF_eff 3 [1] [49] rfl rfl rfl rfl
     · --
      intro vs y12_ hl hnone hwait hX
      obtain ⟨v0, v1, v2, v3, v4, rfl⟩ := len5' hl
      obtain rfl : v3 = none := by simpa using hnone
      obtain ⟨u9, hu9⟩ := hwait 1 (by simp)
      obtain rfl : v1 = some u9 := by simpa using hu9
      obtain ⟨h1, h2, h3, h4, h5, h6⟩ := id hX
      obtain rfl := h3 _ rfl
      obtain ⟨q9, j9, t9, he9, -⟩ := h2 _ rfl
      cases he9
      refine O_extract rfl rfl rfl rfl ?_
      exact WL_nil ⟨_, rfl, XD.s3 hX rfl⟩
     apply AnyF_eff 4 [2] [63] rfl rfl rfl rfl
     · --
      intro vs y12_ hl hnone hwait hX
      obtain ⟨v0, v1, v2, v3, v4, rfl⟩ := len5' hl
      obtain rfl : v4 = none := by simpa using hnone
      obtain ⟨u9, hu9⟩ := hwait 2 (by simp)
      obtain rfl : v2 = some u9 := by simpa using hu9
      refine O_assign rfl rfl rfl ?_
      exact WL_nil ⟨_, rfl, XD.s4 hX⟩
     refine AnyF_nil fun vs y12_ hl hdone hX => ?_
     obtain ⟨v0, v1, v2, v3, v4, rfl⟩ := len5' hl
     obtain ⟨b0, hb0⟩ := hdone 0 (by decide)
     obtain rfl : v0 = some b0 := by simpa using hb0
     obtain ⟨b1, hb1⟩ := hdone 1 (by decide)
     obtain rfl : v1 = some b1 := by simpa using hb1
     obtain ⟨b2, hb2⟩ := hdone 2 (by decide)
     obtain rfl : v2 = some b2 := by simpa using hb2
     obtain ⟨b3, hb3⟩ := hdone 3 (by decide)
     obtain rfl : v3 = some b3 := by simpa using hb3
     obtain ⟨b4, hb4⟩ := hdone 4 (by decide)
     obtain rfl : v4 = some b4 := by simpa using hb4
     obtain ⟨h1, h2, h3, h4, h5, h6⟩ := hX
     obtain rfl := Option.some.inj (h6 _ rfl)
     obtain rfl := Option.some.inj (h3 _ rfl)
     obtain ⟨qs11, i11, t11, he11, hT11, hb11, hF11, hq11, hR11, hO11, hA11, hv11, hsm11⟩ := h2 _ rfl
     cases he11
     obtain ⟨x4, hx4, hy4⟩ := h4 _ rfl
     cases hx4
     cases hy4
     obtain ⟨x5, hx5, hy5⟩ := h5 _ rfl
     cases hx5
     cases hy5
     have zT11 : _ ≤ y12_.heap.size := hT11.size
     refine O_assign rfl rfl rfl ?_
     refine WL_end [(1, _), (6, _), (7, _), (8, _), (9, _), (10, _), (11, _)] ⟨rfl, rfl, rfl, rfl, rfl, rfl, rfl, trivial⟩ ?_
     refine WP_seq ?_
     refine WP_region ?_
     refine O_move rfl rfl rfl ?_
     refine O_nilCheck rfl rfl rfl ?_
     refine O_field F32_2 rfl rfl rfl ?_
     refine O_loadC Try.underlying30 rfl rfl rfl rfl (((hx8.extT hT9 (by decide)).extT hT10 (by decide)).extT hT11 (by decide)) rfl ?_
     refine O_move rfl rfl rfl ?_
     refine M_index M30 rfl rfl rfl rfl (((hv8.extT hT9 (by decide)).extT hT10 (by decide)).extT hT11 (by decide)).sl kn rfl hk4 ?_
     refine M_load Try.underlying34 rfl rfl rfl rfl (((hv8.extT hT9 (by decide)).extT hT10 (by decide)).extT hT11 (by decide)).sl hk4 ?_
     refine O_move rfl rfl rfl ?_
     refine O_call enters31 rfl rfl rfl (RDrop_some ((((hLL8.extT hT9 (by decide)).extT hT10 (by decide)).extT hT11 (by decide)).at_ hk4 hk3).sl (by (try simp only [lens]); omega) hs) (fun v13 w13 e13 h13 => ?_)
     have z13 := e13.size
     try simp only [val_dig] at h13
     obtain ⟨e9, rfl, he9⟩ := h13
     refine O_move rfl rfl rfl ?_
     refine O_extract rfl rfl rfl rfl ?_
     refine O_extract rfl rfl rfl rfl ?_
     refine O_assign rfl rfl rfl ?_
     refine O_assign rfl rfl rfl ?_
     refine WL_end [(1, _), (6, _), (7, _), (8, _), (10, _), (11, _), (12, _), (13, _)] ⟨rfl, rfl, rfl, rfl, rfl, rfl, rfl, rfl, trivial⟩ ?_
     refine WP_seq ?_
     refine WP_seq ?_
     refine WP_region ?_
     refine O_move rfl rfl rfl ?_
     refine O_move rfl rfl rfl ?_
     refine O_bneq Try.underlying4 rfl rfl rfl rfl rfl ?_
     refine O_move rfl rfl rfl ?_
     refine O_move rfl rfl rfl ?_
     refine O_not rfl rfl rfl rfl ?_
     refine O_move rfl rfl rfl ?_
     refine O_skip rfl rfl ?_
     refine O_skip rfl rfl ?_
     refine O_skip rfl rfl ?_
     refine O_skip rfl rfl ?_
     refine O_skip rfl rfl ?_
     refine O_skip rfl rfl ?_
     refine O_skip rfl rfl ?_
     refine O_skip rfl rfl ?_
     refine O_skip rfl rfl ?_
     refine O_pickF rfl rfl rfl rfl ?_
     refine O_pickF rfl rfl rfl rfl ?_
     refine WL_end [(1, _), (6, _), (7, _), (10, _), (12, _), (94, _)] ⟨rfl, rfl, rfl, rfl, rfl, rfl, trivial⟩ ?_
     refine WP_condF rfl ?_
     refine WP_skip ?_
     refine WP_seq ?_
     have heE14 := ((he9).mono (by omega) : OwB w.heap.size _ _ _)
     have heo := heE14.one
     have hst14 : ∀ w', Ext w13 w' → XA ⟨w.heap.size, w13, g4, gf, (ps8 ++ qs11), 0, (edrop ts[kn].env s9), vr8, vl8, rs, lv8⟩ (i11) (e9) [none, none, none, none, none] w' := fun w' h => XA.start ((((hx8.extT hT9 (by decide)).extT hT10 (by decide)).extT hT11 (by decide)).ext e13) (hF11.ext e13) ((((hr8.extT hT9 (by decide)).extT hT10 (by decide)).extT hT11 (by decide)).ext e13) ((((hv8.extT hT9 (by decide)).extT hT10 (by decide)).extT hT11 (by decide)).ext e13) heE14 h
     refine WP_sub [(1, _), (6, _), (7, _), (10, _), (12, _)] ⟨rfl, rfl, rfl, rfl, rfl, trivial⟩ ?_
     refine WP_anyF (XA ⟨w.heap.size, w13, g4, gf, (ps8 ++ qs11), 0, (edrop ts[kn].env s9), vr8, vl8, rs, lv8⟩ (i11) (e9)) (fun w' => ExtT ETY w13 w') 19 [1, 6, 7, 10, 12] [7, 8, 14, 15, 18] [some 103, some 104, some 110, some 111, none] [[], [0], [], [2], [1, 3]] mixed rfl (by kernel_rfl) (by kernel_rfl) XA.toT (fun w' h => hst14 w' h) ?_
     apply AnyF_val [6] XA.toT rfl rfl rfl
     · --
      intro y15_ hy
      refine O_move rfl rfl rfl ?_
      exact WL_nil ⟨rfl, rfl⟩
     apply AnyF_val [6] XA.toT rfl rfl rfl
     · --
      intro y15_ hy
      refine O_move rfl rfl rfl ?_
      exact WL_nil ⟨rfl, rfl⟩
     apply AnyF_val [6] XA.toT rfl rfl rfl
     · --
      intro y15_ hy
      refine O_move rfl rfl rfl ?_
      exact WL_nil ⟨rfl, rfl⟩
     apply AnyF_val [98] XA.toT rfl rfl rfl
     · --
      intro y15_ hy
      refine O_nilCheck rfl rfl rfl ?_
      exact WL_nil ⟨rfl, rfl⟩
     apply AnyF_val [99] XA.toT rfl rfl rfl
     · --
      intro y15_ hy
      refine O_field F32_1 rfl rfl rfl ?_
      exact WL_nil ⟨rfl, rfl⟩
     apply AnyF_valN [4] [100] rfl rfl rfl (by kernel_rfl)
     · --
      intro vs y15_ hl hns hX
      obtain ⟨v0, v1, v2, v3, v4, rfl⟩ := len5' hl
      obtain rfl : v4 = none := by simpa using hns 4 (by simp)
      have hX9 := hX
      obtain ⟨k1, k2, k3, k4, k5, k6, k7, k8, k9, k10, k11, k12, k13⟩ := hX
      have z13 : w13.heap.size ≤ y15_.heap.size := k1.size
      have hb9 := k9 rfl
      refine O_loadC Try.underlying22 rfl rfl rfl rfl hb9 rfl ?_
      exact WL_nil ⟨rfl, rfl⟩
     apply AnyF_val [10] XA.toT rfl rfl rfl
     · --
      intro y15_ hy
      refine O_move rfl rfl rfl ?_
      exact WL_nil ⟨rfl, rfl⟩
     apply AnyF_eff 0 [] [102] rfl rfl rfl rfl
     · --
      intro vs y15_ hl hnone hwait hX
      obtain ⟨v0, v1, v2, v3, v4, rfl⟩ := len5' hl
      obtain rfl : v0 = none := by simpa using hnone
      refine M_lit M22 rfl rfl fI [i11] (by intro a _; rfl) rfl rfl rfl rfl rfl (fun a13 w13 o13 e13 => ?_)
      exact WL_nil ⟨_, rfl, XA.s0 hX e13 (o13.mono (Nat.zero_le _))⟩
     apply AnyF_eff 1 [0] [101, 103] rfl rfl rfl rfl
     · --
      intro vs y15_ hl hnone hwait hX
      obtain ⟨v0, v1, v2, v3, v4, rfl⟩ := len5' hl
      obtain rfl : v1 = none := by simpa using hnone
      obtain ⟨a13, ha13⟩ := hwait 0 (by simp)
      obtain rfl : v0 = some a13 := by simpa using ha13
      have hX9 := hX
      obtain ⟨k1, k2, k3, k4, k5, k6, k7, k8, k9, k10, k11, k12, k13⟩ := hX
      have z13 : w13.heap.size ≤ y15_.heap.size := k1.size
      obtain rfl : v4 = none := k13 rfl
      refine M_append M22 rfl rfl rfl rfl rfl (k3 rfl) (k5 _ rfl rfl).sl (by simp) (by intro a _; rfl) (by simp only [List.length_singleton]; omega) rfl (show w.heap.size ≤ _ from by omega) (fun b13 w13 o13 r13 q13 => ?_)
      exact WL_nil ⟨_, rfl, XA.s1 hX9 r13 o13⟩
     apply AnyF_val [6] XA.toT rfl rfl rfl
     · --
      intro y15_ hy
      refine O_move rfl rfl rfl ?_
      exact WL_nil ⟨rfl, rfl⟩
     apply AnyF_val [105] XA.toT rfl rfl rfl
     · --
      intro y15_ hy
      refine O_nilCheck rfl rfl rfl ?_
      exact WL_nil ⟨rfl, rfl⟩
     apply AnyF_val [106] XA.toT rfl rfl rfl
     · --
      intro y15_ hy
      refine O_field F32_2 rfl rfl rfl ?_
      exact WL_nil ⟨rfl, rfl⟩
     apply AnyF_valN [4] [107] rfl rfl rfl (by kernel_rfl)
     · --
      intro vs y15_ hl hns hX
      obtain ⟨v0, v1, v2, v3, v4, rfl⟩ := len5' hl
      obtain rfl : v4 = none := by simpa using hns 4 (by simp)
      have hX9 := hX
      obtain ⟨k1, k2, k3, k4, k5, k6, k7, k8, k9, k10, k11, k12, k13⟩ := hX
      have z13 : w13.heap.size ≤ y15_.heap.size := k1.size
      have hb9 := k9 rfl
      refine O_loadC Try.underlying30 rfl rfl rfl rfl hb9 rfl ?_
      exact WL_nil ⟨rfl, rfl⟩
     apply AnyF_val [12] XA.toT rfl rfl rfl
     · --
      intro y15_ hy
      refine O_move rfl rfl rfl ?_
      exact WL_nil ⟨rfl, rfl⟩
     apply AnyF_eff 2 [] [109] rfl rfl rfl rfl
     · --
      intro vs y15_ hl hnone hwait hX
      obtain ⟨v0, v1, v2, v3, v4, rfl⟩ := len5' hl
      obtain rfl : v2 = none := by simpa using hnone
      refine M_lit M30 rfl rfl fV [e9] (by intro a ha; simp at ha; subst ha; exact heo) rfl rfl rfl rfl rfl (fun a13 w13 o13 e13 => ?_)
      exact WL_nil ⟨_, rfl, XA.s2 hX e13 (o13.mono (Nat.zero_le _))⟩
     apply AnyF_eff 3 [2] [108, 110] rfl rfl rfl rfl
     · --
      intro vs y15_ hl hnone hwait hX
      obtain ⟨v0, v1, v2, v3, v4, rfl⟩ := len5' hl
      obtain rfl : v3 = none := by simpa using hnone
      obtain ⟨a13, ha13⟩ := hwait 2 (by simp)
      obtain rfl : v2 = some a13 := by simpa using ha13
      have hX9 := hX
      obtain ⟨k1, k2, k3, k4, k5, k6, k7, k8, k9, k10, k11, k12, k13⟩ := hX
      have z13 : w13.heap.size ≤ y15_.heap.size := k1.size
      refine M_append M30 rfl rfl rfl rfl rfl (k4 rfl) (k7 _ rfl rfl).sl (by simp) (by intro a ha; simp at ha; subst ha; exact heo) (by simp only [List.length_singleton]; omega) rfl (show w.heap.size ≤ _ from by omega) (fun b13 w13 o13 r13 q13 => ?_)
      exact WL_nil ⟨_, rfl, XA.s3 hX9 r13 o13⟩
     apply AnyF_val [96] XA.toT rfl rfl rfl
     · --
      intro y15_ hy
      refine O_nilCheck rfl rfl rfl ?_
      exact WL_nil ⟨rfl, rfl⟩
     apply AnyF_val [112] XA.toT rfl rfl rfl
     · --
      intro y15_ hy
      refine O_field F32_1 rfl rfl rfl ?_
      exact WL_nil ⟨rfl, rfl⟩
     apply AnyF_st 4 [1, 3] [113, 104] rfl rfl rfl rfl
     · --
      intro vs y15_ hl hnone hwait hX
      obtain ⟨v0, v1, v2, v3, v4, rfl⟩ := len5' hl
      obtain rfl : v4 = none := by simpa using hnone
      obtain ⟨a13, ha13⟩ := hwait 1 (by simp)
      obtain rfl : v1 = some a13 := by simpa using ha13
      obtain ⟨d13, hd13⟩ := hwait 3 (by simp)
      obtain rfl : v3 = some d13 := by simpa using hd13
      have hX9 := hX
      obtain ⟨k1, k2, k3, k4, k5, k6, k7, k8, k9, k10, k11, k12, k13⟩ := hX
      have z13 : w13.heap.size ≤ y15_.heap.size := k1.size
      obtain ho13 := k6 _ rfl
      refine O_storeC (cs' := [_, _, _]) one22 rfl rfl rfl ho13.one (k9 rfl) rfl rfl (fun w13 b13 q13 => ?_)
      exact WL_nil (XA.s4 hX9 (by omega) q13 b13)
     refine AnyF_nil fun vs y15_ hl hdone hX => ?_
     obtain ⟨v0, v1, v2, v3, v4, rfl⟩ := len5' hl
     obtain ⟨a0, ha0⟩ := hdone 0 (by decide)
     obtain rfl : v0 = some a0 := by simpa using ha0
     obtain ⟨a1, ha1⟩ := hdone 1 (by decide)
     obtain rfl : v1 = some a1 := by simpa using ha1
     obtain ⟨a2, ha2⟩ := hdone 2 (by decide)
     obtain rfl : v2 = some a2 := by simpa using ha2
     obtain ⟨a3, ha3⟩ := hdone 3 (by decide)
     obtain rfl : v3 = some a3 := by simpa using ha3
     obtain ⟨a4, ha4⟩ := hdone 4 (by decide)
     obtain rfl : v4 = some a4 := by simpa using ha4
     obtain ⟨kT, kB, -, -, -, k6, -, k8, -, k10, k11, k12, -⟩ := hX
     have zkT : w13.heap.size ≤ y15_.heap.size := kT.size
     have o1 := k6 _ rfl
     have o3 := k8 _ rfl
     have hb9 := k10 _ _ rfl rfl
     refine O_nilCheck rfl rfl rfl ?_
     refine O_field F32_2 rfl rfl rfl ?_
     refine O_storeC (cs' := [_, _, _]) one30 rfl rfl rfl (o3).one hb9 rfl rfl (fun w16 b16 q16 => ?_)
     have z16 := Nat.le_of_eq q16.size.symm
     have e16 : Ext w w16 := q16.ext (kB _ ((hb11 _ hE10 (Nat.le_refl _)).trans e13) (Nat.le_refl _)) (by omega)
     refine WL_end [(1, _), (6, _), (7, _)] ⟨rfl, rfl, rfl, trivial⟩ ?_
     refine WP_exit ?_
     refine inBlk_hit ?_
     have hcn : t11.cnt ≤ rs.length := by
       have h1 := Tr.env_length t11
       rw [hv11] at h1
       have h2 := edrop_len_le ts[kn].env s9
       have h3 := Tr.env_length (ts[kn])
       omega
     have hnm9 : ∀ b ∈ t11.env, b.1.size ≤ 100 := by
       intro b hb
       rw [hv11] at hb
       exact hG8.nm hk2 hk3 b (edrop_mem hb)
     exact ⟨(a10, rs ++ [i11], ts ++ [t11]), ⟨rfl, rfl, rfl, trivial⟩, ⟨e16, ((((hB10.extT hT11 (by decide)).ext e13).extT kT (by decide)).chg q16 (by first | assumption | omega)), ⟨_, _, _, _, b16, (k11.extT' (Chg.toT q16 hb9) (by decide)), (o1.extT (Chg.toT q16 hb9) (by decide)), (o3.extT (Chg.toT q16 hb9) (by decide)), Lists.snoc ((((((hLL8.extT hT9 (by decide)).extT hT10 (by decide)).extT hT11 (by decide)).ext e13).extT kT (by decide)).extT (Chg.toT q16 hb9) (by decide)) (by rw [hv11]; exact (k12.extT (Chg.toT q16 hb9) (by decide))), Good.snoc hG8.more hR11 hO11 hA11 (by omega) hnm9, by simp only [List.length_append, List.length_singleton]; omega, by simp, by omega⟩, by omega, by simp only [List.length_append, List.length_singleton]; omega⟩, by dsimp only; omega⟩
    · --
     skip
     refine WP_sub [(1, _), (6, _), (7, _), (8, _), (9, _)] ⟨rfl, rfl, rfl, rfl, rfl, trivial⟩ ?_
     refine WP_anyR 17 [1, 6, 7, 8, 9] mixed rfl (by kernel_rfl) ?_
     apply AnyR_val [6] rfl (by kernel_rfl)
     · --
      intro y17 hy17
      have zy17 := hy17.size
      refine AllV_nil ?_
      refine O_move rfl rfl rfl ?_
      exact WL_nil ⟨(Ext.refl _), rfl⟩
     apply AnyR_val [50] rfl (by kernel_rfl)
     · --
      intro y18 hy18
      have zy18 := hy18.size
      refine AllV_v ?_
      refine AllV_nil ?_
      refine O_nilCheck rfl rfl rfl ?_
      exact WL_nil ⟨(Ext.refl _), rfl⟩
     apply AnyR_val [51] rfl (by kernel_rfl)
     · --
      intro y19 hy19
      have zy19 := hy19.size
      refine AllV_v ?_
      refine AllV_nil ?_
      refine O_field F32_0 rfl rfl rfl ?_
      exact WL_nil ⟨(Ext.refl _), rfl⟩
     apply AnyR_val [52] rfl (by kernel_rfl)
     · --
      intro y20 hy20
      have zy20 := hy20.size
      refine AllV_v ?_
      refine AllV_nil ?_
      refine O_loadC Try.underlying29 rfl rfl rfl rfl (((hx8.extT hT9 (by decide)).extT hT10 (by decide)).ext hy20) rfl ?_
      exact WL_nil ⟨(Ext.refl _), rfl⟩
     apply AnyR_val [6] rfl (by kernel_rfl)
     · --
      intro y21 hy21
      have zy21 := hy21.size
      refine AllV_nil ?_
      refine O_move rfl rfl rfl ?_
      exact WL_nil ⟨(Ext.refl _), rfl⟩
     apply AnyR_val [54] rfl (by kernel_rfl)
     · --
      intro y22 hy22
      have zy22 := hy22.size
      refine AllV_v ?_
      refine AllV_nil ?_
      refine O_nilCheck rfl rfl rfl ?_
      exact WL_nil ⟨(Ext.refl _), rfl⟩
     apply AnyR_val [55] rfl (by kernel_rfl)
     · --
      intro y23 hy23
      have zy23 := hy23.size
      refine AllV_v ?_
      refine AllV_nil ?_
      refine O_field F32_1 rfl rfl rfl ?_
      exact WL_nil ⟨(Ext.refl _), rfl⟩
     apply AnyR_val [56] rfl (by kernel_rfl)
     · --
      intro y24 hy24
      have zy24 := hy24.size
      refine AllV_v ?_
      refine AllV_nil ?_
      refine O_loadC Try.underlying22 rfl rfl rfl rfl (((hx8.extT hT9 (by decide)).extT hT10 (by decide)).ext hy24) rfl ?_
      exact WL_nil ⟨(Ext.refl _), rfl⟩
     apply AnyR_val [8] rfl (by kernel_rfl)
     · --
      intro y25 hy25
      have zy25 := hy25.size
      refine AllV_nil ?_
      refine O_move rfl rfl rfl ?_
      exact WL_nil ⟨(Ext.refl _), rfl⟩
     apply AnyR_val [57, 58] rfl (by kernel_rfl)
     · --
      intro y26 hy26
      have zy26 := hy26.size
      refine AllV_v ?_
      refine AllV_v ?_
      refine AllV_nil ?_
      refine M_index M22 rfl rfl rfl rfl (((hr8.extT hT9 (by decide)).extT hT10 (by decide)).ext hy26).sl kn rfl hk2 ?_
      exact WL_nil ⟨(Ext.refl _), rfl⟩
     apply AnyR_val [59] rfl (by kernel_rfl)
     · --
      intro y27 hy27
      have zy27 := hy27.size
      refine AllV_v ?_
      refine AllV_nil ?_
      refine M_load Try.underlying3 rfl rfl rfl rfl (((hr8.extT hT9 (by decide)).extT hT10 (by decide)).ext hy27).sl hk2 ?_
      exact WL_nil ⟨(Ext.refl _), rfl⟩
     apply AnyR_val [9] rfl (by kernel_rfl)
     · --
      intro y28 hy28
      have zy28 := hy28.size
      refine AllV_nil ?_
      refine O_move rfl rfl rfl ?_
      exact WL_nil ⟨(Ext.refl _), rfl⟩
     apply AnyR_val [53, 60, 61] rfl (by kernel_rfl)
     · --
      intro y29 hy29
      have zy29 := hy29.size
      refine AllV_v ?_
      refine AllV_v ?_
      refine AllV_v ?_
      refine AllV_nil ?_
      refine O_call enters30 rfl rfl rfl (Drop_UF (((hF8.extT' hT9 (by decide)).extT' hT10 (by decide)).ext hy29) hRk hOk _ hs) (fun v30 w30 e30 h30 => ?_)
      have z30 := e30.size
      try simp only [val_dig] at h30
      obtain rfl := h30
      exact WL_nil ⟨e30, rfl⟩
     apply AnyR_val [62] rfl (by kernel_rfl)
     · --
      intro y31 hy31
      have zy31 := hy31.size
      refine AllV_v ?_
      refine AllV_nil ?_
      refine O_move rfl rfl rfl ?_
      exact WL_nil ⟨(Ext.refl _), rfl⟩
     apply AnyR_val [49] rfl (by kernel_rfl)
     · --
      intro y32 hy32
      have zy32 := hy32.size
      refine AllV_v ?_
      refine AllV_nil ?_
      refine O_extract rfl rfl rfl rfl ?_
      exact WL_nil ⟨(Ext.refl _), rfl⟩
     apply AnyR_val [49] rfl (by kernel_rfl)
     · --
      intro y33 hy33
      have zy33 := hy33.size
      refine AllV_v ?_
      refine AllV_nil ?_
      refine O_extract rfl rfl rfl rfl ?_
      exact WL_nil ⟨(Ext.refl _), rfl⟩
     apply AnyR_val [63] rfl (by kernel_rfl)
     · --
      intro y34 hy34
      have zy34 := hy34.size
      refine AllV_v ?_
      refine AllV_nil ?_
      refine O_assign rfl rfl rfl ?_
      exact WL_nil ⟨(Ext.refl _), rfl⟩
     refine AnyR_nil fun y35 hy35 => ?_
     have zy35 := hy35.size
     refine AllV_v ?_
     refine AllV_v ?_
     refine AllV_v ?_
     refine AllV_v ?_
     refine AllV_v ?_
     refine AllV_v ?_
     refine AllV_v ?_
     refine AllV_v ?_
     refine AllV_v ?_
     refine AllV_v ?_
     refine AllV_v ?_
     refine AllV_v ?_
     refine AllV_v ?_
     refine AllV_v ?_
     refine AllV_v ?_
     refine AllV_v ?_
     refine AllV_v ?_
     refine AllV_nil ?_
     refine O_assign rfl rfl rfl ?_
     refine WL_end [(1, _), (6, _), (7, _), (8, _), (9, _), (10, _), (11, _)] ⟨rfl, rfl, rfl, rfl, rfl, rfl, rfl, trivial⟩ ?_
     refine WP_seq ?_
     refine WP_region ?_
     refine O_move rfl rfl rfl ?_
     refine O_nilCheck rfl rfl rfl ?_
     refine O_field F32_2 rfl rfl rfl ?_
     refine O_loadC Try.underlying30 rfl rfl rfl rfl (((hx8.extT hT9 (by decide)).extT hT10 (by decide)).ext hy35) rfl ?_
     refine O_move rfl rfl rfl ?_
     refine M_index M30 rfl rfl rfl rfl (((hv8.extT hT9 (by decide)).extT hT10 (by decide)).ext hy35).sl kn rfl hk4 ?_
     refine M_load Try.underlying34 rfl rfl rfl rfl (((hv8.extT hT9 (by decide)).extT hT10 (by decide)).ext hy35).sl hk4 ?_
     refine O_move rfl rfl rfl ?_
     refine O_call enters31 rfl rfl rfl (RDrop_none ((((hLL8.extT hT9 (by decide)).extT hT10 (by decide)).ext hy35).at_ hk4 hk3).sl (by (try simp only [lens]); omega) hs) (fun v36 w36 e36 h36 => ?_)
     have z36 := e36.size
     try simp only [val_dig] at h36
     obtain rfl := h36
     refine O_move rfl rfl rfl ?_
     refine O_extract rfl rfl rfl rfl ?_
     refine O_extract rfl rfl rfl rfl ?_
     refine O_assign rfl rfl rfl ?_
     refine O_assign rfl rfl rfl ?_
     refine WL_end [(1, _), (6, _), (7, _), (8, _), (10, _), (11, _), (12, _), (13, _)] ⟨rfl, rfl, rfl, rfl, rfl, rfl, rfl, rfl, trivial⟩ ?_
     refine WP_seq ?_
     refine WP_seq ?_
     refine WP_region ?_
     refine O_move rfl rfl rfl ?_
     refine O_move rfl rfl rfl ?_
     refine O_bneq Try.underlying4 rfl rfl rfl rfl rfl ?_
     refine O_move rfl rfl rfl ?_
     refine O_move rfl rfl rfl ?_
     refine O_not rfl rfl rfl rfl ?_
     refine O_move rfl rfl rfl ?_
     refine O_move rfl rfl rfl ?_
     refine O_move rfl rfl rfl ?_
     refine O_nilCheck rfl rfl rfl ?_
     refine O_field F32_1 rfl rfl rfl ?_
     refine O_loadC Try.underlying22 rfl rfl rfl rfl ((((hx8.extT hT9 (by decide)).extT hT10 (by decide)).ext hy35).ext e36) rfl ?_
     refine O_move rfl rfl rfl ?_
     refine M_index M22 rfl rfl rfl rfl ((((hr8.extT hT9 (by decide)).extT hT10 (by decide)).ext hy35).ext e36).sl kn rfl hk2 ?_
     refine M_load Try.underlying3 rfl rfl rfl rfl ((((hr8.extT hT9 (by decide)).extT hT10 (by decide)).ext hy35).ext e36).sl hk2 ?_
     refine O_neq (t := false) rfl rfl rfl rfl (decide_eq_false (by simp)) ?_
     refine O_pickT rfl rfl rfl rfl ?_
     refine O_pickF rfl rfl rfl rfl ?_
     refine WL_end [(1, _), (6, _), (7, _), (10, _), (12, _), (94, _)] ⟨rfl, rfl, rfl, rfl, rfl, rfl, trivial⟩ ?_
     refine WP_condF rfl ?_
     refine WP_skip ?_
     refine WP_seq ?_
     have heE37 := (((((hLL8.extT hT9 (by decide)).extT hT10 (by decide)).ext hy35).ext e36).at_ hk4 hk3)
     have heo := heE37.one
     have hst37 : ∀ w', Ext w36 w' → XA ⟨w.heap.size, w36, g4, gf, ps8, 0, ts[kn].env, vr8, vl8, rs, lv8⟩ (rs[kn]) (lv8[kn]) [none, none, none, none, none] w' := fun w' h => XA.start ((((hx8.extT hT9 (by decide)).extT hT10 (by decide)).ext hy35).ext e36) ((((hF8.extT' hT9 (by decide)).extT' hT10 (by decide)).ext hy35).ext e36) ((((hr8.extT hT9 (by decide)).extT hT10 (by decide)).ext hy35).ext e36) ((((hv8.extT hT9 (by decide)).extT hT10 (by decide)).ext hy35).ext e36) heE37 h
     refine WP_sub [(1, _), (6, _), (7, _), (10, _), (12, _)] ⟨rfl, rfl, rfl, rfl, rfl, trivial⟩ ?_
     refine WP_anyF (XA ⟨w.heap.size, w36, g4, gf, ps8, 0, ts[kn].env, vr8, vl8, rs, lv8⟩ (rs[kn]) (lv8[kn])) (fun w' => ExtT ETY w36 w') 19 [1, 6, 7, 10, 12] [7, 8, 14, 15, 18] [some 103, some 104, some 110, some 111, none] [[], [0], [], [2], [1, 3]] mixed rfl (by kernel_rfl) (by kernel_rfl) XA.toT (fun w' h => hst37 w' h) ?_
     apply AnyF_val [6] XA.toT rfl rfl rfl
     · --
      intro y38_ hy
      refine O_move rfl rfl rfl ?_
      exact WL_nil ⟨rfl, rfl⟩
     apply AnyF_val [6] XA.toT rfl rfl rfl
     · --
      intro y38_ hy
      refine O_move rfl rfl rfl ?_
      exact WL_nil ⟨rfl, rfl⟩
     apply AnyF_val [6] XA.toT rfl rfl rfl
     · --
      intro y38_ hy
      refine O_move rfl rfl rfl ?_
      exact WL_nil ⟨rfl, rfl⟩
     apply AnyF_val [98] XA.toT rfl rfl rfl
     · --
      intro y38_ hy
      refine O_nilCheck rfl rfl rfl ?_
      exact WL_nil ⟨rfl, rfl⟩
     apply AnyF_val [99] XA.toT rfl rfl rfl
     · --
      intro y38_ hy
      refine O_field F32_1 rfl rfl rfl ?_
      exact WL_nil ⟨rfl, rfl⟩
     apply AnyF_valN [4] [100] rfl rfl rfl (by kernel_rfl)
     · --
      intro vs y38_ hl hns hX
      obtain ⟨v0, v1, v2, v3, v4, rfl⟩ := len5' hl
      obtain rfl : v4 = none := by simpa using hns 4 (by simp)
      have hX9 := hX
      obtain ⟨k1, k2, k3, k4, k5, k6, k7, k8, k9, k10, k11, k12, k13⟩ := hX
      have z13 : w36.heap.size ≤ y38_.heap.size := k1.size
      have hb9 := k9 rfl
      refine O_loadC Try.underlying22 rfl rfl rfl rfl hb9 rfl ?_
      exact WL_nil ⟨rfl, rfl⟩
     apply AnyF_val [10] XA.toT rfl rfl rfl
     · --
      intro y38_ hy
      refine O_move rfl rfl rfl ?_
      exact WL_nil ⟨rfl, rfl⟩
     apply AnyF_eff 0 [] [102] rfl rfl rfl rfl
     · --
      intro vs y38_ hl hnone hwait hX
      obtain ⟨v0, v1, v2, v3, v4, rfl⟩ := len5' hl
      obtain rfl : v0 = none := by simpa using hnone
      refine M_lit M22 rfl rfl fI [rs[kn]] (by intro a _; rfl) rfl rfl rfl rfl rfl (fun a13 w13 o13 e13 => ?_)
      exact WL_nil ⟨_, rfl, XA.s0 hX e13 (o13.mono (Nat.zero_le _))⟩
     apply AnyF_eff 1 [0] [101, 103] rfl rfl rfl rfl
     · --
      intro vs y38_ hl hnone hwait hX
      obtain ⟨v0, v1, v2, v3, v4, rfl⟩ := len5' hl
      obtain rfl : v1 = none := by simpa using hnone
      obtain ⟨a13, ha13⟩ := hwait 0 (by simp)
      obtain rfl : v0 = some a13 := by simpa using ha13
      have hX9 := hX
      obtain ⟨k1, k2, k3, k4, k5, k6, k7, k8, k9, k10, k11, k12, k13⟩ := hX
      have z13 : w36.heap.size ≤ y38_.heap.size := k1.size
      obtain rfl : v4 = none := k13 rfl
      refine M_append M22 rfl rfl rfl rfl rfl (k3 rfl) (k5 _ rfl rfl).sl (by simp) (by intro a _; rfl) (by simp only [List.length_singleton]; omega) rfl (show w.heap.size ≤ _ from by omega) (fun b13 w13 o13 r13 q13 => ?_)
      exact WL_nil ⟨_, rfl, XA.s1 hX9 r13 o13⟩
     apply AnyF_val [6] XA.toT rfl rfl rfl
     · --
      intro y38_ hy
      refine O_move rfl rfl rfl ?_
      exact WL_nil ⟨rfl, rfl⟩
     apply AnyF_val [105] XA.toT rfl rfl rfl
     · --
      intro y38_ hy
      refine O_nilCheck rfl rfl rfl ?_
      exact WL_nil ⟨rfl, rfl⟩
     apply AnyF_val [106] XA.toT rfl rfl rfl
     · --
      intro y38_ hy
      refine O_field F32_2 rfl rfl rfl ?_
      exact WL_nil ⟨rfl, rfl⟩
     apply AnyF_valN [4] [107] rfl rfl rfl (by kernel_rfl)
     · --
      intro vs y38_ hl hns hX
      obtain ⟨v0, v1, v2, v3, v4, rfl⟩ := len5' hl
      obtain rfl : v4 = none := by simpa using hns 4 (by simp)
      have hX9 := hX
      obtain ⟨k1, k2, k3, k4, k5, k6, k7, k8, k9, k10, k11, k12, k13⟩ := hX
      have z13 : w36.heap.size ≤ y38_.heap.size := k1.size
      have hb9 := k9 rfl
      refine O_loadC Try.underlying30 rfl rfl rfl rfl hb9 rfl ?_
      exact WL_nil ⟨rfl, rfl⟩
     apply AnyF_val [12] XA.toT rfl rfl rfl
     · --
      intro y38_ hy
      refine O_move rfl rfl rfl ?_
      exact WL_nil ⟨rfl, rfl⟩
     apply AnyF_eff 2 [] [109] rfl rfl rfl rfl
     · --
      intro vs y38_ hl hnone hwait hX
      obtain ⟨v0, v1, v2, v3, v4, rfl⟩ := len5' hl
      obtain rfl : v2 = none := by simpa using hnone
      refine M_lit M30 rfl rfl fV [lv8[kn]] (by intro a ha; simp at ha; subst ha; exact heo) rfl rfl rfl rfl rfl (fun a13 w13 o13 e13 => ?_)
      exact WL_nil ⟨_, rfl, XA.s2 hX e13 (o13.mono (Nat.zero_le _))⟩
     apply AnyF_eff 3 [2] [108, 110] rfl rfl rfl rfl
     · --
      intro vs y38_ hl hnone hwait hX
      obtain ⟨v0, v1, v2, v3, v4, rfl⟩ := len5' hl
      obtain rfl : v3 = none := by simpa using hnone
      obtain ⟨a13, ha13⟩ := hwait 2 (by simp)
      obtain rfl : v2 = some a13 := by simpa using ha13
      have hX9 := hX
      obtain ⟨k1, k2, k3, k4, k5, k6, k7, k8, k9, k10, k11, k12, k13⟩ := hX
      have z13 : w36.heap.size ≤ y38_.heap.size := k1.size
      refine M_append M30 rfl rfl rfl rfl rfl (k4 rfl) (k7 _ rfl rfl).sl (by simp) (by intro a ha; simp at ha; subst ha; exact heo) (by simp only [List.length_singleton]; omega) rfl (show w.heap.size ≤ _ from by omega) (fun b13 w13 o13 r13 q13 => ?_)
      exact WL_nil ⟨_, rfl, XA.s3 hX9 r13 o13⟩
     apply AnyF_val [96] XA.toT rfl rfl rfl
     · --
      intro y38_ hy
      refine O_nilCheck rfl rfl rfl ?_
      exact WL_nil ⟨rfl, rfl⟩
     apply AnyF_val [112] XA.toT rfl rfl rfl
     · --
      intro y38_ hy
      refine O_field F32_1 rfl rfl rfl ?_
      exact WL_nil ⟨rfl, rfl⟩
     apply AnyF_st 4 [1, 3] [113, 104] rfl rfl rfl rfl
     · --
      intro vs y38_ hl hnone hwait hX
      obtain ⟨v0, v1, v2, v3, v4, rfl⟩ := len5' hl
      obtain rfl : v4 = none := by simpa using hnone
      obtain ⟨a13, ha13⟩ := hwait 1 (by simp)
      obtain rfl : v1 = some a13 := by simpa using ha13
      obtain ⟨d13, hd13⟩ := hwait 3 (by simp)
      obtain rfl : v3 = some d13 := by simpa using hd13
      have hX9 := hX
      obtain ⟨k1, k2, k3, k4, k5, k6, k7, k8, k9, k10, k11, k12, k13⟩ := hX
      have z13 : w36.heap.size ≤ y38_.heap.size := k1.size
      obtain ho13 := k6 _ rfl
      refine O_storeC (cs' := [_, _, _]) one22 rfl rfl rfl ho13.one (k9 rfl) rfl rfl (fun w13 b13 q13 => ?_)
      exact WL_nil (XA.s4 hX9 (by omega) q13 b13)
     refine AnyF_nil fun vs y38_ hl hdone hX => ?_
     obtain ⟨v0, v1, v2, v3, v4, rfl⟩ := len5' hl
     obtain ⟨a0, ha0⟩ := hdone 0 (by decide)
     obtain rfl : v0 = some a0 := by simpa using ha0
     obtain ⟨a1, ha1⟩ := hdone 1 (by decide)
     obtain rfl : v1 = some a1 := by simpa using ha1
     obtain ⟨a2, ha2⟩ := hdone 2 (by decide)
     obtain rfl : v2 = some a2 := by simpa using ha2
     obtain ⟨a3, ha3⟩ := hdone 3 (by decide)
     obtain rfl : v3 = some a3 := by simpa using ha3
     obtain ⟨a4, ha4⟩ := hdone 4 (by decide)
     obtain rfl : v4 = some a4 := by simpa using ha4
     obtain ⟨kT, kB, -, -, -, k6, -, k8, -, k10, k11, k12, -⟩ := hX
     have zkT : w36.heap.size ≤ y38_.heap.size := kT.size
     have o1 := k6 _ rfl
     have o3 := k8 _ rfl
     have hb9 := k10 _ _ rfl rfl
     refine O_nilCheck rfl rfl rfl ?_
     refine O_field F32_2 rfl rfl rfl ?_
     refine O_storeC (cs' := [_, _, _]) one30 rfl rfl rfl (o3).one hb9 rfl rfl (fun w39 b39 q39 => ?_)
     have z39 := Nat.le_of_eq q39.size.symm
     have e39 : Ext w w39 := q39.ext (kB _ ((hE10.trans hy35).trans e36) (Nat.le_refl _)) (by omega)
     refine WL_end [(1, _), (6, _), (7, _)] ⟨rfl, rfl, rfl, trivial⟩ ?_
     refine WP_exit ?_
     refine inBlk_hit ?_
     have hcn : ts[kn].cnt ≤ rs.length := by omega
     have hnm9 := hG8.nm hk2 hk3
     exact ⟨(a10, rs ++ [rs[kn]], ts ++ [ts[kn]]), ⟨rfl, rfl, rfl, trivial⟩, ⟨e39, ((((hB10.ext hy35).ext e36).extT kT (by decide)).chg q39 (by first | assumption | omega)), ⟨_, _, _, _, b39, (k11.extT' (Chg.toT q39 hb9) (by decide)), (o1.extT (Chg.toT q39 hb9) (by decide)), (o3.extT (Chg.toT q39 hb9) (by decide)), Lists.snoc ((((((hLL8.extT hT9 (by decide)).extT hT10 (by decide)).ext hy35).ext e36).extT kT (by decide)).extT (Chg.toT q39 hb9) (by decide)) ((k12.extT (Chg.toT q39 hb9) (by decide))), Good.snoc hG8 hRk hOk hAk (by omega) hnm9, by simp only [List.length_append, List.length_singleton]; omega, by simp, by omega⟩, by omega, by simp only [List.length_append, List.length_singleton]; omega⟩, by dsimp only; omega⟩
   · --
    refine WP_skip ?_
    refine WP_seq ?_
    refine WP_region ?_
    refine O_move rfl rfl rfl ?_
    have zx40 := (hE10).size
    refine O_callT (k := _) enters27 rfl rfl rfl (next_c hl hE10 htp hB10 (by omega) (by omega) (by decide) (by decide)) (fun r40 a40 w40 hr40 hs40 hE40 hT40 hB40 h140 h240 h340 => ?_)
    have zE40 := hE40.size
    have zT40 := hT40.size
    refine O_assign rfl rfl rfl ?_
    refine WL_end [(1, _), (6, _), (7, _), (8, _), (9, _), (14, _)] ⟨rfl, rfl, rfl, rfl, rfl, rfl, trivial⟩ ?_
    refine WP_seq ?_
    refine WP_sub [(1, _), (6, _), (7, _), (8, _), (9, _), (14, _)] ⟨rfl, rfl, rfl, rfl, rfl, rfl, trivial⟩ ?_
    refine WP_anyE (XU (FRetU (fun i => .int .i64 i) w.heap.size gf ps8 rs[kn] ts[kn].env (eset ts[kn].env s9 r40) (3 * ts[kn].ht + 1) w40) w40) (fun w' => ExtT TFP w40 w') 14 [1, 6, 7, 8, 9, 14] [13] [131] mixed rfl (by kernel_rfl) (by kernel_rfl) XU.toT (fun w' h => h) ?_
    apply AnyE_val [6] rfl rfl rfl
    · --
     intro y42_ hy
     refine O_move rfl rfl rfl ?_
     exact WL_nil ⟨rfl, rfl⟩
    apply AnyE_val [118] rfl rfl rfl
    · --
     intro y42_ hy
     refine O_nilCheck rfl rfl rfl ?_
     exact WL_nil ⟨rfl, rfl⟩
    apply AnyE_val [119] rfl rfl rfl
    · --
     intro y42_ hy
     refine O_field F32_0 rfl rfl rfl ?_
     exact WL_nil ⟨rfl, rfl⟩
    apply AnyE_val [120] rfl rfl rfl
    · --
     intro y42_ hy
     refine O_loadC Try.underlying29 rfl rfl rfl rfl ((((hx8.extT hT9 (by decide)).extT hT10 (by decide)).extT hT40 (by decide)).extT hy (by decide)) rfl ?_
     exact WL_nil ⟨rfl, rfl⟩
    apply AnyE_val [6] rfl rfl rfl
    · --
     intro y42_ hy
     refine O_move rfl rfl rfl ?_
     exact WL_nil ⟨rfl, rfl⟩
    apply AnyE_val [122] rfl rfl rfl
    · --
     intro y42_ hy
     refine O_nilCheck rfl rfl rfl ?_
     exact WL_nil ⟨rfl, rfl⟩
    apply AnyE_val [123] rfl rfl rfl
    · --
     intro y42_ hy
     refine O_field F32_1 rfl rfl rfl ?_
     exact WL_nil ⟨rfl, rfl⟩
    apply AnyE_val [124] rfl rfl rfl
    · --
     intro y42_ hy
     refine O_loadC Try.underlying22 rfl rfl rfl rfl ((((hx8.extT hT9 (by decide)).extT hT10 (by decide)).extT hT40 (by decide)).extT hy (by decide)) rfl ?_
     exact WL_nil ⟨rfl, rfl⟩
    apply AnyE_val [8] rfl rfl rfl
    · --
     intro y42_ hy
     refine O_move rfl rfl rfl ?_
     exact WL_nil ⟨rfl, rfl⟩
    apply AnyE_val [125, 126] rfl rfl rfl
    · --
     intro y42_ hy
     refine M_index M22 rfl rfl rfl rfl ((((hr8.extT hT9 (by decide)).extT hT10 (by decide)).extT hT40 (by decide)).extT hy (by decide)).sl kn rfl hk2 ?_
     exact WL_nil ⟨rfl, rfl⟩
    apply AnyE_val [127] rfl rfl rfl
    · --
     intro y42_ hy
     refine M_load Try.underlying3 rfl rfl rfl rfl ((((hr8.extT hT9 (by decide)).extT hT10 (by decide)).extT hT40 (by decide)).extT hy (by decide)).sl hk2 ?_
     exact WL_nil ⟨rfl, rfl⟩
    apply AnyE_val [9] rfl rfl rfl
    · --
     intro y42_ hy
     refine O_move rfl rfl rfl ?_
     exact WL_nil ⟨rfl, rfl⟩
    apply AnyE_val [14] rfl rfl rfl
    · --
     intro y42_ hy
     refine O_move rfl rfl rfl ?_
     exact WL_nil ⟨rfl, rfl⟩
    apply AnyE_eff 0 [121, 128, 129, 130] rfl rfl rfl
    · --
     intro vs y42_ hl hX
     obtain rfl : vs = [] := List.eq_nil_of_length_eq_zero hl
     have hX0 : Ext w40 y42_ := hX
     have zy := hX0.size
     refine O_callR enters28 rfl rfl rfl (Set_U ((((hF8.extT' hT9 (by decide)).extT' hT10 (by decide)).extT' hT40 (by decide)).ext hX0) (by omega) hRk hOk hAk (by omega) (by omega) _ _) (fun e2 w2 hR2 => ?_)
     have hR3 := FRetU.pre hX0 hR2
     obtain ⟨qs2, i2, u2, he2, -⟩ := hR2
     subst he2
     exact ⟨_, rfl, WL_nil ⟨_, rfl, hR3⟩⟩
    refine AnyE_nil fun vs y42_ hl hX => ?_
    obtain ⟨u41, rfl⟩ := len1 hl
    obtain ⟨qs41, i41, t41, he41, hT41, hb41, hF41, hq41, hR41, hO41, hA41, hv41, hsm41⟩ := hX
    cases he41
    have zT41 := hT41.size
    refine O_assign rfl rfl rfl ?_
    refine WL_end [(1, _), (6, _), (7, _), (8, _), (9, _), (14, _), (15, _)] ⟨rfl, rfl, rfl, rfl, rfl, rfl, rfl, trivial⟩ ?_
    have hrW43 := ((((hr8.extT hT9 (by decide)).extT hT10 (by decide)).extT hT40 (by decide)).extT hT41 (by decide))
    have hvW43 := ((((hv8.extT hT9 (by decide)).extT hT10 (by decide)).extT hT40 (by decide)).extT hT41 (by decide))
    have hLW43 := ((((hLL8.extT hT9 (by decide)).extT hT10 (by decide)).extT hT40 (by decide)).extT hT41 (by decide))
    have hGW43 := hF41
    have hxW43 := ((((hx8.extT hT9 (by decide)).extT hT10 (by decide)).extT hT40 (by decide)).extT hT41 (by decide))
    have hneW43 : lv8 ≠ [] → vblk vl8 ≠ g4 := fun hn => OwM.apart hvW43 hn hxW43 (by decide)
    refine WP_sub [(1, _), (6, _), (7, _), (8, _), (9, _), (14, _), (15, _)] ⟨rfl, rfl, rfl, rfl, rfl, rfl, rfl, trivial⟩ ?_
    refine WP_anyF (Lin (fun vs => XG ⟨w.heap.size, y42_, g4, gf, ps8, 3 * ts[kn].ht + 1, eset ts[kn].env s9 r40, vr8, vl8, rs, lv8⟩ (.int .i64 i41 :: vs))) (fun w' => YG w.heap.size y42_ vl8 lv8 w') 28 [1, 6, 7, 8, 9, 14, 15] [7, 8, 22, 23, 24, 27] [some 139, some 140, some 154, some 155, some 156, none] [[], [0], [0, 1], [0, 1, 2], [0, 1, 2, 3], [0, 1, 2, 3, 4]] mixed rfl (by kernel_rfl) (by kernel_rfl) (Lin.all fun us w' h => XG.toY _ _ h) (fun w' h => Lin.start (XG.mk1 hxW43 ⟨_, _, hGW43, hq41, hR41, hO41, hA41, hv41⟩ hrW43 hvW43 h)) ?_
    apply AnyF_val [6] (Lin.all fun us w' h => XG.toY _ _ h) rfl rfl rfl
    · --
     intro y44_ hy
     refine O_move rfl rfl rfl ?_
     exact WL_nil ⟨rfl, rfl⟩
    apply AnyF_val [6] (Lin.all fun us w' h => XG.toY _ _ h) rfl rfl rfl
    · --
     intro y44_ hy
     refine O_move rfl rfl rfl ?_
     exact WL_nil ⟨rfl, rfl⟩
    apply AnyF_val [6] (Lin.all fun us w' h => XG.toY _ _ h) rfl rfl rfl
    · --
     intro y44_ hy
     refine O_move rfl rfl rfl ?_
     exact WL_nil ⟨rfl, rfl⟩
    apply AnyF_val [134] (Lin.all fun us w' h => XG.toY _ _ h) rfl rfl rfl
    · --
     intro y44_ hy
     refine O_nilCheck rfl rfl rfl ?_
     exact WL_nil ⟨rfl, rfl⟩
    apply AnyF_val [135] (Lin.all fun us w' h => XG.toY _ _ h) rfl rfl rfl
    · --
     intro y44_ hy
     refine O_field F32_1 rfl rfl rfl ?_
     exact WL_nil ⟨rfl, rfl⟩
    apply AnyF_valN [5] [136] rfl rfl rfl (by kernel_rfl)
    · --
     intro vs y44_ hl hns hX
     obtain ⟨us, hus, hX8⟩ := Lin.before hX (hns 5 (by simp))
     have hb9 : Bk y44_ g4 _ _ := XG.toB _ _ (by simp only [List.length_cons]; omega) hX8
     refine O_loadC Try.underlying22 rfl rfl rfl rfl hb9 rfl ?_
     exact WL_nil ⟨rfl, rfl⟩
    apply AnyF_val [15] (Lin.all fun us w' h => XG.toY _ _ h) rfl rfl rfl
    · --
     intro y44_ hy
     refine O_move rfl rfl rfl ?_
     exact WL_nil ⟨rfl, rfl⟩
    apply AnyF_eff 0 [] [138] rfl rfl rfl rfl
    · --
     intro vs y44_ hl hnone hwait hX
     obtain ⟨us, ku, hus, hX7, rfl⟩ := Lin.at_ hX hnone hwait
     clear hX
     have hX := hX7
     clear hX7
     obtain rfl : us = [] := List.eq_nil_of_length_eq_zero hus
     have hX9 := hX
     obtain ⟨hY, hgb9, i9, hi9, hTS9, hr9, hv9⟩ := hX
     cases hi9
     have z9 : y42_.heap.size ≤ y44_.heap.size := hY.t.size
     refine M_lit M22 rfl rfl fI [i41] (by intro a _; rfl) rfl rfl rfl rfl rfl (fun a13 w13 o13 e13 => ?_)
     exact WL_nil ⟨_, rfl, Lin.snoc rfl (XG.st1 hX9 e13 (fun i h => by cases h; exact o13.sl))⟩
    apply AnyF_eff 1 [0] [137, 139] rfl rfl rfl rfl
    · --
     intro vs y44_ hl hnone hwait hX
     obtain ⟨us, ku, hus, hX7, rfl⟩ := Lin.at_ hX hnone hwait
     clear hX
     have hX := hX7
     clear hX7
     obtain ⟨a, rfl⟩ := len1 hus
     have hX9 := hX
     obtain ⟨hY, hgb9, i9, hi9, hTS9, hr9, hv9, ha9⟩ := hX
     cases hi9
     have z9 : y42_.heap.size ≤ y44_.heap.size := hY.t.size
     refine M_append M22 rfl rfl rfl rfl rfl hr9 ha9 (by simp) (by intro a _; rfl) (by simp only [List.length_singleton]; omega) rfl (show w.heap.size ≤ _ from by omega) (fun b13 w13 o13 r13 q13 => ?_)
     exact WL_nil ⟨_, rfl, Lin.snoc rfl (XG.st2 hX9 (fun i h => by cases h; exact o13) r13)⟩
    apply AnyF_val [6] (Lin.all fun us w' h => XG.toY _ _ h) rfl rfl rfl
    · --
     intro y44_ hy
     refine O_move rfl rfl rfl ?_
     exact WL_nil ⟨rfl, rfl⟩
    apply AnyF_val [141] (Lin.all fun us w' h => XG.toY _ _ h) rfl rfl rfl
    · --
     intro y44_ hy
     refine O_nilCheck rfl rfl rfl ?_
     exact WL_nil ⟨rfl, rfl⟩
    apply AnyF_val [142] (Lin.all fun us w' h => XG.toY _ _ h) rfl rfl rfl
    · --
     intro y44_ hy
     refine O_field F32_2 rfl rfl rfl ?_
     exact WL_nil ⟨rfl, rfl⟩
    apply AnyF_valN [5] [143] rfl rfl rfl (by kernel_rfl)
    · --
     intro vs y44_ hl hns hX
     obtain ⟨us, hus, hX8⟩ := Lin.before hX (hns 5 (by simp))
     have hb9 : Bk y44_ g4 _ _ := XG.toB _ _ (by simp only [List.length_cons]; omega) hX8
     refine O_loadC Try.underlying30 rfl rfl rfl rfl hb9 rfl ?_
     exact WL_nil ⟨rfl, rfl⟩
    apply AnyF_val [6] (Lin.all fun us w' h => XG.toY _ _ h) rfl rfl rfl
    · --
     intro y44_ hy
     refine O_move rfl rfl rfl ?_
     exact WL_nil ⟨rfl, rfl⟩
    apply AnyF_val [145] (Lin.all fun us w' h => XG.toY _ _ h) rfl rfl rfl
    · --
     intro y44_ hy
     refine O_nilCheck rfl rfl rfl ?_
     exact WL_nil ⟨rfl, rfl⟩
    apply AnyF_val [146] (Lin.all fun us w' h => XG.toY _ _ h) rfl rfl rfl
    · --
     intro y44_ hy
     refine O_field F32_2 rfl rfl rfl ?_
     exact WL_nil ⟨rfl, rfl⟩
    apply AnyF_valN [5] [147] rfl rfl rfl (by kernel_rfl)
    · --
     intro vs y44_ hl hns hX
     obtain ⟨us, hus, hX8⟩ := Lin.before hX (hns 5 (by simp))
     have hb9 : Bk y44_ g4 _ _ := XG.toB _ _ (by simp only [List.length_cons]; omega) hX8
     refine O_loadC Try.underlying30 rfl rfl rfl rfl hb9 rfl ?_
     exact WL_nil ⟨rfl, rfl⟩
    apply AnyF_val [8] (Lin.all fun us w' h => XG.toY _ _ h) rfl rfl rfl
    · --
     intro y44_ hy
     refine O_move rfl rfl rfl ?_
     exact WL_nil ⟨rfl, rfl⟩
    apply AnyF_val [148, 149] (Lin.all fun us w' h => XG.toY _ _ h) rfl rfl rfl
    · --
     intro y44_ hy
     refine M_index M30 rfl rfl rfl rfl hy.sl kn rfl hk4 ?_
     exact WL_nil ⟨rfl, rfl⟩
    apply AnyF_val [150] (Lin.all fun us w' h => XG.toY _ _ h) rfl rfl rfl
    · --
     intro y44_ hy
     refine M_load Try.underlying34 rfl rfl rfl rfl hy.sl hk4 ?_
     exact WL_nil ⟨rfl, rfl⟩
    apply AnyF_val [9] (Lin.all fun us w' h => XG.toY _ _ h) rfl rfl rfl
    · --
     intro y44_ hy
     refine O_move rfl rfl rfl ?_
     exact WL_nil ⟨rfl, rfl⟩
    apply AnyF_val [14] (Lin.all fun us w' h => XG.toY _ _ h) rfl rfl rfl
    · --
     intro y44_ hy
     refine O_move rfl rfl rfl ?_
     exact WL_nil ⟨rfl, rfl⟩
    apply AnyF_eff 2 [0, 1] [151, 152, 153] rfl rfl rfl rfl
    · --
     intro vs y44_ hl hnone hwait hX
     obtain ⟨us, ku, hus, hX7, rfl⟩ := Lin.at_ hX hnone hwait
     clear hX
     have hX := hX7
     clear hX7
     obtain ⟨a, b, rfl⟩ := len2 hus
     have hX9 := hX
     obtain ⟨hY, hgb9, i9, hi9, hTS9, hr9, hv9⟩ := hX
     cases hi9
     have z9 : y42_.heap.size ≤ y44_.heap.size := hY.t.size
     have hu9 := ((hLW43.extT hY.t (by decide)).at_ hk4 hk3).sl
     refine O_call enters29 rfl rfl rfl (RSet_c hu9 (by omega)) (fun e13 w13 x13 o13 => ?_)
     exact WL_nil ⟨_, rfl, Lin.snoc rfl (XG.st3 hX9 x13 (o13.mono (show w.heap.size ≤ _ from by omega)))⟩
    apply AnyF_eff 3 [0, 1, 2] [154] rfl rfl rfl rfl
    · --
     intro vs y44_ hl hnone hwait hX
     obtain ⟨us, ku, hus, hX7, rfl⟩ := Lin.at_ hX hnone hwait
     clear hX
     have hX := hX7
     clear hX7
     obtain ⟨a, b, e, rfl⟩ := len3 hus
     have hX9 := hX
     obtain ⟨hY, hgb9, i9, hi9, hTS9, hr9, hv9, hq9⟩ := hX
     cases hi9
     have z9 : y42_.heap.size ≤ y44_.heap.size := hY.t.size
     have heo9 := hq9.one
     refine M_lit M30 rfl rfl fV [e] (by intro a ha; simp at ha; subst ha; exact heo9) rfl rfl rfl rfl rfl (fun a13 w13 o13 e13 => ?_)
     exact WL_nil ⟨_, rfl, Lin.snoc rfl (XG.st4 hX9 e13 o13.sl)⟩
    apply AnyF_eff 4 [0, 1, 2, 3] [144, 155] rfl rfl rfl rfl
    · --
     intro vs y44_ hl hnone hwait hX
     obtain ⟨us, ku, hus, hX7, rfl⟩ := Lin.at_ hX hnone hwait
     clear hX
     have hX := hX7
     clear hX7
     obtain ⟨a, b, e, c, rfl⟩ := len4' hus
     have hX9 := hX
     obtain ⟨hY, hgb9, i9, hi9, hTS9, hr9, hv9, hq9, hc9⟩ := hX
     cases hi9
     have z9 : y42_.heap.size ≤ y44_.heap.size := hY.t.size
     have heo9 := hq9.one
     refine M_append M30 rfl rfl rfl rfl rfl hv9 hc9 (by simp) (by intro a ha; simp at ha; subst ha; exact heo9) (by simp only [List.length_singleton]; omega) rfl (show w.heap.size ≤ _ from by omega) (fun b13 w13 o13 r13 q13 => ?_)
     exact WL_nil ⟨_, rfl, Lin.snoc rfl (XG.st5 hX9 o13 r13 q13)⟩
    apply AnyF_val [132] (Lin.all fun us w' h => XG.toY _ _ h) rfl rfl rfl
    · --
     intro y44_ hy
     refine O_nilCheck rfl rfl rfl ?_
     exact WL_nil ⟨rfl, rfl⟩
    apply AnyF_val [157] (Lin.all fun us w' h => XG.toY _ _ h) rfl rfl rfl
    · --
     intro y44_ hy
     refine O_field F32_1 rfl rfl rfl ?_
     exact WL_nil ⟨rfl, rfl⟩
    apply AnyF_st 5 [0, 1, 2, 3, 4] [158, 140] rfl rfl rfl rfl
    · --
     intro vs y44_ hl hnone hwait hX
     obtain ⟨us, ku, hus, hX7, rfl⟩ := Lin.at_ hX hnone hwait
     clear hX
     have hX := hX7
     clear hX7
     obtain ⟨a, b, e, c, d, rfl⟩ := len5' hus
     have hX9 := hX
     obtain ⟨hY, hgb9, i9, hi9, hTS9, hr9, hv9, hq9⟩ := hX
     cases hi9
     have z9 : y42_.heap.size ≤ y44_.heap.size := hY.t.size
     refine O_storeC (cs' := [_, _, _]) one22 rfl rfl rfl hr9.one hgb9 rfl rfl (fun w13 b13 q13 => ?_)
     exact WL_nil (Lin.snoc rfl (XG.st6 hX9 (by omega) q13 b13 hneW43))
    refine AnyF_nil fun vs y44_ hl hdone hX => ?_
    obtain ⟨us, hus, hX7, rfl⟩ := Lin.full hX hl hdone
    clear hX
    have hX := hX7
    clear hX7
    obtain ⟨a, b, e, c, d, z, rfl⟩ := len6' hus
    obtain ⟨hY, hgb43, i43, hi43, hTS43, hb43, hd43, hen43⟩ := hX
    cases hi43
    have zY43 : y42_.heap.size ≤ y44_.heap.size := hY.t.size
    obtain ⟨qz43, tz43, hFz43, hqz43, hRz43, hOz43, hAz43, hvz43⟩ := hTS43
    replace hqz43 : qz43.length ≤ 3 * ts[kn].ht + 1 := hqz43
    replace hvz43 : tz43.env = eset ts[kn].env s9 r40 := hvz43
    replace hgb43 : Bk y44_ g4 _ _ := hgb43
    refine O_nilCheck rfl rfl rfl ?_
    refine O_field F32_2 rfl rfl rfl ?_
    refine O_storeC (cs' := [_, _, _]) one30 rfl rfl rfl (hd43).one hgb43 rfl rfl (fun w45 b45 q45 => ?_)
    have z45 := Nat.le_of_eq q45.size.symm
    have e45 : Ext w w45 := q45.ext (hY.base _ (hb41 _ hE40 (Nat.le_refl _)) (Nat.le_refl _)) (by omega)
    refine WL_end [(1, _), (6, _), (7, _)] ⟨rfl, rfl, rfl, trivial⟩ ?_
    have hcn : tz43.cnt ≤ rs.length := by
      have h1 := Tr.env_length tz43
      rw [hvz43] at h1
      have h2 := eset_len ts[kn].env s9 r40
      have h3 := Tr.env_length (ts[kn])
      omega
    have hnm9 : ∀ b ∈ tz43.env, b.1.size ≤ 100 := by
      intro b hb
      rw [hvz43] at hb
      rcases eset_mem hb with h | h
      · rw [h]; exact hz9
      · exact hG8.nm hk2 hk3 b h
    exact ⟨(a40, rs ++ [_], ts ++ [tz43]), ⟨rfl, rfl, rfl, trivial⟩, ⟨e45, (((hB40.extT hT41 (by decide)).extT hY.t (by decide)).chg q45 (by first | assumption | omega)), ⟨_, _, _, _, b45, (hFz43.extT' (Chg.toT q45 hgb43) (by decide)), (hb43.extT (Chg.toT q45 hgb43) (by decide)), (hd43.extT (Chg.toT q45 hgb43) (by decide)), Lists.snoc ((((((hLL8.extT hT9 (by decide)).extT hT10 (by decide)).extT hT40 (by decide)).extT hT41 (by decide)).extT hY.t (by decide)).extT (Chg.toT q45 hgb43) (by decide)) (by rw [hvz43]; exact (hen43.extT (Chg.toT q45 hgb43) (by decide))), Good.snoc hG8.more hRz43 hOz43 hAz43 (by omega) hnm9, by simp only [List.length_append, List.length_singleton]; omega, by simp, by omega⟩, by omega, by simp only [List.length_append, List.length_singleton]; omega⟩, by dsimp only; omega⟩
 · --
  refine WP_exit ?_
  refine inBlk_hit ?_
  refine WP_seq ?_
  refine WP_seq ?_
  refine WP_region ?_
  refine O_move rfl rfl rfl ?_
  refine O_move rfl rfl rfl ?_
  refine WL_end [(6, _), (161, _), (162, _)] ⟨rfl, rfl, rfl, trivial⟩ ?_
  refine WP_block ?_
  refine WP_loop (S := Nat × List Int × List Tr) (fun (j, rs, ts) => [(6, .pointer (some ⟨g4, 0, none⟩)), (161, .int .i64 (m : Nat)), (162, .int .i64 (j : Nat))]) (fun (j, rs, ts) w' => Ext w w' ∧ GS w.heap.size w' g4 gf rs ts ∧ j ≤ m ∧ rs.length ≤ l.length + 1 + j) (fun (j, rs, ts) => m - j) (0, rs, ts) ⟨rfl, rfl, rfl, trivial⟩ ⟨(hE.trans e6), ⟨_, _, _, _, (hx.ext e6), (hF.ext e6), (hr.ext e6), (hv.ext e6), (hLL.ext e6), hG, hps, hrs, hgx⟩, Nat.zero_le _, by omega⟩ ?_
  rintro ⟨j, rs, ts⟩ w9 ⟨hE, ⟨ps8, vr8, vl8, lv8, hx8, hF8, hr8, hv8, hLL8, hG8, hps8, hrs8, hgx8⟩, hjm, hlen⟩
  show WP _ _ _ _ _ [(6, .pointer (some ⟨g4, 0, none⟩)), (161, .int .i64 (m : Nat)), (162, .int .i64 (j : Nat))] _
  have zE := hE.size
  obtain ⟨kn, hkn⟩ : ∃ kn : Nat, rs.length = kn + 1 := ⟨rs.length - 1, by omega⟩
  have hk2 : kn < rs.length := by omega
  have hk3 : kn < ts.length := by have := hG8.1; omega
  have hk4 : kn < lv8.length := by have := hLL8.1; omega
  have hlvl : lv8.length ≤ rs.length := by have := hLL8.1; have := hG8.1; omega
  obtain ⟨hRk, hOk, hAk, hCk⟩ := hG8.at_ hk2 hk3
  have h40 := bigB ts[kn] hAk (by omega)
  have henk := Tr.env_length ts[kn]
  refine WP_seq ?_
  refine WP_region ?_
  refine O_lss rfl rfl rfl rfl rfl ?_
  refine WL_end [(6, _), (161, _), (162, _), (163, _)] ⟨rfl, rfl, rfl, rfl, trivial⟩ ?_
  refine WP_seq ?_
  refine WP_condD rfl (fun c163 => ?_) (fun c163 => ?_)
  · --
   refine WP_skip ?_
   refine WP_seq ?_
   refine WP_block ?_
   refine WP_seq ?_
   refine WP_region ?_
   refine O_move rfl rfl rfl ?_
   refine O_assign rfl rfl rfl ?_
   refine WL_end [(6, _), (16, _), (161, _), (162, _)] ⟨rfl, rfl, rfl, rfl, trivial⟩ ?_
   refine WP_seq ?_
   refine WP_region ?_
   refine O_move rfl rfl rfl ?_
   refine O_nilCheck rfl rfl rfl ?_
   refine O_field F32_1 rfl rfl rfl ?_
   refine O_loadC Try.underlying22 rfl rfl rfl rfl hx8 rfl ?_
   refine M_len M22 rfl rfl rfl hr8.sl ?_
   refine O_sub (r := ((kn : Nat) : Int)) rfl rfl rfl rfl (by rw [IntKind.wrap_i64]; omega) ?_
   refine O_assign rfl rfl rfl ?_
   refine WL_end [(6, _), (16, _), (17, _), (161, _), (162, _)] ⟨rfl, rfl, rfl, rfl, rfl, trivial⟩ ?_
   refine WP_seq ?_
   refine WP_region ?_
   refine O_move rfl rfl rfl ?_
   refine O_rem rfl rfl rfl rfl (by decide) rfl ?_
   refine O_conv Try.underlying3 Try.underlying5 rfl rfl rfl rfl ?_
   refine O_add rfl rfl rfl rfl rfl ?_
   refine O_move rfl rfl rfl ?_
   refine O_quo rfl rfl rfl rfl (by decide) rfl ?_
   refine O_rem rfl rfl rfl rfl (by decide) rfl ?_
   refine O_conv Try.underlying3 Try.underlying5 rfl rfl rfl rfl ?_
   refine O_add rfl rfl rfl rfl rfl ?_
   refine O_move rfl rfl rfl ?_
   refine O_rem rfl rfl rfl rfl (by decide) rfl ?_
   refine O_conv Try.underlying3 Try.underlying5 rfl rfl rfl rfl ?_
   refine O_add rfl rfl rfl rfl rfl ?_
   refine M_lit M93 rfl rfl fB [_, _, _] (by intro a _; rfl) rfl rfl rfl rfl rfl (fun v46 w46 o46 e46 => ?_)
   have z46 := e46.size
   refine M_toStrX Try.underlying93 Try.underlying5 Try.underlying9 rfl rfl rfl o46.sl (fun s18 hzs18 => ?_)
   simp only [List.length_cons, List.length_nil] at hzs18
   refine O_assign rfl rfl rfl ?_
   refine WL_end [(6, _), (16, _), (17, _), (18, _), (161, _), (162, _)] ⟨rfl, rfl, rfl, rfl, rfl, rfl, trivial⟩ ?_
   have hrW47 := (hr8.ext e46)
   have hvW47 := (hv8.ext e46)
   have hLW47 := (hLL8.ext e46)
   have hGW47 := (hF8.ext e46)
   have hxW47 := (hx8.ext e46)
   have hneW47 : lv8 ≠ [] → vblk vl8 ≠ g4 := fun hn => OwM.apart hvW47 hn hxW47 (by decide)
   refine WP_sub [(6, _), (16, _), (17, _), (18, _), (161, _), (162, _)] ⟨rfl, rfl, rfl, rfl, rfl, rfl, trivial⟩ ?_
   refine WP_anyF (Lin (XGl ⟨w.heap.size, w46, g4, gf, ps8, 3 * ts[kn].ht + 1, eset ts[kn].env s18 ((j : Nat) : Int), vr8, vl8, rs, lv8⟩ (.int .i64 rs[kn]))) (fun w' => YG w.heap.size w46 vl8 lv8 w') 41 [6, 16, 17, 18, 161, 162] [16, 19, 20, 21, 35, 36, 37, 40] [some 202, some 205, some 206, some 207, some 221, some 222, some 223, none] [[], [0], [0, 1], [0, 1, 2], [0, 1, 2, 3], [0, 1, 2, 3, 4], [0, 1, 2, 3, 4, 5], [0, 1, 2, 3, 4, 5, 6]] mixed rfl (by kernel_rfl) (by kernel_rfl) (Lin.all XGl.toY) (fun w' h => Lin.start (n := 8) (show XGl _ _ [] _ from XG.start hxW47 hGW47 hrW47 hvW47 h)) ?_
   apply AnyF_val [6] (Lin.all XGl.toY) rfl rfl rfl
   · --
    intro y48_ hy
    refine O_move rfl rfl rfl ?_
    exact WL_nil ⟨rfl, rfl⟩
   apply AnyF_val [6] (Lin.all XGl.toY) rfl rfl rfl
   · --
    intro y48_ hy
    refine O_move rfl rfl rfl ?_
    exact WL_nil ⟨rfl, rfl⟩
   apply AnyF_val [6] (Lin.all XGl.toY) rfl rfl rfl
   · --
    intro y48_ hy
    refine O_move rfl rfl rfl ?_
    exact WL_nil ⟨rfl, rfl⟩
   apply AnyF_val [188] (Lin.all XGl.toY) rfl rfl rfl
   · --
    intro y48_ hy
    refine O_nilCheck rfl rfl rfl ?_
    exact WL_nil ⟨rfl, rfl⟩
   apply AnyF_val [189] (Lin.all XGl.toY) rfl rfl rfl
   · --
    intro y48_ hy
    refine O_field F32_1 rfl rfl rfl ?_
    exact WL_nil ⟨rfl, rfl⟩
   apply AnyF_valN [7] [190] rfl rfl rfl (by kernel_rfl)
   · --
    intro vs y48_ hl hns hX
    obtain ⟨us, hus, hX8⟩ := Lin.before hX (hns 7 (by simp))
    have hb9 : Bk y48_ g4 _ _ := XGl.toB _ _ (by omega) hX8
    refine O_loadC Try.underlying22 rfl rfl rfl rfl hb9 rfl ?_
    exact WL_nil ⟨rfl, rfl⟩
   apply AnyF_val [6] (Lin.all XGl.toY) rfl rfl rfl
   · --
    intro y48_ hy
    refine O_move rfl rfl rfl ?_
    exact WL_nil ⟨rfl, rfl⟩
   apply AnyF_val [192] (Lin.all XGl.toY) rfl rfl rfl
   · --
    intro y48_ hy
    refine O_nilCheck rfl rfl rfl ?_
    exact WL_nil ⟨rfl, rfl⟩
   apply AnyF_val [193] (Lin.all XGl.toY) rfl rfl rfl
   · --
    intro y48_ hy
    refine O_field F32_0 rfl rfl rfl ?_
    exact WL_nil ⟨rfl, rfl⟩
   apply AnyF_valN [7] [194] rfl rfl rfl (by kernel_rfl)
   · --
    intro vs y48_ hl hns hX
    obtain ⟨us, hus, hX8⟩ := Lin.before hX (hns 7 (by simp))
    have hb9 : Bk y48_ g4 _ _ := XGl.toB _ _ (by omega) hX8
    refine O_loadC Try.underlying29 rfl rfl rfl rfl hb9 rfl ?_
    exact WL_nil ⟨rfl, rfl⟩
   apply AnyF_val [6] (Lin.all XGl.toY) rfl rfl rfl
   · --
    intro y48_ hy
    refine O_move rfl rfl rfl ?_
    exact WL_nil ⟨rfl, rfl⟩
   apply AnyF_val [196] (Lin.all XGl.toY) rfl rfl rfl
   · --
    intro y48_ hy
    refine O_nilCheck rfl rfl rfl ?_
    exact WL_nil ⟨rfl, rfl⟩
   apply AnyF_val [197] (Lin.all XGl.toY) rfl rfl rfl
   · --
    intro y48_ hy
    refine O_field F32_1 rfl rfl rfl ?_
    exact WL_nil ⟨rfl, rfl⟩
   apply AnyF_valN [7] [198] rfl rfl rfl (by kernel_rfl)
   · --
    intro vs y48_ hl hns hX
    obtain ⟨us, hus, hX8⟩ := Lin.before hX (hns 7 (by simp))
    have hb9 : Bk y48_ g4 _ _ := XGl.toB _ _ (by omega) hX8
    refine O_loadC Try.underlying22 rfl rfl rfl rfl hb9 rfl ?_
    exact WL_nil ⟨rfl, rfl⟩
   apply AnyF_val [17] (Lin.all XGl.toY) rfl rfl rfl
   · --
    intro y48_ hy
    refine O_move rfl rfl rfl ?_
    exact WL_nil ⟨rfl, rfl⟩
   apply AnyF_val [199, 200] (Lin.all XGl.toY) rfl rfl rfl
   · --
    intro y48_ hy
    refine M_indexAt M22 rfl rfl rfl rfl (hr8.ext e46).sl kn rfl hk2 ?_
    exact WL_nil ⟨rfl, rfl⟩
   apply AnyF_eff 0 [] [201] rfl rfl rfl rfl
   · --
    intro vs y48_ hl hnone hwait hX
    obtain ⟨us, ku, hus, hX7, rfl⟩ := Lin.at_ hX hnone hwait
    clear hX
    have hX := hX7
    clear hX7
    obtain rfl : us = [] := List.eq_nil_of_length_eq_zero hus
    have hX9 := hX
    obtain ⟨hY, hgb9, hF9, hr9, hv9⟩ := hX
    refine M_load Try.underlying3 rfl rfl rfl rfl hr9.sl hk2 ?_
    exact WL_nil ⟨_, rfl, Lin.snoc rfl ⟨rfl, hX9⟩⟩
   apply AnyF_val [18] (Lin.all XGl.toY) rfl rfl rfl
   · --
    intro y48_ hy
    refine O_move rfl rfl rfl ?_
    exact WL_nil ⟨rfl, rfl⟩
   apply AnyF_val [16] (Lin.all XGl.toY) rfl rfl rfl
   · --
    intro y48_ hy
    refine O_move rfl rfl rfl ?_
    exact WL_nil ⟨rfl, rfl⟩
   apply AnyF_eff 1 [0] [195, 202, 203, 204] rfl rfl rfl rfl
   · --
    intro vs y48_ hl hnone hwait hX
    obtain ⟨us, ku, hus, hX7, rfl⟩ := Lin.at_ hX hnone hwait
    clear hX
    have hX := hX7
    clear hX7
    obtain ⟨x, rfl⟩ := len1 hus
    obtain ⟨hx0, hX⟩ := hX
    subst hx0
    have hX9 := hX
    obtain ⟨hY, hgb9, hF9, hr9, hv9⟩ := hX
    have z9 : w46.heap.size ≤ y48_.heap.size := hY.t.size
    refine O_callR enters28 rfl rfl rfl (Set_U hF9 (show w.heap.size ≤ _ from by omega) hRk hOk hAk (by omega) (show ps8.length ≤ 90000000 from by omega) _ _) (fun e2 w2 hR2 => ?_)
    obtain ⟨u9, he9, hX8⟩ := XG.st0 hX9 hR2
    subst he9
    exact ⟨_, rfl, WL_nil ⟨_, rfl, Lin.snoc rfl ⟨rfl, hX8⟩⟩⟩
   apply AnyF_eff 2 [0, 1] [205] rfl rfl rfl rfl
   · --
    intro vs y48_ hl hnone hwait hX
    obtain ⟨us, ku, hus, hX7, rfl⟩ := Lin.at_ hX hnone hwait
    clear hX
    have hX := hX7
    clear hX7
    obtain ⟨x, u, rfl⟩ := len2 hus
    obtain ⟨hx0, hX⟩ := hX
    subst hx0
    have hX9 := hX
    obtain ⟨hY, hgb9, i9, hi9, hTS9, hr9, hv9⟩ := hX
    subst hi9
    have z9 : w46.heap.size ≤ y48_.heap.size := hY.t.size
    refine M_lit M22 rfl rfl fI [i9] (by intro a _; rfl) rfl rfl rfl rfl rfl (fun a13 w13 o13 e13 => ?_)
    exact WL_nil ⟨_, rfl, Lin.snoc rfl ⟨rfl, XG.st1 hX9 e13 (fun i h => by cases h; exact o13.sl)⟩⟩
   apply AnyF_eff 3 [0, 1, 2] [191, 206] rfl rfl rfl rfl
   · --
    intro vs y48_ hl hnone hwait hX
    obtain ⟨us, ku, hus, hX7, rfl⟩ := Lin.at_ hX hnone hwait
    clear hX
    have hX := hX7
    clear hX7
    obtain ⟨x, u, a, rfl⟩ := len3 hus
    obtain ⟨hx0, hX⟩ := hX
    subst hx0
    have hX9 := hX
    obtain ⟨hY, hgb9, i9, hi9, hTS9, hr9, hv9, ha9⟩ := hX
    subst hi9
    have z9 : w46.heap.size ≤ y48_.heap.size := hY.t.size
    refine M_append M22 rfl rfl rfl rfl rfl hr9 ha9 (by simp) (by intro a _; rfl) (by simp only [List.length_singleton]; omega) rfl (show w.heap.size ≤ _ from by omega) (fun b13 w13 o13 r13 q13 => ?_)
    exact WL_nil ⟨_, rfl, Lin.snoc rfl ⟨rfl, XG.st2 hX9 (fun i h => by cases h; exact o13) r13⟩⟩
   apply AnyF_val [6] (Lin.all XGl.toY) rfl rfl rfl
   · --
    intro y48_ hy
    refine O_move rfl rfl rfl ?_
    exact WL_nil ⟨rfl, rfl⟩
   apply AnyF_val [208] (Lin.all XGl.toY) rfl rfl rfl
   · --
    intro y48_ hy
    refine O_nilCheck rfl rfl rfl ?_
    exact WL_nil ⟨rfl, rfl⟩
   apply AnyF_val [209] (Lin.all XGl.toY) rfl rfl rfl
   · --
    intro y48_ hy
    refine O_field F32_2 rfl rfl rfl ?_
    exact WL_nil ⟨rfl, rfl⟩
   apply AnyF_valN [7] [210] rfl rfl rfl (by kernel_rfl)
   · --
    intro vs y48_ hl hns hX
    obtain ⟨us, hus, hX8⟩ := Lin.before hX (hns 7 (by simp))
    have hb9 : Bk y48_ g4 _ _ := XGl.toB _ _ (by omega) hX8
    refine O_loadC Try.underlying30 rfl rfl rfl rfl hb9 rfl ?_
    exact WL_nil ⟨rfl, rfl⟩
   apply AnyF_val [6] (Lin.all XGl.toY) rfl rfl rfl
   · --
    intro y48_ hy
    refine O_move rfl rfl rfl ?_
    exact WL_nil ⟨rfl, rfl⟩
   apply AnyF_val [212] (Lin.all XGl.toY) rfl rfl rfl
   · --
    intro y48_ hy
    refine O_nilCheck rfl rfl rfl ?_
    exact WL_nil ⟨rfl, rfl⟩
   apply AnyF_val [213] (Lin.all XGl.toY) rfl rfl rfl
   · --
    intro y48_ hy
    refine O_field F32_2 rfl rfl rfl ?_
    exact WL_nil ⟨rfl, rfl⟩
   apply AnyF_valN [7] [214] rfl rfl rfl (by kernel_rfl)
   · --
    intro vs y48_ hl hns hX
    obtain ⟨us, hus, hX8⟩ := Lin.before hX (hns 7 (by simp))
    have hb9 : Bk y48_ g4 _ _ := XGl.toB _ _ (by omega) hX8
    refine O_loadC Try.underlying30 rfl rfl rfl rfl hb9 rfl ?_
    exact WL_nil ⟨rfl, rfl⟩
   apply AnyF_val [17] (Lin.all XGl.toY) rfl rfl rfl
   · --
    intro y48_ hy
    refine O_move rfl rfl rfl ?_
    exact WL_nil ⟨rfl, rfl⟩
   apply AnyF_val [215, 216] (Lin.all XGl.toY) rfl rfl rfl
   · --
    intro y48_ hy
    refine M_index M30 rfl rfl rfl rfl hy.sl kn rfl hk4 ?_
    exact WL_nil ⟨rfl, rfl⟩
   apply AnyF_val [217] (Lin.all XGl.toY) rfl rfl rfl
   · --
    intro y48_ hy
    refine M_load Try.underlying34 rfl rfl rfl rfl hy.sl hk4 ?_
    exact WL_nil ⟨rfl, rfl⟩
   apply AnyF_val [18] (Lin.all XGl.toY) rfl rfl rfl
   · --
    intro y48_ hy
    refine O_move rfl rfl rfl ?_
    exact WL_nil ⟨rfl, rfl⟩
   apply AnyF_val [16] (Lin.all XGl.toY) rfl rfl rfl
   · --
    intro y48_ hy
    refine O_move rfl rfl rfl ?_
    exact WL_nil ⟨rfl, rfl⟩
   apply AnyF_eff 4 [0, 1, 2, 3] [218, 219, 220] rfl rfl rfl rfl
   · --
    intro vs y48_ hl hnone hwait hX
    obtain ⟨us, ku, hus, hX7, rfl⟩ := Lin.at_ hX hnone hwait
    clear hX
    have hX := hX7
    clear hX7
    obtain ⟨x, u, a, b, rfl⟩ := len4' hus
    obtain ⟨hx0, hX⟩ := hX
    subst hx0
    have hX9 := hX
    obtain ⟨hY, hgb9, i9, hi9, hTS9, hr9, hv9⟩ := hX
    subst hi9
    have z9 : w46.heap.size ≤ y48_.heap.size := hY.t.size
    have hu9 := ((hLW47.extT hY.t (by decide)).at_ hk4 hk3).sl
    refine O_call enters29 rfl rfl rfl (RSet_c hu9 (by omega)) (fun e13 w13 x13 o13 => ?_)
    exact WL_nil ⟨_, rfl, Lin.snoc rfl ⟨rfl, XG.st3 hX9 x13 (o13.mono (show w.heap.size ≤ _ from by omega))⟩⟩
   apply AnyF_eff 5 [0, 1, 2, 3, 4] [221] rfl rfl rfl rfl
   · --
    intro vs y48_ hl hnone hwait hX
    obtain ⟨us, ku, hus, hX7, rfl⟩ := Lin.at_ hX hnone hwait
    clear hX
    have hX := hX7
    clear hX7
    obtain ⟨x, u, a, b, e, rfl⟩ := len5' hus
    obtain ⟨hx0, hX⟩ := hX
    subst hx0
    have hX9 := hX
    obtain ⟨hY, hgb9, i9, hi9, hTS9, hr9, hv9, hq9⟩ := hX
    subst hi9
    have z9 : w46.heap.size ≤ y48_.heap.size := hY.t.size
    have heo9 := hq9.one
    refine M_lit M30 rfl rfl fV [e] (by intro a ha; simp at ha; subst ha; exact heo9) rfl rfl rfl rfl rfl (fun a13 w13 o13 e13 => ?_)
    exact WL_nil ⟨_, rfl, Lin.snoc rfl ⟨rfl, XG.st4 hX9 e13 o13.sl⟩⟩
   apply AnyF_eff 6 [0, 1, 2, 3, 4, 5] [211, 222] rfl rfl rfl rfl
   · --
    intro vs y48_ hl hnone hwait hX
    obtain ⟨us, ku, hus, hX7, rfl⟩ := Lin.at_ hX hnone hwait
    clear hX
    have hX := hX7
    clear hX7
    obtain ⟨x, u, a, b, e, c, rfl⟩ := len6' hus
    obtain ⟨hx0, hX⟩ := hX
    subst hx0
    have hX9 := hX
    obtain ⟨hY, hgb9, i9, hi9, hTS9, hr9, hv9, hq9, hc9⟩ := hX
    subst hi9
    have z9 : w46.heap.size ≤ y48_.heap.size := hY.t.size
    have heo9 := hq9.one
    refine M_append M30 rfl rfl rfl rfl rfl hv9 hc9 (by simp) (by intro a ha; simp at ha; subst ha; exact heo9) (by simp only [List.length_singleton]; omega) rfl (show w.heap.size ≤ _ from by omega) (fun b13 w13 o13 r13 q13 => ?_)
    exact WL_nil ⟨_, rfl, Lin.snoc rfl ⟨rfl, XG.st5 hX9 o13 r13 q13⟩⟩
   apply AnyF_val [186] (Lin.all XGl.toY) rfl rfl rfl
   · --
    intro y48_ hy
    refine O_nilCheck rfl rfl rfl ?_
    exact WL_nil ⟨rfl, rfl⟩
   apply AnyF_val [224] (Lin.all XGl.toY) rfl rfl rfl
   · --
    intro y48_ hy
    refine O_field F32_1 rfl rfl rfl ?_
    exact WL_nil ⟨rfl, rfl⟩
   apply AnyF_st 7 [0, 1, 2, 3, 4, 5, 6] [225, 207] rfl rfl rfl rfl
   · --
    intro vs y48_ hl hnone hwait hX
    obtain ⟨us, ku, hus, hX7, rfl⟩ := Lin.at_ hX hnone hwait
    clear hX
    have hX := hX7
    clear hX7
    obtain ⟨x, u, a, b, e, c, d, rfl⟩ := len7' hus
    obtain ⟨hx0, hX⟩ := hX
    subst hx0
    have hX9 := hX
    obtain ⟨hY, hgb9, i9, hi9, hTS9, hr9, hv9, hq9⟩ := hX
    subst hi9
    have z9 : w46.heap.size ≤ y48_.heap.size := hY.t.size
    refine O_storeC (cs' := [_, _, _]) one22 rfl rfl rfl hr9.one hgb9 rfl rfl (fun w13 b13 q13 => ?_)
    exact WL_nil (Lin.snoc rfl ⟨rfl, XG.st6 hX9 (by omega) q13 b13 hneW47⟩)
   refine AnyF_nil fun vs y48_ hl hdone hX => ?_
   obtain ⟨us, hus, hX7, rfl⟩ := Lin.full hX hl hdone
   clear hX
   have hX := hX7
   clear hX7
   obtain ⟨x, u, a, b, e, c, d, z, rfl⟩ := len8' hus
   obtain ⟨hx0, hX⟩ := hX
   subst hx0
   obtain ⟨hY, hgb47, i47, hi47, hTS47, hb47, hd47, hen47⟩ := hX
   subst hi47
   have zY47 : w46.heap.size ≤ y48_.heap.size := hY.t.size
   obtain ⟨qz47, tz47, hFz47, hqz47, hRz47, hOz47, hAz47, hvz47⟩ := hTS47
   replace hqz47 : qz47.length ≤ 3 * ts[kn].ht + 1 := hqz47
   replace hvz47 : tz47.env = eset ts[kn].env s18 ((j : Nat) : Int) := hvz47
   replace hgb47 : Bk y48_ g4 _ _ := hgb47
   refine O_nilCheck rfl rfl rfl ?_
   refine O_field F32_2 rfl rfl rfl ?_
   refine O_storeC (cs' := [_, _, _]) one30 rfl rfl rfl (hd47).one hgb47 rfl rfl (fun w49 b49 q49 => ?_)
   have z49 := Nat.le_of_eq q49.size.symm
   have e49 : Ext w w49 := q49.ext (hY.base _ (hE.trans e46) (Nat.le_refl _)) (by omega)
   refine WL_end [(6, _), (161, _), (162, _)] ⟨rfl, rfl, rfl, trivial⟩ ?_
   refine WP_region ?_
   refine O_add rfl rfl rfl rfl (wrap_i64_id (by omega) (by omega)) ?_
   refine O_move rfl rfl rfl ?_
   refine WL_end [(6, _), (161, _), (162, _)] ⟨rfl, rfl, rfl, trivial⟩ ?_
   have hcn : tz47.cnt ≤ rs.length := by
     have h1 := Tr.env_length tz47
     rw [hvz47] at h1
     have h2 := eset_len ts[kn].env s18 ((j : Nat) : Int)
     have h3 := Tr.env_length (ts[kn])
     omega
   have hnm9 : ∀ b ∈ tz47.env, b.1.size ≤ 100 := by
     intro b hb
     rw [hvz47] at hb
     rcases eset_mem hb with h | h
     · rw [h]; exact (show s18.size ≤ 100 from by omega)
     · exact hG8.nm hk2 hk3 b h
   exact ⟨(j + 1, rs ++ [_], ts ++ [tz47]), ⟨rfl, rfl, rfl, trivial⟩, ⟨e49, ⟨_, _, _, _, b49, (hFz47.extT' (Chg.toT q49 hgb47) (by decide)), (hb47.extT (Chg.toT q49 hgb47) (by decide)), (hd47.extT (Chg.toT q49 hgb47) (by decide)), Lists.snoc (((hLL8.ext e46).extT hY.t (by decide)).extT (Chg.toT q49 hgb47) (by decide)) (by rw [hvz47]; exact (hen47.extT (Chg.toT q49 hgb47) (by decide))), Good.snoc hG8.more hRz47 hOz47 hAz47 (by omega) hnm9, by simp only [List.length_append, List.length_singleton]; omega, by simp, by omega⟩, by omega, by simp only [List.length_append, List.length_singleton]; omega⟩, by dsimp only; omega⟩
  · --
   refine WP_exit ?_
   refine inBlk_hit ?_
   refine WP_seq ?_
   refine WP_region ?_
   refine O_move rfl rfl rfl ?_
   refine O_assign rfl rfl rfl ?_
   refine O_assign rfl rfl rfl ?_
   refine WL_end [(4, _), (5, _)] ⟨rfl, rfl, trivial⟩ ?_
   refine WP_ret ?_
   refine ret2 Try.results17 rfl rfl ?_
   exact ⟨_, rfl, hE, _, _, _, _, rfl, ⟨_, _, _, _, hx8, hF8, hr8, hv8, hLL8, hG8, hps8, hrs8, hgx8⟩, by omega⟩

end Go.Proofs.Ytoccimigjjndpaa
