/-
  Walks.
-/
import Derived.Test.YtoccimigjjndpaaMgk
import Derived.Test.YtoccimigjjndpaaAnyS
set_option linter.unusedVariables false
set_option linter.unusedSimpArgs false
set_option maxRecDepth 100000
namespace Go.Proofs.Ytoccimigjjndpaa
open Go Go.RowKit
theorem mg_cases (o a b E : Env) (s : ByteArray) : (nodev a s = nodev o s ∧ nodev b s = -1 ∧ egot E s) ∨ (nodev a s = nodev o s ∧ nodev b s = -1 ∧ ¬ egot E s) ∨ (nodev a s = nodev o s ∧ ¬ nodev b s = -1) ∨
    (¬ nodev a s = nodev o s ∧ ¬ nodev b s = nodev o s ∧ ¬ nodev b s = nodev a s) ∨ (¬ nodev a s = nodev o s ∧ nodev b s = nodev o s) ∨ (¬ nodev a s = nodev o s ∧ ¬ nodev b s = nodev o s ∧ nodev b s = nodev a s) := by
  by_cases h1 : nodev a s = nodev o s
  · by_cases h2 : nodev b s = -1
    · by_cases h3 : egot E s
      · exact .inl ⟨h1, h2, h3⟩
      · exact .inr (.inl ⟨h1, h2, h3⟩)
    · exact .inr (.inr (.inl ⟨h1, h2⟩))
  · by_cases h2 : nodev b s = nodev o s
    · exact .inr (.inr (.inr (.inr (.inl ⟨h1, h2⟩))))
    · by_cases h3 : nodev b s = nodev a s
      · exact .inr (.inr (.inr (.inr (.inr ⟨h1, h2, h3⟩))))
      · exact .inr (.inr (.inr (.inl ⟨h1, h2, h3⟩)))
theorem edrop_same' {E : Env} {s : ByteArray} (h : ¬ egot E s) : E = edrop E s := (edrop_none (egot_none h)).symm

set_option maxHeartbeats 2000000 in
theorem merge1_c {w0 wM wE w : World} {g b1 b2 b3 b4 b5 b6 b : Nat} {io ia ib : Int} {to ta tb : Tr} {ps : List Part} {vs : Nm} {s : ByteArray} {cs : List Value} (hRo : Rep ps io to) (hoo : to.Ord) (hRa : Rep ps ia ta) (hoa : ta.Ord) (hRb : Rep ps ib tb) (hob : tb.Ord)
    (h0M : w0.heap.size ≤ wM.heap.size) (hME : wM.heap.size ≤ wE.heap.size) (hb50 : wM.heap.size ≤ b5) (hb60 : wM.heap.size ≤ b6) (hn25 : b2 ≠ b5) (hn35 : b3 ≠ b5) (hn45 : b4 ≠ b5) (hct : ta.cnt ≤ 1000) (hps : ps.length ≤ 1000000)
    (hK : KMg w0 wM wE g b1 b2 b3 b4 b5 b6 io ia ib to.env ta.env tb.env ps vs w) (hbl : Bk w b 52 cs) (hnb : b ≠ b6) (hvs : vs.length ≤ 1000) :
    Calls Try.prog 86 #[.string s, .pointer (some ⟨b1, 0, none⟩), .pointer (some ⟨b2, 0, none⟩), .pointer (some ⟨b3, 0, none⟩), .pointer (some ⟨b4, 0, none⟩), .pointer (some ⟨b5, 0, none⟩), .pointer (some ⟨b6, 0, none⟩)] w (RVis (KMg w0 wM wE g b1 b2 b3 b4 b5 b6 io ia ib to.env ta.env tb.env ps (vs ++ [s])) b cs w) := by
 obtain ⟨⟨hE, hTM, hTE⟩, ⟨hb1, hb2, hb3, hb4⟩, qs, i, u, cv, ⟨hF, hq⟩, ⟨hR, hO, hA, hv⟩, hb5, hb6, hC⟩ := hK
 have zE := hE.size
 have zM := hTM.size
 have zX := hTE.size
 have hl1 := hb1.lt
 have hl2 := hb2.lt
 have hl3 := hb3.lt
 have hl4 := hb4.lt
 have hl5 := hb5.lt
 have hl6 := hb6.lt
 have hl7 := hbl.lt
 have hRo2 := hRo.more (qs := qs)
 have hRa2 := hRa.more (qs := qs)
 have hRb2 := hRb.more (qs := qs)
 have hcu := Tr.env_length u
 have hca := Tr.env_length ta
 have hfl := mfold_len to.env ta.env tb.env vs ta.env
 rw [← hv] at hfl
 have h40 := bigB u hA (by omega)
 have hn15 := hb1.neT hb5 (by decide)
 have hn16 := hb1.neT hb6 (by decide)
 have hn26 := hb2.neT hb6 (by decide)
 have hn36 := hb3.neT hb6 (by decide)
 have hn46 := hb4.neT hb6 (by decide)
 have hn56 := hb5.neT hb6 (by decide)
 have hn65 := hb6.neT hb5 (by decide)
 have hnb5 := hbl.neT hb5 (by decide)
 refine enter (args := [_, _, _, _, _, _, _]) Try.func86 rfl Try.ntmps86 rfl ?_
 refine WP_seq ?_
 refine WP_sub [(0, _), (1, _), (2, _), (3, _), (4, _), (5, _), (6, _)] ⟨rfl, rfl, rfl, rfl, rfl, rfl, rfl, trivial⟩ ?_
 refine WP_anyR 11 [0, 1, 2, 3, 4, 5, 6] mixed rfl (by kernel_rfl) ?_
 apply AnyR_val [1] rfl (by kernel_rfl)
 · --
  intro y1 hy1
  have zy1 := hy1.size
  refine AllV_nil ?_
  refine O_loadC Try.underlying29 rfl rfl rfl rfl (hb1.ext hy1) rfl ?_
  exact WL_nil ⟨(Ext.refl _), rfl⟩
 apply AnyR_val [2] rfl (by kernel_rfl)
 · --
  intro y2 hy2
  have zy2 := hy2.size
  refine AllV_nil ?_
  refine O_loadC Try.underlying3 rfl rfl rfl rfl (hb2.ext hy2) rfl ?_
  exact WL_nil ⟨(Ext.refl _), rfl⟩
 apply AnyR_val [0] rfl (by kernel_rfl)
 · --
  intro y3 hy3
  have zy3 := hy3.size
  refine AllV_nil ?_
  refine O_move rfl rfl rfl ?_
  exact WL_nil ⟨(Ext.refl _), rfl⟩
 apply AnyR_val [11, 12, 13] rfl (by kernel_rfl)
 · --
  intro y4 hy4
  have zy4 := hy4.size
  refine AllV_v ?_
  refine AllV_v ?_
  refine AllV_v ?_
  refine AllV_nil ?_
  refine O_call enters75 rfl rfl rfl (node_c (hF.ext hy4) hRo2 hoo) (fun v5 w5 e5 h5 => ?_)
  have z5 := e5.size
  obtain rfl := h5
  exact WL_nil ⟨e5, rfl⟩
 apply AnyR_val [1] rfl (by kernel_rfl)
 · --
  intro y6 hy6
  have zy6 := hy6.size
  refine AllV_nil ?_
  refine O_loadC Try.underlying29 rfl rfl rfl rfl (hb1.ext hy6) rfl ?_
  exact WL_nil ⟨(Ext.refl _), rfl⟩
 apply AnyR_val [3] rfl (by kernel_rfl)
 · --
  intro y7 hy7
  have zy7 := hy7.size
  refine AllV_nil ?_
  refine O_loadC Try.underlying3 rfl rfl rfl rfl (hb3.ext hy7) rfl ?_
  exact WL_nil ⟨(Ext.refl _), rfl⟩
 apply AnyR_val [0] rfl (by kernel_rfl)
 · --
  intro y8 hy8
  have zy8 := hy8.size
  refine AllV_nil ?_
  refine O_move rfl rfl rfl ?_
  exact WL_nil ⟨(Ext.refl _), rfl⟩
 apply AnyR_val [15, 16, 17] rfl (by kernel_rfl)
 · --
  intro y9 hy9
  have zy9 := hy9.size
  refine AllV_v ?_
  refine AllV_v ?_
  refine AllV_v ?_
  refine AllV_nil ?_
  refine O_call enters75 rfl rfl rfl (node_c (hF.ext hy9) hRa2 hoa) (fun v10 w10 e10 h10 => ?_)
  have z10 := e10.size
  obtain rfl := h10
  exact WL_nil ⟨e10, rfl⟩
 apply AnyR_val [1] rfl (by kernel_rfl)
 · --
  intro y11 hy11
  have zy11 := hy11.size
  refine AllV_nil ?_
  refine O_loadC Try.underlying29 rfl rfl rfl rfl (hb1.ext hy11) rfl ?_
  exact WL_nil ⟨(Ext.refl _), rfl⟩
 apply AnyR_val [4] rfl (by kernel_rfl)
 · --
  intro y12 hy12
  have zy12 := hy12.size
  refine AllV_nil ?_
  refine O_loadC Try.underlying3 rfl rfl rfl rfl (hb4.ext hy12) rfl ?_
  exact WL_nil ⟨(Ext.refl _), rfl⟩
 apply AnyR_val [0] rfl (by kernel_rfl)
 · --
  intro y13 hy13
  have zy13 := hy13.size
  refine AllV_nil ?_
  refine O_move rfl rfl rfl ?_
  exact WL_nil ⟨(Ext.refl _), rfl⟩
 refine AnyR_nil fun y14 hy14 => ?_
 have zy14 := hy14.size
 refine AllV_v ?_
 refine AllV_v ?_
 refine AllV_v ?_
 refine AllV_v ?_
 refine AllV_v ?_
 refine AllV_v ?_
 refine AllV_v ?_
 refine AllV_v ?_
 refine AllV_v ?_
 refine AllV_v ?_
 refine AllV_v ?_
 refine AllV_nil ?_
 refine O_call enters75 rfl rfl rfl (node_c (hF.ext hy14) hRb2 hob) (fun v15 w15 e15 h15 => ?_)
 have z15 := e15.size
 obtain rfl := h15
 refine O_assign rfl rfl rfl ?_
 refine O_assign rfl rfl rfl ?_
 refine O_assign rfl rfl rfl ?_
 refine WL_end [(0, _), (1, _), (5, _), (6, _), (8, _), (9, _), (10, _)] ⟨rfl, rfl, rfl, rfl, rfl, rfl, rfl, trivial⟩ ?_
 refine WP_block ?_
 refine WP_seq ?_
 rcases mg_cases to.env ta.env tb.env u.env s with ⟨hyx, hz, hgs⟩ | ⟨hyx, hz, hgs⟩ | ⟨hyx, hz⟩ | ⟨hyx, h5, h6⟩ | ⟨hyx, h5⟩ | ⟨hyx, h5, h6⟩
 · --
  skip
  refine WP_region ?_
  refine O_move rfl rfl rfl ?_
  refine O_move rfl rfl rfl ?_
  refine O_eql (t := true) rfl rfl rfl rfl (decide_eq_true hyx) ?_
  refine O_move rfl rfl rfl ?_
  refine O_move rfl rfl rfl ?_
  refine O_eql (t := true) rfl rfl rfl rfl (decide_eq_true hz) ?_
  refine O_pickT rfl rfl rfl rfl ?_
  refine O_assign rfl rfl rfl ?_
  refine WL_end [(0, _), (1, _), (5, _), (6, _), (8, _), (9, _), (10, _), (23, _)] ⟨rfl, rfl, rfl, rfl, rfl, rfl, rfl, rfl, trivial⟩ ?_
  refine WP_condT rfl ?_
  refine WP_region ?_
  refine O_loadC Try.underlying29 rfl rfl rfl rfl ((hb1.ext hy14).ext e15) rfl ?_
  refine O_loadC Try.underlying3 rfl rfl rfl rfl ((hb5.ext hy14).ext e15) rfl ?_
  refine O_move rfl rfl rfl ?_
  refine O_callU enters30 rfl rfl rfl (Drop_UT ((hF.ext hy14).ext e15) (by omega) hR hO hA (by omega) (by rw [List.length_append]; omega) _ hgs) (fun qs7 r7 u7 w7 hT7 hb7 hF7 hq7 hR7 hO7 hA7 hv7 hs7 => ?_)
  have zT7 := hT7.size
  refine O_move rfl rfl rfl ?_
  refine O_extract rfl rfl rfl rfl ?_
  refine O_extract rfl rfl rfl rfl ?_
  refine O_storeC (cs' := [_]) one3 rfl rfl rfl rfl (((hb5.ext hy14).ext e15).extT hT7 (by decide)) rfl rfl (fun w16 b16 q16 => ?_)
  have z16 := Nat.le_of_eq q16.size.symm
  have e16 : Ext w0 w16 := q16.ext (hb7 _ ((hE.trans hy14).trans e15) (Nat.le_refl _)) (by omega)
  refine WL_end [] trivial ?_
  refine ret0 Try.results86 ?_
  exact ⟨rfl, ⟨⟨e16, (ExtT.chgNew (ExtT.trans (ExtT.trans (ExtT.trans hTM (Ext.toT hy14)) (Ext.toT e15)) (ExtT.mono hT7 (by decide))) q16 (by omega)), (ExtT.trans (ExtT.trans (ExtT.trans (ExtT.trans hTE (Ext.toT hy14)) (Ext.toT e15)) (ExtT.mono hT7 (by decide))) (ExtT.mono (Chg.toT q16 (((hb5.ext hy14).ext e15).extT hT7 (by decide))) (by decide)))⟩, ⟨((((hb1.ext hy14).ext e15).extT hT7 (by decide)).chg q16 (by first | assumption | omega)), ((((hb2.ext hy14).ext e15).extT hT7 (by decide)).chg q16 (by first | assumption | omega)), ((((hb3.ext hy14).ext e15).extT hT7 (by decide)).chg q16 (by first | assumption | omega)), ((((hb4.ext hy14).ext e15).extT hT7 (by decide)).chg q16 (by first | assumption | omega))⟩, qs ++ qs7, r7, u7, _, ⟨by rw [← List.append_assoc]; exact (hF7.extT' (Chg.toT q16 (((hb5.ext hy14).ext e15).extT hT7 (by decide))) (by decide)), by simp only [List.length_append, List.length_singleton]; omega⟩, ⟨by rw [← List.append_assoc]; exact hR7, hO7, hA7, hv7.trans (by rw [hv, mst_A hyx hz])⟩, b16, ((((hb6.ext hy14).ext e15).extT hT7 (by decide)).chg q16 (by first | assumption | omega)), by rw [flt_skip (cf_1 hyx)]; exact ((((hC.ext hy14).ext e15).extT hT7 (by decide)).extT (Chg.toT q16 (((hb5.ext hy14).ext e15).extT hT7 (by decide))) (by decide))⟩, by omega, ((((hbl.ext hy14).ext e15).extT hT7 (by decide)).chg q16 (by first | assumption | omega))⟩
 · --
  skip
  refine WP_region ?_
  refine O_move rfl rfl rfl ?_
  refine O_move rfl rfl rfl ?_
  refine O_eql (t := true) rfl rfl rfl rfl (decide_eq_true hyx) ?_
  refine O_move rfl rfl rfl ?_
  refine O_move rfl rfl rfl ?_
  refine O_eql (t := true) rfl rfl rfl rfl (decide_eq_true hz) ?_
  refine O_pickT rfl rfl rfl rfl ?_
  refine O_assign rfl rfl rfl ?_
  refine WL_end [(0, _), (1, _), (5, _), (6, _), (8, _), (9, _), (10, _), (23, _)] ⟨rfl, rfl, rfl, rfl, rfl, rfl, rfl, rfl, trivial⟩ ?_
  refine WP_condT rfl ?_
  refine WP_region ?_
  refine O_loadC Try.underlying29 rfl rfl rfl rfl ((hb1.ext hy14).ext e15) rfl ?_
  refine O_loadC Try.underlying3 rfl rfl rfl rfl ((hb5.ext hy14).ext e15) rfl ?_
  refine O_move rfl rfl rfl ?_
  refine O_call enters30 rfl rfl rfl (Drop_UF ((hF.ext hy14).ext e15) hR hO _ hgs) (fun v17 w17 e17 h17 => ?_)
  have z17 := e17.size
  try simp only [val_dig] at h17
  obtain rfl := h17
  refine O_move rfl rfl rfl ?_
  refine O_extract rfl rfl rfl rfl ?_
  refine O_extract rfl rfl rfl rfl ?_
  refine O_storeC (cs' := [_]) one3 rfl rfl rfl rfl (((hb5.ext hy14).ext e15).ext e17) rfl rfl (fun w18 b18 q18 => ?_)
  have z18 := Nat.le_of_eq q18.size.symm
  have e18 : Ext w0 w18 := q18.ext (((hE.trans hy14).trans e15).trans e17) (by omega)
  refine WL_end [] trivial ?_
  refine ret0 Try.results86 ?_
  exact ⟨rfl, ⟨⟨e18, (ExtT.chgNew (ExtT.trans (ExtT.trans (ExtT.trans hTM (Ext.toT hy14)) (Ext.toT e15)) (Ext.toT e17)) q18 (by omega)), (ExtT.trans (ExtT.trans (ExtT.trans (ExtT.trans hTE (Ext.toT hy14)) (Ext.toT e15)) (Ext.toT e17)) (ExtT.mono (Chg.toT q18 (((hb5.ext hy14).ext e15).ext e17)) (by decide)))⟩, ⟨((((hb1.ext hy14).ext e15).ext e17).chg q18 (by first | assumption | omega)), ((((hb2.ext hy14).ext e15).ext e17).chg q18 (by first | assumption | omega)), ((((hb3.ext hy14).ext e15).ext e17).chg q18 (by first | assumption | omega)), ((((hb4.ext hy14).ext e15).ext e17).chg q18 (by first | assumption | omega))⟩, qs, i, u, _, ⟨((((hF.ext hy14).ext e15).ext e17).extT' (Chg.toT q18 (((hb5.ext hy14).ext e15).ext e17)) (by decide)), by simp only [List.length_append, List.length_singleton]; omega⟩, ⟨hR, hO, hA, (edrop_same' hgs).trans (by rw [hv, mst_A hyx hz])⟩, b18, ((((hb6.ext hy14).ext e15).ext e17).chg q18 (by first | assumption | omega)), by rw [flt_skip (cf_1 hyx)]; exact ((((hC.ext hy14).ext e15).ext e17).extT (Chg.toT q18 (((hb5.ext hy14).ext e15).ext e17)) (by decide))⟩, by omega, ((((hbl.ext hy14).ext e15).ext e17).chg q18 (by first | assumption | omega))⟩
 · --
  skip
  refine WP_region ?_
  refine O_move rfl rfl rfl ?_
  refine O_move rfl rfl rfl ?_
  refine O_eql (t := true) rfl rfl rfl rfl (decide_eq_true hyx) ?_
  refine O_move rfl rfl rfl ?_
  refine O_move rfl rfl rfl ?_
  refine O_eql (t := false) rfl rfl rfl rfl (decide_eq_false hz) ?_
  refine O_pickT rfl rfl rfl rfl ?_
  refine O_assign rfl rfl rfl ?_
  refine WL_end [(0, _), (1, _), (5, _), (6, _), (8, _), (9, _), (10, _), (23, _)] ⟨rfl, rfl, rfl, rfl, rfl, rfl, rfl, rfl, trivial⟩ ?_
  refine WP_condF rfl ?_
  refine WP_seq ?_
  refine WP_region ?_
  refine O_move rfl rfl rfl ?_
  refine O_move rfl rfl rfl ?_
  refine O_eql (t := true) rfl rfl rfl rfl (decide_eq_true hyx) ?_
  refine O_assign rfl rfl rfl ?_
  refine WL_end [(0, _), (1, _), (5, _), (6, _), (8, _), (9, _), (10, _), (38, _)] ⟨rfl, rfl, rfl, rfl, rfl, rfl, rfl, rfl, trivial⟩ ?_
  refine WP_condT rfl ?_
  refine WP_region ?_
  refine O_loadC Try.underlying29 rfl rfl rfl rfl ((hb1.ext hy14).ext e15) rfl ?_
  refine O_loadC Try.underlying3 rfl rfl rfl rfl ((hb5.ext hy14).ext e15) rfl ?_
  refine O_move rfl rfl rfl ?_
  refine O_move rfl rfl rfl ?_
  refine O_callU enters28 rfl rfl rfl (Set_U ((hF.ext hy14).ext e15) (by omega) hR hO hA (by omega) (by rw [List.length_append]; omega) _ _) (fun qs7 r7 u7 w7 hT7 hb7 hF7 hq7 hR7 hO7 hA7 hv7 hs7 => ?_)
  have zT7 := hT7.size
  refine O_storeC (cs' := [_]) one3 rfl rfl rfl rfl (((hb5.ext hy14).ext e15).extT hT7 (by decide)) rfl rfl (fun w19 b19 q19 => ?_)
  have z19 := Nat.le_of_eq q19.size.symm
  have e19 : Ext w0 w19 := q19.ext (hb7 _ ((hE.trans hy14).trans e15) (Nat.le_refl _)) (by omega)
  refine WL_end [] trivial ?_
  refine ret0 Try.results86 ?_
  exact ⟨rfl, ⟨⟨e19, (ExtT.chgNew (ExtT.trans (ExtT.trans (ExtT.trans hTM (Ext.toT hy14)) (Ext.toT e15)) (ExtT.mono hT7 (by decide))) q19 (by omega)), (ExtT.trans (ExtT.trans (ExtT.trans (ExtT.trans hTE (Ext.toT hy14)) (Ext.toT e15)) (ExtT.mono hT7 (by decide))) (ExtT.mono (Chg.toT q19 (((hb5.ext hy14).ext e15).extT hT7 (by decide))) (by decide)))⟩, ⟨((((hb1.ext hy14).ext e15).extT hT7 (by decide)).chg q19 (by first | assumption | omega)), ((((hb2.ext hy14).ext e15).extT hT7 (by decide)).chg q19 (by first | assumption | omega)), ((((hb3.ext hy14).ext e15).extT hT7 (by decide)).chg q19 (by first | assumption | omega)), ((((hb4.ext hy14).ext e15).extT hT7 (by decide)).chg q19 (by first | assumption | omega))⟩, qs ++ qs7, r7, u7, _, ⟨by rw [← List.append_assoc]; exact (hF7.extT' (Chg.toT q19 (((hb5.ext hy14).ext e15).extT hT7 (by decide))) (by decide)), by simp only [List.length_append, List.length_singleton]; omega⟩, ⟨by rw [← List.append_assoc]; exact hR7, hO7, hA7, hv7.trans (by rw [hv, mst_C hyx hz])⟩, b19, ((((hb6.ext hy14).ext e15).extT hT7 (by decide)).chg q19 (by first | assumption | omega)), by rw [flt_skip (cf_1 hyx)]; exact ((((hC.ext hy14).ext e15).extT hT7 (by decide)).extT (Chg.toT q19 (((hb5.ext hy14).ext e15).extT hT7 (by decide))) (by decide))⟩, by omega, ((((hbl.ext hy14).ext e15).extT hT7 (by decide)).chg q19 (by first | assumption | omega))⟩
 · --
  skip
  refine WP_region ?_
  refine O_move rfl rfl rfl ?_
  refine O_move rfl rfl rfl ?_
  refine O_eql (t := false) rfl rfl rfl rfl (decide_eq_false hyx) ?_
  refine O_move rfl rfl rfl ?_
  refine O_skip rfl rfl ?_
  refine O_skip rfl rfl ?_
  refine O_pickF rfl rfl rfl rfl ?_
  refine O_assign rfl rfl rfl ?_
  refine WL_end [(0, _), (1, _), (5, _), (6, _), (8, _), (9, _), (10, _), (23, _)] ⟨rfl, rfl, rfl, rfl, rfl, rfl, rfl, rfl, trivial⟩ ?_
  refine WP_condF rfl ?_
  refine WP_seq ?_
  refine WP_region ?_
  refine O_move rfl rfl rfl ?_
  refine O_move rfl rfl rfl ?_
  refine O_eql (t := false) rfl rfl rfl rfl (decide_eq_false hyx) ?_
  refine O_assign rfl rfl rfl ?_
  refine WL_end [(0, _), (1, _), (5, _), (6, _), (8, _), (9, _), (10, _), (38, _)] ⟨rfl, rfl, rfl, rfl, rfl, rfl, rfl, rfl, trivial⟩ ?_
  refine WP_condF rfl ?_
  refine WP_seq ?_
  refine WP_region ?_
  refine O_move rfl rfl rfl ?_
  refine O_move rfl rfl rfl ?_
  refine O_neq (t := true) rfl rfl rfl rfl (decide_eq_true h5) ?_
  refine O_move rfl rfl rfl ?_
  refine O_move rfl rfl rfl ?_
  refine O_move rfl rfl rfl ?_
  refine O_neq (t := true) rfl rfl rfl rfl (decide_eq_true h6) ?_
  refine O_pickT rfl rfl rfl rfl ?_
  refine O_assign rfl rfl rfl ?_
  refine WL_end [(0, _), (6, _), (47, _)] ⟨rfl, rfl, rfl, trivial⟩ ?_
  refine WP_condT rfl ?_
  refine WP_region ?_
  refine O_loadC Try.underlying52 rfl rfl rfl rfl ((hb6.ext hy14).ext e15) rfl ?_
  refine O_move rfl rfl rfl ?_
  refine M_lit M52 rfl rfl fS [_] (by intro a _; rfl) rfl rfl rfl rfl rfl (fun v20 w20 o20 e20 => ?_)
  have z20 := e20.size
  refine M_append M52 rfl rfl rfl rfl rfl (((hC.ext hy14).ext e15).ext e20) o20.sl (by simp) (by simp [Value.oneCell']) (by have hfl := List.length_filter_le (confl to.env ta.env tb.env) vs; simp only [List.length_singleton]; omega) rfl (by omega) (fun v21 w21 o21 r21 q21 => ?_)
  have e21 : Ext w0 w21 := (((hC.ext hy14).ext e15).ext e20).ext_grown r21 (((hE.trans hy14).trans e15).trans e20) (by omega)
  have z21 := r21.size
  have x21 := OwM.grownT (((hC.ext hy14).ext e15).ext e20) r21
  refine O_storeC (cs' := [_]) one52 rfl rfl rfl (o21).one ((((hb6.ext hy14).ext e15).ext e20).extT x21 (by decide)) rfl rfl (fun w22 b22 q22 => ?_)
  have z22 := Nat.le_of_eq q22.size.symm
  have e22 : Ext w0 w22 := q22.ext e21 (by omega)
  refine WL_end [] trivial ?_
  refine ret0 Try.results86 ?_
  exact ⟨rfl, ⟨⟨e22, (ExtT.chgNew (ExtT.grownNew (ExtT.trans (ExtT.trans (ExtT.trans hTM (Ext.toT hy14)) (Ext.toT e15)) (Ext.toT e20)) (((hC.ext hy14).ext e15).ext e20) (by omega) r21) q22 (by omega)), (ExtT.trans (ExtT.grownNew (ExtT.trans (ExtT.trans (ExtT.trans hTE (Ext.toT hy14)) (Ext.toT e15)) (Ext.toT e20)) (((hC.ext hy14).ext e15).ext e20) (by omega) r21) (ExtT.mono (Chg.toT q22 ((((hb6.ext hy14).ext e15).ext e20).extT x21 (by decide))) (by decide)))⟩, ⟨(((((hb1.ext hy14).ext e15).ext e20).extT x21 (by decide)).chg q22 (by first | assumption | omega)), (((((hb2.ext hy14).ext e15).ext e20).extT x21 (by decide)).chg q22 (by first | assumption | omega)), (((((hb3.ext hy14).ext e15).ext e20).extT x21 (by decide)).chg q22 (by first | assumption | omega)), (((((hb4.ext hy14).ext e15).ext e20).extT x21 (by decide)).chg q22 (by first | assumption | omega))⟩, qs, i, u, _, ⟨(((((hF.ext hy14).ext e15).ext e20).extT' x21 (by decide)).extT' (Chg.toT q22 ((((hb6.ext hy14).ext e15).ext e20).extT x21 (by decide))) (by decide)), by simp only [List.length_append, List.length_singleton]; omega⟩, ⟨hR, hO, hA, by rw [hv, mst_E hyx]⟩, (((((hb5.ext hy14).ext e15).ext e20).extT x21 (by decide)).chg q22 (by first | assumption | omega)), b22, by rw [flt_snoc (cf_T hyx h5 h6)]; exact (o21.extT (Chg.toT q22 ((((hb6.ext hy14).ext e15).ext e20).extT x21 (by decide))) (by decide))⟩, by omega, (((((hbl.ext hy14).ext e15).ext e20).extT x21 (by decide)).chg q22 (by first | assumption | omega))⟩
 · --
  skip
  refine WP_region ?_
  refine O_move rfl rfl rfl ?_
  refine O_move rfl rfl rfl ?_
  refine O_eql (t := false) rfl rfl rfl rfl (decide_eq_false hyx) ?_
  refine O_move rfl rfl rfl ?_
  refine O_skip rfl rfl ?_
  refine O_skip rfl rfl ?_
  refine O_pickF rfl rfl rfl rfl ?_
  refine O_assign rfl rfl rfl ?_
  refine WL_end [(0, _), (1, _), (5, _), (6, _), (8, _), (9, _), (10, _), (23, _)] ⟨rfl, rfl, rfl, rfl, rfl, rfl, rfl, rfl, trivial⟩ ?_
  refine WP_condF rfl ?_
  refine WP_seq ?_
  refine WP_region ?_
  refine O_move rfl rfl rfl ?_
  refine O_move rfl rfl rfl ?_
  refine O_eql (t := false) rfl rfl rfl rfl (decide_eq_false hyx) ?_
  refine O_assign rfl rfl rfl ?_
  refine WL_end [(0, _), (1, _), (5, _), (6, _), (8, _), (9, _), (10, _), (38, _)] ⟨rfl, rfl, rfl, rfl, rfl, rfl, rfl, rfl, trivial⟩ ?_
  refine WP_condF rfl ?_
  refine WP_seq ?_
  refine WP_region ?_
  refine O_move rfl rfl rfl ?_
  refine O_move rfl rfl rfl ?_
  refine O_neq (t := false) rfl rfl rfl rfl (decide_eq_false (fun h => h h5)) ?_
  refine O_move rfl rfl rfl ?_
  refine O_skip rfl rfl ?_
  refine O_skip rfl rfl ?_
  refine O_skip rfl rfl ?_
  refine O_pickF rfl rfl rfl rfl ?_
  refine O_assign rfl rfl rfl ?_
  refine WL_end [(0, _), (6, _), (47, _)] ⟨rfl, rfl, rfl, trivial⟩ ?_
  refine WP_condF rfl ?_
  refine WP_skip ?_
  refine ret0 Try.results86 ?_
  exact ⟨rfl, ⟨⟨((hE.trans hy14).trans e15), (ExtT.trans (ExtT.trans hTM (Ext.toT hy14)) (Ext.toT e15)), (ExtT.trans (ExtT.trans hTE (Ext.toT hy14)) (Ext.toT e15))⟩, ⟨((hb1.ext hy14).ext e15), ((hb2.ext hy14).ext e15), ((hb3.ext hy14).ext e15), ((hb4.ext hy14).ext e15)⟩, qs, i, u, _, ⟨((hF.ext hy14).ext e15), by simp only [List.length_append, List.length_singleton]; omega⟩, ⟨hR, hO, hA, by rw [hv, mst_E hyx]⟩, ((hb5.ext hy14).ext e15), ((hb6.ext hy14).ext e15), by rw [flt_skip (cf_2 hyx h5)]; exact ((hC.ext hy14).ext e15)⟩, by omega, ((hbl.ext hy14).ext e15)⟩
 · --
  skip
  refine WP_region ?_
  refine O_move rfl rfl rfl ?_
  refine O_move rfl rfl rfl ?_
  refine O_eql (t := false) rfl rfl rfl rfl (decide_eq_false hyx) ?_
  refine O_move rfl rfl rfl ?_
  refine O_skip rfl rfl ?_
  refine O_skip rfl rfl ?_
  refine O_pickF rfl rfl rfl rfl ?_
  refine O_assign rfl rfl rfl ?_
  refine WL_end [(0, _), (1, _), (5, _), (6, _), (8, _), (9, _), (10, _), (23, _)] ⟨rfl, rfl, rfl, rfl, rfl, rfl, rfl, rfl, trivial⟩ ?_
  refine WP_condF rfl ?_
  refine WP_seq ?_
  refine WP_region ?_
  refine O_move rfl rfl rfl ?_
  refine O_move rfl rfl rfl ?_
  refine O_eql (t := false) rfl rfl rfl rfl (decide_eq_false hyx) ?_
  refine O_assign rfl rfl rfl ?_
  refine WL_end [(0, _), (1, _), (5, _), (6, _), (8, _), (9, _), (10, _), (38, _)] ⟨rfl, rfl, rfl, rfl, rfl, rfl, rfl, rfl, trivial⟩ ?_
  refine WP_condF rfl ?_
  refine WP_seq ?_
  refine WP_region ?_
  refine O_move rfl rfl rfl ?_
  refine O_move rfl rfl rfl ?_
  refine O_neq (t := true) rfl rfl rfl rfl (decide_eq_true h5) ?_
  refine O_move rfl rfl rfl ?_
  refine O_move rfl rfl rfl ?_
  refine O_move rfl rfl rfl ?_
  refine O_neq (t := false) rfl rfl rfl rfl (decide_eq_false (fun h => h h6)) ?_
  refine O_pickT rfl rfl rfl rfl ?_
  refine O_assign rfl rfl rfl ?_
  refine WL_end [(0, _), (6, _), (47, _)] ⟨rfl, rfl, rfl, trivial⟩ ?_
  refine WP_condF rfl ?_
  refine WP_skip ?_
  refine ret0 Try.results86 ?_
  exact ⟨rfl, ⟨⟨((hE.trans hy14).trans e15), (ExtT.trans (ExtT.trans hTM (Ext.toT hy14)) (Ext.toT e15)), (ExtT.trans (ExtT.trans hTE (Ext.toT hy14)) (Ext.toT e15))⟩, ⟨((hb1.ext hy14).ext e15), ((hb2.ext hy14).ext e15), ((hb3.ext hy14).ext e15), ((hb4.ext hy14).ext e15)⟩, qs, i, u, _, ⟨((hF.ext hy14).ext e15), by simp only [List.length_append, List.length_singleton]; omega⟩, ⟨hR, hO, hA, by rw [hv, mst_E hyx]⟩, ((hb5.ext hy14).ext e15), ((hb6.ext hy14).ext e15), by rw [flt_skip (cf_3 hyx h5 h6)]; exact ((hC.ext hy14).ext e15)⟩, by omega, ((hbl.ext hy14).ext e15)⟩

end Go.Proofs.Ytoccimigjjndpaa
