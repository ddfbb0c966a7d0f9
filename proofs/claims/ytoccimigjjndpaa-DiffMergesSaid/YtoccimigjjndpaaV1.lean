/-
  Walks.
-/
import Derived.Test.YtoccimigjjndpaaClo
import Derived.Test.YtoccimigjjndpaaAnyS
set_option linter.unusedVariables false
set_option linter.unusedSimpArgs false
set_option maxRecDepth 100000
namespace Go.Proofs.Ytoccimigjjndpaa
open Go Go.RowKit
set_option maxHeartbeats 1000000 in
theorem between1_c {w0 wE w : World} {B g b1 b2 b3 b4 b : Nat} {i1 i2 : Int} {t1 t2 : Tr} {ps : List Part} {vs : Nm} {s : ByteArray} {cs : List Value} (hF : FG B w0 g ps) (hR1 : Rep ps i1 t1) (ho1 : t1.Ord) (hR2 : Rep ps i2 t2) (ho2 : t2.Ord)
    (hb40 : w0.heap.size ≤ b4) (hK : KB w0 wE g b1 b2 b3 b4 i1 i2 (fun s => chq s (nodev t1.env s) (nodev t2.env s)) vs w) (hbl : Bk w b 52 cs) (hvs : vs.length ≤ 1000000) :
    Calls Try.prog 73 #[.string s, .pointer (some ⟨b1, 0, none⟩), .pointer (some ⟨b2, 0, none⟩), .pointer (some ⟨b3, 0, none⟩), .pointer (some ⟨b4, 0, none⟩)] w (RVis (KB w0 wE g b1 b2 b3 b4 i1 i2 (fun s => chq s (nodev t1.env s) (nodev t2.env s)) (vs ++ [s])) b cs w) := by
 obtain ⟨hE, hET, ⟨hb1, hb2, hb3⟩, v, hb4, hO⟩ := hK
 have zE := hE.size
 have hl1 := hb1.lt
 have hl2 := hb2.lt
 have hl3 := hb3.lt
 have hl4 := hb4.lt
 have hl5 := hbl.lt
 have hfl := List.length_filterMap_le (fun s => chq s (nodev t1.env s) (nodev t2.env s)) vs
 have hbn := hbl.neT hb4 (by decide)
 have hb14 := hb1.neT hb4 (by decide)
 have hb24 := hb2.neT hb4 (by decide)
 have hb34 := hb3.neT hb4 (by decide)
 refine enter (args := [_, _, _, _, _]) Try.func73 rfl Try.ntmps73 rfl ?_
 refine WP_seq ?_
 refine WP_sub [(0, _), (1, _), (2, _), (3, _), (4, _)] ⟨rfl, rfl, rfl, rfl, rfl, trivial⟩ ?_
 have hS1n : ∀ g T, (g, T) ∈ (⟨[], [(74, 4)], (w).heap.size⟩ : SS) → 140 ≠ T.1 := by
   intro g T hm; rw [mem_SS] at hm; simp only [List.mem_cons, Prod.mk.injEq, List.not_mem_nil, or_false, false_or, and_false] at hm
   rcases hm with ⟨_, rfl⟩
   · decide
 refine WP_anySR (⟨[], [(74, 4)], (w).heap.size⟩ : SS) 15 [0, 1, 2, 3, 4] mixed rfl (by kernel_rfl) (Nat.le_refl _) ?_
 apply AnySR_val [0] rfl (by kernel_rfl)
 · --
  intro y2 hy2
  have zy2 := hy2.size
  have hx2 := hy2.toExt
  refine AllS_nil ?_
  refine O_move rfl rfl rfl ?_
  exact WL_nil ⟨(Ext.refl _), rfl⟩
 apply AnySR_val [1] rfl (by kernel_rfl)
 · --
  intro y3 hy3
  have zy3 := hy3.size
  have hx3 := hy3.toExt
  refine AllS_nil ?_
  refine O_loadC Try.underlying29 rfl rfl rfl rfl (hb1.ext hx3) rfl ?_
  exact WL_nil ⟨(Ext.refl _), rfl⟩
 apply AnySR_val [2] rfl (by kernel_rfl)
 · --
  intro y4 hy4
  have zy4 := hy4.size
  have hx4 := hy4.toExt
  refine AllS_nil ?_
  refine O_loadC Try.underlying3 rfl rfl rfl rfl (hb2.ext hx4) rfl ?_
  exact WL_nil ⟨(Ext.refl _), rfl⟩
 apply AnySR_val [0] rfl (by kernel_rfl)
 · --
  intro y5 hy5
  have zy5 := hy5.size
  have hx5 := hy5.toExt
  refine AllS_nil ?_
  refine O_move rfl rfl rfl ?_
  exact WL_nil ⟨(Ext.refl _), rfl⟩
 apply AnySR_val [10, 11, 12] rfl (by kernel_rfl)
 · --
  intro y6 hy6
  have zy6 := hy6.size
  have hx6 := hy6.toExt
  refine AllS_v ?_
  refine AllS_v ?_
  refine AllS_v ?_
  refine AllS_nil ?_
  refine O_call enters75 rfl rfl rfl (node_c (hF.ext (hE.trans hx6)) hR1 ho1) (fun v7 w7 e7 h7 => ?_)
  have z7 := e7.size
  obtain rfl := h7
  exact WL_nil ⟨e7, rfl⟩
 apply AnySR_val [1] rfl (by kernel_rfl)
 · --
  intro y8 hy8
  have zy8 := hy8.size
  have hx8 := hy8.toExt
  refine AllS_nil ?_
  refine O_loadC Try.underlying29 rfl rfl rfl rfl (hb1.ext hx8) rfl ?_
  exact WL_nil ⟨(Ext.refl _), rfl⟩
 apply AnySR_val [3] rfl (by kernel_rfl)
 · --
  intro y9 hy9
  have zy9 := hy9.size
  have hx9 := hy9.toExt
  refine AllS_nil ?_
  refine O_loadC Try.underlying3 rfl rfl rfl rfl (hb3.ext hx9) rfl ?_
  exact WL_nil ⟨(Ext.refl _), rfl⟩
 apply AnySR_val [0] rfl (by kernel_rfl)
 · --
  intro y10 hy10
  have zy10 := hy10.size
  have hx10 := hy10.toExt
  refine AllS_nil ?_
  refine O_move rfl rfl rfl ?_
  exact WL_nil ⟨(Ext.refl _), rfl⟩
 apply AnySR_val [14, 15, 16] rfl (by kernel_rfl)
 · --
  intro y11 hy11
  have zy11 := hy11.size
  have hx11 := hy11.toExt
  refine AllS_v ?_
  refine AllS_v ?_
  refine AllS_v ?_
  refine AllS_nil ?_
  refine O_call enters75 rfl rfl rfl (node_c (hF.ext (hE.trans hx11)) hR2 ho2) (fun v12 w12 e12 h12 => ?_)
  have z12 := e12.size
  obtain rfl := h12
  exact WL_nil ⟨e12, rfl⟩
 apply AnySR_val [9, 13, 17] rfl (by kernel_rfl)
 · --
  intro y13 hy13
  have zy13 := hy13.size
  have hx13 := hy13.toExt
  refine AllS_v ?_
  refine AllS_v ?_
  refine AllS_v ?_
  refine AllS_nil ?_
  refine O_call enters74 rfl rfl rfl (change_c) (fun v14 w14 e14 h14 => ?_)
  have z14 := e14.size
  try simp only [val_dig] at h14
  obtain rfl := h14
  exact WL_nil ⟨e14, rfl⟩
 apply AnySR_val [18] rfl (by kernel_rfl)
 · --
  intro y15 hy15
  have zy15 := hy15.size
  have hx15 := hy15.toExt
  refine AllS_v ?_
  refine AllS_nil ?_
  refine O_move rfl rfl rfl ?_
  exact WL_nil ⟨(Ext.refl _), rfl⟩
 apply AnySR_val [8] rfl (by kernel_rfl)
 · --
  intro y16 hy16
  have zy16 := hy16.size
  have hx16 := hy16.toExt
  refine AllS_v ?_
  refine AllS_nil ?_
  refine O_extract rfl rfl rfl rfl ?_
  exact WL_nil ⟨(Ext.refl _), rfl⟩
 apply AnySR_val [8] rfl (by kernel_rfl)
 · --
  intro y17 hy17
  have zy17 := hy17.size
  have hx17 := hy17.toExt
  refine AllS_v ?_
  refine AllS_nil ?_
  refine O_extract rfl rfl rfl rfl ?_
  exact WL_nil ⟨(Ext.refl _), rfl⟩
 apply AnySR_rel (BkTR (74, 4)) [] rfl BkTR.monoS (by kernel_rfl)
 · --
  intro y18 hy18
  have zy18 := hy18.size
  have hx18 := hy18.toExt
  refine AllS_nil ?_
  refine O_alloc S74 rfl rfl (fun g19 w19 b19 e19 gl19 gh19 => ?_)
  have z19 := e19.size
  exact WL_nil ⟨e19, _, rfl, g19, rfl, gl19, gh19, _, b19, rfl⟩
 apply AnySR_stv 6 (74, 4) (pStv 74 [pEq _, pEq _, pEq _, pEq _]) [6, 19] rfl (by simp) rfl rfl ⟨BkTR (74, 4), (by repeat first | exact List.Mem.head _ | apply List.Mem.tail), BkTR.ptr⟩ (pStv_monoS (PsS.cons pEq_monoS (PsS.cons pEq_monoS (PsS.cons pEq_monoS (PsS.cons pEq_monoS PsS.nil))))) (by exact (compat_cons ⟨trivial, trivial⟩ (compat_cons ⟨trivial, trivial⟩ (compat_cons ⟨trivial, trivial⟩ (compat_cons ⟨trivial, trivial⟩ (compat_cons ⟨trivial, trivial⟩ (compat_cons ⟨trivial, trivial⟩ (compat_cons ⟨trivial, trivial⟩ (compat_cons ⟨trivial, trivial⟩ (compat_cons ⟨trivial, trivial⟩ (compat_cons ⟨trivial, trivial⟩ (compat_cons ⟨trivial, trivial⟩ (compat_cons ⟨trivial, trivial⟩ (compat_cons ⟨trivial, trivial⟩ (compat_cons ⟨trivial, trivial⟩ compat_nil))))))))))))))) (by kernel_rfl)
 · --
  intro y20 hy20
  have zy20 := hy20.size
  have hx20 := hy20.toExt
  refine AllS_v ?_
  refine AllS_r fun a21 b21 v21 la21 lb21 lc21 h21 ap21 => ?_
  clear ap21
  obtain ⟨g21, rfl, gl21, gh21, hB21⟩ := h21
  refine AllS_nil ?_
  have hB20 := hB21
  refine O_storeW S74 rfl rfl rfl hB20 rfl (one_cons rfl (one_cons rfl (one_cons rfl (one_cons rfl one_nil)))) (fun w20 b20 q20 => ?_)
  obtain ⟨cs20, hk20, hl20⟩ := hB20
  exact WL_nil ⟨g21, rfl, ⟨⟨cs20, hk20, hl20⟩, q20, ⟨_, b20, rfl⟩⟩, fun g' e' => by cases e'; exact ⟨_, b20, (AllP.cons rfl (AllP.cons rfl (AllP.cons rfl (AllP.cons rfl AllP.nil))))⟩⟩
 refine AnySR_nil fun y22 hy22 => ?_
 have zy22 := hy22.size
 have hx22 := hy22.toExt
 refine AllS_v ?_
 refine AllS_v ?_
 refine AllS_v ?_
 refine AllS_v ?_
 refine AllS_v ?_
 refine AllS_v ?_
 refine AllS_v ?_
 refine AllS_v ?_
 refine AllS_v ?_
 refine AllS_v ?_
 refine AllS_v ?_
 refine AllS_v ?_
 refine AllS_v ?_
 refine AllS_r fun a23 b23 v23 la23 lb23 lc23 h23 ap23 => ?_
 clear ap23
 obtain ⟨g23, rfl, gl23, gh23, hB23⟩ := h23
 refine AllS_qv rfl fun hq24 => ?_
 obtain ⟨_, hb24, u24_0, _, rfl, rfl, u24_1, _, rfl, rfl, u24_2, _, rfl, rfl, u24_3, _, rfl, rfl, rfl⟩ := hq24 g23 rfl
 refine AllS_nil ?_
 refine O_assign rfl rfl rfl ?_
 refine WL_end [(4, _), (6, _), (7, _)] ⟨rfl, rfl, rfl, trivial⟩ ?_
 refine WP_seq ?_
 refine WP_region ?_
 refine O_move rfl rfl rfl ?_
 refine WL_end [(4, _), (6, _), (21, _)] ⟨rfl, rfl, rfl, trivial⟩ ?_
 refine WP_condD rfl (fun c21 => ?_) (fun c21 => ?_)
 · --
  refine WP_region ?_
  refine O_loadC Try.underlying66 rfl rfl rfl rfl (hb4.ext hx22) rfl ?_
  refine O_loadA (vs := [_, _, _, _]) S74 rfl rfl rfl hb24 rfl rfl ?_
  refine C_lit1 (b := chOf s (nodev t1.env s) (nodev t2.env s)) Echange rfl rfl rfl (fun v25 w25 o25 e25 => ?_)
  have z25 := e25.size
  refine C_append Echange rfl rfl rfl rfl ((hO.ext hx22).ext e25) o25.sl (by simp only [List.length_singleton]; omega) rfl (by omega) (fun v26 w26 o26 r26 k26 => ?_)
  have e26 : Ext w0 w26 := ((hO.ext hx22).ext e25).ext_grown r26 ((hE.trans hx22).trans e25) (by omega)
  have z26 := r26.size
  have x26 := OwC.grownT ((hO.ext hx22).ext e25) r26
  refine O_storeC (cs' := [_]) one66 rfl rfl rfl (o26).one (((hb4.ext hx22).ext e25).extT x26 (by decide)) rfl rfl (fun w27 b27 q27 => ?_)
  have z27 := Nat.le_of_eq q27.size.symm
  have e27 : Ext w0 w27 := q27.ext e26 (by omega)
  refine WL_end [] trivial ?_
  refine ret0 Try.results73 ?_
  first
    | exact ⟨rfl, ⟨e27, hET.trans (show ExtT SNB _ _ from (by first | exact ExtT.trans (ExtT.trans (ExtT.trans (Ext.toT hx22) (Ext.toT e25)) (x26.mono (by decide))) ((Chg.toT q27 (((hb4.ext hx22).ext e25).extT x26 (by decide))).mono (by decide)) | exact ExtT.chgNew (ExtT.trans (ExtT.trans (Ext.toT hx22) (Ext.toT e25)) (x26.mono (by decide))) q27 (by omega))), ⟨((((hb1.ext hx22).ext e25).extT x26 (by decide)).chg q27 (by first | assumption | omega)), ((((hb2.ext hx22).ext e25).extT x26 (by decide)).chg q27 (by first | assumption | omega)), ((((hb3.ext hx22).ext e25).extT x26 (by decide)).chg q27 (by first | assumption | omega))⟩, _, b27, by rw [fm_snoc (f := (fun s => chq s (nodev t1.env s) (nodev t2.env s))) (chq_ne (by assumption))]; exact (o26.extT (Chg.toT q27 (((hb4.ext hx22).ext e25).extT x26 (by decide))) (by decide))⟩, by omega, ((((hbl.ext hx22).ext e25).extT x26 (by decide)).chg q27 (by first | assumption | omega))⟩
    | exact ⟨rfl, ⟨e27, hET.trans (show ExtT SNB _ _ from (by first | exact ExtT.trans (ExtT.trans (ExtT.trans (Ext.toT hx22) (Ext.toT e25)) (x26.mono (by decide))) ((Chg.toT q27 (((hb4.ext hx22).ext e25).extT x26 (by decide))).mono (by decide)) | exact ExtT.chgNew (ExtT.trans (ExtT.trans (Ext.toT hx22) (Ext.toT e25)) (x26.mono (by decide))) q27 (by omega))), ⟨((((hb1.ext hx22).ext e25).extT x26 (by decide)).chg q27 (by first | assumption | omega)), ((((hb2.ext hx22).ext e25).extT x26 (by decide)).chg q27 (by first | assumption | omega)), ((((hb3.ext hx22).ext e25).extT x26 (by decide)).chg q27 (by first | assumption | omega))⟩, _, b27, by rw [fm_skip (f := (fun s => chq s (nodev t1.env s) (nodev t2.env s))) (chq_eq (by assumption))]; exact (o26.extT (Chg.toT q27 (((hb4.ext hx22).ext e25).extT x26 (by decide))) (by decide))⟩, by omega, ((((hbl.ext hx22).ext e25).extT x26 (by decide)).chg q27 (by first | assumption | omega))⟩
 · --
  refine WP_skip ?_
  refine ret0 Try.results73 ?_
  first
    | exact ⟨rfl, ⟨(hE.trans hx22), hET.trans (show ExtT SNB _ _ from (Ext.toT hx22)), ⟨(hb1.ext hx22), (hb2.ext hx22), (hb3.ext hx22)⟩, _, (hb4.ext hx22), by rw [fm_snoc (f := (fun s => chq s (nodev t1.env s) (nodev t2.env s))) (chq_ne (by assumption))]; exact (hO.ext hx22)⟩, by omega, (hbl.ext hx22)⟩
    | exact ⟨rfl, ⟨(hE.trans hx22), hET.trans (show ExtT SNB _ _ from (Ext.toT hx22)), ⟨(hb1.ext hx22), (hb2.ext hx22), (hb3.ext hx22)⟩, _, (hb4.ext hx22), by rw [fm_skip (f := (fun s => chq s (nodev t1.env s) (nodev t2.env s))) (chq_eq (by assumption))]; exact (hO.ext hx22)⟩, by omega, (hbl.ext hx22)⟩

end Go.Proofs.Ytoccimigjjndpaa
