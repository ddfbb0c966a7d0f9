/-
  Walks.
-/
import Derived.Test.YtoccimigjjndpaaV19
set_option linter.unusedVariables false
set_option linter.unusedSimpArgs false
set_option maxRecDepth 100000
namespace Go.Proofs.Ytoccimigjjndpaa
open Go Go.RowKit
set_option maxHeartbeats 2000000 in
theorem merge_c {w0 w : World} {g : Nat} {io ia ib : Int} {to ta tb : Tr} {ps : List Part} (hE : Ext w0 w) (hF : FG w0.heap.size w g ps) (hRo : Rep ps io to) (hoo : to.Ord) (hRa : Rep ps ia ta) (hoa : ta.Ord) (hAa : ta.Avl) (hRb : Rep ps ib tb) (hob : tb.Ord) (hc : to.cnt + ta.cnt + tb.cnt ≤ 150) (hp : ps.length ≤ 1000000) :
    Calls Try.prog 54 #[.pointer (some ⟨g, 0, none⟩), .int .i64 io, .int .i64 ia, .int .i64 ib] w (RMg w0 w g ps (mrgE to.env ta.env tb.env) (mbad to.env ta.env tb.env)) := by
 have zW := hE.size
 refine enter (args := [_, _, _, _]) Try.func54 rfl Try.ntmps54 rfl ?_
 refine WP_seq ?_
 refine WP_region ?_
 refine O_box _ rfl rfl rfl rfl (fun g1 w1 b1 e1 gl1 gh1 => ?_)
 have z1 := e1.size
 refine O_box _ rfl rfl rfl rfl (fun g2 w2 b2 e2 gl2 gh2 => ?_)
 have z2 := e2.size
 refine O_box _ rfl rfl rfl rfl (fun g3 w3 b3 e3 gl3 gh3 => ?_)
 have z3 := e3.size
 refine O_box _ rfl rfl rfl rfl (fun g4 w4 b4 e4 gl4 gh4 => ?_)
 have z4 := e4.size
 refine O_assign rfl rfl rfl ?_
 refine O_assign rfl rfl rfl ?_
 refine WL_end [(4, _), (5, _), (6, _), (7, _)] ⟨rfl, rfl, rfl, rfl, trivial⟩ ?_
 refine WP_seq ?_
 refine WP_region ?_
 refine O_loadC Try.underlying3 rfl rfl rfl rfl (b3.ext e4) rfl ?_
 refine O_alloc1 Z3 rfl rfl rfl (fun g5 w5 b5 e5 gl5 gh5 => ?_)
 have z5 := e5.size
 refine O_storeC (cs' := [_]) one3 rfl rfl rfl rfl b5 rfl rfl (fun w6 b6 q6 => ?_)
 have z6 := Nat.le_of_eq q6.size.symm
 have e6 : Ext w0 w6 := q6.ext (((((hE.trans e1).trans e2).trans e3).trans e4).trans e5) (by omega)
 have m7 := q6.ext e5 (by omega)
 refine WL_end [(4, _), (5, _), (6, _), (7, _), (10, _)] ⟨rfl, rfl, rfl, rfl, rfl, trivial⟩ ?_
 refine WP_seq ?_
 refine WP_region ?_
 refine O_alloc1 Z52 rfl rfl rfl (fun g8 w8 b8 e8 gl8 gh8 => ?_)
 have z8 := e8.size
 refine WL_end [(4, _), (5, _), (6, _), (7, _), (10, _), (11, _)] ⟨rfl, rfl, rfl, rfl, rfl, rfl, trivial⟩ ?_
 refine WP_seq ?_
 refine WP_sub [(4, _), (5, _), (6, _), (7, _), (10, _), (11, _)] ⟨rfl, rfl, rfl, rfl, rfl, rfl, trivial⟩ ?_
 refine WP_anyR 11 [4, 5, 6, 7, 10, 11] mixed rfl (by kernel_rfl) ?_
 apply AnyR_val [4, 5, 6, 7, 10, 11] rfl (by kernel_rfl)
 · --
  intro y9 hy9
  have zy9 := hy9.size
  refine AllV_nil ?_
  refine O_makeFunc rfl rfl rfl ?_
  exact WL_nil ⟨(Ext.refl _), rfl⟩
 apply AnyR_val [4] rfl (by kernel_rfl)
 · --
  intro y10 hy10
  have zy10 := hy10.size
  refine AllV_nil ?_
  refine O_loadC Try.underlying29 rfl rfl rfl rfl ((((((b1.ext e2).ext e3).ext e4).ext m7).ext e8).ext hy10) rfl ?_
  exact WL_nil ⟨(Ext.refl _), rfl⟩
 apply AnyR_val [5] rfl (by kernel_rfl)
 · --
  intro y11 hy11
  have zy11 := hy11.size
  refine AllV_nil ?_
  refine O_loadC Try.underlying3 rfl rfl rfl rfl (((((b2.ext e3).ext e4).ext m7).ext e8).ext hy11) rfl ?_
  exact WL_nil ⟨(Ext.refl _), rfl⟩
 apply AnyR_rel (SlSR (to.env.map (·.1))) [14, 15] rfl SlSR.mono (by kernel_rfl)
 · --
  intro y12 hy12
  have zy12 := hy12.size
  refine AllV_v ?_
  refine AllV_v ?_
  refine AllV_nil ?_
  refine O_call enters76 rfl rfl rfl (names_c (((((((hF.ext e1).ext e2).ext e3).ext e4).ext m7).ext e8).ext hy12) hRo (by (try simp only [lens]); omega)) (fun v13 w13 e13 h13 => ?_)
  have z13 := e13.size
  exact WL_nil ⟨e13, _, rfl, (h13).toS⟩
 apply AnyR_val [4] rfl (by kernel_rfl)
 · --
  intro y14 hy14
  have zy14 := hy14.size
  refine AllV_nil ?_
  refine O_loadC Try.underlying29 rfl rfl rfl rfl ((((((b1.ext e2).ext e3).ext e4).ext m7).ext e8).ext hy14) rfl ?_
  exact WL_nil ⟨(Ext.refl _), rfl⟩
 apply AnyR_val [6] rfl (by kernel_rfl)
 · --
  intro y15 hy15
  have zy15 := hy15.size
  refine AllV_nil ?_
  refine O_loadC Try.underlying3 rfl rfl rfl rfl ((((b3.ext e4).ext m7).ext e8).ext hy15) rfl ?_
  exact WL_nil ⟨(Ext.refl _), rfl⟩
 apply AnyR_rel (SlSR (ta.env.map (·.1))) [17, 18] rfl SlSR.mono (by kernel_rfl)
 · --
  intro y16 hy16
  have zy16 := hy16.size
  refine AllV_v ?_
  refine AllV_v ?_
  refine AllV_nil ?_
  refine O_call enters76 rfl rfl rfl (names_c (((((((hF.ext e1).ext e2).ext e3).ext e4).ext m7).ext e8).ext hy16) hRa (by (try simp only [lens]); omega)) (fun v17 w17 e17 h17 => ?_)
  have z17 := e17.size
  exact WL_nil ⟨e17, _, rfl, (h17).toS⟩
 apply AnyR_val [4] rfl (by kernel_rfl)
 · --
  intro y18 hy18
  have zy18 := hy18.size
  refine AllV_nil ?_
  refine O_loadC Try.underlying29 rfl rfl rfl rfl ((((((b1.ext e2).ext e3).ext e4).ext m7).ext e8).ext hy18) rfl ?_
  exact WL_nil ⟨(Ext.refl _), rfl⟩
 apply AnyR_val [7] rfl (by kernel_rfl)
 · --
  intro y19 hy19
  have zy19 := hy19.size
  refine AllV_nil ?_
  refine O_loadC Try.underlying3 rfl rfl rfl rfl (((b4.ext m7).ext e8).ext hy19) rfl ?_
  exact WL_nil ⟨(Ext.refl _), rfl⟩
 apply AnyR_rel (SlSR (tb.env.map (·.1))) [20, 21] rfl SlSR.mono (by kernel_rfl)
 · --
  intro y20 hy20
  have zy20 := hy20.size
  refine AllV_v ?_
  refine AllV_v ?_
  refine AllV_nil ?_
  refine O_call enters76 rfl rfl rfl (names_c (((((((hF.ext e1).ext e2).ext e3).ext e4).ext m7).ext e8).ext hy20) hRb (by (try simp only [lens]); omega)) (fun v21 w21 e21 h21 => ?_)
  have z21 := e21.size
  exact WL_nil ⟨e21, _, rfl, (h21).toS⟩
 apply AnyR_rel (LSR3 w8.heap.size (to.env.map (·.1)) (ta.env.map (·.1)) (tb.env.map (·.1))) [16, 19, 22] rfl LSR3.mono (by kernel_rfl)
 · --
  intro y22 hy22
  have zy22 := hy22.size
  refine AllV_r fun a23 b23 v23 la23 lb23 lc23 h23 ap23 => ?_
  clear ap23
  have h23 : SlS _ v23 _ := h23
  refine AllV_r fun a24 b24 v24 la24 lb24 lc24 h24 ap24 => ?_
  clear ap24
  have h24 : SlS _ v24 _ := h24
  refine AllV_r fun a25 b25 v25 la25 lb25 lc25 h25 ap25 => ?_
  clear ap25
  have h25 : SlS _ v25 _ := h25
  refine AllV_nil ?_
  refine M_lit M121 rfl rfl fV [_, _, _] (by intro a ha; simp only [List.mem_cons, List.not_mem_nil, or_false] at ha; rcases ha with rfl | rfl | rfl; exact h23.one; exact h24.one; exact h25.one) rfl rfl rfl rfl rfl (fun v26 w26 o26 e26 => ?_)
  have z26 := e26.size
  exact WL_nil ⟨e26, _, rfl, ⟨_, _, _, (o26).mono (by omega), (h23.ext e26), (h24.ext e26), (h25.ext e26)⟩⟩
 refine AnyR_nil fun y27 hy27 => ?_
 have zy27 := hy27.size
 refine AllV_v ?_
 refine AllV_v ?_
 refine AllV_v ?_
 refine AllV_r fun a28 b28 v28 la28 lb28 lc28 h28 ap28 => ?_
 clear ap28
 have h28 : SlS _ v28 _ := h28
 refine AllV_v ?_
 refine AllV_v ?_
 refine AllV_r fun a29 b29 v29 la29 lb29 lc29 h29 ap29 => ?_
 clear ap29
 have h29 : SlS _ v29 _ := h29
 refine AllV_v ?_
 refine AllV_v ?_
 refine AllV_r fun a30 b30 v30 la30 lb30 lc30 h30 ap30 => ?_
 clear ap30
 have h30 : SlS _ v30 _ := h30
 refine AllV_r fun a31 b31 v31 la31 lb31 lc31 h31 ap31 => ?_
 clear ap31
 obtain ⟨xa, xb, xc, hO23, hSa, hSb, hSc⟩ : LSR3 _ _ _ _ _ _ v31 _ := h31
 refine AllV_nil ?_
 have zz : w8.heap.size ≤ y27.heap.size := by omega
 have zw : w.heap.size ≤ w8.heap.size := by omega
 have hTW : ExtT TFP w y27 := (show ExtT TFP _ _ from (ExtT.trans (ExtT.trans (ExtT.trans (ExtT.trans (ExtT.trans (ExtT.trans (Ext.toT e1) (Ext.toT e2)) (Ext.toT e3)) (Ext.toT e4)) (Ext.toT m7)) (Ext.toT e8)) (Ext.toT hy27)))
 have hat := (hO23).at_le (by simp)
 have hgd : True := trivial
 refine O_callR enters72 rfl rfl rfl (each_c (wE := y27) (vals := [xa, xb, xc]) (ls := [to.env.map (·.1), ta.env.map (·.1), tb.env.map (·.1)]) (BL := w8.heap.size) (K := KMg w0 w y27 g g1 g2 g3 g4 g5 g8 io ia ib to.env ta.env tb.env ps) enters86 hO23 (LS.three hSa hSb hSc) (by simp) ⟨⟨((e6.trans e8).trans hy27), hTW, ExtT.refl _ _⟩, ⟨((((((b1.ext e2).ext e3).ext e4).ext m7).ext e8).ext hy27), (((((b2.ext e3).ext e4).ext m7).ext e8).ext hy27), ((((b3.ext e4).ext m7).ext e8).ext hy27), (((b4.ext m7).ext e8).ext hy27)⟩, [], ia, ta, _, ⟨by rw [List.append_nil]; exact (((((((hF.ext e1).ext e2).ext e3).ext e4).ext m7).ext e8).ext hy27), Nat.zero_le _⟩, ⟨by rw [List.append_nil]; exact hRa, hoa, hAa, rfl⟩, ((b6.ext e8).ext hy27), (b8.ext hy27), OwM.nil _ _ _⟩ (fun vs w v l hK h => h.extT hK.1.2.2 (by decide)) (fun vs w w1 cs hK hb hc => hK.chg zW (by omega) (by omega) hb hc) (fun vs s r he w8 cs hK hb => merge1_c hRo hoo hRa hoa hRb hob zW (by omega) (by omega) (by omega) (by omega) (by omega) (by omega) (by omega) (by omega) hK hb (by omega) (by
   have h8 := before_len he
   have h9 : totN [to.env.map (·.1), ta.env.map (·.1), tb.env.map (·.1)] = to.env.length + ta.env.length + tb.env.length := by simp [totN]; omega
   rw [h9, Tr.env_length, Tr.env_length, Tr.env_length] at h8
   omega)) (by simp)) (fun e9 w9 h9 => ?_)
 obtain ⟨rfl, ⟨hE9, hT9, hX9⟩, -, qs9, i9, u9, cv9, ⟨hF9, hq9⟩, hR9, hb59, hb69, hC9⟩ := h9
 have hml := mergeN_len [to.env.map (·.1), ta.env.map (·.1), tb.env.map (·.1)]
 have hmt : totN [to.env.map (·.1), ta.env.map (·.1), tb.env.map (·.1)] = to.env.length + ta.env.length + tb.env.length := by simp [totN]; omega
 rw [hmt, Tr.env_length, Tr.env_length, Tr.env_length] at hml
 refine ⟨_, rfl, ?_⟩
 refine WL_end [(10, _), (11, _)] ⟨rfl, rfl, trivial⟩ ?_
 refine WP_seq ?_
 refine WP_sub [(10, _), (11, _)] ⟨rfl, rfl, trivial⟩ ?_
 refine WP_anyR 3 [10, 11] mixed rfl (by kernel_rfl) ?_
 apply AnyR_val [10] rfl (by kernel_rfl)
 · --
  intro y32 hy32
  have zy32 := hy32.size
  refine AllV_nil ?_
  refine O_loadC Try.underlying3 rfl rfl rfl rfl (hb59.ext hy32) rfl ?_
  exact WL_nil ⟨(Ext.refl _), rfl⟩
 apply AnyR_val [11] rfl (by kernel_rfl)
 · --
  intro y33 hy33
  have zy33 := hy33.size
  refine AllV_nil ?_
  refine O_loadC Try.underlying52 rfl rfl rfl rfl (hb69.ext hy33) rfl ?_
  exact WL_nil ⟨(Ext.refl _), rfl⟩
 apply AnyR_val [25] rfl (by kernel_rfl)
 · --
  intro y34 hy34
  have zy34 := hy34.size
  refine AllV_v ?_
  refine AllV_nil ?_
  refine O_assign rfl rfl rfl ?_
  exact WL_nil ⟨(Ext.refl _), rfl⟩
 refine AnyR_nil fun y35 hy35 => ?_
 have zy35 := hy35.size
 refine AllV_v ?_
 refine AllV_v ?_
 refine AllV_v ?_
 refine AllV_nil ?_
 refine O_assign rfl rfl rfl ?_
 refine WL_end [(8, _), (9, _)] ⟨rfl, rfl, trivial⟩ ?_
 refine WP_ret ?_
 refine ret2 Try.results54 rfl rfl ?_
 exact ⟨qs9, i9, u9, cv9, rfl, (ExtT.trans hT9 (Ext.toT hy35)), (hE9.trans hy35), (hF9.ext hy35), by omega, hR9, ((hC9.ext hy35)).mono (by omega)⟩

end Go.Proofs.Ytoccimigjjndpaa
