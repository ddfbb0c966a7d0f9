/-
  Walks.
-/
import Derived.Test.YtoccimigjjndpaaV1
set_option linter.unusedVariables false
set_option linter.unusedSimpArgs false
set_option maxRecDepth 100000
namespace Go.Proofs.Ytoccimigjjndpaa
open Go Go.RowKit
set_option maxHeartbeats 1000000 in
theorem between_c {w : World} {B g : Nat} {i1 i2 : Int} {t1 t2 : Tr} {ps : List Part} (hF : FG B w g ps) (hR1 : Rep ps i1 t1) (ho1 : t1.Ord) (hR2 : Rep ps i2 t2) (ho2 : t2.Ord) (hc : t1.cnt + t2.cnt ≤ 1000000) :
    Calls Try.prog 44 #[.pointer (some ⟨g, 0, none⟩), .int .i64 i1, .int .i64 i2] w (Ret w fun r w' => OwC w.heap.size w' r (betw t1.env t2.env)) := by
 refine enter (args := [_, _, _]) Try.func44 rfl Try.ntmps44 rfl ?_
 refine WP_seq ?_
 refine WP_region ?_
 refine O_box _ rfl rfl rfl rfl (fun g1 w1 b1 e1 gl1 gh1 => ?_)
 have z1 := e1.size
 refine O_box _ rfl rfl rfl rfl (fun g2 w2 b2 e2 gl2 gh2 => ?_)
 have z2 := e2.size
 refine O_box _ rfl rfl rfl rfl (fun g3 w3 b3 e3 gl3 gh3 => ?_)
 have z3 := e3.size
 refine O_assign rfl rfl rfl ?_
 refine WL_end [(3, _), (4, _), (5, _)] ⟨rfl, rfl, rfl, trivial⟩ ?_
 refine WP_seq ?_
 refine WP_region ?_
 refine O_alloc1 Z66 rfl rfl rfl (fun g4 w4 b4 e4 gl4 gh4 => ?_)
 have z4 := e4.size
 refine WL_end [(3, _), (4, _), (5, _), (7, _)] ⟨rfl, rfl, rfl, rfl, trivial⟩ ?_
 refine WP_seq ?_
 refine WP_sub [(3, _), (4, _), (5, _), (7, _)] ⟨rfl, rfl, rfl, rfl, trivial⟩ ?_
 refine WP_anyR 8 [3, 4, 5, 7] mixed rfl (by kernel_rfl) ?_
 apply AnyR_val [3, 4, 5, 7] rfl (by kernel_rfl)
 · --
  intro y5 hy5
  have zy5 := hy5.size
  refine AllV_nil ?_
  refine O_makeFunc rfl rfl rfl ?_
  exact WL_nil ⟨(Ext.refl _), rfl⟩
 apply AnyR_val [3] rfl (by kernel_rfl)
 · --
  intro y6 hy6
  have zy6 := hy6.size
  refine AllV_nil ?_
  refine O_loadC Try.underlying29 rfl rfl rfl rfl ((((b1.ext e2).ext e3).ext e4).ext hy6) rfl ?_
  exact WL_nil ⟨(Ext.refl _), rfl⟩
 apply AnyR_val [4] rfl (by kernel_rfl)
 · --
  intro y7 hy7
  have zy7 := hy7.size
  refine AllV_nil ?_
  refine O_loadC Try.underlying3 rfl rfl rfl rfl (((b2.ext e3).ext e4).ext hy7) rfl ?_
  exact WL_nil ⟨(Ext.refl _), rfl⟩
 apply AnyR_rel (SlSR (t1.env.map (·.1))) [9, 10] rfl SlSR.mono (by kernel_rfl)
 · --
  intro y8 hy8
  have zy8 := hy8.size
  refine AllV_v ?_
  refine AllV_v ?_
  refine AllV_nil ?_
  refine O_call enters76 rfl rfl rfl (names_c (hF.ext ((((e1.trans e2).trans e3).trans e4).trans hy8)) hR1 (by (try simp only [lens]); omega)) (fun v9 w9 e9 h9 => ?_)
  have z9 := e9.size
  exact WL_nil ⟨e9, _, rfl, (h9).toS⟩
 apply AnyR_val [3] rfl (by kernel_rfl)
 · --
  intro y10 hy10
  have zy10 := hy10.size
  refine AllV_nil ?_
  refine O_loadC Try.underlying29 rfl rfl rfl rfl ((((b1.ext e2).ext e3).ext e4).ext hy10) rfl ?_
  exact WL_nil ⟨(Ext.refl _), rfl⟩
 apply AnyR_val [5] rfl (by kernel_rfl)
 · --
  intro y11 hy11
  have zy11 := hy11.size
  refine AllV_nil ?_
  refine O_loadC Try.underlying3 rfl rfl rfl rfl ((b3.ext e4).ext hy11) rfl ?_
  exact WL_nil ⟨(Ext.refl _), rfl⟩
 apply AnyR_rel (SlSR (t2.env.map (·.1))) [12, 13] rfl SlSR.mono (by kernel_rfl)
 · --
  intro y12 hy12
  have zy12 := hy12.size
  refine AllV_v ?_
  refine AllV_v ?_
  refine AllV_nil ?_
  refine O_call enters76 rfl rfl rfl (names_c (hF.ext ((((e1.trans e2).trans e3).trans e4).trans hy12)) hR2 (by (try simp only [lens]); omega)) (fun v13 w13 e13 h13 => ?_)
  have z13 := e13.size
  exact WL_nil ⟨e13, _, rfl, (h13).toS⟩
 apply AnyR_rel (LSR w.heap.size (t1.env.map (·.1)) (t2.env.map (·.1))) [11, 14] rfl LSR.mono (by kernel_rfl)
 · --
  intro y14 hy14
  have zy14 := hy14.size
  refine AllV_r fun a15 b15 v15 la15 lb15 lc15 h15 ap15 => ?_
  clear ap15
  have h15 : SlS _ v15 _ := h15
  refine AllV_r fun a16 b16 v16 la16 lb16 lc16 h16 ap16 => ?_
  clear ap16
  have h16 : SlS _ v16 _ := h16
  refine AllV_nil ?_
  refine M_lit M121 rfl rfl fV [_, _] (by intro a ha; simp only [List.mem_cons, List.not_mem_nil, or_false] at ha; rcases ha with rfl | rfl; exact h15.one; exact h16.one) rfl rfl rfl rfl rfl (fun v17 w17 o17 e17 => ?_)
  have z17 := e17.size
  exact WL_nil ⟨e17, _, rfl, ⟨_, _, (o17).mono (by omega), (h15.ext e17), (h16.ext e17)⟩⟩
 refine AnyR_nil fun y18 hy18 => ?_
 have zy18 := hy18.size
 refine AllV_v ?_
 refine AllV_v ?_
 refine AllV_v ?_
 refine AllV_r fun a19 b19 v19 la19 lb19 lc19 h19 ap19 => ?_
 clear ap19
 have h19 : SlS _ v19 _ := h19
 refine AllV_v ?_
 refine AllV_v ?_
 refine AllV_r fun a20 b20 v20 la20 lb20 lc20 h20 ap20 => ?_
 clear ap20
 have h20 : SlS _ v20 _ := h20
 refine AllV_r fun a21 b21 v21 la21 lb21 lc21 h21 ap21 => ?_
 clear ap21
 obtain ⟨xa, xb, hO15, hSa, hSb⟩ : LSR _ _ _ _ _ v21 _ := h21
 refine AllV_nil ?_
 have zz : w.heap.size ≤ y18.heap.size := (((((e1.trans e2).trans e3).trans e4).trans hy18)).size
 have hat := (hO15).at_le (by simp)
 refine O_callR enters72 rfl rfl rfl (each_c (wE := y18) (vals := [xa, xb]) (ls := [t1.env.map (·.1), t2.env.map (·.1)]) (BL := w.heap.size) (K := KB w y18 g g1 g2 g3 g4 i1 i2 (fun s => chq s (nodev t1.env s) (nodev t2.env s))) enters73 hO15 (LS.two hSa hSb) (by simp) ⟨((((e1.trans e2).trans e3).trans e4).trans hy18), ExtT.refl _ _, ⟨((((b1.ext e2).ext e3).ext e4).ext hy18), (((b2.ext e3).ext e4).ext hy18), ((b3.ext e4).ext hy18)⟩, _, (b4.ext hy18), OwC.nil _ _⟩ (fun vs w v l hK h => h.extT hK.2.1 (by decide)) (fun vs w w1 cs hK hb hc => hK.chg hat.1 hb hc) (fun vs s r he w8 cs hK hb => between1_c hF hR1 ho1 hR2 ho2 (by omega) hK hb (by
   have h8 := before_len he
   have h9 : totN [t1.env.map (·.1), t2.env.map (·.1)] = t1.env.length + t2.env.length := by simp [totN]
   rw [h9, Tr.env_length, Tr.env_length] at h8
   omega)) (by simp)) (fun e9 w9 h9 => ?_)
 obtain ⟨rfl, hE9, hT9, ⟨hq1, hq2, hq3⟩, v9, hq4, hO9⟩ := h9
 refine ⟨_, rfl, ?_⟩
 refine WL_end [(7, _)] ⟨rfl, trivial⟩ ?_
 refine WP_seq ?_
 refine WP_region ?_
 refine O_loadC Try.underlying66 rfl rfl rfl rfl hq4 rfl ?_
 refine O_assign rfl rfl rfl ?_
 refine WL_end [(6, _)] ⟨rfl, trivial⟩ ?_
 refine WP_ret ?_
 refine ret1 Try.results44 rfl ?_
 exact ⟨_, rfl, hE9, hO9⟩

end Go.Proofs.Ytoccimigjjndpaa
