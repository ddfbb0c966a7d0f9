/-
  Walks.
-/
import Derived.Test.YtoccimigjjndpaaT8
import Derived.Test.YtoccimigjjndpaaSlm
set_option linter.unusedVariables false
set_option linter.unusedSimpArgs false
set_option maxRecDepth 100000
namespace Go.Proofs.Ytoccimigjjndpaa
open Go Go.RowKit
theorem M22 : ElT Try.prog 22 3 (.int .i64 0) 8 := ElT.mk' Try.underlying22 (by kernel_rfl)
theorem M30 : ElT Try.prog 30 34 (.slice none 0 0) 24 := ElT.mk' Try.underlying30 (by kernel_rfl)
theorem M52 : ElT Try.prog 52 9 (.string ByteArray.empty) 16 := ElT.mk' Try.underlying52 (by kernel_rfl)
theorem M93 : ElT Try.prog 93 5 (.int .u8 0) 1 := ElT.mk' Try.underlying93 (by kernel_rfl)
theorem M121 : ElT Try.prog 121 52 (.slice none 0 0) 24 := ElT.mk' Try.underlying121 (by kernel_rfl)
theorem M88 : ElT Try.prog 88 66 (.slice none 0 0) 24 := ElT.mk' Try.underlying88 (by kernel_rfl)
theorem Z3 : (Try.prog.info? 3).bind (·.zero) = some (.int .i64 0) := by kernel_rfl
theorem Z4 : (Try.prog.info? 4).bind (·.zero) = some (.bool false) := by kernel_rfl
theorem Z9 : (Try.prog.info? 9).bind (·.zero) = some (.string ByteArray.empty) := by kernel_rfl
theorem Z22 : (Try.prog.info? 22).bind (·.zero) = some (.slice none 0 0) := by kernel_rfl
theorem Z34 : (Try.prog.info? 34).bind (·.zero) = some (.slice none 0 0) := by kernel_rfl
theorem Z52 : (Try.prog.info? 52).bind (·.zero) = some (.slice none 0 0) := by kernel_rfl
theorem Z66 : (Try.prog.info? 66).bind (·.zero) = some (.slice none 0 0) := by kernel_rfl
theorem Z30 : (Try.prog.info? 30).bind (·.zero) = some (.slice none 0 0) := by kernel_rfl

theorem list1_c {w0 w : World} {o : Nat} {l : Env} {b : Bd} (hE : Ext w0 w) (ho : w0.heap.size ≤ o) (hL : LO w0.heap.size w o l) (hl : l.length ≤ 100000000) :
    Calls Try.prog 61 #[.agg #[.string b.1, .int .i64 b.2], .pointer (some ⟨o, 0, none⟩)] w (RLO w0 w o (l ++ [b])) := by
 obtain ⟨v, hB, hO⟩ := hL
 have zE := hE.size
 have hol := hB.lt
 refine enter (args := [_, _]) Try.func61 rfl Try.ntmps61 rfl ?_
 refine WP_seq ?_
 refine WP_region ?_
 refine O_box _ rfl rfl rfl rfl (fun g1 w1 b1 e1 gl1 gh1 => ?_)
 have z1 := e1.size
 refine WL_end [(1, _), (2, _)] ⟨rfl, rfl, trivial⟩ ?_
 refine WP_region ?_
 refine O_loadC Try.underlying34 rfl rfl rfl rfl (hB.ext e1) rfl ?_
 refine O_loadA (vs := [_, _]) S54 rfl rfl rfl b1 rfl rfl ?_
 refine B_lit1 (b := b) Ebind rfl rfl rfl (fun v2 w2 o2 e2 => ?_)
 have z2 := e2.size
 refine B_append Ebind rfl rfl rfl rfl ((hO.ext e1).ext e2) o2.sl (by simp only [List.length_singleton]; omega) rfl (by omega) (fun v3 w3 o3 r3 k3 => ?_)
 have e3 : Ext w0 w3 := ((hO.ext e1).ext e2).ext_grown r3 ((hE.trans e1).trans e2) (by omega)
 have z3 := r3.size
 have x3 := OwB.grownT ((hO.ext e1).ext e2) r3
 refine O_storeC (cs' := [_]) one34 rfl rfl rfl (o3).one (((hB.ext e1).ext e2).extT x3 (by decide)) rfl rfl (fun w4 b4 q4 => ?_)
 have z4 := Nat.le_of_eq q4.size.symm
 have e4 : Ext w0 w4 := q4.ext e3 (by omega)
 refine WL_end [] trivial ?_
 refine ret0 Try.results61 ?_
 exact ⟨rfl, e4, (show ExtT LTY _ _ from (by first | exact ExtT.trans (ExtT.trans (ExtT.trans (Ext.toT e1) (Ext.toT e2)) (x3.mono (by decide))) ((Chg.toT q4 (((hB.ext e1).ext e2).extT x3 (by decide))).mono (by decide)) | exact ExtT.chgNew (ExtT.trans (ExtT.trans (Ext.toT e1) (Ext.toT e2)) (x3.mono (by decide))) q4 (by omega))), _, b4, (o3.extT (Chg.toT q4 (((hB.ext e1).ext e2).extT x3 (by decide))) (by decide))⟩
theorem walk_leaf {w0 : World} {g r o : Nat} {ps : List Part} (hF : Fo w0 g r ps) (ho : w0.heap.size ≤ o) {w : World} {i : Int} {l : Env} (hE : Ext w0 w) (hL : LO w0.heap.size w o l) (hR : Rep ps i .leaf) :
    Calls Try.prog 60 #[.pointer (some ⟨g, 0, none⟩), .int .i64 i, .func (.func 61) #[] #[.pointer (some ⟨o, 0, none⟩)]] w (RLO w0 w o (l ++ Tr.leaf.env)) := by
 have zE := hE.size
 refine enter (args := [_, _, _]) Try.func60 rfl Try.ntmps60 rfl ?_
 refine WP_seq ?_
 refine WP_seq ?_
 refine WP_region ?_
 refine O_move rfl rfl rfl ?_
 refine O_move rfl rfl rfl ?_
 refine O_call enters67 rfl rfl rfl (empty_T (hF.ext hE) hR rfl) (fun v1 w1 e1 h1 => ?_)
 have z1 := e1.size
 obtain rfl := h1
 refine WL_end [(0, _), (1, _), (2, _), (9, _)] ⟨rfl, rfl, rfl, rfl, trivial⟩ ?_
 refine WP_condT rfl ?_
 refine WP_ret ?_
 unfold fnE
 refine ret0 Try.results60 ?_
 exact ⟨rfl, (hE.trans e1), (show ExtT LTY _ _ from (Ext.toT e1)), by simpa [Tr.env] using (hL.ext e1)⟩
theorem walk_node {w0 : World} {g r o : Nat} {ps : List Part} (hF : Fo w0 g r ps) (ho : w0.heap.size ≤ o) {tl tr : Tr} {kk : ByteArray} {vv : Int} (ihl : ∀ {w : World} {i : Int} {l : Env}, Ext w0 w → LO w0.heap.size w o l → Rep ps i tl → l.length + tl.cnt ≤ 100000000 → Calls Try.prog 60 #[.pointer (some ⟨g, 0, none⟩), .int .i64 i, .func (.func 61) #[] #[.pointer (some ⟨o, 0, none⟩)]] w (RLO w0 w o (l ++ tl.env))) (ihr : ∀ {w : World} {i : Int} {l : Env}, Ext w0 w → LO w0.heap.size w o l → Rep ps i tr → l.length + tr.cnt ≤ 100000000 → Calls Try.prog 60 #[.pointer (some ⟨g, 0, none⟩), .int .i64 i, .func (.func 61) #[] #[.pointer (some ⟨o, 0, none⟩)]] w (RLO w0 w o (l ++ tr.env))) {w : World} {i : Int} {l : Env} (hE : Ext w0 w) (hL : LO w0.heap.size w o l) (hR : Rep ps i (.node tl kk vv tr)) (hc : l.length + (Tr.node tl kk vv tr).cnt ≤ 100000000) :
    Calls Try.prog 60 #[.pointer (some ⟨g, 0, none⟩), .int .i64 i, .func (.func 61) #[] #[.pointer (some ⟨o, 0, none⟩)]] w (RLO w0 w o (l ++ (Tr.node tl kk vv tr).env)) := by
 have zE := hE.size
 have hM : (Tr.node tl kk vv tr).cnt = tl.cnt + tr.cnt + 1 := rfl
 refine enter (args := [_, _, _]) Try.func60 rfl Try.ntmps60 rfl ?_
 refine WP_seq ?_
 refine WP_seq ?_
 refine WP_region ?_
 refine O_move rfl rfl rfl ?_
 refine O_move rfl rfl rfl ?_
 refine O_call enters67 rfl rfl rfl (empty_F (hF.ext hE) hR (by simp [Tr.ht])) (fun v1 w1 e1 h1 => ?_)
 have z1 := e1.size
 obtain rfl := h1
 refine WL_end [(0, _), (1, _), (2, _), (9, _)] ⟨rfl, rfl, rfl, rfl, trivial⟩ ?_
 refine WP_condF rfl ?_
 refine WP_skip ?_
 refine WP_seq ?_
 refine WP_region ?_
 refine O_move rfl rfl rfl ?_
 refine O_move rfl rfl rfl ?_
 refine O_call enters62 rfl rfl rfl (getT_c (hF.ext (hE.trans e1)) hR) (fun v2 w2 e2 h2 => ?_)
 have z2 := e2.size
 try simp only [val_dig] at h2
 obtain ⟨a2, b2, rfl, ha2, hb2⟩ := h2
 replace ha2 : Rep ps a2 tl := ha2
 replace hb2 : Rep ps b2 tr := hb2
 refine O_alloc S97 rfl rfl (fun g3 w3 b3 e3 gl3 gh3 => ?_)
 have z3 := e3.size
 refine O_storeA (cs' := [_, _, _, _, _, _]) S97 rfl rfl rfl b3 rfl rfl (one_cons rfl (one_cons rfl (one_cons rfl (one_cons rfl (one_cons rfl (one_cons rfl one_nil)))))) rfl (fun w4 b4 q4 => ?_)
 have z4 := Nat.le_of_eq q4.size.symm
 have e4 : Ext w0 w4 := q4.ext (((hE.trans e1).trans e2).trans e3) (by omega)
 refine WL_end [(0, _), (2, _), (6, _)] ⟨rfl, rfl, rfl, trivial⟩ ?_
 refine WP_seq ?_
 refine WP_region ?_
 refine O_move rfl rfl rfl ?_
 refine O_field F97_1 rfl rfl rfl ?_
 refine O_loadC Try.underlying3 rfl rfl rfl rfl b4 rfl ?_
 refine O_move rfl rfl rfl ?_
 refine O_callL enters60 rfl rfl rfl (ihl e4 ((((hL.ext e1).ext e2).ext e3).extT (Chg.toT q4 b3) (by decide)) ha2 (by (try simp only [List.length_append, List.length_singleton, Tr.env_length]); omega)) (fun w5 hE5 hT5 hL5 => ?_)
 have zE5 := hE5.size
 have zT5 := hT5.size
 refine WL_end [(0, _), (2, _), (6, _)] ⟨rfl, rfl, rfl, trivial⟩ ?_
 refine WP_seq ?_
 refine WP_region ?_
 refine O_move rfl rfl rfl ?_
 refine O_field F97_0 rfl rfl rfl ?_
 refine O_loadA (vs := [_, _]) S54 rfl rfl rfl (b4.extT hT5 (by decide)) rfl rfl ?_
 refine O_callLV enters61 rfl rfl rfl rfl (list1_c (b := (kk, vv)) hE5 ho hL5 (by (try simp only [List.length_append, List.length_singleton, Tr.env_length]); omega)) (fun w6 hE6 hT6 hL6 => ?_)
 have zE6 := hE6.size
 have zT6 := hT6.size
 refine WL_end [(0, _), (2, _), (6, _)] ⟨rfl, rfl, rfl, trivial⟩ ?_
 refine WP_region ?_
 refine O_move rfl rfl rfl ?_
 refine O_field F97_2 rfl rfl rfl ?_
 refine O_loadC Try.underlying3 rfl rfl rfl rfl ((b4.extT hT5 (by decide)).extT hT6 (by decide)) rfl ?_
 refine O_move rfl rfl rfl ?_
 refine O_callL enters60 rfl rfl rfl (ihr hE6 hL6 hb2 (by (try simp only [List.length_append, List.length_singleton, Tr.env_length]); omega)) (fun w7 hE7 hT7 hL7 => ?_)
 have zE7 := hE7.size
 have zT7 := hT7.size
 refine WL_end [] trivial ?_
 refine ret0 Try.results60 ?_
 refine ⟨rfl, hE7, (show ExtT LTY _ _ from (ExtT.trans (ExtT.trans (ExtT.trans (by first | exact ExtT.trans (ExtT.trans (ExtT.trans (Ext.toT e1) (Ext.toT e2)) (Ext.toT e3)) ((Chg.toT q4 b3).mono (by decide)) | exact ExtT.chgNew (ExtT.trans (ExtT.trans (Ext.toT e1) (Ext.toT e2)) (Ext.toT e3)) q4 (by omega)) (hT5.mono (by decide))) (hT6.mono (by decide))) (hT7.mono (by decide)))), ?_⟩
 have hq := hL7
 simpa [Tr.env] using hq

theorem walk_c {w0 : World} {g r o : Nat} {ps : List Part} (hF : Fo w0 g r ps) (ho : w0.heap.size ≤ o) : ∀ (t : Tr), ∀ {w : World} {i : Int} {l : Env}, Ext w0 w → LO w0.heap.size w o l → Rep ps i t → l.length + t.cnt ≤ 100000000 → Calls Try.prog 60 #[.pointer (some ⟨g, 0, none⟩), .int .i64 i, .func (.func 61) #[] #[.pointer (some ⟨o, 0, none⟩)]] w (RLO w0 w o (l ++ t.env)) := by
  intro t
  induction t with
  | leaf => intro w i l hE hL hR hc; exact walk_leaf hF ho hE hL hR
  | node tl kk vv tr ihl ihr => intro w i l hE hL hR hc; exact walk_node hF ho ihl ihr hE hL hR hc
theorem List_c {w : World} {g r : Nat} {ps : List Part} (hF : Fo w g r ps) {i : Int} {t : Tr} (hR : Rep ps i t) (hc : t.cnt ≤ 10000000) :
    Calls Try.prog 20 #[.pointer (some ⟨g, 0, none⟩), .int .i64 i] w (Ret w fun r w' => OwB w.heap.size w' r t.env) := by
 refine enter (args := [_, _]) Try.func20 rfl Try.ntmps20 rfl ?_
 refine WP_seq ?_
 refine WP_region ?_
 refine O_assign rfl rfl rfl ?_
 refine WL_end [(0, _), (1, _)] ⟨rfl, rfl, trivial⟩ ?_
 refine WP_seq ?_
 refine WP_region ?_
 refine O_alloc1 Z34 rfl rfl rfl (fun g1 w1 b1 e1 gl1 gh1 => ?_)
 have z1 := e1.size
 refine WL_end [(0, _), (1, _), (5, _)] ⟨rfl, rfl, rfl, trivial⟩ ?_
 refine WP_seq ?_
 refine WP_region ?_
 refine O_move rfl rfl rfl ?_
 refine O_move rfl rfl rfl ?_
 refine O_makeFunc rfl rfl rfl ?_
 have hL0 : LO w.heap.size w1 g1 [] := ⟨_, b1, OwB.nil _ _⟩
 refine O_callL enters60 rfl rfl rfl (walk_c (o := g1) hF (by omega) t e1 hL0 hR (by simp only [List.length_nil]; omega)) (fun w2 hE2 hT2 hL2 => ?_)
 obtain ⟨v2, hb2, ho2⟩ := hL2
 rw [List.nil_append] at ho2
 refine WL_end [(5, _)] ⟨rfl, trivial⟩ ?_
 refine WP_seq ?_
 refine WP_region ?_
 refine O_loadC Try.underlying34 rfl rfl rfl rfl hb2 rfl ?_
 refine O_assign rfl rfl rfl ?_
 refine WL_end [(4, _)] ⟨rfl, trivial⟩ ?_
 refine WP_ret ?_
 refine ret1 Try.results20 rfl ?_
 exact ⟨_, rfl, hE2, ho2⟩

end Go.Proofs.Ytoccimigjjndpaa

set_option linter.unusedVariables false
set_option linter.unusedSimpArgs false
set_option maxRecDepth 100000
namespace Go.Proofs.Ytoccimigjjndpaa
open Go Go.RowKit
theorem even_leaf {w : World} {g r : Nat} {ps : List Part} (hF : Fo w g r ps) {i : Int} (hR : Rep ps i .leaf) :
    Calls Try.prog 70 #[.pointer (some ⟨g, 0, none⟩), .int .i64 i] w (Ret w fun v _ => v = .bool true) := by
 refine enter (args := [_, _]) Try.func70 rfl Try.ntmps70 rfl ?_
 refine WP_seq ?_
 refine WP_region ?_
 refine O_assign rfl rfl rfl ?_
 refine WL_end [(0, _), (1, _)] ⟨rfl, rfl, trivial⟩ ?_
 refine WP_seq ?_
 refine WP_seq ?_
 refine WP_region ?_
 refine O_move rfl rfl rfl ?_
 refine O_move rfl rfl rfl ?_
 refine O_call enters67 rfl rfl rfl (empty_T hF hR rfl) (fun v1 w1 e1 h1 => ?_)
 have z1 := e1.size
 obtain rfl := h1
 refine WL_end [(0, _), (1, _), (9, _)] ⟨rfl, rfl, rfl, trivial⟩ ?_
 refine WP_condT rfl ?_
 refine WP_seq ?_
 refine WP_region ?_
 refine O_assign rfl rfl rfl ?_
 refine WL_end [(4, _)] ⟨rfl, trivial⟩ ?_
 refine WP_ret ?_
 refine ret1 Try.results70 rfl ?_
 exact ⟨_, rfl, e1, rfl⟩
theorem even_node {g r : Nat} {ps : List Part} {tl tr : Tr} {kk : ByteArray} {vv : Int} (ihl : ∀ {w : World} {i : Int}, Fo w g r ps → Rep ps i tl → Tr.Avl tl → tl.cnt ≤ 10000000 → Calls Try.prog 70 #[.pointer (some ⟨g, 0, none⟩), .int .i64 i] w (Ret w fun v _ => v = .bool true)) (ihr : ∀ {w : World} {i : Int}, Fo w g r ps → Rep ps i tr → Tr.Avl tr → tr.cnt ≤ 10000000 → Calls Try.prog 70 #[.pointer (some ⟨g, 0, none⟩), .int .i64 i] w (Ret w fun v _ => v = .bool true)) {w : World} (hF : Fo w g r ps) {i : Int} (hR : Rep ps i (.node tl kk vv tr)) (hA : (Tr.node tl kk vv tr).Avl) (hc : (Tr.node tl kk vv tr).cnt ≤ 10000000) :
    Calls Try.prog 70 #[.pointer (some ⟨g, 0, none⟩), .int .i64 i] w (Ret w fun v _ => v = .bool true) := by
 obtain ⟨hA1, hA2, hA3, hA4⟩ := hA
 have hM : (Tr.node tl kk vv tr).cnt = tl.cnt + tr.cnt + 1 := rfl
 have hh1 := tl.ht_le
 have hh2 := tr.ht_le
 refine enter (args := [_, _]) Try.func70 rfl Try.ntmps70 rfl ?_
 refine WP_seq ?_
 refine WP_region ?_
 refine O_assign rfl rfl rfl ?_
 refine WL_end [(0, _), (1, _)] ⟨rfl, rfl, trivial⟩ ?_
 refine WP_seq ?_
 refine WP_seq ?_
 refine WP_region ?_
 refine O_move rfl rfl rfl ?_
 refine O_move rfl rfl rfl ?_
 refine O_call enters67 rfl rfl rfl (empty_F hF hR (by simp [Tr.ht])) (fun v1 w1 e1 h1 => ?_)
 have z1 := e1.size
 obtain rfl := h1
 refine WL_end [(0, _), (1, _), (9, _)] ⟨rfl, rfl, rfl, trivial⟩ ?_
 refine WP_condF rfl ?_
 refine WP_skip ?_
 refine WP_seq ?_
 refine WP_region ?_
 refine O_move rfl rfl rfl ?_
 refine O_move rfl rfl rfl ?_
 refine O_call enters62 rfl rfl rfl (getT_c (hF.ext e1) hR) (fun v2 w2 e2 h2 => ?_)
 have z2 := e2.size
 try simp only [val_dig] at h2
 obtain ⟨a2, b2, rfl, ha2, hb2⟩ := h2
 replace ha2 : Rep ps a2 tl := ha2
 replace hb2 : Rep ps b2 tr := hb2
 refine O_alloc S97 rfl rfl (fun g3 w3 b3 e3 gl3 gh3 => ?_)
 have z3 := e3.size
 refine O_storeA (cs' := [_, _, _, _, _, _]) S97 rfl rfl rfl b3 rfl rfl (one_cons rfl (one_cons rfl (one_cons rfl (one_cons rfl (one_cons rfl (one_cons rfl one_nil)))))) rfl (fun w4 b4 q4 => ?_)
 have z4 := Nat.le_of_eq q4.size.symm
 have e4 : Ext w w4 := q4.ext ((e1.trans e2).trans e3) (by omega)
 refine WL_end [(0, _), (5, _)] ⟨rfl, rfl, trivial⟩ ?_
 refine WP_seq ?_
 refine WP_sub [(0, _), (5, _)] ⟨rfl, rfl, trivial⟩ ?_
 refine WP_anyR 7 [0, 5] mixed rfl (by kernel_rfl) ?_
 apply AnyR_val [0] rfl (by kernel_rfl)
 · --
  intro y5 hy5
  have zy5 := hy5.size
  refine AllV_nil ?_
  refine O_move rfl rfl rfl ?_
  exact WL_nil ⟨(Ext.refl _), rfl⟩
 apply AnyR_val [5] rfl (by kernel_rfl)
 · --
  intro y6 hy6
  have zy6 := hy6.size
  refine AllV_nil ?_
  refine O_field F97_1 rfl rfl rfl ?_
  exact WL_nil ⟨(Ext.refl _), rfl⟩
 apply AnyR_val [14] rfl (by kernel_rfl)
 · --
  intro y7 hy7
  have zy7 := hy7.size
  refine AllV_v ?_
  refine AllV_nil ?_
  refine O_loadC Try.underlying3 rfl rfl rfl rfl (b4.ext hy7) rfl ?_
  exact WL_nil ⟨(Ext.refl _), rfl⟩
 apply AnyR_val [13, 15] rfl (by kernel_rfl)
 · --
  intro y8 hy8
  have zy8 := hy8.size
  refine AllV_v ?_
  refine AllV_v ?_
  refine AllV_nil ?_
  refine O_call enters25 rfl rfl rfl (Height_c (hF.ext (e4.trans hy8)) ha2) (fun v9 w9 e9 h9 => ?_)
  have z9 := e9.size
  obtain rfl := h9
  exact WL_nil ⟨e9, rfl⟩
 apply AnyR_val [0] rfl (by kernel_rfl)
 · --
  intro y10 hy10
  have zy10 := hy10.size
  refine AllV_nil ?_
  refine O_move rfl rfl rfl ?_
  exact WL_nil ⟨(Ext.refl _), rfl⟩
 apply AnyR_val [5] rfl (by kernel_rfl)
 · --
  intro y11 hy11
  have zy11 := hy11.size
  refine AllV_nil ?_
  refine O_field F97_2 rfl rfl rfl ?_
  exact WL_nil ⟨(Ext.refl _), rfl⟩
 apply AnyR_val [18] rfl (by kernel_rfl)
 · --
  intro y12 hy12
  have zy12 := hy12.size
  refine AllV_v ?_
  refine AllV_nil ?_
  refine O_loadC Try.underlying3 rfl rfl rfl rfl (b4.ext hy12) rfl ?_
  exact WL_nil ⟨(Ext.refl _), rfl⟩
 refine AnyR_nil fun y13 hy13 => ?_
 have zy13 := hy13.size
 refine AllV_v ?_
 refine AllV_v ?_
 refine AllV_v ?_
 refine AllV_v ?_
 refine AllV_v ?_
 refine AllV_v ?_
 refine AllV_v ?_
 refine AllV_nil ?_
 refine O_call enters25 rfl rfl rfl (Height_c (hF.ext (e4.trans hy13)) hb2) (fun v14 w14 e14 h14 => ?_)
 have z14 := e14.size
 obtain rfl := h14
 refine O_sub (r := ((tl.ht : Int) - (tr.ht : Nat))) rfl rfl rfl rfl (by rw [IntKind.wrap_i64]; omega) ?_
 refine O_assign rfl rfl rfl ?_
 refine WL_end [(0, _), (5, _), (6, _)] ⟨rfl, rfl, rfl, trivial⟩ ?_
 refine WP_seq ?_
 refine WP_region ?_
 refine O_move rfl rfl rfl ?_
 refine O_geq (t := true) rfl rfl rfl rfl (decide_eq_true (by omega)) ?_
 refine O_move rfl rfl rfl ?_
 refine O_move rfl rfl rfl ?_
 refine O_leq (t := true) rfl rfl rfl rfl (decide_eq_true (by omega)) ?_
 refine O_pickT rfl rfl rfl rfl ?_
 refine O_move rfl rfl rfl ?_
 refine O_move rfl rfl rfl ?_
 refine O_field F97_1 rfl rfl rfl ?_
 refine O_loadC Try.underlying3 rfl rfl rfl rfl ((b4.ext hy13).ext e14) rfl ?_
 refine O_call enters70 rfl rfl rfl (ihl (hF.ext ((e4.trans hy13).trans e14)) ha2 hA1 (by (try simp only [lens]); omega)) (fun v15 w15 e15 h15 => ?_)
 have z15 := e15.size
 obtain rfl := h15
 refine O_pickT rfl rfl rfl rfl ?_
 refine O_move rfl rfl rfl ?_
 refine O_move rfl rfl rfl ?_
 refine O_field F97_2 rfl rfl rfl ?_
 refine O_loadC Try.underlying3 rfl rfl rfl rfl (((b4.ext hy13).ext e14).ext e15) rfl ?_
 refine O_call enters70 rfl rfl rfl (ihr (hF.ext (((e4.trans hy13).trans e14).trans e15)) hb2 hA2 (by (try simp only [lens]); omega)) (fun v16 w16 e16 h16 => ?_)
 have z16 := e16.size
 obtain rfl := h16
 refine O_pickT rfl rfl rfl rfl ?_
 refine O_assign rfl rfl rfl ?_
 refine WL_end [(4, _)] ⟨rfl, trivial⟩ ?_
 refine WP_ret ?_
 refine ret1 Try.results70 rfl ?_
 exact ⟨_, rfl, ((((e4.trans hy13).trans e14).trans e15).trans e16), rfl⟩

theorem even_c {g r : Nat} {ps : List Part} : ∀ (t : Tr), ∀ {w : World} {i : Int}, Fo w g r ps → Rep ps i t → Tr.Avl t → t.cnt ≤ 10000000 → Calls Try.prog 70 #[.pointer (some ⟨g, 0, none⟩), .int .i64 i] w (Ret w fun v _ => v = .bool true) := by
  intro t
  induction t with
  | leaf => intro w i hF hR hA hc; exact even_leaf hF hR
  | node tl kk vv tr ihl ihr => intro w i hF hR hA hc; exact even_node ihl ihr hF hR hA hc

theorem bal1_c {w : World} {a b : Bd} (hn : nlt a.1 b.1 = false) :
    Calls Try.prog 69 #[.agg #[.string a.1, .int .i64 a.2], .agg #[.string b.1, .int .i64 b.2]] w (Ret w fun v _ => v = .int .i64 1) := by
 refine enter (args := [_, _]) Try.func69 rfl Try.ntmps69 rfl ?_
 refine WP_seq ?_
 refine WP_region ?_
 refine O_box _ rfl rfl rfl rfl (fun g1 w1 b1 e1 gl1 gh1 => ?_)
 have z1 := e1.size
 refine O_box _ rfl rfl rfl rfl (fun g2 w2 b2 e2 gl2 gh2 => ?_)
 have z2 := e2.size
 refine O_assign rfl rfl rfl ?_
 refine WL_end [(2, _), (3, _)] ⟨rfl, rfl, trivial⟩ ?_
 refine WP_seq ?_
 refine WP_seq ?_
 refine WP_region ?_
 refine O_field F54_0 rfl rfl rfl ?_
 refine O_loadC Try.underlying9 rfl rfl rfl rfl (b1.ext e2) rfl ?_
 refine O_field F54_0 rfl rfl rfl ?_
 refine O_loadC Try.underlying9 rfl rfl rfl rfl b2 rfl ?_
 refine O_slss rfl rfl rfl rfl ?_
 refine WL_end [(9, _)] ⟨rfl, trivial⟩ ?_
 refine WP_cond rfl (fun c9 => ?_) (fun c9 => ?_)
 · --
  refine WP_seq ?_
  refine WP_region ?_
  refine O_assign rfl rfl rfl ?_
  refine WL_end [(4, _)] ⟨rfl, trivial⟩ ?_
  refine WP_ret ?_
  refine ret1 Try.results69 rfl ?_
  exfalso
  rw [show nlt a.1 b.1 = true from c9] at hn
  cases hn
 · --
  refine WP_skip ?_
  refine WP_seq ?_
  refine WP_region ?_
  refine O_assign rfl rfl rfl ?_
  refine WL_end [(4, _)] ⟨rfl, trivial⟩ ?_
  refine WP_ret ?_
  refine ret1 Try.results69 rfl ?_
  exact ⟨_, rfl, (e1.trans e2), rfl⟩
theorem sorted_c {w : World} {u : Value} {l : Env} (hs : SlB w u l) (hl : l.length ≤ 1000000000) (ha : Asc l) :
    Calls Try.prog 68 #[u, .func (.func 69) #[] #[]] w (Ret w fun v _ => v = .bool true) := by
 refine enter (args := [u, _]) Try.func68 rfl Try.ntmps68 rfl ?_
 refine WP_seq ?_
 refine WP_region ?_
 refine O_assign rfl rfl rfl ?_
 refine WL_end [(0, _), (1, _)] ⟨rfl, rfl, trivial⟩ ?_
 refine WP_seq ?_
 refine WP_seq ?_
 refine WP_region ?_
 refine O_move rfl rfl rfl ?_
 refine B_len Ebind rfl rfl rfl hs ?_
 refine O_sub (r := ((l.length : Int) - 1)) rfl rfl rfl rfl (by rw [IntKind.wrap_i64]; omega) ?_
 refine O_assign rfl rfl rfl ?_
 refine WL_end [(0, _), (1, _), (5, _)] ⟨rfl, rfl, rfl, trivial⟩ ?_
 refine WP_block ?_
 refine WP_loop (S := Nat) (fun i => [(0, u), (1, .func (.func 69) #[] #[]), (5, .int .i64 ((i : Int) - 1))]) (fun i w' => Ext w w' ∧ i ≤ l.length) (fun i => i) l.length ⟨rfl, rfl, rfl, trivial⟩ ⟨Ext.refl _, Nat.le_refl _⟩ ?_
 rintro i w9 ⟨hE, hi⟩
 have zE := hE.size
 refine WP_seq ?_
 refine WP_seq ?_
 refine WP_region ?_
 refine O_move rfl rfl rfl ?_
 refine O_gtr rfl rfl rfl rfl rfl ?_
 refine WL_end [(0, _), (1, _), (5, _), (10, _)] ⟨rfl, rfl, rfl, rfl, trivial⟩ ?_
 refine WP_condD rfl (fun c10 => ?_) (fun c10 => ?_)
 · --
  refine WP_skip ?_
  refine WP_seq ?_
  refine WP_block ?_
  refine WP_seq ?_
  have hl1 : i - 1 < l.length := by omega
  have hl2 : i - 2 < l.length := by omega
  · --
   skip
   refine WP_sub [(0, _), (1, _), (5, _)] ⟨rfl, rfl, rfl, trivial⟩ ?_
   refine WP_anyR 10 [0, 1, 5] mixed rfl (by kernel_rfl) ?_
   apply AnyR_val [1] rfl (by kernel_rfl)
   · --
    intro y1 hy1
    have zy1 := hy1.size
    refine AllV_nil ?_
    refine O_move rfl rfl rfl ?_
    exact WL_nil ⟨(Ext.refl _), rfl⟩
   apply AnyR_val [0] rfl (by kernel_rfl)
   · --
    intro y2 hy2
    have zy2 := hy2.size
    refine AllV_nil ?_
    refine O_move rfl rfl rfl ?_
    exact WL_nil ⟨(Ext.refl _), rfl⟩
   apply AnyR_val [5] rfl (by kernel_rfl)
   · --
    intro y3 hy3
    have zy3 := hy3.size
    refine AllV_nil ?_
    refine O_move rfl rfl rfl ?_
    exact WL_nil ⟨(Ext.refl _), rfl⟩
   apply AnyR_val [14, 15] rfl (by kernel_rfl)
   · --
    intro y4 hy4
    have zy4 := hy4.size
    refine AllV_v ?_
    refine AllV_v ?_
    refine AllV_nil ?_
    refine B_index Ebind rfl rfl rfl rfl (hs.ext (hE.trans hy4)) (i - 1) (by omega) hl1 (fun _ => ?_)
    exact WL_nil ⟨(Ext.refl _), rfl⟩
   apply AnyR_val [16] rfl (by kernel_rfl)
   · --
    intro y5 hy5
    have zy5 := hy5.size
    refine AllV_v ?_
    refine AllV_nil ?_
    refine K_load S54 rfl rfl rfl (SlB.row (j := (i - 1)) (hs.ext (hE.trans hy5)) hl1) rfl ?_
    exact WL_nil ⟨(Ext.refl _), rfl⟩
   apply AnyR_val [0] rfl (by kernel_rfl)
   · --
    intro y6 hy6
    have zy6 := hy6.size
    refine AllV_nil ?_
    refine O_move rfl rfl rfl ?_
    exact WL_nil ⟨(Ext.refl _), rfl⟩
   apply AnyR_val [5] rfl (by kernel_rfl)
   · --
    intro y7 hy7
    have zy7 := hy7.size
    refine AllV_nil ?_
    refine O_move rfl rfl rfl ?_
    exact WL_nil ⟨(Ext.refl _), rfl⟩
   apply AnyR_val [19] rfl (by kernel_rfl)
   · --
    intro y8 hy8
    have zy8 := hy8.size
    refine AllV_v ?_
    refine AllV_nil ?_
    refine O_sub (r := ((i : Int) - 2)) rfl rfl rfl rfl (by rw [IntKind.wrap_i64]; omega) ?_
    exact WL_nil ⟨(Ext.refl _), rfl⟩
   apply AnyR_val [18, 20] rfl (by kernel_rfl)
   · --
    intro y9 hy9
    have zy9 := hy9.size
    refine AllV_v ?_
    refine AllV_v ?_
    refine AllV_nil ?_
    refine B_index Ebind rfl rfl rfl rfl (hs.ext (hE.trans hy9)) (i - 2) (by omega) hl2 (fun _ => ?_)
    exact WL_nil ⟨(Ext.refl _), rfl⟩
   apply AnyR_val [21] rfl (by kernel_rfl)
   · --
    intro y10 hy10
    have zy10 := hy10.size
    refine AllV_v ?_
    refine AllV_nil ?_
    refine K_load S54 rfl rfl rfl (SlB.row (j := (i - 2)) (hs.ext (hE.trans hy10)) hl2) rfl ?_
    exact WL_nil ⟨(Ext.refl _), rfl⟩
   refine AnyR_nil fun y11 hy11 => ?_
   have zy11 := hy11.size
   refine AllV_v ?_
   refine AllV_v ?_
   refine AllV_v ?_
   refine AllV_v ?_
   refine AllV_v ?_
   refine AllV_v ?_
   refine AllV_v ?_
   refine AllV_v ?_
   refine AllV_v ?_
   refine AllV_v ?_
   refine AllV_nil ?_
   refine O_callC enters69 rfl rfl rfl rfl (bal1_c (a := l[i - 1]'(by omega)) (b := l[i - 2]'(by omega)) (nlt_asymm (by have h := asc_get (i := i - 2) ha (by omega); simp only [show i - 2 + 1 = i - 1 from by omega] at h; exact h))) (fun v23 w23 e23 h23 => ?_)
   obtain rfl := h23
   have z23 := e23.size
   refine O_lss (t := false) rfl rfl rfl rfl (decide_eq_false (by decide)) ?_
   refine WL_end [(0, _), (1, _), (5, _), (24, _)] ⟨rfl, rfl, rfl, rfl, trivial⟩ ?_
   refine WP_condF rfl ?_
   refine WP_skip ?_
   refine WP_region ?_
   refine O_move rfl rfl rfl ?_
   refine O_sub (r := ((i : Int) - 2)) rfl rfl rfl rfl (by rw [IntKind.wrap_i64]; omega) ?_
   refine O_assign rfl rfl rfl ?_
   refine WL_end [(0, _), (1, _), (5, _)] ⟨rfl, rfl, rfl, trivial⟩ ?_
   exact ⟨i - 1, ⟨rfl, rfl, (by simp only [look]; congr 2; omega), trivial⟩, ⟨((hE.trans hy11).trans e23), by omega⟩, by omega⟩
 · --
  refine WP_exit ?_
  refine inBlk_hit ?_
  refine WP_seq ?_
  refine WP_region ?_
  refine O_assign rfl rfl rfl ?_
  refine WL_end [(4, _)] ⟨rfl, trivial⟩ ?_
  refine WP_ret ?_
  refine ret1 Try.results68 rfl ?_
  exact ⟨_, rfl, hE, rfl⟩
theorem Balanced_c {w : World} {g r : Nat} {ps : List Part} (hF : Fo w g r ps) {i : Int} {t : Tr} (hR : Rep ps i t) (ho : t.Ord) (hA : t.Avl) (hc : t.cnt ≤ 10000000) :
    Calls Try.prog 34 #[.pointer (some ⟨g, 0, none⟩), .int .i64 i] w (Ret w fun v _ => v = .bool true) := by
 refine enter (args := [_, _]) Try.func34 rfl Try.ntmps34 rfl ?_
 refine WP_seq ?_
 refine WP_region ?_
 refine O_assign rfl rfl rfl ?_
 refine WL_end [(0, _), (1, _)] ⟨rfl, rfl, trivial⟩ ?_
 refine WP_seq ?_
 refine WP_region ?_
 refine O_move rfl rfl rfl ?_
 refine O_move rfl rfl rfl ?_
 refine O_call enters20 rfl rfl rfl (List_c hF hR hc) (fun v1 w1 e1 h1 => ?_)
 have z1 := e1.size
 refine O_call enters68 rfl rfl rfl (sorted_c h1.sl (by rw [Tr.env_length]; omega) ho) (fun v2 w2 e2 h2 => ?_)
 have z2 := e2.size
 obtain rfl := h2
 refine O_assign rfl rfl rfl ?_
 refine WL_end [(0, _), (1, _), (5, _)] ⟨rfl, rfl, rfl, trivial⟩ ?_
 refine WP_seq ?_
 refine WP_region ?_
 refine O_move rfl rfl rfl ?_
 refine O_move rfl rfl rfl ?_
 refine O_move rfl rfl rfl ?_
 refine O_move rfl rfl rfl ?_
 refine O_call enters70 rfl rfl rfl (even_c t (hF.ext (e1.trans e2)) hR hA hc) (fun v3 w3 e3 h3 => ?_)
 have z3 := e3.size
 obtain rfl := h3
 refine O_pickT rfl rfl rfl rfl ?_
 refine O_assign rfl rfl rfl ?_
 refine WL_end [(4, _)] ⟨rfl, trivial⟩ ?_
 refine WP_ret ?_
 refine ret1 Try.results34 rfl ?_
 exact ⟨_, rfl, ((e1.trans e2).trans e3), rfl⟩

end Go.Proofs.Ytoccimigjjndpaa

