/-
  Walks.
-/
import Derived.Test.YtoccimigjjndpaaT8
import Derived.Test.YtoccimigjjndpaaSlm
set_option linter.unusedVariables false
set_option linter.unusedSimpArgs false
set_option maxRecDepth 100000
namespace Go.Proofs.Ytoccimigjjndpaa
open Go Go.RowKit
theorem M22 : ElT Try.prog 22 3 (.int .i64 0) 8 := ElT.mk' Try.underlying22 (by kernel_rfl)
theorem M30 : ElT Try.prog 30 34 (.slice none 0 0) 24 := ElT.mk' Try.underlying30 (by kernel_rfl)
theorem M52 : ElT Try.prog 52 9 (.string ByteArray.empty) 16 := ElT.mk' Try.underlying52 (by kernel_rfl)
theorem M93 : ElT Try.prog 93 5 (.int .u8 0) 1 := ElT.mk' Try.underlying93 (by kernel_rfl)
theorem M121 : ElT Try.prog 121 52 (.slice none 0 0) 24 := ElT.mk' Try.underlying121 (by kernel_rfl)
theorem M88 : ElT Try.prog 88 66 (.slice none 0 0) 24 := ElT.mk' Try.underlying88 (by kernel_rfl)
theorem Z3 : (Try.prog.info? 3).bind (·.zero) = some (.int .i64 0) := by kernel_rfl
theorem Z4 : (Try.prog.info? 4).bind (·.zero) = some (.bool false) := by kernel_rfl
theorem Z9 : (Try.prog.info? 9).bind (·.zero) = some (.string ByteArray.empty) := by kernel_rfl
theorem Z22 : (Try.prog.info? 22).bind (·.zero) = some (.slice none 0 0) := by kernel_rfl
theorem Z34 : (Try.prog.info? 34).bind (·.zero) = some (.slice none 0 0) := by kernel_rfl
theorem Z52 : (Try.prog.info? 52).bind (·.zero) = some (.slice none 0 0) := by kernel_rfl
theorem Z66 : (Try.prog.info? 66).bind (·.zero) = some (.slice none 0 0) := by kernel_rfl
theorem Z30 : (Try.prog.info? 30).bind (·.zero) = some (.slice none 0 0) := by kernel_rfl

theorem list1_c {w0 w : World} {o : Nat} {l : Env} {b : Bd} (hE : Ext w0 w) (ho : w0.heap.size ≤ o) (hL : LO w0.heap.size w o l) (hl : l.length ≤ 100000000) :
    Calls Try.prog 61 #[.agg #[.string b.1, .int .i64 b.2], .pointer (some ⟨o, 0, none⟩)] w (RLO w0 w o (l ++ [b])) := by
 obtain ⟨v, hB, hO⟩ := hL
 have zE := hE.size
 have hol := hB.lt
 refine enter (args := [_, _]) Try.func61 rfl Try.ntmps61 rfl ?_
 refine WP_seq ?_
 refine WP_region ?_
 refine O_box _ rfl rfl rfl rfl (fun g1 w1 b1 e1 gl1 gh1 => ?_)
 have z1 := e1.size
 refine WL_end [(1, _), (2, _)] ⟨rfl, rfl, trivial⟩ ?_
 refine WP_region ?_
 refine O_loadC Try.underlying34 rfl rfl rfl rfl (hB.ext e1) rfl ?_
 refine O_loadA (vs := [_, _]) S54 rfl rfl rfl b1 rfl rfl ?_
 refine B_lit1 (b := b) Ebind rfl rfl rfl (fun v2 w2 o2 e2 => ?_)
 have z2 := e2.size
 refine B_append Ebind rfl rfl rfl rfl ((hO.ext e1).ext e2) o2.sl (by simp only [List.length_singleton]; omega) rfl (by omega) (fun v3 w3 o3 r3 k3 => ?_)
 have e3 : Ext w0 w3 := ((hO.ext e1).ext e2).ext_grown r3 ((hE.trans e1).trans e2) (by omega)
 have z3 := r3.size
 have x3 := OwB.grownT ((hO.ext e1).ext e2) r3
 refine O_storeC (cs' := [_]) one34 rfl rfl rfl (o3).one (((hB.ext e1).ext e2).extT x3 (by decide)) rfl rfl (fun w4 b4 q4 => ?_)
 have z4 := Nat.le_of_eq q4.size.symm
 have e4 : Ext w0 w4 := q4.ext e3 (by omega)
 refine WL_end [] trivial ?_
 refine ret0 Try.results61 ?_
 exact ⟨rfl, e4, (show ExtT LTY _ _ from (by first | exact ExtT.trans (ExtT.trans (ExtT.trans (Ext.toT e1) (Ext.toT e2)) (x3.mono (by decide))) ((Chg.toT q4 (((hB.ext e1).ext e2).extT x3 (by decide))).mono (by decide)) | exact ExtT.chgNew (ExtT.trans (ExtT.trans (Ext.toT e1) (Ext.toT e2)) (x3.mono (by decide))) q4 (by omega))), _, b4, (o3.extT (Chg.toT q4 (((hB.ext e1).ext e2).extT x3 (by decide))) (by decide))⟩
theorem walk_leaf {w0 : World} {g r o : Nat} {ps : List Part} (hF : Fo w0 g r ps) (ho : w0.heap.size ≤ o) {w : World} {i : Int} {l : Env} (hE : Ext w0 w) (hL : LO w0.heap.size w o l) (hR : Rep ps i .leaf) :
    Calls Try.prog 60 #[.pointer (some ⟨g, 0, none⟩), .int .i64 i, .func (.func 61) #[] #[.pointer (some ⟨o, 0, none⟩)]] w (RLO w0 w o (l ++ Tr.leaf.env)) := by
 have zE := hE.size
 refine enter (args := [_, _, _]) Try.func60 rfl Try.ntmps60 rfl ?_
 refine WP_seq ?_
 refine WP_seq ?_
 refine WP_region ?_
 refine O_move rfl rfl rfl ?_
 refine O_move rfl rfl rfl ?_
 refine O_call enters67 rfl rfl rfl (empty_T (hF.ext hE) hR rfl) (fun v1 w1 e1 h1 => ?_)
 have z1 := e1.size
 obtain rfl := h1
 refine WL_end [(0, _), (1, _), (2, _), (9, _)] ⟨rfl, rfl, rfl, rfl, trivial⟩ ?_
 refine WP_condT rfl ?_
 refine WP_ret ?_
 refine ret0 Try.results60 ?_
 exact ⟨rfl, (hE.trans e1), (show ExtT LTY _ _ from (Ext.toT e1)), by simpa [Tr.env] using (hL.ext e1)⟩
theorem walk_node {w0 : World} {g r o : Nat} {ps : List Part} (hF : Fo w0 g r ps) (ho : w0.heap.size ≤ o) {tl tr : Tr} {kk : ByteArray} {vv : Int} (ihl : ∀ {w : World} {i : Int} {l : Env}, Ext w0 w → LO w0.heap.size w o l → Rep ps i tl → l.length + tl.cnt ≤ 100000000 → Calls Try.prog 60 #[.pointer (some ⟨g, 0, none⟩), .int .i64 i, .func (.func 61) #[] #[.pointer (some ⟨o, 0, none⟩)]] w (RLO w0 w o (l ++ tl.env))) (ihr : ∀ {w : World} {i : Int} {l : Env}, Ext w0 w → LO w0.heap.size w o l → Rep ps i tr → l.length + tr.cnt ≤ 100000000 → Calls Try.prog 60 #[.pointer (some ⟨g, 0, none⟩), .int .i64 i, .func (.func 61) #[] #[.pointer (some ⟨o, 0, none⟩)]] w (RLO w0 w o (l ++ tr.env))) {w : World} {i : Int} {l : Env} (hE : Ext w0 w) (hL : LO w0.heap.size w o l) (hR : Rep ps i (.node tl kk vv tr)) (hc : l.length + (Tr.node tl kk vv tr).cnt ≤ 100000000) :
    Calls Try.prog 60 #[.pointer (some ⟨g, 0, none⟩), .int .i64 i, .func (.func 61) #[] #[.pointer (some ⟨o, 0, none⟩)]] w (RLO w0 w o (l ++ (Tr.node tl kk vv tr).env)) := by
 have zE := hE.size
 have hM : (Tr.node tl kk vv tr).cnt = tl.cnt + tr.cnt + 1 := rfl
 refine enter (args := [_, _, _]) Try.func60 rfl Try.ntmps60 rfl ?_
 refine WP_seq ?_
 refine WP_seq ?_
 refine WP_region ?_
 refine O_move rfl rfl rfl ?_
 refine O_move rfl rfl rfl ?_
 refine O_call enters67 rfl rfl rfl (empty_F (hF.ext hE) hR (by simp [Tr.ht])) (fun v1 w1 e1 h1 => ?_)
 have z1 := e1.size
 obtain rfl := h1
 refine WL_end [(0, _), (1, _), (2, _), (9, _)] ⟨rfl, rfl, rfl, rfl, trivial⟩ ?_
 refine WP_condF rfl ?_
 refine WP_skip ?_
 refine WP_seq ?_
 refine WP_region ?_
 refine O_move rfl rfl rfl ?_
 refine O_move rfl rfl rfl ?_
 refine O_call enters62 rfl rfl rfl (getT_c (hF.ext (hE.trans e1)) hR) (fun v2 w2 e2 h2 => ?_)
 have z2 := e2.size
 try simp only [val_dig] at h2
 obtain ⟨a2, b2, rfl, ha2, hb2⟩ := h2
 replace ha2 : Rep ps a2 tl := ha2
 replace hb2 : Rep ps b2 tr := hb2
 refine O_alloc S97 rfl rfl (fun g3 w3 b3 e3 gl3 gh3 => ?_)
 have z3 := e3.size
 refine O_storeA (cs' := [_, _, _, _, _, _]) S97 rfl rfl rfl b3 rfl rfl (one_cons rfl (one_cons rfl (one_cons rfl (one_cons rfl (one_cons rfl (one_cons rfl one_nil)))))) rfl (fun w4 b4 q4 => ?_)
 have z4 := Nat.le_of_eq q4.size.symm
 have e4 : Ext w0 w4 := q4.ext (((hE.trans e1).trans e2).trans e3) (by omega)
 refine WL_end [(0, _), (2, _), (6, _)] ⟨rfl, rfl, rfl, trivial⟩ ?_
 refine WP_seq ?_
 refine WP_region ?_
 refine O_move rfl rfl rfl ?_
 refine O_field F97_1 rfl rfl rfl ?_
 refine O_loadC Try.underlying3 rfl rfl rfl rfl b4 rfl ?_
 refine O_move rfl rfl rfl ?_
 refine O_callL enters60 rfl rfl rfl (ihl e4 ((((hL.ext e1).ext e2).ext e3).extT (Chg.toT q4 b3) (by decide)) ha2 (by (try simp only [List.length_append, List.length_singleton, Tr.env_length]); omega)) (fun w5 hE5 hT5 hL5 => ?_)
 have zE5 := hE5.size
 have zT5 := hT5.size
 refine WL_end [(0, _), (2, _), (6, _)] ⟨rfl, rfl, rfl, trivial⟩ ?_
 refine WP_seq ?_
 refine WP_region ?_
 refine O_move rfl rfl rfl ?_
 refine O_field F97_0 rfl rfl rfl ?_
 refine O_loadA (vs := [_, _]) S54 rfl rfl rfl (b4.extT hT5 (by decide)) rfl rfl ?_
 refine O_callLV enters61 rfl rfl rfl rfl (list1_c (b := (kk, vv)) hE5 ho hL5 (by (try simp only [List.length_append, List.length_singleton, Tr.env_length]); omega)) (fun w6 hE6 hT6 hL6 => ?_)
 have zE6 := hE6.size
 have zT6 := hT6.size
 refine WL_end [(0, _), (2, _), (6, _)] ⟨rfl, rfl, rfl, trivial⟩ ?_
 refine WP_region ?_
 refine O_move rfl rfl rfl ?_
 refine O_field F97_2 rfl rfl rfl ?_
 refine O_loadC Try.underlying3 rfl rfl rfl rfl ((b4.extT hT5 (by decide)).extT hT6 (by decide)) rfl ?_
 refine O_move rfl rfl rfl ?_
 refine O_callL enters60 rfl rfl rfl (ihr hE6 hL6 hb2 (by (try simp only [List.length_append, List.length_singleton, Tr.env_length]); omega)) (fun w7 hE7 hT7 hL7 => ?_)
 have zE7 := hE7.size
 have zT7 := hT7.size
 refine WL_end [] trivial ?_
 refine ret0 Try.results60 ?_
 refine ⟨rfl, hE7, (show ExtT LTY _ _ from (ExtT.trans (ExtT.trans (ExtT.trans (by first | exact ExtT.trans (ExtT.trans (ExtT.trans (Ext.toT e1) (Ext.toT e2)) (Ext.toT e3)) ((Chg.toT q4 b3).mono (by decide)) | exact ExtT.chgNew (ExtT.trans (ExtT.trans (Ext.toT e1) (Ext.toT e2)) (Ext.toT e3)) q4 (by omega)) (hT5.mono (by decide))) (hT6.mono (by decide))) (hT7.mono (by decide)))), ?_⟩
 have hq := hL7
 simpa [Tr.env] using hq

theorem walk_c {w0 : World} {g r o : Nat} {ps : List Part} (hF : Fo w0 g r ps) (ho : w0.heap.size ≤ o) : ∀ (t : Tr), ∀ {w : World} {i : Int} {l : Env}, Ext w0 w → LO w0.heap.size w o l → Rep ps i t → l.length + t.cnt ≤ 100000000 → Calls Try.prog 60 #[.pointer (some ⟨g, 0, none⟩), .int .i64 i, .func (.func 61) #[] #[.pointer (some ⟨o, 0, none⟩)]] w (RLO w0 w o (l ++ t.env)) := by
  intro t
  induction t with
  | leaf => intro w i l hE hL hR hc; exact walk_leaf hF ho hE hL hR
  | node tl kk vv tr ihl ihr => intro w i l hE hL hR hc; exact walk_node hF ho ihl ihr hE hL hR hc
theorem List_c {w : World} {g r : Nat} {ps : List Part} (hF : Fo w g r ps) {i : Int} {t : Tr} (hR : Rep ps i t) (hc : t.cnt ≤ 10000000) :
    Calls Try.prog 20 #[.pointer (some ⟨g, 0, none⟩), .int .i64 i] w (Ret w fun r w' => OwB w.heap.size w' r t.env) := by
 refine enter (args := [_, _]) Try.func20 rfl Try.ntmps20 rfl ?_
 refine WP_seq ?_
 refine WP_region ?_
 refine O_assign rfl rfl rfl ?_
 refine WL_end [(0, _), (1, _)] ⟨rfl, rfl, trivial⟩ ?_
 refine WP_seq ?_
 refine WP_region ?_
 refine O_alloc1 Z34 rfl rfl rfl (fun g1 w1 b1 e1 gl1 gh1 => ?_)
 have z1 := e1.size
 refine WL_end [(0, _), (1, _), (5, _)] ⟨rfl, rfl, rfl, trivial⟩ ?_
 refine WP_seq ?_
 refine WP_region ?_
 refine O_move rfl rfl rfl ?_
 refine O_move rfl rfl rfl ?_
 refine O_makeFunc rfl rfl rfl ?_
 have hL0 : LO w.heap.size w1 g1 [] := ⟨_, b1, OwB.nil _ _⟩
 refine O_callL enters60 rfl rfl rfl (walk_c (o := g1) hF (by omega) t e1 hL0 hR (by simp only [List.length_nil]; omega)) (fun w2 hE2 hT2 hL2 => ?_)
 obtain ⟨v2, hb2, ho2⟩ := hL2
 rw [List.nil_append] at ho2
 refine WL_end [(5, _)] ⟨rfl, trivial⟩ ?_
 refine WP_seq ?_
 refine WP_region ?_
 refine O_loadC Try.underlying34 rfl rfl rfl rfl hb2 rfl ?_
 refine O_assign rfl rfl rfl ?_
 refine WL_end [(4, _)] ⟨rfl, trivial⟩ ?_
 refine WP_ret ?_
 refine ret1 Try.results20 rfl ?_
 exact ⟨_, rfl, hE2, ho2⟩

end Go.Proofs.Ytoccimigjjndpaa
