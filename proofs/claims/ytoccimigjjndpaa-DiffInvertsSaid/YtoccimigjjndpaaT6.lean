/-
  Walks.
-/
import Derived.Test.YtoccimigjjndpaaT3
set_option linter.unusedVariables false
set_option linter.unusedSimpArgs false
set_option maxRecDepth 100000
namespace Go.Proofs.Ytoccimigjjndpaa
open Go Go.RowKit
theorem set_leaf {w : World} {g r : Nat} {ps : List Part} (hF : Fo w g r ps) {k : ByteArray} {v i : Int} (hR : Rep ps i .leaf) (hb : ps.length + 4 ≤ 100000000) :
    Calls Try.prog 63 #[.pointer (some ⟨g, 0, none⟩), .int .i64 i, .agg #[.string k, .int .i64 v]] w (FRet g r ps (.node .leaf k v .leaf) 1 w) := by
 have hgl := hF.g_lt
 have hrl := hF.r_lt
 refine enter (args := [_, _, _]) Try.func63 rfl Try.ntmps63 rfl ?_
 refine WP_seq ?_
 refine WP_region ?_
 refine O_box _ rfl rfl rfl rfl (fun g1 w1 b1 e1 gl1 gh1 => ?_)
 have z1 := e1.size
 refine O_assign rfl rfl rfl ?_
 refine WL_end [(0, _), (1, _), (5, _)] ⟨rfl, rfl, rfl, trivial⟩ ?_
 refine WP_seq ?_
 refine WP_region ?_
 refine O_move rfl rfl rfl ?_
 refine O_move rfl rfl rfl ?_
 refine O_call enters62 rfl rfl rfl (getT_c (hF.ext e1) hR) (fun v2 w2 e2 h2 => ?_)
 have z2 := e2.size
 try simp only [val_dig] at h2
 obtain ⟨a2, b2, rfl, ha2, hb2⟩ := h2
 refine O_alloc S97 rfl rfl (fun g3 w3 b3 e3 gl3 gh3 => ?_)
 have z3 := e3.size
 refine O_storeA (cs' := [_, _, _, _, _, _]) S97 rfl rfl rfl b3 rfl rfl (one_cons rfl (one_cons rfl (one_cons rfl (one_cons rfl (one_cons rfl (one_cons rfl one_nil)))))) rfl (fun w4 b4 q4 => ?_)
 have z4 := Nat.le_of_eq q4.size.symm
 have e4 : Ext w w4 := q4.ext ((e1.trans e2).trans e3) (by omega)
 refine WL_end [(0, _), (1, _), (5, _), (7, _)] ⟨rfl, rfl, rfl, rfl, trivial⟩ ?_
 refine WP_seq ?_
 refine WP_block ?_
 refine WP_seq ?_
 refine WP_region ?_
 refine O_move rfl rfl rfl ?_
 refine O_move rfl rfl rfl ?_
 refine O_call enters67 rfl rfl rfl (empty_T (hF.ext e4) hR rfl) (fun v5 w5 e5 h5 => ?_)
 have z5 := e5.size
 obtain rfl := h5
 refine O_assign rfl rfl rfl ?_
 refine WL_end [(0, _), (5, _), (7, _), (11, _)] ⟨rfl, rfl, rfl, rfl, trivial⟩ ?_
 refine WP_condT rfl ?_
 refine WP_seq ?_
 refine WP_region ?_
 refine O_move rfl rfl rfl ?_
 refine O_loadA (vs := [_, _]) S54 rfl rfl rfl ((((b1.ext e2).ext e3).chg q4 (by first | assumption | omega)).ext e5) rfl rfl ?_
 refine O_callF enters87 rfl rfl rfl (join_c (hF.ext (e4.trans e5)) (tl := .leaf) (tr := .leaf) rfl rfl (by (try simp only [List.length_append]); omega) (by decide)) (fun r9 qs9 i9 w9 hst9 hF9 hq9 hR9 => ?_)
 refine O_assign rfl rfl rfl ?_
 refine WL_end [(6, _)] ⟨rfl, trivial⟩ ?_
 refine WP_ret ?_
 refine inBlk_ret ?_
 refine ret1 Try.results63 rfl ?_
 exact FRet.then (N1 := 0) (qs := []) (FStep.of_ext (e4.trans e5)) (Nat.zero_le _) hst9 (by rw [List.append_nil]; exact hF9) hq9 (by rw [List.append_nil]; exact hR9) (by decide)
set_option maxHeartbeats 2000000 in
theorem set_node {k kk : ByteArray} {v vv : Int} {tl tr : Tr} (ihl : ∀ {w : World} {g r : Nat} {ps : List Part} {i : Int}, Fo w g r ps → Rep ps i tl → ps.length + 3 * tl.ht + 4 ≤ 100000000 → tl.cnt ≤ 10000000 → Calls Try.prog 63 #[.pointer (some ⟨g, 0, none⟩), .int .i64 i, .agg #[.string k, .int .i64 v]] w (FRet g r ps (tl.set k v) (3 * tl.ht + 1) w)) (ihr : ∀ {w : World} {g r : Nat} {ps : List Part} {i : Int}, Fo w g r ps → Rep ps i tr → ps.length + 3 * tr.ht + 4 ≤ 100000000 → tr.cnt ≤ 10000000 → Calls Try.prog 63 #[.pointer (some ⟨g, 0, none⟩), .int .i64 i, .agg #[.string k, .int .i64 v]] w (FRet g r ps (tr.set k v) (3 * tr.ht + 1) w)) {w : World} {g r : Nat} {ps : List Part} (hF : Fo w g r ps) {i : Int} (hR : Rep ps i (.node tl kk vv tr)) (hb : ps.length + 3 * (Tr.node tl kk vv tr).ht + 4 ≤ 100000000) (hc : (Tr.node tl kk vv tr).cnt ≤ 10000000) :
    Calls Try.prog 63 #[.pointer (some ⟨g, 0, none⟩), .int .i64 i, .agg #[.string k, .int .i64 v]] w (FRet g r ps ((Tr.node tl kk vv tr).set k v) (3 * (Tr.node tl kk vv tr).ht + 1) w) := by
 have hgl := hF.g_lt
 have hrl := hF.r_lt
 have hh1 := tl.ht_le
 have hh2 := tr.ht_le
 have hN : (Tr.node tl kk vv tr).ht = max tl.ht tr.ht + 1 := rfl
 have hM : (Tr.node tl kk vv tr).cnt = tl.cnt + tr.cnt + 1 := rfl
 refine enter (args := [_, _, _]) Try.func63 rfl Try.ntmps63 rfl ?_
 refine WP_seq ?_
 refine WP_region ?_
 refine O_box _ rfl rfl rfl rfl (fun g1 w1 b1 e1 gl1 gh1 => ?_)
 have z1 := e1.size
 refine O_assign rfl rfl rfl ?_
 refine WL_end [(0, _), (1, _), (5, _)] ⟨rfl, rfl, rfl, trivial⟩ ?_
 refine WP_seq ?_
 refine WP_region ?_
 refine O_move rfl rfl rfl ?_
 refine O_move rfl rfl rfl ?_
 refine O_call enters62 rfl rfl rfl (getT_c (hF.ext e1) hR) (fun v2 w2 e2 h2 => ?_)
 have z2 := e2.size
 try simp only [val_dig] at h2
 obtain ⟨a2, b2, rfl, ha2, hb2⟩ := h2
 replace ha2 : Rep ps a2 tl := ha2
 replace hb2 : Rep ps b2 tr := hb2
 refine O_alloc S97 rfl rfl (fun g3 w3 b3 e3 gl3 gh3 => ?_)
 have z3 := e3.size
 refine O_storeA (cs' := [_, _, _, _, _, _]) S97 rfl rfl rfl b3 rfl rfl (one_cons rfl (one_cons rfl (one_cons rfl (one_cons rfl (one_cons rfl (one_cons rfl one_nil)))))) rfl (fun w4 b4 q4 => ?_)
 have z4 := Nat.le_of_eq q4.size.symm
 have e4 : Ext w w4 := q4.ext ((e1.trans e2).trans e3) (by omega)
 refine WL_end [(0, _), (1, _), (5, _), (7, _)] ⟨rfl, rfl, rfl, rfl, trivial⟩ ?_
 refine WP_seq ?_
 refine WP_block ?_
 refine WP_seq ?_
 refine WP_region ?_
 refine O_move rfl rfl rfl ?_
 refine O_move rfl rfl rfl ?_
 refine O_call enters67 rfl rfl rfl (empty_F (hF.ext e4) hR (by rw [hN]; omega)) (fun v5 w5 e5 h5 => ?_)
 have z5 := e5.size
 obtain rfl := h5
 refine O_assign rfl rfl rfl ?_
 refine WL_end [(0, _), (5, _), (7, _), (11, _)] ⟨rfl, rfl, rfl, rfl, trivial⟩ ?_
 refine WP_condF rfl ?_
 refine WP_seq ?_
 refine WP_region ?_
 refine O_field F54_0 rfl rfl rfl ?_
 refine O_loadC Try.underlying9 rfl rfl rfl rfl ((((b1.ext e2).ext e3).chg q4 (by first | assumption | omega)).ext e5) rfl ?_
 refine O_field F97_0 rfl rfl rfl ?_
 refine O_field F54_0 rfl rfl rfl ?_
 refine O_loadC Try.underlying9 rfl rfl rfl rfl (b4.ext e5) rfl ?_
 refine O_slss rfl rfl rfl rfl ?_
 refine O_assign rfl rfl rfl ?_
 refine WL_end [(0, _), (5, _), (7, _), (18, _)] ⟨rfl, rfl, rfl, rfl, trivial⟩ ?_
 refine WP_cond rfl (fun c18 => ?_) (fun c18 => ?_)
 · --
  refine WP_seq ?_
  have hFW := (hF.ext (e4.trans e5))
  have kg1 := ((((b1.ext e2).ext e3).chg q4 (by first | assumption | omega)).ext e5)
  have kg3 := (b4.ext e5)
  refine WP_sub [(0, _), (5, _), (7, _)] ⟨rfl, rfl, rfl, trivial⟩ ?_
  refine WP_anyE (FX w5 g r ps (3 * tl.ht + 1) [tl.set k v]) (fun w' => ExtP (FM g r) w5 w') 10 [0, 5, 7] [7] [32] mixed rfl (by kernel_rfl) (by kernel_rfl) (fun vs w' h => h.ext) (fun w' h => FX.start hFW h) ?_
  apply AnyE_val [0] rfl rfl rfl
  · --
   intro y6_ hy
   refine O_move rfl rfl rfl ?_
   exact WL_nil ⟨rfl, rfl⟩
  apply AnyE_val [7] rfl rfl rfl
  · --
   intro y6_ hy
   refine O_field F97_0 rfl rfl rfl ?_
   exact WL_nil ⟨rfl, rfl⟩
  apply AnyE_val [26] rfl rfl rfl
  · --
   intro y6_ hy
   refine O_loadA (vs := [_, _]) S54 rfl rfl rfl (kg3.extP hy (by rintro (h | h) <;> omega)) rfl rfl ?_
   exact WL_nil ⟨rfl, rfl⟩
  apply AnyE_val [0] rfl rfl rfl
  · --
   intro y6_ hy
   refine O_move rfl rfl rfl ?_
   exact WL_nil ⟨rfl, rfl⟩
  apply AnyE_val [7] rfl rfl rfl
  · --
   intro y6_ hy
   refine O_field F97_1 rfl rfl rfl ?_
   exact WL_nil ⟨rfl, rfl⟩
  apply AnyE_val [29] rfl rfl rfl
  · --
   intro y6_ hy
   refine O_loadC Try.underlying3 rfl rfl rfl rfl (kg3.extP hy (by rintro (h | h) <;> omega)) rfl ?_
   exact WL_nil ⟨rfl, rfl⟩
  apply AnyE_val [5] rfl rfl rfl
  · --
   intro y6_ hy
   refine O_loadA (vs := [_, _]) S54 rfl rfl rfl (kg1.extP hy (by rintro (h | h) <;> omega)) rfl rfl ?_
   exact WL_nil ⟨rfl, rfl⟩
  apply AnyE_eff 0 [28, 30, 31] rfl rfl rfl
  · --
   intro vs y6_ hl hX
   obtain rfl : vs = [] := List.eq_nil_of_length_eq_zero hl
   obtain ⟨r1, qs, hst, hFo, hRL, hqs⟩ := hX
   have hqs' := hqs
   simp only [List.length_cons, List.length_nil, Nat.zero_add, Nat.mul_one, Nat.one_mul, Nat.mul_zero] at hqs'
   refine O_callF enters63 rfl rfl rfl (ihl hFo (ha2.more) (by (try simp only [List.length_append]); omega) (by (try simp only [List.length_append]); omega)) (fun r2 qs2 i2 w2 hst2 hF2 hq2 hR2 => ?_)
   exact WL_nil ⟨_, rfl, FX.snoc hst hRL hqs hst2 hF2 hq2 hR2 (Nat.le_refl _) rfl rfl⟩
  apply AnyE_val [7] rfl rfl rfl
  · --
   intro y6_ hy
   refine O_field F97_2 rfl rfl rfl ?_
   exact WL_nil ⟨rfl, rfl⟩
  apply AnyE_val [33] rfl rfl rfl
  · --
   intro y6_ hy
   refine O_loadC Try.underlying3 rfl rfl rfl rfl (kg3.extP hy (by rintro (h | h) <;> omega)) rfl ?_
   exact WL_nil ⟨rfl, rfl⟩
  refine AnyE_nil fun vs y6_ hl hX => ?_
  obtain ⟨v1, rfl⟩ := len1 hl
  obtain ⟨r1, qs, hst, hFo, ⟨⟨i1, rfl, hR1⟩, -⟩, hqs⟩ := hX
  simp only [List.length_cons, List.length_nil, Nat.zero_add, Nat.mul_one, Nat.one_mul, Nat.mul_zero] at hqs
  refine O_callF enters88 rfl rfl rfl (balance_c hFo hR1 (hb2.more) (by (try simp only [List.length_append]); omega) (by have h1 := Tr.set_cnt k v tl; have h2 := Tr.set_cnt k v tr; omega)) (fun r9 qs9 i9 w9 hst9 hF9 hq9 hR9 => ?_)
  refine O_assign rfl rfl rfl ?_
  refine WL_end [(6, _)] ⟨rfl, trivial⟩ ?_
  refine WP_ret ?_
  refine inBlk_ret ?_
  refine ret1 Try.results63 rfl ?_
  rw [Tr.set_lt (show nlt k kk = true from c18)]
  exact FRet.then ((FStep.of_ext (e4.trans e5)).trans hst) hqs hst9 hF9 hq9 hR9 (by rw [hN]; omega)
 · --
  refine WP_seq ?_
  refine WP_region ?_
  refine O_field F54_0 rfl rfl rfl ?_
  refine O_loadC Try.underlying9 rfl rfl rfl rfl ((((b1.ext e2).ext e3).chg q4 (by first | assumption | omega)).ext e5) rfl ?_
  refine O_field F97_0 rfl rfl rfl ?_
  refine O_field F54_0 rfl rfl rfl ?_
  refine O_loadC Try.underlying9 rfl rfl rfl rfl (b4.ext e5) rfl ?_
  refine O_sgtr rfl rfl rfl rfl ?_
  refine O_assign rfl rfl rfl ?_
  refine WL_end [(0, _), (5, _), (7, _), (36, _)] ⟨rfl, rfl, rfl, rfl, trivial⟩ ?_
  refine WP_cond rfl (fun c36 => ?_) (fun c36 => ?_)
  · --
   refine WP_seq ?_
   have hFW := (hF.ext (e4.trans e5))
   have kg1 := ((((b1.ext e2).ext e3).chg q4 (by first | assumption | omega)).ext e5)
   have kg3 := (b4.ext e5)
   refine WP_sub [(0, _), (5, _), (7, _)] ⟨rfl, rfl, rfl, trivial⟩ ?_
   refine WP_anyE (FX w5 g r ps (3 * tr.ht + 1) [tr.set k v]) (fun w' => ExtP (FM g r) w5 w') 10 [0, 5, 7] [9] [52] mixed rfl (by kernel_rfl) (by kernel_rfl) (fun vs w' h => h.ext) (fun w' h => FX.start hFW h) ?_
   apply AnyE_val [0] rfl rfl rfl
   · --
    intro y7_ hy
    refine O_move rfl rfl rfl ?_
    exact WL_nil ⟨rfl, rfl⟩
   apply AnyE_val [7] rfl rfl rfl
   · --
    intro y7_ hy
    refine O_field F97_0 rfl rfl rfl ?_
    exact WL_nil ⟨rfl, rfl⟩
   apply AnyE_val [44] rfl rfl rfl
   · --
    intro y7_ hy
    refine O_loadA (vs := [_, _]) S54 rfl rfl rfl (kg3.extP hy (by rintro (h | h) <;> omega)) rfl rfl ?_
    exact WL_nil ⟨rfl, rfl⟩
   apply AnyE_val [7] rfl rfl rfl
   · --
    intro y7_ hy
    refine O_field F97_1 rfl rfl rfl ?_
    exact WL_nil ⟨rfl, rfl⟩
   apply AnyE_val [46] rfl rfl rfl
   · --
    intro y7_ hy
    refine O_loadC Try.underlying3 rfl rfl rfl rfl (kg3.extP hy (by rintro (h | h) <;> omega)) rfl ?_
    exact WL_nil ⟨rfl, rfl⟩
   apply AnyE_val [0] rfl rfl rfl
   · --
    intro y7_ hy
    refine O_move rfl rfl rfl ?_
    exact WL_nil ⟨rfl, rfl⟩
   apply AnyE_val [7] rfl rfl rfl
   · --
    intro y7_ hy
    refine O_field F97_2 rfl rfl rfl ?_
    exact WL_nil ⟨rfl, rfl⟩
   apply AnyE_val [49] rfl rfl rfl
   · --
    intro y7_ hy
    refine O_loadC Try.underlying3 rfl rfl rfl rfl (kg3.extP hy (by rintro (h | h) <;> omega)) rfl ?_
    exact WL_nil ⟨rfl, rfl⟩
   apply AnyE_val [5] rfl rfl rfl
   · --
    intro y7_ hy
    refine O_loadA (vs := [_, _]) S54 rfl rfl rfl (kg1.extP hy (by rintro (h | h) <;> omega)) rfl rfl ?_
    exact WL_nil ⟨rfl, rfl⟩
   apply AnyE_eff 0 [48, 50, 51] rfl rfl rfl
   · --
    intro vs y7_ hl hX
    obtain rfl : vs = [] := List.eq_nil_of_length_eq_zero hl
    obtain ⟨r1, qs, hst, hFo, hRL, hqs⟩ := hX
    have hqs' := hqs
    simp only [List.length_cons, List.length_nil, Nat.zero_add, Nat.mul_one, Nat.one_mul, Nat.mul_zero] at hqs'
    refine O_callF enters63 rfl rfl rfl (ihr hFo (hb2.more) (by (try simp only [List.length_append]); omega) (by (try simp only [List.length_append]); omega)) (fun r2 qs2 i2 w2 hst2 hF2 hq2 hR2 => ?_)
    exact WL_nil ⟨_, rfl, FX.snoc hst hRL hqs hst2 hF2 hq2 hR2 (Nat.le_refl _) rfl rfl⟩
   refine AnyE_nil fun vs y7_ hl hX => ?_
   obtain ⟨v1, rfl⟩ := len1 hl
   obtain ⟨r1, qs, hst, hFo, ⟨⟨i1, rfl, hR1⟩, -⟩, hqs⟩ := hX
   simp only [List.length_cons, List.length_nil, Nat.zero_add, Nat.mul_one, Nat.one_mul, Nat.mul_zero] at hqs
   refine O_callF enters88 rfl rfl rfl (balance_c hFo (ha2.more) hR1 (by (try simp only [List.length_append]); omega) (by have h1 := Tr.set_cnt k v tl; have h2 := Tr.set_cnt k v tr; omega)) (fun r9 qs9 i9 w9 hst9 hF9 hq9 hR9 => ?_)
   refine O_assign rfl rfl rfl ?_
   refine WL_end [(6, _)] ⟨rfl, trivial⟩ ?_
   refine WP_ret ?_
   refine inBlk_ret ?_
   refine ret1 Try.results63 rfl ?_
   rw [Tr.set_gt (show nlt k kk = false from c18) (show nlt kk k = true from c36)]
   exact FRet.then ((FStep.of_ext (e4.trans e5)).trans hst) hqs hst9 hF9 hq9 hR9 (by rw [hN]; omega)
  · --
   refine WP_skip ?_
   refine WP_seq ?_
   refine WP_region ?_
   refine O_move rfl rfl rfl ?_
   refine O_loadA (vs := [_, _]) S54 rfl rfl rfl ((((b1.ext e2).ext e3).chg q4 (by first | assumption | omega)).ext e5) rfl rfl ?_
   refine O_field F97_1 rfl rfl rfl ?_
   refine O_loadC Try.underlying3 rfl rfl rfl rfl (b4.ext e5) rfl ?_
   refine O_field F97_2 rfl rfl rfl ?_
   refine O_loadC Try.underlying3 rfl rfl rfl rfl (b4.ext e5) rfl ?_
   refine O_callF enters87 rfl rfl rfl (join_c (hF.ext (e4.trans e5)) ha2 hb2 (by (try simp only [List.length_append]); omega) (by omega)) (fun r9 qs9 i9 w9 hst9 hF9 hq9 hR9 => ?_)
   refine O_assign rfl rfl rfl ?_
   refine WL_end [(6, _)] ⟨rfl, trivial⟩ ?_
   refine WP_ret ?_
   refine ret1 Try.results63 rfl ?_
   rw [Tr.set_eq (show nlt k kk = false from c18) (show nlt kk k = false from c36)]
   exact FRet.then (N1 := 0) (qs := []) (FStep.of_ext (e4.trans e5)) (Nat.zero_le _) hst9 (by rw [List.append_nil]; exact hF9) hq9 (by rw [List.append_nil]; exact hR9) (by omega)

theorem set_c {k : ByteArray} {v : Int} : ∀ (t : Tr), ∀ {w : World} {g r : Nat} {ps : List Part} {i : Int}, Fo w g r ps → Rep ps i t → ps.length + 3 * t.ht + 4 ≤ 100000000 → t.cnt ≤ 10000000 → Calls Try.prog 63 #[.pointer (some ⟨g, 0, none⟩), .int .i64 i, .agg #[.string k, .int .i64 v]] w (FRet g r ps (t.set k v) (3 * t.ht + 1) w) := by
  intro t
  induction t with
  | leaf => intro w g r ps i hF hR hb hc; exact set_leaf hF hR (by simp only [Tr.ht] at hb; omega)
  | node tl kk vv tr ihl ihr => intro w g r ps i hF hR hb hc; exact set_node ihl ihr hF hR hb hc

end Go.Proofs.Ytoccimigjjndpaa

set_option linter.unusedVariables false
set_option linter.unusedSimpArgs false
set_option maxRecDepth 100000
namespace Go.Proofs.Ytoccimigjjndpaa
open Go Go.RowKit
set_option maxHeartbeats 4000000 in
theorem drop_node {s kk : ByteArray} {vv : Int} {tl tr : Tr} (ihl : ∀ {s : ByteArray} {w : World} {g r : Nat} {ps : List Part} {i : Int}, Fo w g r ps → Rep ps i tl → Tr.Ord tl → Tr.get s tl ≠ none → ps.length + 3 * tl.ht + 4 ≤ 100000000 → tl.cnt ≤ 10000000 → Calls Try.prog 65 #[.pointer (some ⟨g, 0, none⟩), .int .i64 i, .string s] w (FRet g r ps (tl.drop s) (3 * tl.ht) w)) (ihr : ∀ {s : ByteArray} {w : World} {g r : Nat} {ps : List Part} {i : Int}, Fo w g r ps → Rep ps i tr → Tr.Ord tr → Tr.get s tr ≠ none → ps.length + 3 * tr.ht + 4 ≤ 100000000 → tr.cnt ≤ 10000000 → Calls Try.prog 65 #[.pointer (some ⟨g, 0, none⟩), .int .i64 i, .string s] w (FRet g r ps (tr.drop s) (3 * tr.ht) w)) {w : World} {g r : Nat} {ps : List Part} (hF : Fo w g r ps) {i : Int} (hR : Rep ps i (.node tl kk vv tr)) (hord : Tr.Ord (.node tl kk vv tr)) (hget : Tr.get s (.node tl kk vv tr) ≠ none) (hb : ps.length + 3 * (Tr.node tl kk vv tr).ht + 4 ≤ 100000000) (hc : (Tr.node tl kk vv tr).cnt ≤ 10000000) :
    Calls Try.prog 65 #[.pointer (some ⟨g, 0, none⟩), .int .i64 i, .string s] w (FRet g r ps ((Tr.node tl kk vv tr).drop s) (3 * (Tr.node tl kk vv tr).ht) w) := by
 have hgl := hF.g_lt
 have hrl := hF.r_lt
 have hh1 := tl.ht_le
 have hh2 := tr.ht_le
 have hN : (Tr.node tl kk vv tr).ht = max tl.ht tr.ht + 1 := rfl
 have hM : (Tr.node tl kk vv tr).cnt = tl.cnt + tr.cnt + 1 := rfl
 obtain ⟨ho1, ho2, -, -⟩ := Tr.ord_node hord
 refine enter (args := [_, _, _]) Try.func65 rfl Try.ntmps65 rfl ?_
 refine WP_seq ?_
 refine WP_region ?_
 refine O_assign rfl rfl rfl ?_
 refine WL_end [(0, _), (1, _), (2, _)] ⟨rfl, rfl, rfl, trivial⟩ ?_
 refine WP_seq ?_
 refine WP_region ?_
 refine O_move rfl rfl rfl ?_
 refine O_move rfl rfl rfl ?_
 refine O_call enters62 rfl rfl rfl (getT_c hF hR) (fun v1 w1 e1 h1 => ?_)
 have z1 := e1.size
 try simp only [val_dig] at h1
 obtain ⟨a1, b1, rfl, ha1, hb1⟩ := h1
 replace ha1 : Rep ps a1 tl := ha1
 replace hb1 : Rep ps b1 tr := hb1
 refine O_alloc S97 rfl rfl (fun g2 w2 b2 e2 gl2 gh2 => ?_)
 have z2 := e2.size
 refine O_storeA (cs' := [_, _, _, _, _, _]) S97 rfl rfl rfl b2 rfl rfl (one_cons rfl (one_cons rfl (one_cons rfl (one_cons rfl (one_cons rfl (one_cons rfl one_nil)))))) rfl (fun w3 b3 q3 => ?_)
 have z3 := Nat.le_of_eq q3.size.symm
 have e3 : Ext w w3 := q3.ext (e1.trans e2) (by omega)
 refine WL_end [(0, _), (2, _), (7, _)] ⟨rfl, rfl, rfl, trivial⟩ ?_
 refine WP_seq ?_
 refine WP_block ?_
 refine WP_seq ?_
 refine WP_region ?_
 refine O_move rfl rfl rfl ?_
 refine O_field F97_0 rfl rfl rfl ?_
 refine O_field F54_0 rfl rfl rfl ?_
 refine O_loadC Try.underlying9 rfl rfl rfl rfl b3 rfl ?_
 refine O_slss rfl rfl rfl rfl ?_
 refine O_assign rfl rfl rfl ?_
 refine WL_end [(0, _), (2, _), (7, _), (12, _)] ⟨rfl, rfl, rfl, rfl, trivial⟩ ?_
 refine WP_cond rfl (fun c12 => ?_) (fun c12 => ?_)
 · --
  refine WP_seq ?_
  have hFW := (hF.ext e3)
  have kg2 := b3
  refine WP_sub [(0, _), (2, _), (7, _)] ⟨rfl, rfl, rfl, trivial⟩ ?_
  refine WP_anyE (FX w3 g r ps (3 * tl.ht) [tl.drop s]) (fun w' => ExtP (FM g r) w3 w') 10 [0, 2, 7] [7] [25] mixed rfl (by kernel_rfl) (by kernel_rfl) (fun vs w' h => h.ext) (fun w' h => FX.start hFW h) ?_
  apply AnyE_val [0] rfl rfl rfl
  · --
   intro y4_ hy
   refine O_move rfl rfl rfl ?_
   exact WL_nil ⟨rfl, rfl⟩
  apply AnyE_val [7] rfl rfl rfl
  · --
   intro y4_ hy
   refine O_field F97_0 rfl rfl rfl ?_
   exact WL_nil ⟨rfl, rfl⟩
  apply AnyE_val [19] rfl rfl rfl
  · --
   intro y4_ hy
   refine O_loadA (vs := [_, _]) S54 rfl rfl rfl (kg2.extP hy (by rintro (h | h) <;> omega)) rfl rfl ?_
   exact WL_nil ⟨rfl, rfl⟩
  apply AnyE_val [0] rfl rfl rfl
  · --
   intro y4_ hy
   refine O_move rfl rfl rfl ?_
   exact WL_nil ⟨rfl, rfl⟩
  apply AnyE_val [7] rfl rfl rfl
  · --
   intro y4_ hy
   refine O_field F97_1 rfl rfl rfl ?_
   exact WL_nil ⟨rfl, rfl⟩
  apply AnyE_val [22] rfl rfl rfl
  · --
   intro y4_ hy
   refine O_loadC Try.underlying3 rfl rfl rfl rfl (kg2.extP hy (by rintro (h | h) <;> omega)) rfl ?_
   exact WL_nil ⟨rfl, rfl⟩
  apply AnyE_val [2] rfl rfl rfl
  · --
   intro y4_ hy
   refine O_move rfl rfl rfl ?_
   exact WL_nil ⟨rfl, rfl⟩
  apply AnyE_eff 0 [21, 23, 24] rfl rfl rfl
  · --
   intro vs y4_ hl hX
   obtain rfl : vs = [] := List.eq_nil_of_length_eq_zero hl
   obtain ⟨r1, qs, hst, hFo, hRL, hqs⟩ := hX
   have hqs' := hqs
   simp only [List.length_cons, List.length_nil, Nat.zero_add, Nat.mul_one, Nat.one_mul, Nat.mul_zero] at hqs'
   refine O_callF enters65 rfl rfl rfl (ihl hFo (ha1.more) ho1 (by have h := hget; rw [Tr.get_lt (show nlt s kk = true from c12)] at h; exact h) (by (try simp only [List.length_append]); omega) (by (try simp only [List.length_append]); omega)) (fun r2 qs2 i2 w2 hst2 hF2 hq2 hR2 => ?_)
   exact WL_nil ⟨_, rfl, FX.snoc hst hRL hqs hst2 hF2 hq2 hR2 (Nat.le_refl _) rfl rfl⟩
  apply AnyE_val [7] rfl rfl rfl
  · --
   intro y4_ hy
   refine O_field F97_2 rfl rfl rfl ?_
   exact WL_nil ⟨rfl, rfl⟩
  apply AnyE_val [26] rfl rfl rfl
  · --
   intro y4_ hy
   refine O_loadC Try.underlying3 rfl rfl rfl rfl (kg2.extP hy (by rintro (h | h) <;> omega)) rfl ?_
   exact WL_nil ⟨rfl, rfl⟩
  refine AnyE_nil fun vs y4_ hl hX => ?_
  obtain ⟨v1, rfl⟩ := len1 hl
  obtain ⟨r1, qs, hst, hFo, ⟨⟨i1, rfl, hR1⟩, -⟩, hqs⟩ := hX
  simp only [List.length_cons, List.length_nil, Nat.zero_add, Nat.mul_one, Nat.one_mul, Nat.mul_zero] at hqs
  refine O_callF enters88 rfl rfl rfl (balance_c hFo hR1 (hb1.more) (by (try simp only [List.length_append]); omega) (by have h1 := Tr.drop_cnt s tl; have h2 := Tr.drop_cnt s tr; omega)) (fun r9 qs9 i9 w9 hst9 hF9 hq9 hR9 => ?_)
  refine O_assign rfl rfl rfl ?_
  refine WL_end [(6, _)] ⟨rfl, trivial⟩ ?_
  refine WP_ret ?_
  refine inBlk_ret ?_
  refine ret1 Try.results65 rfl ?_
  rw [Tr.drop_lt (show nlt s kk = true from c12)]
  exact FRet.then ((FStep.of_ext e3).trans hst) hqs hst9 hF9 hq9 hR9 (by rw [hN]; omega)
 · --
  refine WP_seq ?_
  refine WP_region ?_
  refine O_move rfl rfl rfl ?_
  refine O_field F97_0 rfl rfl rfl ?_
  refine O_field F54_0 rfl rfl rfl ?_
  refine O_loadC Try.underlying9 rfl rfl rfl rfl b3 rfl ?_
  refine O_sgtr rfl rfl rfl rfl ?_
  refine O_assign rfl rfl rfl ?_
  refine WL_end [(0, _), (2, _), (7, _), (29, _)] ⟨rfl, rfl, rfl, rfl, trivial⟩ ?_
  refine WP_cond rfl (fun c29 => ?_) (fun c29 => ?_)
  · --
   refine WP_seq ?_
   have hFW := (hF.ext e3)
   have kg2 := b3
   refine WP_sub [(0, _), (2, _), (7, _)] ⟨rfl, rfl, rfl, trivial⟩ ?_
   refine WP_anyE (FX w3 g r ps (3 * tr.ht) [tr.drop s]) (fun w' => ExtP (FM g r) w3 w') 10 [0, 2, 7] [9] [44] mixed rfl (by kernel_rfl) (by kernel_rfl) (fun vs w' h => h.ext) (fun w' h => FX.start hFW h) ?_
   apply AnyE_val [0] rfl rfl rfl
   · --
    intro y5_ hy
    refine O_move rfl rfl rfl ?_
    exact WL_nil ⟨rfl, rfl⟩
   apply AnyE_val [7] rfl rfl rfl
   · --
    intro y5_ hy
    refine O_field F97_0 rfl rfl rfl ?_
    exact WL_nil ⟨rfl, rfl⟩
   apply AnyE_val [36] rfl rfl rfl
   · --
    intro y5_ hy
    refine O_loadA (vs := [_, _]) S54 rfl rfl rfl (kg2.extP hy (by rintro (h | h) <;> omega)) rfl rfl ?_
    exact WL_nil ⟨rfl, rfl⟩
   apply AnyE_val [7] rfl rfl rfl
   · --
    intro y5_ hy
    refine O_field F97_1 rfl rfl rfl ?_
    exact WL_nil ⟨rfl, rfl⟩
   apply AnyE_val [38] rfl rfl rfl
   · --
    intro y5_ hy
    refine O_loadC Try.underlying3 rfl rfl rfl rfl (kg2.extP hy (by rintro (h | h) <;> omega)) rfl ?_
    exact WL_nil ⟨rfl, rfl⟩
   apply AnyE_val [0] rfl rfl rfl
   · --
    intro y5_ hy
    refine O_move rfl rfl rfl ?_
    exact WL_nil ⟨rfl, rfl⟩
   apply AnyE_val [7] rfl rfl rfl
   · --
    intro y5_ hy
    refine O_field F97_2 rfl rfl rfl ?_
    exact WL_nil ⟨rfl, rfl⟩
   apply AnyE_val [41] rfl rfl rfl
   · --
    intro y5_ hy
    refine O_loadC Try.underlying3 rfl rfl rfl rfl (kg2.extP hy (by rintro (h | h) <;> omega)) rfl ?_
    exact WL_nil ⟨rfl, rfl⟩
   apply AnyE_val [2] rfl rfl rfl
   · --
    intro y5_ hy
    refine O_move rfl rfl rfl ?_
    exact WL_nil ⟨rfl, rfl⟩
   apply AnyE_eff 0 [40, 42, 43] rfl rfl rfl
   · --
    intro vs y5_ hl hX
    obtain rfl : vs = [] := List.eq_nil_of_length_eq_zero hl
    obtain ⟨r1, qs, hst, hFo, hRL, hqs⟩ := hX
    have hqs' := hqs
    simp only [List.length_cons, List.length_nil, Nat.zero_add, Nat.mul_one, Nat.one_mul, Nat.mul_zero] at hqs'
    refine O_callF enters65 rfl rfl rfl (ihr hFo (hb1.more) ho2 (by have h := hget; rw [Tr.get_gt (show nlt s kk = false from c12) (show nlt kk s = true from c29)] at h; exact h) (by (try simp only [List.length_append]); omega) (by (try simp only [List.length_append]); omega)) (fun r2 qs2 i2 w2 hst2 hF2 hq2 hR2 => ?_)
    exact WL_nil ⟨_, rfl, FX.snoc hst hRL hqs hst2 hF2 hq2 hR2 (Nat.le_refl _) rfl rfl⟩
   refine AnyE_nil fun vs y5_ hl hX => ?_
   obtain ⟨v1, rfl⟩ := len1 hl
   obtain ⟨r1, qs, hst, hFo, ⟨⟨i1, rfl, hR1⟩, -⟩, hqs⟩ := hX
   simp only [List.length_cons, List.length_nil, Nat.zero_add, Nat.mul_one, Nat.one_mul, Nat.mul_zero] at hqs
   refine O_callF enters88 rfl rfl rfl (balance_c hFo (ha1.more) hR1 (by (try simp only [List.length_append]); omega) (by have h1 := Tr.drop_cnt s tl; have h2 := Tr.drop_cnt s tr; omega)) (fun r9 qs9 i9 w9 hst9 hF9 hq9 hR9 => ?_)
   refine O_assign rfl rfl rfl ?_
   refine WL_end [(6, _)] ⟨rfl, trivial⟩ ?_
   refine WP_ret ?_
   refine inBlk_ret ?_
   refine ret1 Try.results65 rfl ?_
   rw [Tr.drop_gt (show ¬ nlt s kk = true from by rw [show nlt s kk = false from c12]; decide) (show nlt kk s = true from c29)]
   exact FRet.then ((FStep.of_ext e3).trans hst) hqs hst9 hF9 hq9 hR9 (by rw [hN]; omega)
  · --
   refine WP_seq ?_
   refine WP_region ?_
   refine O_move rfl rfl rfl ?_
   refine O_field F97_1 rfl rfl rfl ?_
   refine O_loadC Try.underlying3 rfl rfl rfl rfl b3 rfl ?_
   refine O_call enters67 rfl rfl rfl (empty_c (hF.ext e3) ha1) (fun v6 w6 e6 h6 => ?_)
   have z6 := e6.size
   obtain rfl := h6
   refine O_assign rfl rfl rfl ?_
   refine WL_end [(0, _), (7, _), (46, _)] ⟨rfl, rfl, rfl, trivial⟩ ?_
   refine WP_condD rfl (fun c46 => ?_) (fun c46 => ?_)
   · --
    refine WP_seq ?_
    refine WP_region ?_
    refine O_field F97_2 rfl rfl rfl ?_
    refine O_loadC Try.underlying3 rfl rfl rfl rfl (b3.ext e6) rfl ?_
    refine O_assign rfl rfl rfl ?_
    refine WL_end [(6, _)] ⟨rfl, trivial⟩ ?_
    refine WP_ret ?_
    refine inBlk_ret ?_
    refine ret1 Try.results65 rfl ?_
    rw [Tr.drop_l (show nlt s kk = false from c12) (show nlt kk s = false from c29) c46]
    exact FRet.same hF (e3.trans e6) hb1
   · --
    refine WP_seq ?_
    refine WP_region ?_
    refine O_move rfl rfl rfl ?_
    refine O_field F97_2 rfl rfl rfl ?_
    refine O_loadC Try.underlying3 rfl rfl rfl rfl (b3.ext e6) rfl ?_
    refine O_call enters67 rfl rfl rfl (empty_c (hF.ext (e3.trans e6)) hb1) (fun v7 w7 e7 h7 => ?_)
    have z7 := e7.size
    obtain rfl := h7
    refine O_assign rfl rfl rfl ?_
    refine WL_end [(0, _), (7, _), (53, _)] ⟨rfl, rfl, rfl, trivial⟩ ?_
    refine WP_condD rfl (fun c53 => ?_) (fun c53 => ?_)
    · --
     refine WP_seq ?_
     refine WP_region ?_
     refine O_field F97_1 rfl rfl rfl ?_
     refine O_loadC Try.underlying3 rfl rfl rfl rfl ((b3.ext e6).ext e7) rfl ?_
     refine O_assign rfl rfl rfl ?_
     refine WL_end [(6, _)] ⟨rfl, trivial⟩ ?_
     refine WP_ret ?_
     refine inBlk_ret ?_
     refine ret1 Try.results65 rfl ?_
     rw [Tr.drop_r (show nlt s kk = false from c12) (show nlt kk s = false from c29) c53]
     exact FRet.same hF ((e3.trans e6).trans e7) ha1
    · --
     refine WP_skip ?_
     refine WP_seq ?_
     refine WP_region ?_
     refine O_move rfl rfl rfl ?_
     refine O_field F97_2 rfl rfl rfl ?_
     refine O_loadC Try.underlying3 rfl rfl rfl rfl ((b3.ext e6).ext e7) rfl ?_
     refine O_call enters62 rfl rfl rfl (getT_c (hF.ext ((e3.trans e6).trans e7)) hb1) (fun v8 w8 e8 h8 => ?_)
     have z8 := e8.size
     try simp only [val_dig] at h8
     obtain ⟨a8, b8, rfl, ha8, hb8⟩ := h8
     refine O_alloc S97 rfl rfl (fun g9 w9 b9 e9 gl9 gh9 => ?_)
     have z9 := e9.size
     refine O_storeA (cs' := [_, _, _, _, _, _]) S97 rfl rfl rfl b9 rfl rfl (one_cons rfl (one_cons rfl (one_cons rfl (one_cons rfl (one_cons rfl (one_cons rfl one_nil)))))) rfl (fun w10 b10 q10 => ?_)
     have z10 := Nat.le_of_eq q10.size.symm
     have e10 : Ext w w10 := q10.ext ((((e3.trans e6).trans e7).trans e8).trans e9) (by omega)
     refine WL_end [(0, _), (7, _), (8, _)] ⟨rfl, rfl, rfl, trivial⟩ ?_
     refine WP_seq ?_
     refine WP_block ?_
     refine WP_loop (S := Tr × Int × Int) (fun (u, c, d) => [(0, .pointer (some ⟨g, 0, none⟩)), (7, .pointer (some ⟨g2, 0, none⟩)), (8, .pointer (some ⟨g9, 0, none⟩))]) (fun (u, c, d) w' => (Ext w w' ∧ Bk w' g2 97 [.string (Tr.node tl kk vv tr).ky, .int .i64 (Tr.node tl kk vv tr).vl, .int .i64 a1, .int .i64 b1, .int .i64 ((Tr.node tl kk vv tr).ht : Nat), .int .i64 ((Tr.node tl kk vv tr).cnt : Nat)] ∧ Bk w' g9 97 [.string u.ky, .int .i64 u.vl, .int .i64 c, .int .i64 d, .int .i64 (u.ht : Nat), .int .i64 (u.cnt : Nat)]) ∧ Rep ps c u.lf ∧ Rep ps d u.rt_ ∧ u.lf.least u.ky u.vl = tr.lf.least tr.ky tr.vl ∧ 0 < u.ht) (fun (u, c, d) => u.ht) (tr, a8, b8) ⟨rfl, rfl, rfl, trivial⟩ ⟨⟨e10, (((((b3.ext e6).ext e7).ext e8).ext e9).chg q10 (by first | assumption | omega)), b10⟩, ha8, hb8, rfl, by omega⟩ ?_
     rintro ⟨u, c, d⟩ w9 ⟨⟨hE, hb7, hb8⟩, hRc, hRd, hlst, hu⟩
     show WP _ _ _ _ _ [(0, .pointer (some ⟨g, 0, none⟩)), (7, .pointer (some ⟨g2, 0, none⟩)), (8, .pointer (some ⟨g9, 0, none⟩))] _
     have zE := hE.size
     refine WP_seq ?_
     refine WP_seq ?_
     refine WP_region ?_
     refine O_move rfl rfl rfl ?_
     refine O_field F97_1 rfl rfl rfl ?_
     refine O_loadC Try.underlying3 rfl rfl rfl rfl hb8 rfl ?_
     refine O_call enters67 rfl rfl rfl (empty_c (hF.ext hE) hRc) (fun v11 w11 e11 h11 => ?_)
     have z11 := e11.size
     obtain rfl := h11
     refine O_not rfl rfl rfl (decide_not).symm ?_
     refine WL_end [(0, _), (7, _), (8, _), (68, _)] ⟨rfl, rfl, rfl, rfl, trivial⟩ ?_
     refine WP_condN rfl (fun c68 => ?_) (fun c68 => ?_)
     · --
      refine WP_skip ?_
      refine WP_block ?_
      refine WP_region ?_
      refine O_move rfl rfl rfl ?_
      refine O_field F97_1 rfl rfl rfl ?_
      refine O_loadC Try.underlying3 rfl rfl rfl rfl (hb8.ext e11) rfl ?_
      refine O_call enters62 rfl rfl rfl (getT_c (hF.ext (hE.trans e11)) hRc) (fun v12 w12 e12 h12 => ?_)
      have z12 := e12.size
      try simp only [val_dig] at h12
      obtain ⟨a12, b12, rfl, ha12, hb12⟩ := h12
      refine O_storeA (cs' := [_, _, _, _, _, _]) S97 rfl rfl rfl ((hb8.ext e11).ext e12) rfl rfl (one_cons rfl (one_cons rfl (one_cons rfl (one_cons rfl (one_cons rfl (one_cons rfl one_nil)))))) rfl (fun w13 b13 q13 => ?_)
      have z13 := Nat.le_of_eq q13.size.symm
      have e13 : Ext w w13 := q13.ext ((hE.trans e11).trans e12) (by omega)
      refine WL_end [(0, _), (7, _), (8, _)] ⟨rfl, rfl, rfl, trivial⟩ ?_
      have hst := Tr.least_step (t := u.lf) (by omega) u.ky u.vl
      have hht := Tr.ht_node hu
      exact ⟨(u.lf, a12, b12), ⟨rfl, rfl, rfl, trivial⟩, ⟨⟨e13, (((hb7.ext e11).ext e12).chg q13 (by first | assumption | omega)), b13⟩, ha12, hb12, by rw [← hst]; exact hlst, by omega⟩, by dsimp only; omega⟩
     · --
      refine WP_exit ?_
      refine inBlk_hit ?_
      refine WP_seq ?_
      have hlf := Tr.ht_zero.1 c68
      have hkey : u.ky = (tr.lf.least tr.ky tr.vl).1 := by rw [← hlst, hlf]; rfl
      have hval : u.vl = (tr.lf.least tr.ky tr.vl).2 := by rw [← hlst, hlf]; rfl
      · --
       skip
       have hFW := (hF.ext (hE.trans e11))
       have kg2 := (hb7.ext e11)
       have kg9 := (hb8.ext e11)
       refine WP_sub [(0, _), (7, _), (8, _)] ⟨rfl, rfl, rfl, trivial⟩ ?_
       refine WP_anyE (FX w11 g r ps (3 * tr.ht) [tr.drop u.ky]) (fun w' => ExtP (FM g r) w11 w') 12 [0, 7, 8] [11] [84] mixed rfl (by kernel_rfl) (by kernel_rfl) (fun vs w' h => h.ext) (fun w' h => FX.start hFW h) ?_
       apply AnyE_val [0] rfl rfl rfl
       · --
        intro y14_ hy
        refine O_move rfl rfl rfl ?_
        exact WL_nil ⟨rfl, rfl⟩
       apply AnyE_val [8] rfl rfl rfl
       · --
        intro y14_ hy
        refine O_field F97_0 rfl rfl rfl ?_
        exact WL_nil ⟨rfl, rfl⟩
       apply AnyE_val [74] rfl rfl rfl
       · --
        intro y14_ hy
        refine O_loadA (vs := [_, _]) S54 rfl rfl rfl (kg9.extP hy (by rintro (h | h) <;> omega)) rfl rfl ?_
        exact WL_nil ⟨rfl, rfl⟩
       apply AnyE_val [7] rfl rfl rfl
       · --
        intro y14_ hy
        refine O_field F97_1 rfl rfl rfl ?_
        exact WL_nil ⟨rfl, rfl⟩
       apply AnyE_val [76] rfl rfl rfl
       · --
        intro y14_ hy
        refine O_loadC Try.underlying3 rfl rfl rfl rfl (kg2.extP hy (by rintro (h | h) <;> omega)) rfl ?_
        exact WL_nil ⟨rfl, rfl⟩
       apply AnyE_val [0] rfl rfl rfl
       · --
        intro y14_ hy
        refine O_move rfl rfl rfl ?_
        exact WL_nil ⟨rfl, rfl⟩
       apply AnyE_val [7] rfl rfl rfl
       · --
        intro y14_ hy
        refine O_field F97_2 rfl rfl rfl ?_
        exact WL_nil ⟨rfl, rfl⟩
       apply AnyE_val [79] rfl rfl rfl
       · --
        intro y14_ hy
        refine O_loadC Try.underlying3 rfl rfl rfl rfl (kg2.extP hy (by rintro (h | h) <;> omega)) rfl ?_
        exact WL_nil ⟨rfl, rfl⟩
       apply AnyE_val [8] rfl rfl rfl
       · --
        intro y14_ hy
        refine O_field F97_0 rfl rfl rfl ?_
        exact WL_nil ⟨rfl, rfl⟩
       apply AnyE_val [81] rfl rfl rfl
       · --
        intro y14_ hy
        refine O_field F54_0 rfl rfl rfl ?_
        exact WL_nil ⟨rfl, rfl⟩
       apply AnyE_val [82] rfl rfl rfl
       · --
        intro y14_ hy
        refine O_loadC Try.underlying9 rfl rfl rfl rfl (kg9.extP hy (by rintro (h | h) <;> omega)) rfl ?_
        exact WL_nil ⟨rfl, rfl⟩
       apply AnyE_eff 0 [78, 80, 83] rfl rfl rfl
       · --
        intro vs y14_ hl hX
        obtain rfl : vs = [] := List.eq_nil_of_length_eq_zero hl
        obtain ⟨r1, qs, hst, hFo, hRL, hqs⟩ := hX
        have hqs' := hqs
        simp only [List.length_cons, List.length_nil, Nat.zero_add, Nat.mul_one, Nat.one_mul, Nat.mul_zero] at hqs'
        refine O_callF enters65 rfl rfl rfl (ihr hFo (hb1.more) ho2 (by have h := Tr.get_least' (by omega) ho2; rw [← hkey] at h; exact h) (by (try simp only [List.length_append]); omega) (by (try simp only [List.length_append]); omega)) (fun r2 qs2 i2 w2 hst2 hF2 hq2 hR2 => ?_)
        exact WL_nil ⟨_, rfl, FX.snoc hst hRL hqs hst2 hF2 hq2 hR2 (Nat.le_refl _) rfl rfl⟩
       refine AnyE_nil fun vs y14_ hl hX => ?_
       obtain ⟨v1, rfl⟩ := len1 hl
       obtain ⟨r1, qs, hst, hFo, ⟨⟨i1, rfl, hR1⟩, -⟩, hqs⟩ := hX
       simp only [List.length_cons, List.length_nil, Nat.zero_add, Nat.mul_one, Nat.one_mul, Nat.mul_zero] at hqs
       refine O_callF enters88 rfl rfl rfl (balance_c hFo (ha1.more) hR1 (by (try simp only [List.length_append]); omega) (by have h2 := Tr.drop_cnt u.ky tr; omega)) (fun r9 qs9 i9 w9 hst9 hF9 hq9 hR9 => ?_)
       refine O_assign rfl rfl rfl ?_
       refine WL_end [(6, _)] ⟨rfl, trivial⟩ ?_
       refine WP_ret ?_
       refine ret1 Try.results65 rfl ?_
       have hdb := Tr.drop_both (l := tl) (v := vv) (show ¬ nlt s kk = true from by rw [show nlt s kk = false from c12]; decide) (show ¬ nlt kk s = true from by rw [show nlt kk s = false from c29]; decide) (by omega) (by omega) ho2
       rw [hdb, ← hkey, ← hval]
       exact FRet.then ((FStep.of_ext (hE.trans e11)).trans hst) hqs hst9 hF9 hq9 hR9 (by rw [hN]; omega)

theorem drop_c : ∀ (t : Tr), ∀ {s : ByteArray} {w : World} {g r : Nat} {ps : List Part} {i : Int}, Fo w g r ps → Rep ps i t → Tr.Ord t → Tr.get s t ≠ none → ps.length + 3 * t.ht + 4 ≤ 100000000 → t.cnt ≤ 10000000 → Calls Try.prog 65 #[.pointer (some ⟨g, 0, none⟩), .int .i64 i, .string s] w (FRet g r ps (t.drop s) (3 * t.ht) w) := by
  intro t
  induction t with
  | leaf => intro s w g r ps i hF hR ho hg; exact absurd rfl hg
  | node tl kk vv tr ihl ihr => intro s w g r ps i hF hR ho hg hb hc; exact drop_node ihl ihr hF hR ho hg hb hc

end Go.Proofs.Ytoccimigjjndpaa

set_option linter.unusedVariables false
set_option linter.unusedSimpArgs false
set_option maxRecDepth 100000
namespace Go.Proofs.Ytoccimigjjndpaa
open Go Go.RowKit
theorem Get_c {w : World} {g r : Nat} {ps : List Part} (hF : Fo w g r ps) {i : Int} {s : ByteArray} {t : Tr} (hR : Rep ps i t) :
    Calls Try.prog 33 #[.pointer (some ⟨g, 0, none⟩), .int .i64 i, .string s] w (Ret w fun r _ => r = .tuple #[.int .i64 ((t.get s).getD 0), .bool (t.get s).isSome]) := by
 refine enter (args := [_, _, _]) Try.func33 rfl Try.ntmps33 rfl ?_
 refine WP_seq ?_
 refine WP_region ?_
 refine O_assign rfl rfl rfl ?_
 refine O_assign rfl rfl rfl ?_
 refine WL_end [(0, _), (1, _), (2, _)] ⟨rfl, rfl, rfl, trivial⟩ ?_
 refine WP_seq ?_
 refine WP_block ?_
 refine WP_loop (S := Tr × Int) (fun (u, j) => [(0, .pointer (some ⟨g, 0, none⟩)), (1, .int .i64 j), (2, .string s)]) (fun (u, j) w' => Ext w w' ∧ Rep ps j u ∧ u.get s = t.get s) (fun (u, j) => u.ht) (t, i) ⟨rfl, rfl, rfl, trivial⟩ ⟨Ext.refl _, hR, rfl⟩ ?_
 rintro ⟨u, j⟩ w9 ⟨hE, hRu, hgu⟩
 show WP _ _ _ _ _ [(0, .pointer (some ⟨g, 0, none⟩)), (1, .int .i64 j), (2, .string s)] _
 have zE := hE.size
 refine WP_seq ?_
 refine WP_seq ?_
 refine WP_region ?_
 refine O_move rfl rfl rfl ?_
 refine O_move rfl rfl rfl ?_
 refine O_call enters67 rfl rfl rfl (empty_c (hF.ext hE) hRu) (fun v1 w1 e1 h1 => ?_)
 have z1 := e1.size
 obtain rfl := h1
 refine O_not rfl rfl rfl (decide_not).symm ?_
 refine WL_end [(0, _), (1, _), (2, _), (12, _)] ⟨rfl, rfl, rfl, rfl, trivial⟩ ?_
 refine WP_condN rfl (fun c12 => ?_) (fun c12 => ?_)
 · --
  refine WP_skip ?_
  refine WP_block ?_
  refine WP_seq ?_
  refine WP_region ?_
  refine O_move rfl rfl rfl ?_
  refine O_move rfl rfl rfl ?_
  refine O_call enters62 rfl rfl rfl (getT_c (hF.ext (hE.trans e1)) hRu) (fun v2 w2 e2 h2 => ?_)
  have z2 := e2.size
  try simp only [val_dig] at h2
  obtain ⟨a2, b2, rfl, ha2, hb2⟩ := h2
  refine O_alloc S97 rfl rfl (fun g3 w3 b3 e3 gl3 gh3 => ?_)
  have z3 := e3.size
  refine O_storeA (cs' := [_, _, _, _, _, _]) S97 rfl rfl rfl b3 rfl rfl (one_cons rfl (one_cons rfl (one_cons rfl (one_cons rfl (one_cons rfl (one_cons rfl one_nil)))))) rfl (fun w4 b4 q4 => ?_)
  have z4 := Nat.le_of_eq q4.size.symm
  have e4 : Ext w w4 := q4.ext (((hE.trans e1).trans e2).trans e3) (by omega)
  refine WL_end [(0, _), (2, _), (8, _)] ⟨rfl, rfl, rfl, trivial⟩ ?_
  refine WP_block ?_
  refine WP_seq ?_
  refine WP_region ?_
  refine O_move rfl rfl rfl ?_
  refine O_field F97_0 rfl rfl rfl ?_
  refine O_field F54_0 rfl rfl rfl ?_
  refine O_loadC Try.underlying9 rfl rfl rfl rfl b4 rfl ?_
  refine O_slss rfl rfl rfl rfl ?_
  refine O_assign rfl rfl rfl ?_
  refine WL_end [(0, _), (2, _), (8, _), (19, _)] ⟨rfl, rfl, rfl, rfl, trivial⟩ ?_
  refine WP_cond rfl (fun c19 => ?_) (fun c19 => ?_)
  · --
   refine WP_region ?_
   refine O_field F97_1 rfl rfl rfl ?_
   refine O_loadC Try.underlying3 rfl rfl rfl rfl b4 rfl ?_
   refine O_assign rfl rfl rfl ?_
   refine WL_end [(0, _), (1, _), (2, _)] ⟨rfl, rfl, rfl, trivial⟩ ?_
   exact ⟨(u.lf, _), ⟨rfl, rfl, rfl, trivial⟩, ⟨e4, ha2, (Tr.get_lt' c12 c19).symm.trans hgu⟩, Tr.ht_lf c12⟩
  · --
   refine WP_seq ?_
   refine WP_region ?_
   refine O_move rfl rfl rfl ?_
   refine O_field F97_0 rfl rfl rfl ?_
   refine O_field F54_0 rfl rfl rfl ?_
   refine O_loadC Try.underlying9 rfl rfl rfl rfl b4 rfl ?_
   refine O_sgtr rfl rfl rfl rfl ?_
   refine O_assign rfl rfl rfl ?_
   refine WL_end [(0, _), (2, _), (8, _), (27, _)] ⟨rfl, rfl, rfl, rfl, trivial⟩ ?_
   refine WP_cond rfl (fun c27 => ?_) (fun c27 => ?_)
   · --
    refine WP_region ?_
    refine O_field F97_2 rfl rfl rfl ?_
    refine O_loadC Try.underlying3 rfl rfl rfl rfl b4 rfl ?_
    refine O_assign rfl rfl rfl ?_
    refine WL_end [(0, _), (1, _), (2, _)] ⟨rfl, rfl, rfl, trivial⟩ ?_
    exact ⟨(u.rt_, _), ⟨rfl, rfl, rfl, trivial⟩, ⟨e4, hb2, (Tr.get_gt' c12 c19 c27).symm.trans hgu⟩, Tr.ht_rt c12⟩
   · --
    refine WP_seq ?_
    refine WP_region ?_
    refine O_field F97_0 rfl rfl rfl ?_
    refine O_field F54_1 rfl rfl rfl ?_
    refine O_loadC Try.underlying3 rfl rfl rfl rfl b4 rfl ?_
    refine O_assign rfl rfl rfl ?_
    refine O_assign rfl rfl rfl ?_
    refine WL_end [(6, _), (7, _)] ⟨rfl, rfl, trivial⟩ ?_
    refine WP_ret ?_
    refine inBlk_ret ?_
    refine inBlk_ret ?_
    refine inBlk_ret ?_
    refine ret2 Try.results33 rfl rfl ?_
    exact ⟨_, rfl, e4, by rw [← hgu, Tr.get_eq' c12 c19 c27]; rfl⟩
 · --
  refine WP_exit ?_
  refine inBlk_hit ?_
  refine WP_seq ?_
  refine WP_region ?_
  refine O_assign rfl rfl rfl ?_
  refine O_assign rfl rfl rfl ?_
  refine WL_end [(6, _), (7, _)] ⟨rfl, rfl, trivial⟩ ?_
  refine WP_ret ?_
  refine ret2 Try.results33 rfl rfl ?_
  exact ⟨_, rfl, (hE.trans e1), by rw [← hgu, Tr.get_nil c12]; rfl⟩
theorem Get_some {w : World} {g r : Nat} {ps : List Part} (hF : Fo w g r ps) {i x : Int} {s : ByteArray} {t : Tr} (hR : Rep ps i t) (h : t.get s = some x) : Calls Try.prog 33 #[.pointer (some ⟨g, 0, none⟩), .int .i64 i, .string s] w (Ret w fun r _ => r = .tuple #[.int .i64 x, .bool true]) :=
  (Get_c hF hR).mono fun _ w' ⟨r, he, hx', hr⟩ => ⟨r, he, hx', by rw [hr, h]; rfl⟩
theorem Get_none {w : World} {g r : Nat} {ps : List Part} (hF : Fo w g r ps) {i : Int} {s : ByteArray} {t : Tr} (hR : Rep ps i t) (h : t.get s = none) : Calls Try.prog 33 #[.pointer (some ⟨g, 0, none⟩), .int .i64 i, .string s] w (Ret w fun r _ => r = .tuple #[.int .i64 0, .bool false]) :=
  (Get_c hF hR).mono fun _ w' ⟨r, he, hx', hr⟩ => ⟨r, he, hx', by rw [hr, h]; rfl⟩

theorem Set_same {w : World} {g r : Nat} {ps : List Part} (hF : Fo w g r ps) {k : ByteArray} {v i : Int} {t : Tr} (hR : Rep ps i t) (hs : t.get k = some v) :
    Calls Try.prog 28 #[.pointer (some ⟨g, 0, none⟩), .int .i64 i, .string k, .int .i64 v] w (Ret w fun r _ => r = .int .i64 i) := by
 refine enter (args := [_, _, _, _]) Try.func28 rfl Try.ntmps28 rfl ?_
 refine WP_seq ?_
 refine WP_region ?_
 refine O_assign rfl rfl rfl ?_
 refine WL_end [(0, _), (1, _), (2, _), (3, _)] ⟨rfl, rfl, rfl, rfl, trivial⟩ ?_
 refine WP_seq ?_
 refine WP_seq ?_
 refine WP_region ?_
 refine O_move rfl rfl rfl ?_
 refine O_move rfl rfl rfl ?_
 refine O_move rfl rfl rfl ?_
 refine O_call enters33 rfl rfl rfl (Get_some hF hR hs) (fun v1 w1 e1 h1 => ?_)
 have z1 := e1.size
 try simp only [val_dig] at h1
 obtain rfl := h1
 refine O_move rfl rfl rfl ?_
 refine O_extract rfl rfl rfl rfl ?_
 refine O_extract rfl rfl rfl rfl ?_
 refine O_assign rfl rfl rfl ?_
 refine O_assign rfl rfl rfl ?_
 refine WL_end [(0, _), (1, _), (2, _), (3, _), (9, _), (10, _)] ⟨rfl, rfl, rfl, rfl, rfl, rfl, trivial⟩ ?_
 refine WP_seq ?_
 refine WP_region ?_
 refine O_move rfl rfl rfl ?_
 refine O_move rfl rfl rfl ?_
 refine O_move rfl rfl rfl ?_
 refine O_move rfl rfl rfl ?_
 refine O_eql (t := true) rfl rfl rfl rfl (decide_eq_true rfl) ?_
 refine O_pickT rfl rfl rfl rfl ?_
 refine WL_end [(0, _), (1, _), (2, _), (3, _), (23, _)] ⟨rfl, rfl, rfl, rfl, rfl, trivial⟩ ?_
 refine WP_condT rfl ?_
 refine WP_seq ?_
 refine WP_region ?_
 refine O_move rfl rfl rfl ?_
 refine O_assign rfl rfl rfl ?_
 refine WL_end [(8, _)] ⟨rfl, trivial⟩ ?_
 refine WP_ret ?_
 refine ret1 Try.results28 rfl ?_
 exact ⟨_, rfl, e1, rfl⟩
theorem Set_other {w : World} {g r : Nat} {ps : List Part} (hF : Fo w g r ps) {k : ByteArray} {v i x : Int} {t : Tr} (hR : Rep ps i t) (hs : t.get k = some x) (hne : ¬ x = v) (hb : ps.length + 3 * t.ht + 4 ≤ 100000000) (hc : t.cnt ≤ 10000000) :
    Calls Try.prog 28 #[.pointer (some ⟨g, 0, none⟩), .int .i64 i, .string k, .int .i64 v] w (FRet g r ps (t.set k v) (3 * t.ht + 1) w) := by
 refine enter (args := [_, _, _, _]) Try.func28 rfl Try.ntmps28 rfl ?_
 refine WP_seq ?_
 refine WP_region ?_
 refine O_assign rfl rfl rfl ?_
 refine WL_end [(0, _), (1, _), (2, _), (3, _)] ⟨rfl, rfl, rfl, rfl, trivial⟩ ?_
 refine WP_seq ?_
 refine WP_seq ?_
 refine WP_region ?_
 refine O_move rfl rfl rfl ?_
 refine O_move rfl rfl rfl ?_
 refine O_move rfl rfl rfl ?_
 refine O_call enters33 rfl rfl rfl (Get_some hF hR hs) (fun v1 w1 e1 h1 => ?_)
 have z1 := e1.size
 try simp only [val_dig] at h1
 obtain rfl := h1
 refine O_move rfl rfl rfl ?_
 refine O_extract rfl rfl rfl rfl ?_
 refine O_extract rfl rfl rfl rfl ?_
 refine O_assign rfl rfl rfl ?_
 refine O_assign rfl rfl rfl ?_
 refine WL_end [(0, _), (1, _), (2, _), (3, _), (9, _), (10, _)] ⟨rfl, rfl, rfl, rfl, rfl, rfl, trivial⟩ ?_
 refine WP_seq ?_
 refine WP_region ?_
 refine O_move rfl rfl rfl ?_
 refine O_move rfl rfl rfl ?_
 refine O_move rfl rfl rfl ?_
 refine O_move rfl rfl rfl ?_
 refine O_eql (t := false) rfl rfl rfl rfl (decide_eq_false hne) ?_
 refine O_pickT rfl rfl rfl rfl ?_
 refine WL_end [(0, _), (1, _), (2, _), (3, _), (23, _)] ⟨rfl, rfl, rfl, rfl, rfl, trivial⟩ ?_
 refine WP_condF rfl ?_
 refine WP_skip ?_
 refine WP_seq ?_
 refine WP_region ?_
 refine O_move rfl rfl rfl ?_
 refine O_move rfl rfl rfl ?_
 refine O_move rfl rfl rfl ?_
 refine O_move rfl rfl rfl ?_
 refine O_build (cs := [_, _]) B54 rfl rfl rfl (cells_cons rfl (cells_cons rfl cells_nil)) rfl ?_
 refine O_callF enters63 rfl rfl rfl (set_c t (hF.ext e1) hR hb hc) (fun r9 qs9 i9 w9 hst9 hF9 hq9 hR9 => ?_)
 refine O_assign rfl rfl rfl ?_
 refine WL_end [(8, _)] ⟨rfl, trivial⟩ ?_
 refine WP_ret ?_
 refine ret1 Try.results28 rfl ?_
 exact FRet.then (N1 := 0) (qs := []) (FStep.of_ext e1) (Nat.zero_le _) hst9 (by rw [List.append_nil]; exact hF9) hq9 (by rw [List.append_nil]; exact hR9) (by omega)
theorem Set_none {w : World} {g r : Nat} {ps : List Part} (hF : Fo w g r ps) {k : ByteArray} {v i : Int} {t : Tr} (hR : Rep ps i t) (hs : t.get k = none) (hb : ps.length + 3 * t.ht + 4 ≤ 100000000) (hc : t.cnt ≤ 10000000) :
    Calls Try.prog 28 #[.pointer (some ⟨g, 0, none⟩), .int .i64 i, .string k, .int .i64 v] w (FRet g r ps (t.set k v) (3 * t.ht + 1) w) := by
 refine enter (args := [_, _, _, _]) Try.func28 rfl Try.ntmps28 rfl ?_
 refine WP_seq ?_
 refine WP_region ?_
 refine O_assign rfl rfl rfl ?_
 refine WL_end [(0, _), (1, _), (2, _), (3, _)] ⟨rfl, rfl, rfl, rfl, trivial⟩ ?_
 refine WP_seq ?_
 refine WP_seq ?_
 refine WP_region ?_
 refine O_move rfl rfl rfl ?_
 refine O_move rfl rfl rfl ?_
 refine O_move rfl rfl rfl ?_
 refine O_call enters33 rfl rfl rfl (Get_none hF hR hs) (fun v1 w1 e1 h1 => ?_)
 have z1 := e1.size
 try simp only [val_dig] at h1
 obtain rfl := h1
 refine O_move rfl rfl rfl ?_
 refine O_extract rfl rfl rfl rfl ?_
 refine O_extract rfl rfl rfl rfl ?_
 refine O_assign rfl rfl rfl ?_
 refine O_assign rfl rfl rfl ?_
 refine WL_end [(0, _), (1, _), (2, _), (3, _), (9, _), (10, _)] ⟨rfl, rfl, rfl, rfl, rfl, rfl, trivial⟩ ?_
 refine WP_seq ?_
 refine WP_region ?_
 refine O_move rfl rfl rfl ?_
 refine O_move rfl rfl rfl ?_
 refine O_skip rfl rfl ?_
 refine O_skip rfl rfl ?_
 refine O_skip rfl rfl ?_
 refine O_pickF rfl rfl rfl rfl ?_
 refine WL_end [(0, _), (1, _), (2, _), (3, _), (23, _)] ⟨rfl, rfl, rfl, rfl, rfl, trivial⟩ ?_
 refine WP_condF rfl ?_
 refine WP_skip ?_
 refine WP_seq ?_
 refine WP_region ?_
 refine O_move rfl rfl rfl ?_
 refine O_move rfl rfl rfl ?_
 refine O_move rfl rfl rfl ?_
 refine O_move rfl rfl rfl ?_
 refine O_build (cs := [_, _]) B54 rfl rfl rfl (cells_cons rfl (cells_cons rfl cells_nil)) rfl ?_
 refine O_callF enters63 rfl rfl rfl (set_c t (hF.ext e1) hR hb hc) (fun r9 qs9 i9 w9 hst9 hF9 hq9 hR9 => ?_)
 refine O_assign rfl rfl rfl ?_
 refine WL_end [(8, _)] ⟨rfl, trivial⟩ ?_
 refine WP_ret ?_
 refine ret1 Try.results28 rfl ?_
 exact FRet.then (N1 := 0) (qs := []) (FStep.of_ext e1) (Nat.zero_le _) hst9 (by rw [List.append_nil]; exact hF9) hq9 (by rw [List.append_nil]; exact hR9) (by omega)

theorem Set_new {w : World} {g r : Nat} {ps : List Part} (hF : Fo w g r ps) {k : ByteArray} {v i : Int} {t : Tr} (hR : Rep ps i t) (hs : t.get k ≠ some v) (hb : ps.length + 3 * t.ht + 4 ≤ 100000000) (hc : t.cnt ≤ 10000000) : Calls Try.prog 28 #[.pointer (some ⟨g, 0, none⟩), .int .i64 i, .string k, .int .i64 v] w (FRet g r ps (t.set k v) (3 * t.ht + 1) w) := by
  cases h : t.get k with
  | none => exact Set_none hF hR h hb hc
  | some x => exact Set_other hF hR h (fun e => hs (by rw [h, e])) hb hc

theorem Drop_none {w : World} {g r : Nat} {ps : List Part} (hF : Fo w g r ps) {s : ByteArray} {i : Int} {t : Tr} (hR : Rep ps i t) (hs : t.get s = none) :
    Calls Try.prog 30 #[.pointer (some ⟨g, 0, none⟩), .int .i64 i, .string s] w (Ret w fun r _ => r = .tuple #[.int .i64 i, .bool false]) := by
 refine enter (args := [_, _, _]) Try.func30 rfl Try.ntmps30 rfl ?_
 refine WP_seq ?_
 refine WP_region ?_
 refine O_assign rfl rfl rfl ?_
 refine O_assign rfl rfl rfl ?_
 refine WL_end [(0, _), (1, _), (2, _)] ⟨rfl, rfl, rfl, trivial⟩ ?_
 refine WP_seq ?_
 refine WP_seq ?_
 refine WP_region ?_
 refine O_move rfl rfl rfl ?_
 refine O_move rfl rfl rfl ?_
 refine O_move rfl rfl rfl ?_
 refine O_call enters33 rfl rfl rfl (Get_none hF hR hs) (fun v1 w1 e1 h1 => ?_)
 have z1 := e1.size
 try simp only [val_dig] at h1
 obtain rfl := h1
 refine O_move rfl rfl rfl ?_
 refine O_extract rfl rfl rfl rfl ?_
 refine O_extract rfl rfl rfl rfl ?_
 refine O_assign rfl rfl rfl ?_
 refine O_assign rfl rfl rfl ?_
 refine WL_end [(0, _), (1, _), (2, _), (9, _)] ⟨rfl, rfl, rfl, rfl, trivial⟩ ?_
 refine WP_seq ?_
 refine WP_region ?_
 refine O_move rfl rfl rfl ?_
 refine O_not rfl rfl rfl rfl ?_
 refine WL_end [(0, _), (1, _), (2, _), (18, _)] ⟨rfl, rfl, rfl, rfl, trivial⟩ ?_
 refine WP_condT rfl ?_
 refine WP_seq ?_
 refine WP_region ?_
 refine O_move rfl rfl rfl ?_
 refine O_assign rfl rfl rfl ?_
 refine O_assign rfl rfl rfl ?_
 refine WL_end [(6, _), (7, _)] ⟨rfl, rfl, trivial⟩ ?_
 refine WP_ret ?_
 refine ret2 Try.results30 rfl rfl ?_
 exact ⟨_, rfl, e1, rfl⟩
theorem Drop_some {w : World} {g r : Nat} {ps : List Part} (hF : Fo w g r ps) {s : ByteArray} {i x : Int} {t : Tr} (hR : Rep ps i t) (hs : t.get s = some x) (ho : Tr.Ord t) (hb : ps.length + 3 * t.ht + 4 ≤ 100000000) (hc : t.cnt ≤ 10000000) :
    Calls Try.prog 30 #[.pointer (some ⟨g, 0, none⟩), .int .i64 i, .string s] w (FRetM (fun i => .tuple #[.int .i64 i, .bool true]) g r ps (t.drop s) (3 * t.ht) w) := by
 refine enter (args := [_, _, _]) Try.func30 rfl Try.ntmps30 rfl ?_
 refine WP_seq ?_
 refine WP_region ?_
 refine O_assign rfl rfl rfl ?_
 refine O_assign rfl rfl rfl ?_
 refine WL_end [(0, _), (1, _), (2, _)] ⟨rfl, rfl, rfl, trivial⟩ ?_
 refine WP_seq ?_
 refine WP_seq ?_
 refine WP_region ?_
 refine O_move rfl rfl rfl ?_
 refine O_move rfl rfl rfl ?_
 refine O_move rfl rfl rfl ?_
 refine O_call enters33 rfl rfl rfl (Get_some hF hR hs) (fun v1 w1 e1 h1 => ?_)
 have z1 := e1.size
 try simp only [val_dig] at h1
 obtain rfl := h1
 refine O_move rfl rfl rfl ?_
 refine O_extract rfl rfl rfl rfl ?_
 refine O_extract rfl rfl rfl rfl ?_
 refine O_assign rfl rfl rfl ?_
 refine O_assign rfl rfl rfl ?_
 refine WL_end [(0, _), (1, _), (2, _), (9, _)] ⟨rfl, rfl, rfl, rfl, trivial⟩ ?_
 refine WP_seq ?_
 refine WP_region ?_
 refine O_move rfl rfl rfl ?_
 refine O_not rfl rfl rfl rfl ?_
 refine WL_end [(0, _), (1, _), (2, _), (18, _)] ⟨rfl, rfl, rfl, rfl, trivial⟩ ?_
 refine WP_condF rfl ?_
 refine WP_skip ?_
 refine WP_seq ?_
 refine WP_region ?_
 refine O_move rfl rfl rfl ?_
 refine O_move rfl rfl rfl ?_
 refine O_move rfl rfl rfl ?_
 refine O_callF enters65 rfl rfl rfl (drop_c t (hF.ext e1) hR ho (by rw [hs]; simp) hb hc) (fun r9 qs9 i9 w9 hst9 hF9 hq9 hR9 => ?_)
 refine O_assign rfl rfl rfl ?_
 refine O_assign rfl rfl rfl ?_
 refine WL_end [(6, _), (7, _)] ⟨rfl, rfl, trivial⟩ ?_
 refine WP_ret ?_
 refine ret2 Try.results30 rfl rfl ?_
 exact ⟨r9, qs9, i9, rfl, (FStep.of_ext e1).trans hst9, hF9, hq9, hR9⟩

theorem Count_c {w : World} {g r : Nat} {ps : List Part} (hF : Fo w g r ps) {i : Int} {t : Tr} (hR : Rep ps i t) :
    Calls Try.prog 21 #[.pointer (some ⟨g, 0, none⟩), .int .i64 i] w (Ret w fun r _ => r = .int .i64 (t.cnt : Nat)) := by
 refine enter (args := [_, _]) Try.func21 rfl Try.ntmps21 rfl ?_
 refine WP_seq ?_
 refine WP_region ?_
 refine O_assign rfl rfl rfl ?_
 refine WL_end [(0, _), (1, _)] ⟨rfl, rfl, trivial⟩ ?_
 refine WP_seq ?_
 refine WP_region ?_
 refine O_move rfl rfl rfl ?_
 refine O_move rfl rfl rfl ?_
 refine O_call enters62 rfl rfl rfl (getT_c hF hR) (fun v1 w1 e1 h1 => ?_)
 have z1 := e1.size
 try simp only [val_dig] at h1
 obtain ⟨a1, b1, rfl, ha1, hb1⟩ := h1
 refine O_fieldV V97_4 rfl rfl rfl rfl ?_
 refine O_assign rfl rfl rfl ?_
 refine WL_end [(4, _)] ⟨rfl, trivial⟩ ?_
 refine WP_ret ?_
 refine ret1 Try.results21 rfl ?_
 exact ⟨_, rfl, e1, rfl⟩
theorem Height_c {w : World} {g r : Nat} {ps : List Part} (hF : Fo w g r ps) {i : Int} {t : Tr} (hR : Rep ps i t) :
    Calls Try.prog 25 #[.pointer (some ⟨g, 0, none⟩), .int .i64 i] w (Ret w fun r _ => r = .int .i64 (t.ht : Nat)) := by
 refine enter (args := [_, _]) Try.func25 rfl Try.ntmps25 rfl ?_
 refine WP_seq ?_
 refine WP_region ?_
 refine O_assign rfl rfl rfl ?_
 refine WL_end [(0, _), (1, _)] ⟨rfl, rfl, trivial⟩ ?_
 refine WP_seq ?_
 refine WP_region ?_
 refine O_move rfl rfl rfl ?_
 refine O_move rfl rfl rfl ?_
 refine O_call enters62 rfl rfl rfl (getT_c hF hR) (fun v1 w1 e1 h1 => ?_)
 have z1 := e1.size
 try simp only [val_dig] at h1
 obtain ⟨a1, b1, rfl, ha1, hb1⟩ := h1
 refine O_fieldV V97_3 rfl rfl rfl rfl ?_
 refine O_assign rfl rfl rfl ?_
 refine WL_end [(4, _)] ⟨rfl, trivial⟩ ?_
 refine WP_ret ?_
 refine ret1 Try.results25 rfl ?_
 exact ⟨_, rfl, e1, rfl⟩
theorem Size_c {w : World} {g r : Nat} {ps : List Part} (hF : Fo w g r ps) :
    Calls Try.prog 24 #[.pointer (some ⟨g, 0, none⟩)] w (Ret w fun r _ => r = .int .i64 (ps.length : Nat)) := by
 have hF0 := hF
 obtain ⟨fv, hB, hO, hne, hr⟩ := hF
 have hlm : (ps.map pcells).length = ps.length := List.length_map ..
 refine enter (args := [_]) Try.func24 rfl Try.ntmps24 rfl ?_
 refine WP_seq ?_
 refine WP_region ?_
 refine O_assign rfl rfl rfl ?_
 refine WL_end [(0, _)] ⟨rfl, trivial⟩ ?_
 refine WP_seq ?_
 refine WP_region ?_
 refine O_move rfl rfl rfl ?_
 refine O_nilCheck rfl rfl rfl ?_
 refine O_field F103_0 rfl rfl rfl ?_
 refine O_loadC Try.underlying101 rfl rfl rfl rfl hB rfl ?_
 refine K_len Eparts rfl rfl rfl hO.sl ?_
 refine O_assign rfl rfl rfl ?_
 refine WL_end [(2, _)] ⟨rfl, trivial⟩ ?_
 refine WP_ret ?_
 refine ret1 Try.results24 rfl ?_
 exact ⟨_, rfl, (Ext.refl _), by rw [hlm]⟩

theorem New_c {w : World} :
    Calls Try.prog 43 #[] w (Ret w fun r w' => ∃ g, r = .pointer (some ⟨g, 0, none⟩) ∧ Fo w' g g [] ∧ w.heap.size ≤ g ∧ g < w'.heap.size) := by
 refine enter (args := []) Try.func43 rfl Try.ntmps43 rfl ?_
 refine WP_seq ?_
 refine WP_region ?_
 refine O_assign rfl rfl rfl ?_
 refine WL_end [] trivial ?_
 refine WP_seq ?_
 refine WP_region ?_
 refine O_build (cs := [_]) B103 rfl rfl rfl cells_nil rfl ?_
 refine O_box _ rfl rfl rfl rfl (fun g1 w1 b1 e1 gl1 gh1 => ?_)
 have z1 := e1.size
 refine O_assign rfl rfl rfl ?_
 refine WL_end [(0, _)] ⟨rfl, trivial⟩ ?_
 refine WP_ret ?_
 refine ret1 Try.results43 rfl ?_
 exact ⟨_, rfl, e1, g1, rfl, ⟨_, b1, OwnK.nil _ _ _ _, (by simp [Value.ownBlock]), rfl⟩, gl1, gh1⟩

end Go.Proofs.Ytoccimigjjndpaa

