/-
  Walks.
-/
import Derived.Test.YtoccimigjjndpaaT3
set_option linter.unusedVariables false
set_option linter.unusedSimpArgs false
set_option maxRecDepth 100000
namespace Go.Proofs.Ytoccimigjjndpaa
open Go Go.RowKit
theorem set_leaf {w : World} {g r : Nat} {ps : List Part} (hF : Fo w g r ps) {k : ByteArray} {v i : Int} (hR : Rep ps i .leaf) (hb : ps.length + 4 ≤ 100000000) :
    Calls Try.prog 63 #[.pointer (some ⟨g, 0, none⟩), .int .i64 i, .agg #[.string k, .int .i64 v]] w (FRet g r ps (.node .leaf k v .leaf) 1 w) := by
 have hgl := hF.g_lt
 have hrl := hF.r_lt
 refine enter (args := [_, _, _]) Try.func63 rfl Try.ntmps63 rfl ?_
 refine WP_seq ?_
 refine WP_region ?_
 refine O_box _ rfl rfl rfl rfl (fun g1 w1 b1 e1 gl1 gh1 => ?_)
 have z1 := e1.size
 refine O_assign rfl rfl rfl ?_
 refine WL_end [(0, _), (1, _), (5, _)] ⟨rfl, rfl, rfl, trivial⟩ ?_
 refine WP_seq ?_
 refine WP_region ?_
 refine O_move rfl rfl rfl ?_
 refine O_move rfl rfl rfl ?_
 refine O_call enters62 rfl rfl rfl (getT_c (hF.ext e1) hR) (fun v2 w2 e2 h2 => ?_)
 have z2 := e2.size
 try simp only [val_dig] at h2
 obtain ⟨a2, b2, rfl, ha2, hb2⟩ := h2
 refine O_alloc S97 rfl rfl (fun g3 w3 b3 e3 gl3 gh3 => ?_)
 have z3 := e3.size
 refine O_storeA (cs' := [_, _, _, _, _, _]) S97 rfl rfl rfl b3 rfl rfl (one_cons rfl (one_cons rfl (one_cons rfl (one_cons rfl (one_cons rfl (one_cons rfl one_nil)))))) rfl (fun w4 b4 q4 => ?_)
 have z4 := Nat.le_of_eq q4.size.symm
 have e4 : Ext w w4 := q4.ext ((e1.trans e2).trans e3) (by omega)
 refine WL_end [(0, _), (1, _), (5, _), (7, _)] ⟨rfl, rfl, rfl, rfl, trivial⟩ ?_
 refine WP_seq ?_
 refine WP_block ?_
 refine WP_seq ?_
 refine WP_region ?_
 refine O_move rfl rfl rfl ?_
 refine O_move rfl rfl rfl ?_
 refine O_call enters67 rfl rfl rfl (empty_T (hF.ext e4) hR rfl) (fun v5 w5 e5 h5 => ?_)
 have z5 := e5.size
 obtain rfl := h5
 refine O_assign rfl rfl rfl ?_
 refine WL_end [(0, _), (5, _), (7, _), (11, _)] ⟨rfl, rfl, rfl, rfl, trivial⟩ ?_
 refine WP_condT rfl ?_
 refine WP_seq ?_
 refine WP_region ?_
 refine O_move rfl rfl rfl ?_
 refine O_loadA (vs := [_, _]) S54 rfl rfl rfl ((((b1.ext e2).ext e3).chg q4 (by first | assumption | omega)).ext e5) rfl rfl ?_
 refine O_callF enters87 rfl rfl rfl (join_c (hF.ext (e4.trans e5)) (tl := .leaf) (tr := .leaf) rfl rfl (by (try simp only [List.length_append]); omega) (by decide)) (fun r9 qs9 i9 w9 hst9 hF9 hq9 hR9 => ?_)
 refine O_assign rfl rfl rfl ?_
 refine WL_end [(6, _)] ⟨rfl, trivial⟩ ?_
 refine WP_ret ?_
 refine inBlk_ret ?_
 refine ret1 Try.results63 rfl ?_
 exact FRet.then (N1 := 0) (qs := []) (FStep.of_ext (e4.trans e5)) (Nat.zero_le _) hst9 (by rw [List.append_nil]; exact hF9) hq9 (by rw [List.append_nil]; exact hR9) (by decide)
set_option maxHeartbeats 2000000 in
theorem set_node {k kk : ByteArray} {v vv : Int} {tl tr : Tr} (ihl : ∀ {w : World} {g r : Nat} {ps : List Part} {i : Int}, Fo w g r ps → Rep ps i tl → ps.length + 3 * tl.ht + 4 ≤ 100000000 → tl.cnt ≤ 10000000 → Calls Try.prog 63 #[.pointer (some ⟨g, 0, none⟩), .int .i64 i, .agg #[.string k, .int .i64 v]] w (FRet g r ps (tl.set k v) (3 * tl.ht + 1) w)) (ihr : ∀ {w : World} {g r : Nat} {ps : List Part} {i : Int}, Fo w g r ps → Rep ps i tr → ps.length + 3 * tr.ht + 4 ≤ 100000000 → tr.cnt ≤ 10000000 → Calls Try.prog 63 #[.pointer (some ⟨g, 0, none⟩), .int .i64 i, .agg #[.string k, .int .i64 v]] w (FRet g r ps (tr.set k v) (3 * tr.ht + 1) w)) {w : World} {g r : Nat} {ps : List Part} (hF : Fo w g r ps) {i : Int} (hR : Rep ps i (.node tl kk vv tr)) (hb : ps.length + 3 * (Tr.node tl kk vv tr).ht + 4 ≤ 100000000) (hc : (Tr.node tl kk vv tr).cnt ≤ 10000000) :
    Calls Try.prog 63 #[.pointer (some ⟨g, 0, none⟩), .int .i64 i, .agg #[.string k, .int .i64 v]] w (FRet g r ps ((Tr.node tl kk vv tr).set k v) (3 * (Tr.node tl kk vv tr).ht + 1) w) := by
 have hgl := hF.g_lt
 have hrl := hF.r_lt
 have hh1 := tl.ht_le
 have hh2 := tr.ht_le
 have hN : (Tr.node tl kk vv tr).ht = max tl.ht tr.ht + 1 := rfl
 have hM : (Tr.node tl kk vv tr).cnt = tl.cnt + tr.cnt + 1 := rfl
 refine enter (args := [_, _, _]) Try.func63 rfl Try.ntmps63 rfl ?_
 refine WP_seq ?_
 refine WP_region ?_
 refine O_box _ rfl rfl rfl rfl (fun g1 w1 b1 e1 gl1 gh1 => ?_)
 have z1 := e1.size
 refine O_assign rfl rfl rfl ?_
 refine WL_end [(0, _), (1, _), (5, _)] ⟨rfl, rfl, rfl, trivial⟩ ?_
 refine WP_seq ?_
 refine WP_region ?_
 refine O_move rfl rfl rfl ?_
 refine O_move rfl rfl rfl ?_
 refine O_call enters62 rfl rfl rfl (getT_c (hF.ext e1) hR) (fun v2 w2 e2 h2 => ?_)
 have z2 := e2.size
 try simp only [val_dig] at h2
 obtain ⟨a2, b2, rfl, ha2, hb2⟩ := h2
 replace ha2 : Rep ps a2 tl := ha2
 replace hb2 : Rep ps b2 tr := hb2
 refine O_alloc S97 rfl rfl (fun g3 w3 b3 e3 gl3 gh3 => ?_)
 have z3 := e3.size
 refine O_storeA (cs' := [_, _, _, _, _, _]) S97 rfl rfl rfl b3 rfl rfl (one_cons rfl (one_cons rfl (one_cons rfl (one_cons rfl (one_cons rfl (one_cons rfl one_nil)))))) rfl (fun w4 b4 q4 => ?_)
 have z4 := Nat.le_of_eq q4.size.symm
 have e4 : Ext w w4 := q4.ext ((e1.trans e2).trans e3) (by omega)
 refine WL_end [(0, _), (1, _), (5, _), (7, _)] ⟨rfl, rfl, rfl, rfl, trivial⟩ ?_
 refine WP_seq ?_
 refine WP_block ?_
 refine WP_seq ?_
 refine WP_region ?_
 refine O_move rfl rfl rfl ?_
 refine O_move rfl rfl rfl ?_
 refine O_call enters67 rfl rfl rfl (empty_F (hF.ext e4) hR (by rw [hN]; omega)) (fun v5 w5 e5 h5 => ?_)
 have z5 := e5.size
 obtain rfl := h5
 refine O_assign rfl rfl rfl ?_
 refine WL_end [(0, _), (5, _), (7, _), (11, _)] ⟨rfl, rfl, rfl, rfl, trivial⟩ ?_
 refine WP_condF rfl ?_
 refine WP_seq ?_
 refine WP_region ?_
 refine O_field F54_0 rfl rfl rfl ?_
 refine O_loadC Try.underlying9 rfl rfl rfl rfl ((((b1.ext e2).ext e3).chg q4 (by first | assumption | omega)).ext e5) rfl ?_
 refine O_field F97_0 rfl rfl rfl ?_
 refine O_field F54_0 rfl rfl rfl ?_
 refine O_loadC Try.underlying9 rfl rfl rfl rfl (b4.ext e5) rfl ?_
 refine O_slss rfl rfl rfl rfl ?_
 refine O_assign rfl rfl rfl ?_
 refine WL_end [(0, _), (5, _), (7, _), (18, _)] ⟨rfl, rfl, rfl, rfl, trivial⟩ ?_
 refine WP_cond rfl (fun c18 => ?_) (fun c18 => ?_)
 · --
  refine WP_seq ?_
  have hFW := (hF.ext (e4.trans e5))
  have kg1 := ((((b1.ext e2).ext e3).chg q4 (by first | assumption | omega)).ext e5)
  have kg3 := (b4.ext e5)
  refine WP_sub [(0, _), (5, _), (7, _)] ⟨rfl, rfl, rfl, trivial⟩ ?_
  refine WP_anyE (FX w5 g r ps (3 * tl.ht + 1) [tl.set k v]) (fun w' => ExtP (FM g r) w5 w') 10 [0, 5, 7] [7] [32] mixed rfl (by kernel_rfl) (by kernel_rfl) (fun vs w' h => h.ext) (fun w' h => FX.start hFW h) ?_
  apply AnyE_val [0] rfl rfl rfl
  · --
   intro y6_ hy
   refine O_move rfl rfl rfl ?_
   exact WL_nil ⟨rfl, rfl⟩
  apply AnyE_val [7] rfl rfl rfl
  · --
   intro y6_ hy
   refine O_field F97_0 rfl rfl rfl ?_
   exact WL_nil ⟨rfl, rfl⟩
  apply AnyE_val [26] rfl rfl rfl
  · --
   intro y6_ hy
   refine O_loadA (vs := [_, _]) S54 rfl rfl rfl (kg3.extP hy (by rintro (h | h) <;> omega)) rfl rfl ?_
   exact WL_nil ⟨rfl, rfl⟩
  apply AnyE_val [0] rfl rfl rfl
  · --
   intro y6_ hy
   refine O_move rfl rfl rfl ?_
   exact WL_nil ⟨rfl, rfl⟩
  apply AnyE_val [7] rfl rfl rfl
  · --
   intro y6_ hy
   refine O_field F97_1 rfl rfl rfl ?_
   exact WL_nil ⟨rfl, rfl⟩
  apply AnyE_val [29] rfl rfl rfl
  · --
   intro y6_ hy
   refine O_loadC Try.underlying3 rfl rfl rfl rfl (kg3.extP hy (by rintro (h | h) <;> omega)) rfl ?_
   exact WL_nil ⟨rfl, rfl⟩
  apply AnyE_val [5] rfl rfl rfl
  · --
   intro y6_ hy
   refine O_loadA (vs := [_, _]) S54 rfl rfl rfl (kg1.extP hy (by rintro (h | h) <;> omega)) rfl rfl ?_
   exact WL_nil ⟨rfl, rfl⟩
  apply AnyE_eff 0 [28, 30, 31] rfl rfl rfl
  · --
   intro vs y6_ hl hX
   obtain rfl : vs = [] := List.eq_nil_of_length_eq_zero hl
   obtain ⟨r1, qs, hst, hFo, hRL, hqs⟩ := hX
   have hqs' := hqs
   simp only [List.length_cons, List.length_nil, Nat.zero_add, Nat.mul_one, Nat.one_mul, Nat.mul_zero] at hqs'
   refine O_callF enters63 rfl rfl rfl (ihl hFo (ha2.more) (by (try simp only [List.length_append]); omega) (by (try simp only [List.length_append]); omega)) (fun r2 qs2 i2 w2 hst2 hF2 hq2 hR2 => ?_)
   exact WL_nil ⟨_, rfl, FX.snoc hst hRL hqs hst2 hF2 hq2 hR2 (Nat.le_refl _) rfl rfl⟩
  apply AnyE_val [7] rfl rfl rfl
  · --
   intro y6_ hy
   refine O_field F97_2 rfl rfl rfl ?_
   exact WL_nil ⟨rfl, rfl⟩
  apply AnyE_val [33] rfl rfl rfl
  · --
   intro y6_ hy
   refine O_loadC Try.underlying3 rfl rfl rfl rfl (kg3.extP hy (by rintro (h | h) <;> omega)) rfl ?_
   exact WL_nil ⟨rfl, rfl⟩
  refine AnyE_nil fun vs y6_ hl hX => ?_
  obtain ⟨v1, rfl⟩ := len1 hl
  obtain ⟨r1, qs, hst, hFo, ⟨⟨i1, rfl, hR1⟩, -⟩, hqs⟩ := hX
  simp only [List.length_cons, List.length_nil, Nat.zero_add, Nat.mul_one, Nat.one_mul, Nat.mul_zero] at hqs
  refine O_callF enters88 rfl rfl rfl (balance_c hFo hR1 (hb2.more) (by (try simp only [List.length_append]); omega) (by have h1 := Tr.set_cnt k v tl; have h2 := Tr.set_cnt k v tr; omega)) (fun r9 qs9 i9 w9 hst9 hF9 hq9 hR9 => ?_)
  refine O_assign rfl rfl rfl ?_
  refine WL_end [(6, _)] ⟨rfl, trivial⟩ ?_
  refine WP_ret ?_
  refine inBlk_ret ?_
  refine ret1 Try.results63 rfl ?_
  rw [Tr.set_lt (show nlt k kk = true from c18)]
  exact FRet.then ((FStep.of_ext (e4.trans e5)).trans hst) hqs hst9 hF9 hq9 hR9 (by rw [hN]; omega)
 · --
  refine WP_seq ?_
  refine WP_region ?_
  refine O_field F54_0 rfl rfl rfl ?_
  refine O_loadC Try.underlying9 rfl rfl rfl rfl ((((b1.ext e2).ext e3).chg q4 (by first | assumption | omega)).ext e5) rfl ?_
  refine O_field F97_0 rfl rfl rfl ?_
  refine O_field F54_0 rfl rfl rfl ?_
  refine O_loadC Try.underlying9 rfl rfl rfl rfl (b4.ext e5) rfl ?_
  refine O_sgtr rfl rfl rfl rfl ?_
  refine O_assign rfl rfl rfl ?_
  refine WL_end [(0, _), (5, _), (7, _), (36, _)] ⟨rfl, rfl, rfl, rfl, trivial⟩ ?_
  refine WP_cond rfl (fun c36 => ?_) (fun c36 => ?_)
  · --
   refine WP_seq ?_
   have hFW := (hF.ext (e4.trans e5))
   have kg1 := ((((b1.ext e2).ext e3).chg q4 (by first | assumption | omega)).ext e5)
   have kg3 := (b4.ext e5)
   refine WP_sub [(0, _), (5, _), (7, _)] ⟨rfl, rfl, rfl, trivial⟩ ?_
   refine WP_anyE (FX w5 g r ps (3 * tr.ht + 1) [tr.set k v]) (fun w' => ExtP (FM g r) w5 w') 10 [0, 5, 7] [9] [52] mixed rfl (by kernel_rfl) (by kernel_rfl) (fun vs w' h => h.ext) (fun w' h => FX.start hFW h) ?_
   apply AnyE_val [0] rfl rfl rfl
   · --
    intro y7_ hy
    refine O_move rfl rfl rfl ?_
    exact WL_nil ⟨rfl, rfl⟩
   apply AnyE_val [7] rfl rfl rfl
   · --
    intro y7_ hy
    refine O_field F97_0 rfl rfl rfl ?_
    exact WL_nil ⟨rfl, rfl⟩
   apply AnyE_val [44] rfl rfl rfl
   · --
    intro y7_ hy
    refine O_loadA (vs := [_, _]) S54 rfl rfl rfl (kg3.extP hy (by rintro (h | h) <;> omega)) rfl rfl ?_
    exact WL_nil ⟨rfl, rfl⟩
   apply AnyE_val [7] rfl rfl rfl
   · --
    intro y7_ hy
    refine O_field F97_1 rfl rfl rfl ?_
    exact WL_nil ⟨rfl, rfl⟩
   apply AnyE_val [46] rfl rfl rfl
   · --
    intro y7_ hy
    refine O_loadC Try.underlying3 rfl rfl rfl rfl (kg3.extP hy (by rintro (h | h) <;> omega)) rfl ?_
    exact WL_nil ⟨rfl, rfl⟩
   apply AnyE_val [0] rfl rfl rfl
   · --
    intro y7_ hy
    refine O_move rfl rfl rfl ?_
    exact WL_nil ⟨rfl, rfl⟩
   apply AnyE_val [7] rfl rfl rfl
   · --
    intro y7_ hy
    refine O_field F97_2 rfl rfl rfl ?_
    exact WL_nil ⟨rfl, rfl⟩
   apply AnyE_val [49] rfl rfl rfl
   · --
    intro y7_ hy
    refine O_loadC Try.underlying3 rfl rfl rfl rfl (kg3.extP hy (by rintro (h | h) <;> omega)) rfl ?_
    exact WL_nil ⟨rfl, rfl⟩
   apply AnyE_val [5] rfl rfl rfl
   · --
    intro y7_ hy
    refine O_loadA (vs := [_, _]) S54 rfl rfl rfl (kg1.extP hy (by rintro (h | h) <;> omega)) rfl rfl ?_
    exact WL_nil ⟨rfl, rfl⟩
   apply AnyE_eff 0 [48, 50, 51] rfl rfl rfl
   · --
    intro vs y7_ hl hX
    obtain rfl : vs = [] := List.eq_nil_of_length_eq_zero hl
    obtain ⟨r1, qs, hst, hFo, hRL, hqs⟩ := hX
    have hqs' := hqs
    simp only [List.length_cons, List.length_nil, Nat.zero_add, Nat.mul_one, Nat.one_mul, Nat.mul_zero] at hqs'
    refine O_callF enters63 rfl rfl rfl (ihr hFo (hb2.more) (by (try simp only [List.length_append]); omega) (by (try simp only [List.length_append]); omega)) (fun r2 qs2 i2 w2 hst2 hF2 hq2 hR2 => ?_)
    exact WL_nil ⟨_, rfl, FX.snoc hst hRL hqs hst2 hF2 hq2 hR2 (Nat.le_refl _) rfl rfl⟩
   refine AnyE_nil fun vs y7_ hl hX => ?_
   obtain ⟨v1, rfl⟩ := len1 hl
   obtain ⟨r1, qs, hst, hFo, ⟨⟨i1, rfl, hR1⟩, -⟩, hqs⟩ := hX
   simp only [List.length_cons, List.length_nil, Nat.zero_add, Nat.mul_one, Nat.one_mul, Nat.mul_zero] at hqs
   refine O_callF enters88 rfl rfl rfl (balance_c hFo (ha2.more) hR1 (by (try simp only [List.length_append]); omega) (by have h1 := Tr.set_cnt k v tl; have h2 := Tr.set_cnt k v tr; omega)) (fun r9 qs9 i9 w9 hst9 hF9 hq9 hR9 => ?_)
   refine O_assign rfl rfl rfl ?_
   refine WL_end [(6, _)] ⟨rfl, trivial⟩ ?_
   refine WP_ret ?_
   refine inBlk_ret ?_
   refine ret1 Try.results63 rfl ?_
   rw [Tr.set_gt (show nlt k kk = false from c18) (show nlt kk k = true from c36)]
   exact FRet.then ((FStep.of_ext (e4.trans e5)).trans hst) hqs hst9 hF9 hq9 hR9 (by rw [hN]; omega)
  · --
   refine WP_skip ?_
   refine WP_seq ?_
   refine WP_region ?_
   refine O_move rfl rfl rfl ?_
   refine O_loadA (vs := [_, _]) S54 rfl rfl rfl ((((b1.ext e2).ext e3).chg q4 (by first | assumption | omega)).ext e5) rfl rfl ?_
   refine O_field F97_1 rfl rfl rfl ?_
   refine O_loadC Try.underlying3 rfl rfl rfl rfl (b4.ext e5) rfl ?_
   refine O_field F97_2 rfl rfl rfl ?_
   refine O_loadC Try.underlying3 rfl rfl rfl rfl (b4.ext e5) rfl ?_
   refine O_callF enters87 rfl rfl rfl (join_c (hF.ext (e4.trans e5)) ha2 hb2 (by (try simp only [List.length_append]); omega) (by omega)) (fun r9 qs9 i9 w9 hst9 hF9 hq9 hR9 => ?_)
   refine O_assign rfl rfl rfl ?_
   refine WL_end [(6, _)] ⟨rfl, trivial⟩ ?_
   refine WP_ret ?_
   refine ret1 Try.results63 rfl ?_
   rw [Tr.set_eq (show nlt k kk = false from c18) (show nlt kk k = false from c36)]
   exact FRet.then (N1 := 0) (qs := []) (FStep.of_ext (e4.trans e5)) (Nat.zero_le _) hst9 (by rw [List.append_nil]; exact hF9) hq9 (by rw [List.append_nil]; exact hR9) (by omega)

theorem set_c {k : ByteArray} {v : Int} : ∀ (t : Tr), ∀ {w : World} {g r : Nat} {ps : List Part} {i : Int}, Fo w g r ps → Rep ps i t → ps.length + 3 * t.ht + 4 ≤ 100000000 → t.cnt ≤ 10000000 → Calls Try.prog 63 #[.pointer (some ⟨g, 0, none⟩), .int .i64 i, .agg #[.string k, .int .i64 v]] w (FRet g r ps (t.set k v) (3 * t.ht + 1) w) := by
  intro t
  induction t with
  | leaf => intro w g r ps i hF hR hb hc; exact set_leaf hF hR (by simp only [Tr.ht] at hb; omega)
  | node tl kk vv tr ihl ihr => intro w g r ps i hF hR hb hc; exact set_node ihl ihr hF hR hb hc

end Go.Proofs.Ytoccimigjjndpaa
