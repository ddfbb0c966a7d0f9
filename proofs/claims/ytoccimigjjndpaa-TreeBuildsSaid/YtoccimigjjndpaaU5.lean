/-
  Walks.
-/
import Derived.Test.YtoccimigjjndpaaU0
import Derived.Test.YtoccimigjjndpaaMore
set_option linter.unusedVariables false
set_option linter.unusedSimpArgs false
set_option maxRecDepth 100000
namespace Go.Proofs.Ytoccimigjjndpaa
open Go Go.RowKit
theorem build_nil {w : World} {g r : Nat} {ps : List Part} {u : Value} {l : Env} (hF : Fo w g r ps) (hs : SlB w u l) (h0 : l.length = 0) :
    Calls Try.prog 71 #[.pointer (some ⟨g, 0, none⟩), u] w (FRet g r ps (bld l) (2 * l.length - 1) w) := by
 refine enter (args := [_, u]) Try.func71 rfl Try.ntmps71 rfl ?_
 refine WP_seq ?_
 refine WP_region ?_
 refine O_assign rfl rfl rfl ?_
 refine WL_end [(0, _), (1, _)] ⟨rfl, rfl, trivial⟩ ?_
 refine WP_seq ?_
 refine WP_seq ?_
 refine WP_region ?_
 refine O_move rfl rfl rfl ?_
 refine B_len Ebind rfl rfl rfl hs ?_
 refine O_eql (t := true) rfl rfl rfl rfl (decide_eq_true (by omega)) ?_
 refine WL_end [(0, _), (1, _), (8, _)] ⟨rfl, rfl, rfl, trivial⟩ ?_
 refine WP_condT rfl ?_
 refine WP_seq ?_
 refine WP_region ?_
 refine O_assign rfl rfl rfl ?_
 refine WL_end [(4, _)] ⟨rfl, trivial⟩ ?_
 refine WP_ret ?_
 refine ret1 Try.results71 rfl ?_
 have hl0 : l = [] := List.eq_nil_of_length_eq_zero h0
 subst hl0
 rw [bld_nil]
 exact FRet.same hF (Ext.refl _) rfl
set_option maxHeartbeats 2000000 in
theorem build_node {n : Nat} {g : Nat} (ih : ∀ (l : Env), l.length ≤ n → ∀ {w : World} {r : Nat} {ps : List Part} {u : Value}, Fo w g r ps → SlB w u l → (l ≠ [] → ¬ FM g r (vblk u)) → ps.length + 2 * l.length ≤ 100000000 → l.length ≤ 10000000 → Calls Try.prog 71 #[.pointer (some ⟨g, 0, none⟩), u] w (FRet g r ps (bld l) (2 * l.length - 1) w)) {w : World} {r : Nat} {ps : List Part} {u : Value} {l : Env} (hF : Fo w g r ps) (hs : SlB w u l) (hn : l.length ≤ n + 1) (hpos : l.length ≠ 0) (hu : l ≠ [] → ¬ FM g r (vblk u)) (hb : ps.length + 2 * l.length ≤ 100000000) (hc : l.length ≤ 10000000) :
    Calls Try.prog 71 #[.pointer (some ⟨g, 0, none⟩), u] w (FRet g r ps (bld l) (2 * l.length - 1) w) := by
 have hne : l ≠ [] := by intro e; rw [e] at hpos; exact hpos rfl
 refine enter (args := [_, u]) Try.func71 rfl Try.ntmps71 rfl ?_
 refine WP_seq ?_
 refine WP_region ?_
 refine O_assign rfl rfl rfl ?_
 refine WL_end [(0, _), (1, _)] ⟨rfl, rfl, trivial⟩ ?_
 refine WP_seq ?_
 refine WP_seq ?_
 refine WP_region ?_
 refine O_move rfl rfl rfl ?_
 refine B_len Ebind rfl rfl rfl hs ?_
 refine O_eql (t := false) rfl rfl rfl rfl (decide_eq_false (by omega)) ?_
 refine WL_end [(0, _), (1, _), (8, _)] ⟨rfl, rfl, rfl, trivial⟩ ?_
 refine WP_condF rfl ?_
 refine WP_skip ?_
 refine WP_seq ?_
 refine WP_region ?_
 refine O_move rfl rfl rfl ?_
 refine B_len Ebind rfl rfl rfl hs ?_
 refine O_quo (r := ((l.length / 2 : Nat) : Int)) rfl rfl rfl rfl (by decide) (by rw [IntKind.wrap_i64, Int.tdiv_eq_ediv_of_nonneg (by omega)]; omega) ?_
 refine O_assign rfl rfl rfl ?_
 refine WL_end [(0, _), (1, _), (5, _)] ⟨rfl, rfl, rfl, trivial⟩ ?_
 refine WP_seq ?_
 have hFW := hF
 have hsW : SlB w u l := hs
 have hkl : l.length / 2 < l.length := by omega
 have hlt := hsW.blk_lt (by intro e; rw [e] at hpos; exact hpos rfl)
 refine WP_sub [(0, _), (1, _), (5, _)] ⟨rfl, rfl, rfl, trivial⟩ ?_
 refine WP_anyE (FX w g r ps (2 * (l.length / 2) - 1) [bld (l.take (l.length / 2)), bld (l.drop (l.length / 2 + 1))]) (fun w' => ExtP (FM g r) w w') 16 [0, 1, 5] [9, 15] [21, 27] mixed rfl (by kernel_rfl) (by kernel_rfl) (fun vs w' h => h.ext) (fun w' h => FX.start hFW h) ?_
 apply AnyE_val [0] rfl rfl rfl
 · --
  intro y1_ hy
  refine O_move rfl rfl rfl ?_
  exact WL_nil ⟨rfl, rfl⟩
 apply AnyE_val [1] rfl rfl rfl
 · --
  intro y1_ hy
  refine O_move rfl rfl rfl ?_
  exact WL_nil ⟨rfl, rfl⟩
 apply AnyE_val [5] rfl rfl rfl
 · --
  intro y1_ hy
  refine O_move rfl rfl rfl ?_
  exact WL_nil ⟨rfl, rfl⟩
 apply AnyE_val [13, 14] rfl rfl rfl
 · --
  intro y1_ hy
  refine B_index Ebind rfl rfl rfl rfl (hsW.extP hy hu) (l.length / 2) rfl hkl (fun _ => ?_)
  exact WL_nil ⟨rfl, rfl⟩
 apply AnyE_val [15] rfl rfl rfl
 · --
  intro y1_ hy
  refine K_load S54 rfl rfl rfl (SlB.row (j := (l.length / 2)) (hsW.extP hy hu) hkl) rfl ?_
  exact WL_nil ⟨rfl, rfl⟩
 apply AnyE_val [0] rfl rfl rfl
 · --
  intro y1_ hy
  refine O_move rfl rfl rfl ?_
  exact WL_nil ⟨rfl, rfl⟩
 apply AnyE_val [1] rfl rfl rfl
 · --
  intro y1_ hy
  refine O_move rfl rfl rfl ?_
  exact WL_nil ⟨rfl, rfl⟩
 apply AnyE_val [5] rfl rfl rfl
 · --
  intro y1_ hy
  refine O_move rfl rfl rfl ?_
  exact WL_nil ⟨rfl, rfl⟩
 apply AnyE_val [18, 19] rfl rfl rfl
 · --
  intro y1_ hy
  refine B_sliceToV Ebind rfl rfl rfl rfl (hsW.extP hy hu) (l.length / 2) rfl (by omega) ?_
  exact WL_nil ⟨rfl, rfl⟩
 apply AnyE_eff 0 [17, 20] rfl rfl rfl
 · --
  intro vs y1_ hl hX
  obtain rfl : vs = [] := List.eq_nil_of_length_eq_zero hl
  obtain ⟨r1, qs, hst, hFo, hRL, hqs⟩ := hX
  have hqs' : qs.length ≤ 0 := by simpa using hqs
  have hsy := hsW.extP hst.1 hu
  have hu1 : ∀ b, b = vblk u → ¬ FM g r1 b := by
    rintro b rfl (h | h)
    · exact hu hne (.inl h)
    · rcases hst.2 with h2 | h2
      · exact hu hne (.inr (by omega))
      · omega
  refine O_callF enters71 rfl rfl rfl (ih (l.take (l.length / 2)) (by simp only [List.length_take]; omega) hFo (SlK.takeB hsy _ (by omega)) (fun _ => hu1 _ (SlB.take_blk hsy _)) (by simp only [List.length_append, List.length_take]; omega) (by simp only [List.length_take]; omega)) (fun r2 qs2 i2 w2 hst2 hF2 hq2 hR2 => ?_)
  exact WL_nil ⟨_, rfl, FX.snoc hst hRL hqs hst2 hF2 hq2 hR2 (by (try simp only [List.length_take, List.length_drop]); omega) rfl rfl⟩
 apply AnyE_val [0] rfl rfl rfl
 · --
  intro y1_ hy
  refine O_move rfl rfl rfl ?_
  exact WL_nil ⟨rfl, rfl⟩
 apply AnyE_val [1] rfl rfl rfl
 · --
  intro y1_ hy
  refine O_move rfl rfl rfl ?_
  exact WL_nil ⟨rfl, rfl⟩
 apply AnyE_val [5] rfl rfl rfl
 · --
  intro y1_ hy
  refine O_move rfl rfl rfl ?_
  exact WL_nil ⟨rfl, rfl⟩
 apply AnyE_val [24] rfl rfl rfl
 · --
  intro y1_ hy
  refine O_add (r := ((l.length / 2 + 1 : Nat) : Int)) rfl rfl rfl rfl (by rw [IntKind.wrap_i64]; omega) ?_
  exact WL_nil ⟨rfl, rfl⟩
 apply AnyE_val [23, 25] rfl rfl rfl
 · --
  intro y1_ hy
  refine B_sliceFromV Ebind rfl rfl rfl rfl (hsW.extP hy hu) (l.length / 2 + 1) rfl (by omega) ?_
  exact WL_nil ⟨rfl, rfl⟩
 apply AnyE_eff 1 [22, 26] rfl rfl rfl
 · --
  intro vs y1_ hl hX
  obtain ⟨v1, rfl⟩ := len1 hl
  obtain ⟨r1, qs, hst, hFo, hRL, hqs⟩ := hX
  have hqs' : qs.length ≤ 2 * (l.length / 2) - 1 := by simpa using hqs
  have hsy := hsW.extP hst.1 hu
  have hu1 : ∀ b, b = vblk u → ¬ FM g r1 b := by
    rintro b rfl (h | h)
    · exact hu hne (.inl h)
    · rcases hst.2 with h2 | h2
      · exact hu hne (.inr (by omega))
      · omega
  refine O_callF enters71 rfl rfl rfl (ih (l.drop (l.length / 2 + 1)) (by simp only [List.length_drop]; omega) hFo (SlK.dropB hsy _ (by omega)) (fun _ => hu1 _ (SlB.drop_blk hsy _ _)) (by simp only [List.length_append, List.length_drop]; omega) (by simp only [List.length_drop]; omega)) (fun r2 qs2 i2 w2 hst2 hF2 hq2 hR2 => ?_)
  exact WL_nil ⟨_, rfl, FX.snoc hst hRL hqs hst2 hF2 hq2 hR2 (by (try simp only [List.length_take, List.length_drop]); omega) rfl rfl⟩
 refine AnyE_nil fun vs y1_ hl hX => ?_
 obtain ⟨v1, v2, rfl⟩ := len2 hl
 obtain ⟨r1, qs, hst, hFo, ⟨⟨i1, rfl, hR1⟩, ⟨i2, rfl, hR2⟩, -⟩, hqs0⟩ := hX
 have hqs : qs.length ≤ (2 * (l.length / 2) - 1) * 2 := hqs0
 have hb1 := bld_cnt (l.take (l.length / 2))
 have hb2 := bld_cnt (l.drop (l.length / 2 + 1))
 rw [List.length_take] at hb1
 rw [List.length_drop] at hb2
 refine O_callF enters87 rfl rfl rfl (join_c (k := (l[l.length / 2]'hkl).1) (v := (l[l.length / 2]'hkl).2) hFo hR1 hR2 (by simp only [List.length_append]; omega) (by omega)) (fun r9 qs9 i9 w9 hst9 hF9 hq9 hR9 => ?_)
 refine O_assign rfl rfl rfl ?_
 refine WL_end [(4, _)] ⟨rfl, trivial⟩ ?_
 refine WP_ret ?_
 refine ret1 Try.results71 rfl ?_
 rw [bld_pos hpos]
 exact FRet.then ((FStep.of_ext (Ext.refl _)).trans hst) hqs hst9 hF9 hq9 hR9 (by omega)

theorem build_c {g : Nat} : ∀ (n : Nat), ∀ (l : Env), l.length ≤ n → ∀ {w : World} {r : Nat} {ps : List Part} {u : Value}, Fo w g r ps → SlB w u l → (l ≠ [] → ¬ FM g r (vblk u)) → ps.length + 2 * l.length ≤ 100000000 → l.length ≤ 10000000 → Calls Try.prog 71 #[.pointer (some ⟨g, 0, none⟩), u] w (FRet g r ps (bld l) (2 * l.length - 1) w) := by
  intro n
  induction n with
  | zero => intro l hl w r ps u hF hs hu hb hc; exact build_nil hF hs (by omega)
  | succ n ih =>
    intro l hl w r ps u hF hs hu hb hc
    by_cases h0 : l.length = 0
    · exact build_nil hF hs h0
    · exact build_node ih hF hs hl h0 hu hb hc
theorem Build_T {w : World} {g r : Nat} {ps : List Part} {u : Value} {l : Env} (hF : Fo w g r ps) (hs : SlB w u l) (hl : l.length ≤ 10000000) (ha : Asc l) (hu : l ≠ [] → ¬ FM g r (vblk u)) (hb : ps.length + 2 * l.length ≤ 100000000) :
    Calls Try.prog 40 #[.pointer (some ⟨g, 0, none⟩), u] w (FRetM (fun i => .tuple #[.int .i64 i, .int .i64 0]) g r ps (bld l) (2 * l.length - 1) w) := by
 refine enter (args := [_, u]) Try.func40 rfl Try.ntmps40 rfl ?_
 refine WP_seq ?_
 refine WP_region ?_
 refine O_assign rfl rfl rfl ?_
 refine O_assign rfl rfl rfl ?_
 refine WL_end [(0, _), (1, _)] ⟨rfl, rfl, trivial⟩ ?_
 refine WP_seq ?_
 refine WP_seq ?_
 refine WP_region ?_
 refine O_assign rfl rfl rfl ?_
 refine WL_end [(0, _), (1, _), (6, _)] ⟨rfl, rfl, rfl, trivial⟩ ?_
 refine WP_block ?_
 refine WP_loop (S := Nat) (fun i => [(0, .pointer (some ⟨g, 0, none⟩)), (1, u), (6, .int .i64 ((i : Nat) + 1 : Int))]) (fun i w' => Ext w w' ∧ i ≤ l.length ∧ ∀ j (h : j + 1 < l.length), j < i → nlt l[j].1 (l[j + 1]'h).1 = true) (fun i => l.length - i) 0 ⟨rfl, rfl, rfl, trivial⟩ ⟨(Ext.refl _), Nat.zero_le _, fun j _ h => absurd h (Nat.not_lt_zero _)⟩ ?_
 rintro i w9 ⟨hE, hi, hasc⟩
 have zE := hE.size
 refine WP_seq ?_
 refine WP_seq ?_
 refine WP_region ?_
 refine O_move rfl rfl rfl ?_
 refine O_move rfl rfl rfl ?_
 refine B_len Ebind rfl rfl rfl (hs.ext hE) ?_
 refine O_lss rfl rfl rfl rfl rfl ?_
 refine WL_end [(0, _), (1, _), (6, _), (10, _)] ⟨rfl, rfl, rfl, rfl, trivial⟩ ?_
 refine WP_condD rfl (fun c10 => ?_) (fun c10 => ?_)
 · --
  refine WP_skip ?_
  refine WP_seq ?_
  refine WP_block ?_
  refine WP_seq ?_
  have hi1 : i < l.length := by omega
  have hi2 : i + 1 < l.length := by omega
  · --
   skip
   refine WP_sub [(0, _), (1, _), (6, _)] ⟨rfl, rfl, rfl, trivial⟩ ?_
   refine WP_anyR 11 [0, 1, 6] mixed rfl (by kernel_rfl) ?_
   apply AnyR_val [1] rfl (by kernel_rfl)
   · --
    intro y1 hy1
    have zy1 := hy1.size
    refine AllV_nil ?_
    refine O_move rfl rfl rfl ?_
    exact WL_nil ⟨(Ext.refl _), rfl⟩
   apply AnyR_val [6] rfl (by kernel_rfl)
   · --
    intro y2 hy2
    have zy2 := hy2.size
    refine AllV_nil ?_
    refine O_move rfl rfl rfl ?_
    exact WL_nil ⟨(Ext.refl _), rfl⟩
   apply AnyR_val [14] rfl (by kernel_rfl)
   · --
    intro y3 hy3
    have zy3 := hy3.size
    refine AllV_v ?_
    refine AllV_nil ?_
    refine O_sub (r := ((i : Nat) : Int)) rfl rfl rfl rfl (by rw [IntKind.wrap_i64]; omega) ?_
    exact WL_nil ⟨(Ext.refl _), rfl⟩
   apply AnyR_val [13, 15] rfl (by kernel_rfl)
   · --
    intro y4 hy4
    have zy4 := hy4.size
    refine AllV_v ?_
    refine AllV_v ?_
    refine AllV_nil ?_
    refine B_index Ebind rfl rfl rfl rfl (hs.ext (hE.trans hy4)) i rfl hi1 (fun _ => ?_)
    exact WL_nil ⟨(Ext.refl _), rfl⟩
   apply AnyR_val [16] rfl (by kernel_rfl)
   · --
    intro y5 hy5
    have zy5 := hy5.size
    refine AllV_v ?_
    refine AllV_nil ?_
    refine K_field F54_0 rfl rfl rfl ?_
    exact WL_nil ⟨(Ext.refl _), rfl⟩
   apply AnyR_val [17] rfl (by kernel_rfl)
   · --
    intro y6 hy6
    have zy6 := hy6.size
    refine AllV_v ?_
    refine AllV_nil ?_
    refine B_cell Try.underlying9 rfl rfl rfl rfl (SlB.row (j := i) (hs.ext (hE.trans hy6)) hi1) rfl ?_
    exact WL_nil ⟨(Ext.refl _), rfl⟩
   apply AnyR_val [1] rfl (by kernel_rfl)
   · --
    intro y7 hy7
    have zy7 := hy7.size
    refine AllV_nil ?_
    refine O_move rfl rfl rfl ?_
    exact WL_nil ⟨(Ext.refl _), rfl⟩
   apply AnyR_val [6] rfl (by kernel_rfl)
   · --
    intro y8 hy8
    have zy8 := hy8.size
    refine AllV_nil ?_
    refine O_move rfl rfl rfl ?_
    exact WL_nil ⟨(Ext.refl _), rfl⟩
   apply AnyR_val [19, 20] rfl (by kernel_rfl)
   · --
    intro y9 hy9
    have zy9 := hy9.size
    refine AllV_v ?_
    refine AllV_v ?_
    refine AllV_nil ?_
    refine B_index Ebind rfl rfl rfl rfl (hs.ext (hE.trans hy9)) (i + 1) (by omega) hi2 (fun _ => ?_)
    exact WL_nil ⟨(Ext.refl _), rfl⟩
   apply AnyR_val [21] rfl (by kernel_rfl)
   · --
    intro y10 hy10
    have zy10 := hy10.size
    refine AllV_v ?_
    refine AllV_nil ?_
    refine K_field F54_0 rfl rfl rfl ?_
    exact WL_nil ⟨(Ext.refl _), rfl⟩
   apply AnyR_val [22] rfl (by kernel_rfl)
   · --
    intro y11 hy11
    have zy11 := hy11.size
    refine AllV_v ?_
    refine AllV_nil ?_
    refine B_cell Try.underlying9 rfl rfl rfl rfl (SlB.row (j := (i + 1)) (hs.ext (hE.trans hy11)) hi2) rfl ?_
    exact WL_nil ⟨(Ext.refl _), rfl⟩
   refine AnyR_nil fun y12 hy12 => ?_
   have zy12 := hy12.size
   refine AllV_v ?_
   refine AllV_v ?_
   refine AllV_v ?_
   refine AllV_v ?_
   refine AllV_v ?_
   refine AllV_v ?_
   refine AllV_v ?_
   refine AllV_v ?_
   refine AllV_v ?_
   refine AllV_v ?_
   refine AllV_v ?_
   refine AllV_nil ?_
   refine O_sgeq rfl rfl rfl rfl ?_
   refine WL_end [(0, _), (1, _), (6, _), (24, _)] ⟨rfl, rfl, rfl, rfl, trivial⟩ ?_
   refine WP_cond rfl (fun c24 => ?_) (fun c24 => ?_)
   · --
    exfalso
    have := asc_get ha hi2
    simp [this] at c24
   · --
    refine WP_skip ?_
    refine WP_region ?_
    refine O_move rfl rfl rfl ?_
    refine O_add rfl rfl rfl rfl (wrap_i64_id (by omega) (by omega)) ?_
    refine O_assign rfl rfl rfl ?_
    refine WL_end [(0, _), (1, _), (6, _)] ⟨rfl, rfl, rfl, trivial⟩ ?_
    exact ⟨i + 1, ⟨rfl, rfl, (by simp only [look]; congr 3 <;> omega), trivial⟩, ⟨(hE.trans hy12), by omega, fun j hj1 _ => asc_get ha hj1⟩, by omega⟩
 · --
  refine WP_exit ?_
  refine inBlk_hit ?_
  refine WP_seq ?_
  refine WP_region ?_
  refine O_move rfl rfl rfl ?_
  refine O_move rfl rfl rfl ?_
  refine O_callF enters71 rfl rfl rfl (build_c l.length l (Nat.le_refl _) (hF.ext hE) (hs.ext hE) hu hb hl) (fun r9 qs9 i9 w9 hst9 hF9 hq9 hR9 => ?_)
  refine O_assign rfl rfl rfl ?_
  refine O_assign rfl rfl rfl ?_
  refine WL_end [(4, _), (5, _)] ⟨rfl, rfl, trivial⟩ ?_
  refine WP_ret ?_
  refine ret2 Try.results40 rfl rfl ?_
  exact ⟨r9, qs9, i9, rfl, (FStep.of_ext hE).trans hst9, hF9, hq9, hR9⟩
theorem Build_F {w : World} {g r : Nat} {ps : List Part} {u : Value} {l : Env} (hF : Fo w g r ps) (hs : SlB w u l) (hl : l.length ≤ 10000000) (ha : ¬ Asc l) :
    Calls Try.prog 40 #[.pointer (some ⟨g, 0, none⟩), u] w (Ret w fun r _ => r = .tuple #[.int .i64 (-1), .int .i64 1]) := by
 refine enter (args := [_, u]) Try.func40 rfl Try.ntmps40 rfl ?_
 refine WP_seq ?_
 refine WP_region ?_
 refine O_assign rfl rfl rfl ?_
 refine O_assign rfl rfl rfl ?_
 refine WL_end [(0, _), (1, _)] ⟨rfl, rfl, trivial⟩ ?_
 refine WP_seq ?_
 refine WP_seq ?_
 refine WP_region ?_
 refine O_assign rfl rfl rfl ?_
 refine WL_end [(0, _), (1, _), (6, _)] ⟨rfl, rfl, rfl, trivial⟩ ?_
 refine WP_block ?_
 refine WP_loop (S := Nat) (fun i => [(0, .pointer (some ⟨g, 0, none⟩)), (1, u), (6, .int .i64 ((i : Nat) + 1 : Int))]) (fun i w' => Ext w w' ∧ i ≤ l.length ∧ ∀ j (h : j + 1 < l.length), j < i → nlt l[j].1 (l[j + 1]'h).1 = true) (fun i => l.length - i) 0 ⟨rfl, rfl, rfl, trivial⟩ ⟨(Ext.refl _), Nat.zero_le _, fun j _ h => absurd h (Nat.not_lt_zero _)⟩ ?_
 rintro i w9 ⟨hE, hi, hasc⟩
 have zE := hE.size
 refine WP_seq ?_
 refine WP_seq ?_
 refine WP_region ?_
 refine O_move rfl rfl rfl ?_
 refine O_move rfl rfl rfl ?_
 refine B_len Ebind rfl rfl rfl (hs.ext hE) ?_
 refine O_lss rfl rfl rfl rfl rfl ?_
 refine WL_end [(0, _), (1, _), (6, _), (10, _)] ⟨rfl, rfl, rfl, rfl, trivial⟩ ?_
 refine WP_condD rfl (fun c10 => ?_) (fun c10 => ?_)
 · --
  refine WP_skip ?_
  refine WP_seq ?_
  refine WP_block ?_
  refine WP_seq ?_
  have hi1 : i < l.length := by omega
  have hi2 : i + 1 < l.length := by omega
  · --
   skip
   refine WP_sub [(0, _), (1, _), (6, _)] ⟨rfl, rfl, rfl, trivial⟩ ?_
   refine WP_anyR 11 [0, 1, 6] mixed rfl (by kernel_rfl) ?_
   apply AnyR_val [1] rfl (by kernel_rfl)
   · --
    intro y1 hy1
    have zy1 := hy1.size
    refine AllV_nil ?_
    refine O_move rfl rfl rfl ?_
    exact WL_nil ⟨(Ext.refl _), rfl⟩
   apply AnyR_val [6] rfl (by kernel_rfl)
   · --
    intro y2 hy2
    have zy2 := hy2.size
    refine AllV_nil ?_
    refine O_move rfl rfl rfl ?_
    exact WL_nil ⟨(Ext.refl _), rfl⟩
   apply AnyR_val [14] rfl (by kernel_rfl)
   · --
    intro y3 hy3
    have zy3 := hy3.size
    refine AllV_v ?_
    refine AllV_nil ?_
    refine O_sub (r := ((i : Nat) : Int)) rfl rfl rfl rfl (by rw [IntKind.wrap_i64]; omega) ?_
    exact WL_nil ⟨(Ext.refl _), rfl⟩
   apply AnyR_val [13, 15] rfl (by kernel_rfl)
   · --
    intro y4 hy4
    have zy4 := hy4.size
    refine AllV_v ?_
    refine AllV_v ?_
    refine AllV_nil ?_
    refine B_index Ebind rfl rfl rfl rfl (hs.ext (hE.trans hy4)) i rfl hi1 (fun _ => ?_)
    exact WL_nil ⟨(Ext.refl _), rfl⟩
   apply AnyR_val [16] rfl (by kernel_rfl)
   · --
    intro y5 hy5
    have zy5 := hy5.size
    refine AllV_v ?_
    refine AllV_nil ?_
    refine K_field F54_0 rfl rfl rfl ?_
    exact WL_nil ⟨(Ext.refl _), rfl⟩
   apply AnyR_val [17] rfl (by kernel_rfl)
   · --
    intro y6 hy6
    have zy6 := hy6.size
    refine AllV_v ?_
    refine AllV_nil ?_
    refine B_cell Try.underlying9 rfl rfl rfl rfl (SlB.row (j := i) (hs.ext (hE.trans hy6)) hi1) rfl ?_
    exact WL_nil ⟨(Ext.refl _), rfl⟩
   apply AnyR_val [1] rfl (by kernel_rfl)
   · --
    intro y7 hy7
    have zy7 := hy7.size
    refine AllV_nil ?_
    refine O_move rfl rfl rfl ?_
    exact WL_nil ⟨(Ext.refl _), rfl⟩
   apply AnyR_val [6] rfl (by kernel_rfl)
   · --
    intro y8 hy8
    have zy8 := hy8.size
    refine AllV_nil ?_
    refine O_move rfl rfl rfl ?_
    exact WL_nil ⟨(Ext.refl _), rfl⟩
   apply AnyR_val [19, 20] rfl (by kernel_rfl)
   · --
    intro y9 hy9
    have zy9 := hy9.size
    refine AllV_v ?_
    refine AllV_v ?_
    refine AllV_nil ?_
    refine B_index Ebind rfl rfl rfl rfl (hs.ext (hE.trans hy9)) (i + 1) (by omega) hi2 (fun _ => ?_)
    exact WL_nil ⟨(Ext.refl _), rfl⟩
   apply AnyR_val [21] rfl (by kernel_rfl)
   · --
    intro y10 hy10
    have zy10 := hy10.size
    refine AllV_v ?_
    refine AllV_nil ?_
    refine K_field F54_0 rfl rfl rfl ?_
    exact WL_nil ⟨(Ext.refl _), rfl⟩
   apply AnyR_val [22] rfl (by kernel_rfl)
   · --
    intro y11 hy11
    have zy11 := hy11.size
    refine AllV_v ?_
    refine AllV_nil ?_
    refine B_cell Try.underlying9 rfl rfl rfl rfl (SlB.row (j := (i + 1)) (hs.ext (hE.trans hy11)) hi2) rfl ?_
    exact WL_nil ⟨(Ext.refl _), rfl⟩
   refine AnyR_nil fun y12 hy12 => ?_
   have zy12 := hy12.size
   refine AllV_v ?_
   refine AllV_v ?_
   refine AllV_v ?_
   refine AllV_v ?_
   refine AllV_v ?_
   refine AllV_v ?_
   refine AllV_v ?_
   refine AllV_v ?_
   refine AllV_v ?_
   refine AllV_v ?_
   refine AllV_v ?_
   refine AllV_nil ?_
   refine O_sgeq rfl rfl rfl rfl ?_
   refine WL_end [(0, _), (1, _), (6, _), (24, _)] ⟨rfl, rfl, rfl, rfl, trivial⟩ ?_
   refine WP_cond rfl (fun c24 => ?_) (fun c24 => ?_)
   · --
    refine WP_seq ?_
    refine WP_region ?_
    refine O_assign rfl rfl rfl ?_
    refine O_assign rfl rfl rfl ?_
    refine WL_end [(4, _), (5, _)] ⟨rfl, rfl, trivial⟩ ?_
    refine WP_ret ?_
    refine inBlk_ret ?_
    refine inBlk_ret ?_
    refine ret2 Try.results40 rfl rfl ?_
    exact ⟨_, rfl, (hE.trans hy12), rfl⟩
   · --
    refine WP_skip ?_
    refine WP_region ?_
    refine O_move rfl rfl rfl ?_
    refine O_add rfl rfl rfl rfl (wrap_i64_id (by omega) (by omega)) ?_
    refine O_assign rfl rfl rfl ?_
    refine WL_end [(0, _), (1, _), (6, _)] ⟨rfl, rfl, rfl, trivial⟩ ?_
    exact ⟨i + 1, ⟨rfl, rfl, (by simp only [look]; congr 3 <;> omega), trivial⟩, ⟨(hE.trans hy12), by omega, fun j hj1 hj2 => by
      by_cases e : j = i
      · subst e; simpa using c24
      · exact hasc j hj1 (by omega)⟩, by omega⟩
 · --
  refine WP_exit ?_
  refine inBlk_hit ?_
  refine WP_seq ?_
  exfalso
  exact ha (asc_of fun j hj => hasc j hj (by omega))

end Go.Proofs.Ytoccimigjjndpaa
