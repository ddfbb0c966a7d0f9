/-
  Walks.
-/
import Derived.Test.YtnfnadhbjdcbnaaDoorD4
set_option linter.unusedVariables false
set_option linter.unusedSimpArgs false
set_option maxRecDepth 100000
namespace Go.Proofs.YtnfnadhbjdcbnaaDoor
open Go Go.RowKit
theorem sib : ∃ fn, Tryd.prog.funcs[(128 : Nat)]? = some fn ∧ (fn.name == "runtime.NumGoroutine") = false ∧ fn.body.isNone = true ∧ Extern.findNext fn = none ∧ Extern.find fn = some Extern.BytealgIndexByte.indexByte := ⟨_, Tryd.func128, by kernel_rfl, rfl, by kernel_rfl, by kernel_rfl⟩
/-- Where the first 'p' stands. -/
def pidx : List UInt8 → Nat
  | [] => 0
  | b :: l => if b = 112 then 0 else pidx l + 1
theorem pidx_le : ∀ l, pidx l ≤ l.length
  | [] => Nat.le_refl _
  | b :: l => by unfold pidx; split; · omega
                 · have := pidx_le l; simp only [List.length_cons]; omega
theorem ib_pidx : ∀ l : List UInt8, Lib.indexByte l 112 = if pidx l < l.length then (pidx l : Int) else -1
  | [] => rfl
  | b :: l => by
    unfold Lib.indexByte pidx
    have ih := ib_pidx l
    by_cases h : b = 112
    · subst h; simp
    · have h1 : (b == 112) = false := by simpa using h
      rw [h1, ih]
      simp only [h, if_false, List.length_cons, Bool.false_eq_true, Nat.add_lt_add_iff_right]
      by_cases h2 : pidx l < l.length
      · simp only [h2, if_true]
        have h3 : ((pidx l : Int) == -1) = false := by simp
        rw [h3]; simp
      · simp [h2]
theorem pidx_get : ∀ {l : List UInt8}, pidx l < l.length → l[pidx l]? = some 112
  | [], h => by simp at h
  | b :: l, h => by
    unfold pidx at h ⊢
    split
    · rename_i e; simp [e]
    · rename_i e
      rw [if_neg e] at h
      simpa using pidx_get (l := l) (by simpa using h)
theorem pidx_lt : ∀ {l : List UInt8} {i : Nat}, i < pidx l → ∃ b, l[i]? = some b ∧ b ≠ 112
  | [], i, h => by simp [pidx] at h
  | b :: l, i, h => by
    unfold pidx at h
    split at h
    · omega
    · rename_i e
      match i with
      | 0 => exact ⟨b, rfl, e⟩
      | i + 1 => simpa using pidx_lt (l := l) (i := i) (by omega)
theorem pidx_app : ∀ {a : List UInt8} (c : List UInt8), (∀ b ∈ a, b ≠ 112) → pidx (a ++ 112 :: c) = a.length
  | [], c, _ => by simp [pidx]
  | b :: a, c, h => by
    rw [List.cons_append]
    unfold pidx
    rw [if_neg (h b (by simp)), pidx_app c (fun x hx => h x (by simp [hx]))]
    rfl
def cutok (l : List UInt8) : Prop := pidx l < l.length
instance (l : List UInt8) : Decidable (cutok l) := by unfold cutok; exact inferInstance
def cutb (l : List UInt8) : List UInt8 := l.take (pidx l)
def cuta (l : List UInt8) : List UInt8 := l.drop (pidx l + 1)
instance (l : List UInt8) : Decidable (natok l) := by unfold natok; exact inferInstance
instance (l : List UInt8) : Decidable (intok l) := by unfold intok; exact inferInstance
/-- What the parser of integers answers. -/
def dpc (l : List UInt8) : Int := if 20001 < l.length then 7 else if intok l then 0 else 6
def dpz (l : List UInt8) : Int := if dpc l = 0 then pint l else 0
theorem dpc_big {l : List UInt8} (h : 20001 < l.length) : dpc l = 7 ∧ dpz l = 0 := by
  have h1 : dpc l = 7 := if_pos h
  exact ⟨h1, by unfold dpz; rw [h1]; rfl⟩
theorem dpc_ok {l : List UInt8} (h : ¬ 20001 < l.length) (h2 : intok l) : dpc l = 0 ∧ dpz l = pint l := by
  have h1 : dpc l = 0 := by unfold dpc; rw [if_neg h, if_pos h2]
  exact ⟨h1, if_pos h1⟩
theorem dpc_bad {l : List UInt8} (h : ¬ 20001 < l.length) (h2 : ¬ intok l) : dpc l = 6 ∧ dpz l = 0 := by
  have h1 : dpc l = 6 := by unfold dpc; rw [if_neg h, if_neg h2]
  exact ⟨h1, by unfold dpz; rw [h1]; rfl⟩
theorem body_len (l : List UInt8) : (body l).length ≤ l.length := by unfold body; split <;> simp
theorem dpz_len (l : List UInt8) : (dig (dpz l).natAbs).length ≤ 20001 := by
  by_cases h : 20001 < l.length
  · rw [(dpc_big h).2]; simp [dig_zero]
  · by_cases h2 : intok l
    · rw [(dpc_ok h h2).2]
      have h3 : (pint l).natAbs = dnum (body l) := by unfold pint; split <;> simp
      rw [h3]
      have h4 := dnum_dlen h2.1.2.1
      have h5 := body_len l
      omega
    · rw [(dpc_bad h h2).2]; simp [dig_zero]
theorem sgn_cons {l : List UInt8} {b : UInt8} (h : l[0]? = some b) (hb : b.toNat = 45) : sgn l = true := by
  unfold sgn; rw [h, decide_eq_true_eq]; congr 1; exact UInt8.toNat_inj.1 (by rw [hb]; rfl)
theorem sgn_cons' {l : List UInt8} {b : UInt8} (h : l[0]? = some b) (hb : ¬ b.toNat = 45) : sgn l = false := by
  unfold sgn; rw [h, decide_eq_false_iff_not]; intro e; exact hb (by rw [Option.some.inj e]; rfl)
theorem pcases (l : List UInt8) : l = [] ∨ (l ≠ [] ∧ sgn l = true ∧ natok (l.drop 1) ∧ dnum (l.drop 1) = 0) ∨ (l ≠ [] ∧ sgn l = true ∧ natok (l.drop 1) ∧ dnum (l.drop 1) ≠ 0) ∨ (l ≠ [] ∧ sgn l = true ∧ ¬ natok (l.drop 1)) ∨ (l ≠ [] ∧ sgn l = false ∧ natok l) ∨ (l ≠ [] ∧ sgn l = false ∧ ¬ natok l) := by
  by_cases hl0 : l = []
  · exact Or.inl hl0
  · refine Or.inr ?_
    by_cases hs : sgn l = true
    · by_cases h1 : natok (l.drop 1)
      · by_cases h2 : dnum (l.drop 1) = 0
        · exact Or.inl ⟨hl0, hs, h1, h2⟩
        · exact Or.inr (Or.inl ⟨hl0, hs, h1, h2⟩)
      · exact Or.inr (Or.inr (Or.inl ⟨hl0, hs, h1⟩))
    · by_cases h1 : natok l
      · exact Or.inr (Or.inr (Or.inr (Or.inl ⟨hl0, by simpa using hs, h1⟩)))
      · exact Or.inr (Or.inr (Or.inr (Or.inr ⟨hl0, by simpa using hs, h1⟩)))
theorem intok_neg {l : List UInt8} (hs : sgn l = true) (h1 : natok (l.drop 1)) (h2 : dnum (l.drop 1) ≠ 0) : intok l ∧ pint l = mk true (dnum (l.drop 1)) := by
  have e : body l = l.drop 1 := if_pos hs
  refine ⟨⟨by rw [e]; exact h1, fun h => h2 (by rw [← e]; exact h.2)⟩, ?_⟩
  unfold pint mk; rw [if_pos hs, if_pos rfl, e]
theorem intok_pos {l : List UInt8} (hs : sgn l = false) (h1 : natok l) : intok l ∧ pint l = mk false (dnum l) := by
  have e : body l = l := if_neg (by rw [hs]; decide)
  refine ⟨⟨by rw [e]; exact h1, fun h => by rw [hs] at h; cases h.1⟩, ?_⟩
  unfold pint mk; rw [if_neg (by rw [hs]; decide), if_neg (by decide), e]
theorem intok_not_neg {l : List UInt8} (hs : sgn l = true) (h : ¬ natok (l.drop 1) ∨ dnum (l.drop 1) = 0) : ¬ intok l := by
  have e : body l = l.drop 1 := if_pos hs
  rintro ⟨h1, h2⟩
  rw [e] at h1 h2
  rcases h with h | h
  · exact h h1
  · exact h2 ⟨hs, h⟩
theorem intok_not_pos {l : List UInt8} (hs : sgn l = false) (h : ¬ natok l) : ¬ intok l := by
  have e : body l = l := if_neg (by rw [hs]; decide)
  rintro ⟨h1, _⟩
  rw [e] at h1; exact h h1

theorem sidxb_c {w : World} {l : List UInt8} {c : Int} :
    Calls Tryd.prog 123 #[.string (bs l), .int .u8 c] w (Ret w fun r _ => r = .int .i64 (Lib.indexByte l c.toNat.toUInt8)) := by
 refine enter (args := [_, _]) Tryd.func123 rfl Tryd.ntmps123 rfl ?_
 refine WP_seq ?_
 refine WP_region ?_
 refine O_assign rfl rfl rfl ?_
 refine WL_end [(0, _), (1, _)] ⟨rfl, rfl, trivial⟩ ?_
 refine WP_seq ?_
 refine WP_region ?_
 refine O_move rfl rfl rfl ?_
 refine O_move rfl rfl rfl ?_
 obtain ⟨fn7, hf7, hn7, hb7, hx7, he7⟩ := sib
 refine O_callIB hf7 hn7 hb7 hx7 he7 rfl rfl rfl rfl ?_
 refine O_assign rfl rfl rfl ?_
 refine WL_end [(4, _)] ⟨rfl, trivial⟩ ?_
 refine WP_ret ?_
 refine ret1 Tryd.results123 rfl ?_
 exact ⟨_, rfl, (Ext.refl _), rfl⟩
theorem sidx_c {w : World} {l : List UInt8} :
    Calls Tryd.prog 115 #[.string (bs l), .string (bs [112])] w (Ret w fun r _ => r = .int .i64 (Lib.indexByte l 112)) := by
 refine enter (args := [_, _]) Tryd.func115 rfl Tryd.ntmps115 rfl ?_
 refine WP_seq ?_
 refine WP_region ?_
 refine O_assign rfl rfl rfl ?_
 refine WL_end [(0, _), (1, _)] ⟨rfl, rfl, trivial⟩ ?_
 refine WP_seq ?_
 refine WP_region ?_
 refine O_move rfl rfl rfl ?_
 refine S_len Tryd.underlying9 rfl rfl rfl ?_
 refine O_assign rfl rfl rfl ?_
 refine WL_end [(0, _), (1, _), (5, _)] ⟨rfl, rfl, rfl, trivial⟩ ?_
 refine WP_seq ?_
 refine WP_block ?_
 refine WP_seq ?_
 by_cases h1 : l = [112]
 · --
  skip
  refine WP_region ?_
  refine O_move rfl rfl rfl ?_
  refine O_eql (t := false) rfl rfl rfl rfl (decide_eq_false (by decide)) ?_
  refine O_move rfl rfl rfl ?_
  refine O_move rfl rfl rfl ?_
  refine O_move rfl rfl rfl ?_
  refine S_eql (a := [112]) rfl rfl rfl rfl (decide_eq_true h1.symm) ?_
  refine O_pickF rfl rfl rfl rfl ?_
  refine O_assign rfl rfl rfl ?_
  refine WL_end [(0, _), (1, _), (5, _), (16, _)] ⟨rfl, rfl, rfl, rfl, trivial⟩ ?_
  refine WP_condT rfl ?_
  refine WP_seq ?_
  refine WP_region ?_
  refine O_assign rfl rfl rfl ?_
  refine WL_end [(4, _)] ⟨rfl, trivial⟩ ?_
  refine WP_ret ?_
  refine inBlk_ret ?_
  refine ret1 Tryd.results115 rfl ?_
  exact ⟨_, rfl, (Ext.refl _), by rw [h1]; rfl⟩
 · --
  skip
  refine WP_region ?_
  refine O_move rfl rfl rfl ?_
  refine O_eql (t := false) rfl rfl rfl rfl (decide_eq_false (by decide)) ?_
  refine O_move rfl rfl rfl ?_
  refine O_move rfl rfl rfl ?_
  refine O_move rfl rfl rfl ?_
  refine S_eql (a := [112]) rfl rfl rfl rfl (decide_eq_false (fun h => h1 h.symm)) ?_
  refine O_pickF rfl rfl rfl rfl ?_
  refine O_assign rfl rfl rfl ?_
  refine WL_end [(0, _), (1, _), (5, _), (16, _)] ⟨rfl, rfl, rfl, rfl, trivial⟩ ?_
  refine WP_condF rfl ?_
  refine WP_seq ?_
  refine WP_region ?_
  refine O_move rfl rfl rfl ?_
  refine O_eql (t := true) rfl rfl rfl rfl (decide_eq_true (by decide)) ?_
  refine O_assign rfl rfl rfl ?_
  refine WL_end [(0, _), (1, _), (5, _), (24, _)] ⟨rfl, rfl, rfl, rfl, trivial⟩ ?_
  refine WP_condT rfl ?_
  refine WP_seq ?_
  refine WP_region ?_
  refine O_move rfl rfl rfl ?_
  refine O_move rfl rfl rfl ?_
  refine S_idx Tryd.underlying9 rfl rfl rfl rfl 0 rfl (l := [112]) rfl ?_
  refine O_call enters123 rfl rfl rfl (sidxb_c) (fun v1 w1 e1 h1 => ?_)
  have z1 := e1.size
  obtain rfl := h1
  refine O_assign rfl rfl rfl ?_
  refine WL_end [(4, _)] ⟨rfl, trivial⟩ ?_
  refine WP_ret ?_
  refine inBlk_ret ?_
  refine ret1 Tryd.results115 rfl ?_
  exact ⟨_, rfl, e1, rfl⟩

theorem slcut_T {w : World} {l : List UInt8} (hl : l.length ≤ 1000000) (hok : cutok l) :
    Calls Tryd.prog 103 #[.string (bs l), .string (bs [112])] w (Ret w fun r _ => r = .tuple #[.string (bs (cutb l)), .string (bs (cuta l)), .bool true]) := by
 refine enter (args := [_, _]) Tryd.func103 rfl Tryd.ntmps103 rfl ?_
 refine WP_seq ?_
 refine WP_region ?_
 refine O_assign rfl rfl rfl ?_
 refine O_assign rfl rfl rfl ?_
 refine O_assign rfl rfl rfl ?_
 refine WL_end [(0, _), (1, _)] ⟨rfl, rfl, trivial⟩ ?_
 refine WP_seq ?_
 refine WP_seq ?_
 refine WP_region ?_
 refine O_move rfl rfl rfl ?_
 refine O_move rfl rfl rfl ?_
 refine O_call enters115 rfl rfl rfl (sidx_c) (fun v1 w1 e1 h1 => ?_)
 have z1 := e1.size
 obtain rfl := h1
 rw [ib_pidx, if_pos (show pidx l < l.length from hok)]
 refine O_assign rfl rfl rfl ?_
 refine WL_end [(0, _), (1, _), (7, _)] ⟨rfl, rfl, rfl, trivial⟩ ?_
 refine WP_seq ?_
 refine WP_region ?_
 refine O_move rfl rfl rfl ?_
 refine O_geq (t := true) rfl rfl rfl rfl (decide_eq_true (by omega)) ?_
 refine WL_end [(0, _), (1, _), (7, _), (12, _)] ⟨rfl, rfl, rfl, rfl, trivial⟩ ?_
 refine WP_condT rfl ?_
 refine WP_seq ?_
 refine WP_sub [(0, _), (1, _), (7, _)] ⟨rfl, rfl, rfl, trivial⟩ ?_
 refine WP_anyR 10 [0, 1, 7] mixed rfl (by kernel_rfl) ?_
 apply AnyR_val [0] rfl (by kernel_rfl)
 · --
  intro y2 hy2
  have zy2 := hy2.size
  refine AllV_nil ?_
  refine O_move rfl rfl rfl ?_
  exact WL_nil ⟨(Ext.refl _), rfl⟩
 apply AnyR_val [7] rfl (by kernel_rfl)
 · --
  intro y3 hy3
  have zy3 := hy3.size
  refine AllV_nil ?_
  refine O_move rfl rfl rfl ?_
  exact WL_nil ⟨(Ext.refl _), rfl⟩
 apply AnyR_val [13, 14] rfl (by kernel_rfl)
 · --
  intro y4 hy4
  have zy4 := hy4.size
  refine AllV_v ?_
  refine AllV_v ?_
  refine AllV_nil ?_
  refine S_to Tryd.underlying9 rfl rfl rfl rfl (pidx l) rfl (pidx_le l) ?_
  exact WL_nil ⟨(Ext.refl _), rfl⟩
 apply AnyR_val [0] rfl (by kernel_rfl)
 · --
  intro y5 hy5
  have zy5 := hy5.size
  refine AllV_nil ?_
  refine O_move rfl rfl rfl ?_
  exact WL_nil ⟨(Ext.refl _), rfl⟩
 apply AnyR_val [7] rfl (by kernel_rfl)
 · --
  intro y6 hy6
  have zy6 := hy6.size
  refine AllV_nil ?_
  refine O_move rfl rfl rfl ?_
  exact WL_nil ⟨(Ext.refl _), rfl⟩
 apply AnyR_val [1] rfl (by kernel_rfl)
 · --
  intro y7 hy7
  have zy7 := hy7.size
  refine AllV_nil ?_
  refine O_move rfl rfl rfl ?_
  exact WL_nil ⟨(Ext.refl _), rfl⟩
 apply AnyR_val [18] rfl (by kernel_rfl)
 · --
  intro y8 hy8
  have zy8 := hy8.size
  refine AllV_v ?_
  refine AllV_nil ?_
  refine S_len Tryd.underlying9 rfl rfl rfl ?_
  exact WL_nil ⟨(Ext.refl _), rfl⟩
 apply AnyR_val [17, 19] rfl (by kernel_rfl)
 · --
  intro y9 hy9
  have zy9 := hy9.size
  refine AllV_v ?_
  refine AllV_v ?_
  refine AllV_nil ?_
  refine O_add (r := ((pidx l + 1 : Nat) : Int)) rfl rfl rfl rfl (by unfold cutok at hok; rw [IntKind.wrap_i64, show ([112] : List UInt8).length = 1 from rfl]; omega) ?_
  exact WL_nil ⟨(Ext.refl _), rfl⟩
 apply AnyR_val [16, 20] rfl (by kernel_rfl)
 · --
  intro y10 hy10
  have zy10 := hy10.size
  refine AllV_v ?_
  refine AllV_v ?_
  refine AllV_nil ?_
  refine S_from Tryd.underlying9 rfl rfl rfl rfl (pidx l + 1) rfl hok ?_
  exact WL_nil ⟨(Ext.refl _), rfl⟩
 apply AnyR_val [15] rfl (by kernel_rfl)
 · --
  intro y11 hy11
  have zy11 := hy11.size
  refine AllV_v ?_
  refine AllV_nil ?_
  refine O_assign rfl rfl rfl ?_
  exact WL_nil ⟨(Ext.refl _), rfl⟩
 refine AnyR_nil fun y12 hy12 => ?_
 have zy12 := hy12.size
 refine AllV_v ?_
 refine AllV_v ?_
 refine AllV_v ?_
 refine AllV_v ?_
 refine AllV_v ?_
 refine AllV_v ?_
 refine AllV_v ?_
 refine AllV_v ?_
 refine AllV_v ?_
 refine AllV_v ?_
 refine AllV_nil ?_
 refine O_assign rfl rfl rfl ?_
 refine O_assign rfl rfl rfl ?_
 refine WL_end [(4, _), (5, _), (6, _)] ⟨rfl, rfl, rfl, trivial⟩ ?_
 refine WP_ret ?_
 refine ret3 Tryd.results103 rfl rfl rfl ?_
 exact ⟨_, rfl, (e1.trans hy12), rfl⟩
theorem slcut_F {w : World} {l : List UInt8} (hl : l.length ≤ 1000000) (hok : ¬ cutok l) :
    Calls Tryd.prog 103 #[.string (bs l), .string (bs [112])] w (Ret w fun r _ => r = .tuple #[.string (bs l), .string (bs []), .bool false]) := by
 refine enter (args := [_, _]) Tryd.func103 rfl Tryd.ntmps103 rfl ?_
 refine WP_seq ?_
 refine WP_region ?_
 refine O_assign rfl rfl rfl ?_
 refine O_assign rfl rfl rfl ?_
 refine O_assign rfl rfl rfl ?_
 refine WL_end [(0, _), (1, _)] ⟨rfl, rfl, trivial⟩ ?_
 refine WP_seq ?_
 refine WP_seq ?_
 refine WP_region ?_
 refine O_move rfl rfl rfl ?_
 refine O_move rfl rfl rfl ?_
 refine O_call enters115 rfl rfl rfl (sidx_c) (fun v1 w1 e1 h1 => ?_)
 have z1 := e1.size
 obtain rfl := h1
 rw [ib_pidx, if_neg (show ¬ pidx l < l.length from hok)]
 refine O_assign rfl rfl rfl ?_
 refine WL_end [(0, _), (1, _), (7, _)] ⟨rfl, rfl, rfl, trivial⟩ ?_
 refine WP_seq ?_
 refine WP_region ?_
 refine O_move rfl rfl rfl ?_
 refine O_geq (t := false) rfl rfl rfl rfl (decide_eq_false (by omega)) ?_
 refine WL_end [(0, _), (1, _), (7, _), (12, _)] ⟨rfl, rfl, rfl, rfl, trivial⟩ ?_
 refine WP_condF rfl ?_
 refine WP_skip ?_
 refine WP_seq ?_
 refine WP_region ?_
 refine O_move rfl rfl rfl ?_
 refine O_assign rfl rfl rfl ?_
 refine O_assign rfl rfl rfl ?_
 refine O_assign rfl rfl rfl ?_
 refine WL_end [(4, _), (5, _), (6, _)] ⟨rfl, rfl, rfl, trivial⟩ ?_
 refine WP_ret ?_
 refine ret3 Tryd.results103 rfl rfl rfl ?_
 exact ⟨_, rfl, e1, rfl⟩
theorem strcut_T {w : World} {l : List UInt8} (hl : l.length ≤ 1000000) (hok : cutok l) :
    Calls Tryd.prog 68 #[.string (bs l), .string (bs [112])] w (Ret w fun r _ => r = .tuple #[.string (bs (cutb l)), .string (bs (cuta l)), .bool true]) := by
 refine enter (args := [_, _]) Tryd.func68 rfl Tryd.ntmps68 rfl ?_
 refine WP_seq ?_
 refine WP_region ?_
 refine O_assign rfl rfl rfl ?_
 refine O_assign rfl rfl rfl ?_
 refine O_assign rfl rfl rfl ?_
 refine WL_end [(0, _), (1, _)] ⟨rfl, rfl, trivial⟩ ?_
 refine WP_seq ?_
 refine WP_region ?_
 refine O_move rfl rfl rfl ?_
 refine O_move rfl rfl rfl ?_
 refine O_call enters103 rfl rfl rfl (slcut_T (by (try simp only [lens]); omega) hok) (fun v1 w1 e1 h1 => ?_)
 have z1 := e1.size
 try simp only [val_dig] at h1
 obtain rfl := h1
 refine O_extract rfl rfl rfl rfl ?_
 refine O_extract rfl rfl rfl rfl ?_
 refine O_extract rfl rfl rfl rfl ?_
 refine O_assign rfl rfl rfl ?_
 refine O_assign rfl rfl rfl ?_
 refine O_assign rfl rfl rfl ?_
 refine WL_end [(4, _), (5, _), (6, _)] ⟨rfl, rfl, rfl, trivial⟩ ?_
 refine WP_ret ?_
 refine ret3 Tryd.results68 rfl rfl rfl ?_
 exact ⟨_, rfl, e1, rfl⟩
theorem strcut_F {w : World} {l : List UInt8} (hl : l.length ≤ 1000000) (hok : ¬ cutok l) :
    Calls Tryd.prog 68 #[.string (bs l), .string (bs [112])] w (Ret w fun r _ => r = .tuple #[.string (bs l), .string (bs []), .bool false]) := by
 refine enter (args := [_, _]) Tryd.func68 rfl Tryd.ntmps68 rfl ?_
 refine WP_seq ?_
 refine WP_region ?_
 refine O_assign rfl rfl rfl ?_
 refine O_assign rfl rfl rfl ?_
 refine O_assign rfl rfl rfl ?_
 refine WL_end [(0, _), (1, _)] ⟨rfl, rfl, trivial⟩ ?_
 refine WP_seq ?_
 refine WP_region ?_
 refine O_move rfl rfl rfl ?_
 refine O_move rfl rfl rfl ?_
 refine O_call enters103 rfl rfl rfl (slcut_F (by (try simp only [lens]); omega) hok) (fun v1 w1 e1 h1 => ?_)
 have z1 := e1.size
 try simp only [val_dig] at h1
 obtain rfl := h1
 refine O_extract rfl rfl rfl rfl ?_
 refine O_extract rfl rfl rfl rfl ?_
 refine O_extract rfl rfl rfl rfl ?_
 refine O_assign rfl rfl rfl ?_
 refine O_assign rfl rfl rfl ?_
 refine O_assign rfl rfl rfl ?_
 refine WL_end [(4, _), (5, _), (6, _)] ⟨rfl, rfl, rfl, trivial⟩ ?_
 refine WP_ret ?_
 refine ret3 Tryd.results68 rfl rfl rfl ?_
 exact ⟨_, rfl, e1, rfl⟩

end Go.Proofs.YtnfnadhbjdcbnaaDoor
