/-
  Walks.
-/
import Derived.Test.YtnfnadhbjdcbnaaDoorS5
import Derived.Test.YtnfnadhbjdcbnaaDoorSlb
set_option linter.unusedVariables false
set_option linter.unusedSimpArgs false
set_option maxRecDepth 100000
namespace Go.Proofs.YtnfnadhbjdcbnaaDoor
open Go Go.RowKit
theorem M111 : ElT Tryd.prog 111 5 (.int .u8 0) 1 := ElT.mk' Tryd.underlying111 (by kernel_rfl)
theorem one9 : (Tryd.prog.info? 9).map (·.size) = some 1 := by kernel_rfl
theorem one41 : (Tryd.prog.info? 41).map (·.size) = some 1 := by kernel_rfl

theorem rev_step {α : Type} {l r : List α} {i : Nat} {a b : α} (hl : r.length = l.length) (h : ∀ k : Nat, k < l.length → r[k]? = if k < i ∨ l.length - 1 - k < i then l[l.length - 1 - k]? else l[k]?) (hi : i < l.length - 1 - i) (ha : r[i]? = some a) (hb : r[l.length - 1 - i]? = some b) :
    ∀ k : Nat, k < l.length → ((r.set i b).set (l.length - 1 - i) a)[k]? = if k < i + 1 ∨ l.length - 1 - k < i + 1 then l[l.length - 1 - k]? else l[k]? := by
  intro k hk
  have h1 := h i (by omega)
  rw [if_neg (by omega), ha] at h1
  have h2 := h (l.length - 1 - i) (by omega)
  rw [if_neg (by omega), hb] at h2
  by_cases e1 : k = l.length - 1 - i
  · rw [if_pos (by omega), e1, List.getElem?_set_self (by simp; omega), show l.length - 1 - (l.length - 1 - i) = i from by omega, ← h1]
  · rw [List.getElem?_set_ne (by omega)]
    by_cases e2 : k = i
    · rw [if_pos (by omega), e2, List.getElem?_set_self (by omega), ← h2]
    · rw [List.getElem?_set_ne (by omega), h k hk]
      by_cases e3 : k < i ∨ l.length - 1 - k < i
      · rw [if_pos e3, if_pos (by omega)]
      · rw [if_neg e3, if_neg (by omega)]
theorem rev_end {α : Type} {l r : List α} {i : Nat} (hl : r.length = l.length) (h : ∀ k : Nat, k < l.length → r[k]? = if k < i ∨ l.length - 1 - k < i then l[l.length - 1 - k]? else l[k]?) (hi : l.length - 1 - i ≤ i) : r = l.reverse := by
  apply List.ext_getElem?
  intro k
  by_cases hk : k < l.length
  · rw [h k hk, List.getElem?_reverse hk]
    by_cases e : k < i ∨ l.length - 1 - k < i
    · rw [if_pos e]
    · rw [if_neg e, show l.length - 1 - k = k from by omega]
  · rw [List.getElem?_eq_none (by omega), List.getElem?_eq_none (by simp; omega)]

set_option maxHeartbeats 1000000 in
theorem rev_c {w0 w : World} {v : Value} {l : List Int} {B : Nat} (hE : Ext w0 w) (hB : w0.heap.size ≤ B) (ho : OwM fB B 5 w v l) (hl : l.length ≤ 1000000) :
    Calls Tryd.prog 118 #[v] w (fun e w' => e = .returned (.tuple #[]) ∧ Ext w0 w' ∧ ExtT [5] w w' ∧ OwM fB B 5 w' v l.reverse) := by
 have zE := hE.size
 refine enter (args := [v]) Tryd.func118 rfl Tryd.ntmps118 rfl ?_
 refine WP_seq ?_
 refine WP_region ?_
 refine O_move rfl rfl rfl ?_
 refine M_len M111 rfl rfl rfl ho.sl ?_
 refine O_sub (r := ((l.length : Int) - 1 - ((0 : Nat) : Int))) rfl rfl rfl rfl (by rw [IntKind.wrap_i64]; omega) ?_
 refine O_assign rfl rfl rfl ?_
 refine O_assign rfl rfl rfl ?_
 refine WL_end [(0, _), (2, _), (3, _)] ⟨rfl, rfl, rfl, trivial⟩ ?_
 refine WP_block ?_
 refine WP_loop (S := Nat × List Int) (fun (i, r) => [(0, v), (2, .int .i64 (i : Nat)), (3, .int .i64 ((l.length : Int) - 1 - (i : Nat)))]) (fun (i, r) w' => Ext w0 w' ∧ ExtT [5] w w' ∧ i ≤ l.length ∧ r.length = l.length ∧ OwM fB B 5 w' v r ∧ ∀ k : Nat, k < l.length → r[k]? = if k < i ∨ l.length - 1 - k < i then l[l.length - 1 - k]? else l[k]?) (fun (i, r) => l.length - i) (0, l) ⟨rfl, rfl, rfl, trivial⟩ ⟨hE, ExtT.refl _ _, Nat.zero_le _, rfl, ho, fun k hk => by rw [if_neg (by omega)]⟩ ?_
 rintro ⟨i, r⟩ w9 ⟨hE9, hT9, hi, hr, ho9, hk⟩
 show WP _ _ _ _ _ [(0, v), (2, .int .i64 (i : Nat)), (3, .int .i64 ((l.length : Int) - 1 - (i : Nat)))] _
 have zE9 := hE9.size
 refine WP_seq ?_
 refine WP_seq ?_
 refine WP_region ?_
 refine O_move rfl rfl rfl ?_
 refine O_move rfl rfl rfl ?_
 refine O_lss rfl rfl rfl rfl rfl ?_
 refine WL_end [(0, _), (2, _), (3, _), (9, _)] ⟨rfl, rfl, rfl, rfl, trivial⟩ ?_
 refine WP_condD rfl (fun c9 => ?_) (fun c9 => ?_)
 · --
  refine WP_skip ?_
  refine WP_seq ?_
  refine WP_block ?_
  have hi1 : i < r.length := by omega
  have hi2 : l.length - 1 - i < r.length := by omega
  · --
   skip
   refine WP_sub [(0, _), (2, _), (3, _)] ⟨rfl, rfl, rfl, trivial⟩ ?_
   refine WP_anyF (fun vs w' => (vs[0]? = some none → OwM fB B 5 w' v r ∧ Ext w0 w' ∧ ExtT [5] w9 w') ∧ (vs[0]?.join.isSome = true → OwM fB B 5 w' v (r.set i r[l.length - 1 - i]) ∧ Ext w0 w' ∧ ExtT [5] w9 w')) (fun _ => True) 14 [0, 2, 3] [13] [none] [[]] mixed rfl (by kernel_rfl) (by kernel_rfl) (fun _ _ _ => trivial) (fun w' h => ⟨fun _ => ⟨ho9.ext h, hE9.trans h, h.toT⟩, fun h' => by cases h'⟩) ?_
   apply AnyF_val [0] (fun _ _ _ => trivial) rfl rfl rfl
   · --
    intro y1_ hy
    refine O_move rfl rfl rfl ?_
    exact WL_nil ⟨rfl, rfl⟩
   apply AnyF_val [2] (fun _ _ _ => trivial) rfl rfl rfl
   · --
    intro y1_ hy
    refine O_move rfl rfl rfl ?_
    exact WL_nil ⟨rfl, rfl⟩
   apply AnyF_val [0] (fun _ _ _ => trivial) rfl rfl rfl
   · --
    intro y1_ hy
    refine O_move rfl rfl rfl ?_
    exact WL_nil ⟨rfl, rfl⟩
   apply AnyF_val [3] (fun _ _ _ => trivial) rfl rfl rfl
   · --
    intro y1_ hy
    refine O_move rfl rfl rfl ?_
    exact WL_nil ⟨rfl, rfl⟩
   apply AnyF_val [0] (fun _ _ _ => trivial) rfl rfl rfl
   · --
    intro y1_ hy
    refine O_move rfl rfl rfl ?_
    exact WL_nil ⟨rfl, rfl⟩
   apply AnyF_val [3] (fun _ _ _ => trivial) rfl rfl rfl
   · --
    intro y1_ hy
    refine O_move rfl rfl rfl ?_
    exact WL_nil ⟨rfl, rfl⟩
   apply AnyF_val [18, 19] (fun _ _ _ => trivial) rfl rfl rfl
   · --
    intro y1_ hy
    refine M_indexAt M111 rfl rfl rfl rfl ho9.sl (l.length - 1 - i) (by omega) hi2 ?_
    exact WL_nil ⟨rfl, rfl⟩
   apply AnyF_valN [0] [20] rfl rfl rfl (by kernel_rfl)
   · --
    intro vs y1_ hl hns hX
    obtain ⟨v0, rfl⟩ := len1o hl
    obtain rfl : v0 = none := by simpa using hns 0 (by simp)
    obtain ⟨hoy, hEy, hTy⟩ := hX.1 rfl
    refine M_load Tryd.underlying5 rfl rfl rfl rfl hoy.sl hi2 ?_
    exact WL_nil ⟨rfl, rfl⟩
   apply AnyF_val [0] (fun _ _ _ => trivial) rfl rfl rfl
   · --
    intro y1_ hy
    refine O_move rfl rfl rfl ?_
    exact WL_nil ⟨rfl, rfl⟩
   apply AnyF_val [2] (fun _ _ _ => trivial) rfl rfl rfl
   · --
    intro y1_ hy
    refine O_move rfl rfl rfl ?_
    exact WL_nil ⟨rfl, rfl⟩
   apply AnyF_val [22, 23] (fun _ _ _ => trivial) rfl rfl rfl
   · --
    intro y1_ hy
    refine M_indexAt M111 rfl rfl rfl rfl ho9.sl i rfl hi1 ?_
    exact WL_nil ⟨rfl, rfl⟩
   apply AnyF_valN [0] [24] rfl rfl rfl (by kernel_rfl)
   · --
    intro vs y1_ hl hns hX
    obtain ⟨v0, rfl⟩ := len1o hl
    obtain rfl : v0 = none := by simpa using hns 0 (by simp)
    obtain ⟨hoy, hEy, hTy⟩ := hX.1 rfl
    refine M_load Tryd.underlying5 rfl rfl rfl rfl hoy.sl hi1 ?_
    exact WL_nil ⟨rfl, rfl⟩
   apply AnyF_val [14, 15] (fun _ _ _ => trivial) rfl rfl rfl
   · --
    intro y1_ hy
    refine M_indexAt M111 rfl rfl rfl rfl ho9.sl i rfl hi1 ?_
    exact WL_nil ⟨rfl, rfl⟩
   apply AnyF_st 0 [] [26, 21] rfl rfl rfl rfl
   · --
    intro vs y1_ hl hnone hwait hX
    obtain ⟨v0, rfl⟩ := len1o hl
    obtain rfl : v0 = none := by simpa using hnone
    obtain ⟨hoy, hEy, hTy⟩ := hX.1 rfl
    refine M_store M111 rfl rfl rfl rfl hoy hi1 (fun w13 o13 q13 a13 => ?_)
    exact WL_nil ⟨(fun h => by cases h), fun _ => ⟨o13, q13.ext hEy (by omega), hTy.trans (OwM.chgT hoy (by intro e; rw [e] at hi1; simp at hi1) q13)⟩⟩
   refine AnyF_nil fun vs y1_ hl hdone hX => ?_
   obtain ⟨v0, rfl⟩ := len1o hl
   obtain ⟨u0, hu0⟩ := hdone 0 (by decide)
   obtain rfl : v0 = some u0 := by simpa using hu0
   obtain ⟨ho3, hE3, hT3⟩ := hX.2 rfl
   have hi3 : l.length - 1 - i < (r.set i r[l.length - 1 - i]).length := by simp; omega
   have zT3 := hT3.size
   refine M_index M111 rfl rfl rfl rfl ho3.sl (l.length - 1 - i) (by omega) hi3 ?_
   refine M_store M111 rfl rfl rfl rfl ho3 hi3 (fun w2 o2 q2 a2 => ?_)
   have z2 := Nat.le_of_eq q2.size.symm
   have e2 : Ext w0 w2 := q2.ext hE3 (by omega)
   have x2 := OwM.chgT ho3 (by intro e; rw [e] at hi3; simp at hi3) q2
   refine WL_end [(0, _), (2, _), (3, _)] ⟨rfl, rfl, rfl, trivial⟩ ?_
   refine WP_region ?_
   refine O_move rfl rfl rfl ?_
   refine O_add rfl rfl rfl rfl (wrap_i64_id (by omega) (by omega)) ?_
   refine O_move rfl rfl rfl ?_
   refine O_sub rfl rfl rfl rfl (wrap_i64_id (by omega) (by omega)) ?_
   refine O_assign rfl rfl rfl ?_
   refine O_assign rfl rfl rfl ?_
   refine WL_end [(0, _), (2, _), (3, _)] ⟨rfl, rfl, rfl, trivial⟩ ?_
   refine ⟨(i + 1, (r.set i r[l.length - 1 - i]).set (l.length - 1 - i) r[i]), ⟨rfl, rfl, (by simp only [look]; congr 2; omega), trivial⟩, ⟨e2, ?_, by omega, by simp [hr], o2, rev_step hr hk (by omega) (List.getElem?_eq_getElem hi1) (List.getElem?_eq_getElem hi2)⟩, by dsimp only; omega⟩
   exact hT9.trans (show ExtT [5] _ _ from (ExtT.trans (hT3.mono (by decide)) (x2.mono (by decide))))
 · --
  refine WP_exit ?_
  refine inBlk_hit ?_
  refine ret0 Tryd.results118 ?_
  obtain rfl := rev_end hr hk (by omega)
  exact ⟨rfl, hE9, hT9, ho9⟩

end Go.Proofs.YtnfnadhbjdcbnaaDoor
