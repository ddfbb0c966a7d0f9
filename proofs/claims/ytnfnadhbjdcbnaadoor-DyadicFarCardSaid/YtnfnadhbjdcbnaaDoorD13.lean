/-
  Walks.
-/
import Derived.Test.YtnfnadhbjdcbnaaDoorD8
import Derived.Test.YtnfnadhbjdcbnaaDoorAnyF
set_option linter.unusedVariables false
set_option linter.unusedSimpArgs false
set_option maxRecDepth 100000
namespace Go.Proofs.YtnfnadhbjdcbnaaDoor
open Go Go.RowKit
/-- Five operations of a drawn region: a call, a move, two extracts, a store into block g; what is known by those that are done. K is what lasts. -/
def XF (K : World → Prop) (B : Nat) (e t : TypeId) (g : Nat) (old : List Value) (l : List Nat) (T A : Value → Value) (C : Value) (new : Value → List Value) (a0 a1 a2 a3 a4 : Option Value) (w' : World) : Prop :=
  K w' ∧ (a4 = none → Bk w' g t old) ∧ ∃ q, (∀ v, a0 = some v → v = T q ∧ No B e w' q l) ∧ (∀ v, a1 = some v → v = T q ∧ a0.isSome = true) ∧ (∀ v, a2 = some v → v = A q ∧ a0.isSome = true) ∧
    (∀ v, a3 = some v → v = C ∧ a0.isSome = true) ∧ (∀ v, a4 = some v → Bk w' g t (new q) ∧ a0.isSome = true)
section
variable {K : World → Prop} {B : Nat} {e t : TypeId} {g : Nat} {old : List Value} {l : List Nat} {T A : Value → Value} {C : Value} {new : Value → List Value} {a0 a1 a2 a3 a4 : Option Value} {w' w'' : World} {q v0 v1 v2 v3 v4 : Value}
theorem XF.init (hk : K w') (hb : Bk w' g t old) : XF K B e t g old l T A C new none none none none none w' :=
  ⟨hk, fun _ => hb, .bool true, (fun _ h => by cases h), (fun _ h => by cases h), (fun _ h => by cases h), (fun _ h => by cases h), (fun _ h => by cases h)⟩
theorem XF.s0 (h : XF K B e t g old l T A C new none a1 a2 a3 a4 w') (hKe : ∀ a b, Ext a b → K a → K b) (he : Ext w' w'') (hq : No B e w'' q l) : XF K B e t g old l T A C new (some (T q)) a1 a2 a3 a4 w'' := by
  obtain ⟨hk, ho, q', h0, h1, h2, h3, h4⟩ := h
  have n1 : a1 = none := by cases a1 with | none => rfl | some v => exact absurd (h1 v rfl).2 (by simp)
  have n2 : a2 = none := by cases a2 with | none => rfl | some v => exact absurd (h2 v rfl).2 (by simp)
  have n3 : a3 = none := by cases a3 with | none => rfl | some v => exact absurd (h3 v rfl).2 (by simp)
  have n4 : a4 = none := by cases a4 with | none => rfl | some v => exact absurd (h4 v rfl).2 (by simp)
  subst n1 n2 n3 n4
  exact ⟨hKe _ _ he hk, fun _ => (ho rfl).ext he, q, fun v h => ⟨(Option.some.inj h).symm, hq⟩, (fun _ h => by cases h), (fun _ h => by cases h), (fun _ h => by cases h), (fun _ h => by cases h)⟩
theorem XF.s1 (h : XF K B e t g old l T A C new (some v0) none a2 a3 a4 w') : XF K B e t g old l T A C new (some v0) (some v0) a2 a3 a4 w' := by
  obtain ⟨hk, ho, q', h0, h1, h2, h3, h4⟩ := h
  exact ⟨hk, ho, q', h0, fun v h => ⟨(Option.some.inj h) ▸ (h0 v0 rfl).1, rfl⟩, h2, h3, h4⟩
theorem XF.s2 (h : XF K B e t g old l T A C new a0 (some v1) none a3 a4 w') : ∃ q, v1 = T q ∧ XF K B e t g old l T A C new a0 (some v1) (some (A q)) a3 a4 w' := by
  obtain ⟨hk, ho, q', h0, h1, h2, h3, h4⟩ := h
  exact ⟨q', (h1 v1 rfl).1, hk, ho, q', h0, h1, fun v h => ⟨(Option.some.inj h).symm, (h1 v1 rfl).2⟩, h3, h4⟩
theorem XF.s3 (h : XF K B e t g old l T A C new a0 (some v1) a2 none a4 w') : ∃ q, v1 = T q ∧ XF K B e t g old l T A C new a0 (some v1) a2 (some C) a4 w' := by
  obtain ⟨hk, ho, q', h0, h1, h2, h3, h4⟩ := h
  exact ⟨q', (h1 v1 rfl).1, hk, ho, q', h0, h1, h2, fun v h => ⟨(Option.some.inj h).symm, (h1 v1 rfl).2⟩, h4⟩
theorem XF.s4 (hKc : ∀ a b cs, Bk a g t cs → Chg g a b → K a → K b) (hne : e ≠ t) (h : XF K B e t g old l T A C new a0 a1 (some v2) a3 none w') :
    ∃ q, v2 = A q ∧ Bk w' g t old ∧ No B e w' q l ∧ ∀ w'' u, Chg g w' w'' → Bk w'' g t (new q) → XF K B e t g old l T A C new a0 a1 (some v2) a3 (some u) w'' := by
  obtain ⟨hk, ho, q', h0, h1, h2, h3, h4⟩ := h
  have hb := ho rfl
  obtain ⟨e2, hs⟩ := h2 v2 rfl
  obtain ⟨x0, hx0⟩ := Option.isSome_iff_exists.1 hs
  refine ⟨q', e2, hb, (h0 x0 hx0).2, fun w'' u hc hb2 => ⟨hKc _ _ _ hb hc hk, (fun h => by cases h), q', fun v h => ⟨(h0 v h).1, (h0 v h).2.chgBk hb hne hc⟩, h1, h2, h3, fun v h => ⟨hb2, hs⟩⟩⟩
theorem XF.fin (h : XF K B e t g old l T A C new (some v0) (some v1) (some v2) (some v3) (some v4) w') : K w' ∧ v3 = C ∧ ∃ q, Bk w' g t (new q) ∧ No B e w' q l := by
  obtain ⟨hk, ho, q', h0, h1, h2, h3, h4⟩ := h
  exact ⟨hk, (h3 v3 rfl).1, q', (h4 v4 rfl).1, (h0 v0 rfl).2⟩
end
def RetQ (w : World) (v : Value) (e : Ending) (w' : World) : Prop := e = .returned v ∧ w' = w
theorem len5o {α : Type} {vs : List (Option α)} (h : vs.length = 5) : ∃ a0 a1 a2 a3 a4, vs = [a0, a1, a2, a3, a4] := by
  match vs, h with
  | [a0, a1, a2, a3, a4], _ => exact ⟨a0, a1, a2, a3, a4, rfl⟩

theorem modp_c {w : World} {v n : Int} (hn : 0 < n) (hn2 : n ≤ 1000000) :
    Calls Tryd.prog 12 #[.int .i64 v, .int .i64 n] w (RetQ w (.int .i64 (v % n))) := by
 obtain ⟨m1, m2, m3, m4⟩ := tmod_fix (v := v) hn
 refine enter (args := [_, _]) Tryd.func12 rfl Tryd.ntmps12 rfl ?_
 refine WP_seq ?_
 refine WP_region ?_
 refine O_assign rfl rfl rfl ?_
 refine WL_end [(0, _), (1, _)] ⟨rfl, rfl, trivial⟩ ?_
 refine WP_seq ?_
 refine WP_region ?_
 refine O_move rfl rfl rfl ?_
 refine O_move rfl rfl rfl ?_
 refine O_rem rfl rfl rfl rfl (by omega) rfl ?_
 refine O_assign rfl rfl rfl ?_
 refine WL_end [(1, _), (5, _)] ⟨rfl, rfl, trivial⟩ ?_
 refine WP_seq ?_
 refine WP_seq ?_
 refine WP_region ?_
 refine O_move rfl rfl rfl ?_
 refine O_lss rfl rfl rfl rfl rfl ?_
 refine WL_end [(1, _), (5, _), (10, _)] ⟨rfl, rfl, rfl, trivial⟩ ?_
 refine WP_condD rfl (fun c10 => ?_) (fun c10 => ?_)
 · --
  refine WP_region ?_
  refine O_move rfl rfl rfl ?_
  refine O_move rfl rfl rfl ?_
  refine O_add rfl rfl rfl rfl (wrap_i64_id (by omega) (by omega)) ?_
  refine O_assign rfl rfl rfl ?_
  refine WL_end [(5, _)] ⟨rfl, trivial⟩ ?_
  refine WP_seq ?_
  refine WP_region ?_
  refine O_move rfl rfl rfl ?_
  refine O_assign rfl rfl rfl ?_
  refine WL_end [(4, _)] ⟨rfl, trivial⟩ ?_
  refine WP_ret ?_
  refine ret1 Tryd.results12 rfl ?_
  exact ⟨by rw [m3 c10], rfl⟩
 · --
  refine WP_skip ?_
  refine WP_seq ?_
  refine WP_region ?_
  refine O_move rfl rfl rfl ?_
  refine O_assign rfl rfl rfl ?_
  refine WL_end [(4, _)] ⟨rfl, trivial⟩ ?_
  refine WP_ret ?_
  refine ret1 Tryd.results12 rfl ?_
  exact ⟨by rw [m4 c10], rfl⟩

end Go.Proofs.YtnfnadhbjdcbnaaDoor
