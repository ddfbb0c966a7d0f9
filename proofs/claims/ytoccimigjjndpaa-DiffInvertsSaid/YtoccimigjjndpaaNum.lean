/-
  A small program logic over the model's own 'Code.wp': frames are known in part (a list of slots and values), each operation is one lemma, side conditions on the frame close by 'rfl'. It says nothing of any program.
  Operations, one lemma each, over 'XBase': integers, bools, slices, calls. It says nothing of any program.
  Lists of 32-bit digits: numbers, digits, slices that read as them. It says nothing of any program.
-/
import Derived.Tactics
import Derived.Deep.Quiet
import Derived.Below
import Derived.Laws.MakeOwn
import Derived.Laws.OwnMore
import Derived.Laws.Tables
import Derived.Laws.Rows
import Derived.Laws.Small
import Derived.Laws.Slices
import Derived.Laws.Cells
set_option linter.unusedVariables false
set_option linter.unusedSimpArgs false
namespace Go.Proofs.Ytoccimigjjndpaa
open Go Go.RowKit

/-! ### Frames that are known in part -/
abbrev Rho := List (Nat × Value)

def look : Rho → Nat → Option Value
  | [], _ => none
  | (t, v) :: r, s => match Nat.beq t s with | true => some v | false => look r s

def ev (ρ : Rho) : Operand → Option Value
  | .tmp t => look ρ t
  | .const v => some v
  | .global g => some (.pointer (some ⟨g, 0, none⟩))
  | .func f => some (.func (.func f) #[] #[])

structure Fits (n : Nat) (a : Act) (ρ : Rho) : Prop where
  defers : a.defers = []
  size : a.tmps.size = n
  at_ : ∀ t v, look ρ t = some v → a.tmps[t]? = some v

theorem look_cons (t : Nat) (v : Value) (r : Rho) (s : Nat) : look ((t, v) :: r) s = if t = s then some v else look r s := by
  show (match Nat.beq t s with | true => some v | false => look r s) = _
  by_cases h : t = s
  · subst h
    rw [show Nat.beq t t = true from Nat.beq_refl t]
    simp
  · have : Nat.beq t s = false := by
      cases hb : Nat.beq t s with
      | false => rfl
      | true => exact absurd (Nat.eq_of_beq_eq_true hb) h
    rw [this]; simp [h]

theorem Fits.eval {n : Nat} {a : Act} {ρ : Rho} (h : Fits n a ρ) {x : Operand} {v : Value} (hx : ev ρ x = some v) : a.eval x = v := by
  cases x with
  | tmp t => have := h.at_ t v hx; simp [Act.eval, this]
  | const c => simpa [ev, Act.eval] using hx
  | global g => simpa [ev, Act.eval] using hx
  | func f => simpa [ev, Act.eval] using hx

theorem Fits.put {n : Nat} {a : Act} {ρ : Rho} (h : Fits n a ρ) {d : Nat} (hd : Nat.blt d n = true) (v : Value) : Fits n (a.put (some d) v) ((d, v) :: ρ) := by
  have hd' : d < n := by simpa [Nat.blt_eq] using hd
  refine ⟨h.defers, by simpa [Act.put] using h.size, fun t u ht => ?_⟩
  rw [look_cons] at ht
  simp only [Act.put, Array.getElem?_setIfInBounds]
  by_cases e : d = t
  · simp only [e, if_true] at ht ⊢
    rw [if_pos (by rw [h.size, ← e]; exact hd')]
    exact ht
  · simp only [e, if_false] at ht ⊢
    exact h.at_ t u ht

def AllIn : Rho → Rho → Prop
  | [], _ => True
  | (t, v) :: r, ρ => look ρ t = some v ∧ AllIn r ρ

theorem look_of_allIn {ρ' ρ : Rho} (h : AllIn ρ' ρ) : ∀ t v, look ρ' t = some v → look ρ t = some v := by
  induction ρ' with
  | nil => intro t v e; simp [look] at e
  | cons x r ih =>
    obtain ⟨s, u⟩ := x
    intro t v e
    rw [look_cons] at e
    by_cases c : s = t
    · simp only [c, if_true] at e; cases e; rw [← c]; exact h.1
    · simp only [c, if_false] at e; exact ih h.2 t v e

theorem Fits.sub {n : Nat} {a : Act} {ρ ρ' : Rho} (h : Fits n a ρ) (hs : AllIn ρ' ρ) : Fits n a ρ' :=
  ⟨h.defers, h.size, fun t v e => h.at_ t v (look_of_allIn hs t v e)⟩

/-! ### Code -/
/-- From every frame that fits: the code ends normally in a frame that fits some 'ρ'' with K, or leaves by an exit with E. -/
def WP (P : Program) (n : Nat) (c : Code) (K : Rho → World → Prop) (E : Exit → Rho → World → Prop) (ρ : Rho) (w : World) : Prop :=
  ∀ a, Fits n a ρ → c.wp P (fun e a' w' => ∃ ρ', Fits n a' ρ' ∧ match e with | .normal => K ρ' w' | e => E e ρ' w') a w

section
variable {P : Program} {n : Nat} {K : Rho → World → Prop} {E : Exit → Rho → World → Prop} {ρ : Rho} {w : World}

theorem WP_sub {c : Code} (ρ' : Rho) (hs : AllIn ρ' ρ) (h : WP P n c K E ρ' w) : WP P n c K E ρ w := fun a ha => h a (ha.sub hs)

theorem WP_skip (h : K ρ w) : WP P n .skip K E ρ w := fun a ha => wp_skip ⟨ρ, ha, h⟩
theorem WP_exit {id : Nat} (h : E (.exit id) ρ w) : WP P n (.exit id) K E ρ w := fun a ha => wp_exit ⟨ρ, ha, h⟩
theorem WP_ret (h : E .ret ρ w) : WP P n .ret K E ρ w := fun a ha => wp_ret ⟨ρ, ha, h⟩

theorem WP_seq {x y : Code} (h : WP P n x (fun ρ' w' => WP P n y K E ρ' w') E ρ w) : WP P n (.seq x y) K E ρ w := fun a ha =>
  wp_seq (wp_mono (h a ha) fun e a' w' ⟨ρ', hf, hq⟩ => by
    cases e with
    | normal => exact hq a' hf
    | _ => exact ⟨ρ', hf, hq⟩)

theorem WP_cond {c : Operand} {x y : Code} {b : Bool} (hc : ev ρ c = some (.bool b)) (ht : b = true → WP P n x K E ρ w) (hf : b = false → WP P n y K E ρ w) :
    WP P n (.cond c x y) K E ρ w := fun a ha => wp_cond_split (ha.eval hc) (fun e => ht e a ha) (fun e => hf e a ha)
theorem WP_condT {c : Operand} {x y : Code} (hc : ev ρ c = some (.bool true)) (h : WP P n x K E ρ w) : WP P n (.cond c x y) K E ρ w := fun a ha => wp_cond_true (ha.eval hc) (h a ha)
theorem WP_condF {c : Operand} {x y : Code} (hc : ev ρ c = some (.bool false)) (h : WP P n y K E ρ w) : WP P n (.cond c x y) K E ρ w := fun a ha => wp_cond_false (ha.eval hc) (h a ha)
/-- A test that is decided by a proposition. -/
theorem WP_condD {c : Operand} {x y : Code} {p : Prop} [Decidable p] (hc : ev ρ c = some (.bool (decide p))) (ht : p → WP P n x K E ρ w) (hf : ¬ p → WP P n y K E ρ w) :
    WP P n (.cond c x y) K E ρ w := WP_cond hc (fun e => ht (of_decide_eq_true e)) (fun e => hf (of_decide_eq_false e))

theorem WP_condN {c : Operand} {x y : Code} {p : Prop} [Decidable (¬ p)] (hc : ev ρ c = some (.bool (decide (¬ p)))) (ht : ¬ p → WP P n x K E ρ w) (hf : p → WP P n y K E ρ w) :
    WP P n (.cond c x y) K E ρ w := WP_cond hc (fun e => ht (of_decide_eq_true e)) (fun e => hf (Classical.not_not.1 (of_decide_eq_false e)))

def inBlk (id : Nat) (K : Rho → World → Prop) (E : Exit → Rho → World → Prop) : Exit → Rho → World → Prop
  | .exit id', ρ, w => if id' = id then K ρ w else E (.exit id') ρ w
  | e, ρ, w => E e ρ w
theorem inBlk_hit {id : Nat} (h : K ρ w) : inBlk id K E (.exit id) ρ w := by simpa [inBlk] using h
theorem inBlk_miss {id id' : Nat} (hne : Nat.beq id' id = false) (h : E (.exit id') ρ w) : inBlk id K E (.exit id') ρ w := by
  have : ¬ id' = id := fun e => by subst e; simp at hne
  simpa [inBlk, this] using h
theorem inBlk_ret {id : Nat} (h : E .ret ρ w) : inBlk id K E .ret ρ w := h

theorem WP_block {id : Nat} {c : Code} (h : WP P n c K (inBlk id K E) ρ w) : WP P n (.block id c) K E ρ w := fun a ha =>
  wp_block (wp_mono (h a ha) fun e a' w' ⟨ρ', hf, hq⟩ => by
    cases e with
    | exit id' =>
      simp only [inBlk, Exit.inBlock] at hq ⊢
      split
      · rename_i e; subst e; simp only [if_true] at hq; exact ⟨ρ', hf, hq⟩
      · rename_i e; simp only [e, if_false] at hq; exact ⟨ρ', hf, hq⟩
    | _ => exact ⟨ρ', hf, hq⟩)

/-- A loop whose states are told by 'S': the frame at the head, what holds there, a measure. -/
theorem WP_loop {c : Code} {S : Type} (I : S → Rho) (J : S → World → Prop) (μ : S → Nat) (s₀ : S) (hs : AllIn (I s₀) ρ) (h₀ : J s₀ w)
    (round : ∀ s w, J s w → WP P n c (fun ρ' w' => ∃ s', AllIn (I s') ρ' ∧ J s' w' ∧ μ s' < μ s) E (I s) w) : WP P n (.loop c) K E ρ w := by
  intro a ha b k cs
  have key : ∀ m s a w, μ s = m → Fits n a (I s) → J s w →
      ∃ e a' w', (∃ ρ', Fits n a' ρ' ∧ match e with | .normal => K ρ' w' | e => E e ρ' w') ∧ Arrives P (lone (b.at a (.code c :: .inLoop c :: k)) cs w) b k cs e a' w' := by
    intro m
    induction m using Nat.strongRecOn with
    | _ m ih =>
      intro s a w hm hfit hJ
      obtain ⟨e, a₁, w₁, ⟨ρ₁, hf₁, hq⟩, harr⟩ := round s w hJ a hfit b (.inLoop c :: k) cs
      cases e with
      | normal =>
        obtain ⟨s', hin, hJ', hlt⟩ := hq
        obtain ⟨e₂, a₂, w₂, hq₂, harr₂⟩ := ih (μ s') (hm ▸ hlt) s' a₁ w₁ rfl (hf₁.sub hin) hJ'
        exact ⟨e₂, a₂, w₂, hq₂, .of_steps (Steps.trans harr (.one step_inLoop)) harr₂⟩
      | exit id => exact ⟨_, a₁, w₁, ⟨ρ₁, hf₁, hq⟩, .pass (x := .inLoop c) rfl (fun _ _ => .inl (by simp)) harr⟩
      | goto l => exact ⟨_, a₁, w₁, ⟨ρ₁, hf₁, hq⟩, .pass (x := .inLoop c) rfl (fun _ _ => .inl (by simp)) harr⟩
      | ret => exact ⟨_, a₁, w₁, ⟨ρ₁, hf₁, hq⟩, .pass (x := .inLoop c) rfl (fun _ _ => .inl (by simp)) harr⟩
      | panic ch => exact ⟨_, a₁, w₁, ⟨ρ₁, hf₁, hq⟩, .pass (x := .inLoop c) rfl (fun _ _ => .inl (by simp)) harr⟩
      | outgrown => exact ⟨_, a₁, w₁, ⟨ρ₁, hf₁, hq⟩, .pass (x := .inLoop c) rfl (fun _ _ => .inl (by simp)) harr⟩
  obtain ⟨e, a', w', hq, harr⟩ := key _ s₀ a w rfl (ha.sub hs) h₀
  exact ⟨e, a', w', hq, .of_steps (.one step_loop) harr⟩

/-- Two ways that meet again: what lies behind is proved once. -/
theorem WP_join {x y : Code} {S : Type} (I : S → Rho) (J : S → World → Prop) (hx : WP P n x (fun ρ' w' => ∃ s, AllIn (I s) ρ' ∧ J s w') E ρ w)
    (hy : ∀ s w, J s w → WP P n y K E (I s) w) : WP P n (.seq x y) K E ρ w := fun a ha =>
  wp_seq (wp_mono (hx a ha) fun e a' w' ⟨ρ', hf, hq⟩ => by
    cases e with
    | normal => obtain ⟨s, hin, hJ⟩ := hq; exact hy s w' hJ a' (hf.sub hin)
    | _ => exact ⟨ρ', hf, hq⟩)
theorem WP_joinK {x : Code} {S : Type} (I : S → Rho) (J : S → World → Prop) (hx : WP P n x (fun ρ' w' => ∃ s, AllIn (I s) ρ' ∧ J s w') E ρ w)
    (hy : ∀ s w, J s w → K (I s) w) : WP P n x K E ρ w := fun a ha =>
  wp_mono (hx a ha) fun e a' w' ⟨ρ', hf, hq⟩ => by
    cases e with
    | normal => obtain ⟨s, hin, hJ⟩ := hq; exact ⟨I s, hf.sub hin, hy s w' hJ⟩
    | _ => exact ⟨ρ', hf, hq⟩
theorem WP_mono {c : Code} {K' : Rho → World → Prop} (hk : ∀ ρ w, K ρ w → K' ρ w) (h : WP P n c K E ρ w) : WP P n c K' E ρ w := fun a ha =>
  wp_mono (h a ha) fun e a' w' ⟨ρ', hf, hq⟩ => by
    cases e with
    | normal => exact ⟨ρ', hf, hk _ _ hq⟩
    | _ => exact ⟨ρ', hf, hq⟩

/-! ### A function's body -/
def bodyE (P : Program) (fn : Func) (n : Nat) (R : Ending → World → Prop) (ρ : Rho) (w : World) : Prop :=
  ∀ a, Fits n a ρ → ∃ v, (results fn a.tmps).run P w = .ok v w ∧ R (.returned v) w
def fnE (P : Program) (fn : Func) (n : Nat) (R : Ending → World → Prop) : Exit → Rho → World → Prop
  | .ret, ρ, w => bodyE P fn n R ρ w
  | _, _, _ => False

def argRho : Nat → List Value → Rho
  | _, [] => []
  | i, v :: r => (i, v) :: argRho (i + 1) r

theorem look_argRho (args : List Value) : ∀ i t v, look (argRho i args) t = some v → i ≤ t ∧ args[t - i]? = some v := by
  induction args with
  | nil => intro i t v h; simp [argRho, look] at h
  | cons x r ih =>
    intro i t v h
    rw [argRho, look_cons] at h
    by_cases e : i = t
    · subst e; simp at h; simp [h]
    · simp only [e, if_false] at h
      obtain ⟨h1, h2⟩ := ih (i + 1) t v h
      refine ⟨by omega, ?_⟩
      have : t - i = (t - (i + 1)) + 1 := by omega
      rw [this]; simpa using h2

theorem enter {f : FuncId} {fn : Func} {c : Code} {args : List Value} {R : Ending → World → Prop} (hf : P.funcs[f]? = some fn) (hb : fn.body = some c) (hn : fn.ntmps = n)
    (hl : Nat.ble args.length n = true) (h : WP P n c (bodyE P fn n R) (fnE P fn n R) (argRho 0 args) w) : Calls P f args.toArray w R := by
  have hl' : args.length ≤ n := by simpa using hl
  refine calls_of_wp hf hb (wp_mono (h _ ⟨rfl, ?_, ?_⟩) ?_)
  · simp [hn]; omega
  · intro t v ht
    obtain ⟨_, h2⟩ := look_argRho args 0 t v ht
    simp only [Nat.sub_zero] at h2
    have hlt : t < args.length := by
      rcases Nat.lt_or_ge t args.length with h | h
      · exact h
      · simp [List.getElem?_eq_none h] at h2
    rw [Array.getElem?_append_left (by simpa using hlt)]
    simpa using h2
  · intro e a' w' ⟨ρ', hfit, hq⟩
    cases e with
    | normal => exact ⟨hfit.defers, hq a' hfit⟩
    | ret => exact ⟨hfit.defers, hq a' hfit⟩
    | _ => exact hq.elim

theorem ret1 {fn : Func} {R : Ending → World → Prop} {t : Tmp} {v : Value} (hr : fn.results = #[.tmp t]) (hv : look ρ t = some v) (h : R (.returned v) w) : bodyE P fn n R ρ w := by
  intro a ha
  refine ⟨v, ?_, h⟩
  have := ha.at_ t v hv
  simp [results, hr, this]
theorem ret2 {fn : Func} {R : Ending → World → Prop} {t u : Tmp} {v x : Value} (hr : fn.results = #[.tmp t, .tmp u]) (hv : look ρ t = some v) (hx : look ρ u = some x)
    (h : R (.returned (.tuple #[v, x])) w) : bodyE P fn n R ρ w := by
  intro a ha
  refine ⟨_, ?_, h⟩
  have h1 := ha.at_ t v hv
  have h2 := ha.at_ u x hx
  simp [results, hr, h1, h2]
theorem ret3 {fn : Func} {R : Ending → World → Prop} {t u s : Tmp} {v x y : Value} (hr : fn.results = #[.tmp t, .tmp u, .tmp s]) (hv : look ρ t = some v) (hx : look ρ u = some x) (hy : look ρ s = some y)
    (h : R (.returned (.tuple #[v, x, y])) w) : bodyE P fn n R ρ w := by
  intro a ha
  refine ⟨_, ?_, h⟩
  have h1 := ha.at_ t v hv
  have h2 := ha.at_ u x hx
  have h3 := ha.at_ s y hy
  simp [results, hr, h1, h2, h3]
theorem ret0 {fn : Func} {R : Ending → World → Prop} (hr : fn.results = #[]) (h : R (.returned (.tuple #[])) w) : bodyE P fn n R ρ w := by
  intro a ha
  exact ⟨_, by simp [results, hr], h⟩
end

/-! ### Operations in their order -/
/-- The guard: 'some true': the operation comes up; 'some false': it is passed over. -/
def gd (ops : List Oper) (ρ : Rho) : Option (Nat × Bool) → Option Bool
  | none => some true
  | some (j, want) => match (ops[j]?).bind (·.dst) with
    | some t => match look ρ t with
      | some (.bool b) => some (b == want)
      | _ => none
    | none => none

theorem gd_wanted {ops : List Oper} {ρ : Rho} {o : Oper} {n : Nat} {a : Act} {b : Bool} (h : gd ops ρ o.guard = some b) (ha : Fits n a ρ) : Region.wanted o (yielded ops.toArray a.tmps) = b := by
  unfold Region.wanted
  cases hg : o.guard with
  | none => rw [hg] at h; simpa [gd] using h
  | some g =>
    obtain ⟨j, want⟩ := g
    rw [hg] at h
    simp only [gd] at h
    cases ht : (ops[j]?).bind (·.dst) with
    | none => simp [ht] at h
    | some t =>
      simp only [ht] at h
      cases hl : look ρ t with
      | none => simp [hl] at h
      | some v =>
        have hv := ha.at_ t v hl
        cases v <;> simp [hl] at h
        simp [yielded, ht, hv, h]

def WL (P : Program) (n : Nat) (ops : List Oper) (l : List Oper) (K : Rho → World → Prop) (ρ : Rho) (w : World) : Prop :=
  ∀ a, Fits n a ρ → ∀ Q : Exit → Act → World → Prop, (∀ a' w' ρ', Fits n a' ρ' → K ρ' w' → Q .normal a' w') → wpList P ops.toArray Q l a w

section
variable {P : Program} {n : Nat} {K : Rho → World → Prop} {E : Exit → Rho → World → Prop} {ρ : Rho} {w : World} {ops rest : List Oper}

theorem WP_region {id : Nat} {l : List Oper} (h : WL P n l l K ρ w) : WP P n (.region id l.toArray false) K E ρ w := fun a ha =>
  wp_region_lit (h a ha _ fun a' w' ρ' hf hk => ⟨ρ', hf, hk⟩)

theorem WL_nil (h : K ρ w) : WL P n ops [] K ρ w := fun a ha Q hQ => hQ a w ρ ha h
/-- The end of a region: of what is known, this is carried on. -/
theorem WL_end (ρ' : Rho) (hs : AllIn ρ' ρ) (h : K ρ' w) : WL P n ops [] K ρ w := fun a ha Q hQ => hQ a w ρ' (ha.sub hs) h
theorem WL_sub {l : List Oper} (ρ' : Rho) (hs : AllIn ρ' ρ) (h : WL P n ops l K ρ' w) : WL P n ops l K ρ w := fun a ha => h a (ha.sub hs)

/-- An operation that yields a value. -/
theorem WL_val {o : Oper} {d : Nat} (hd : o.dst = some d) (hg : gd ops ρ o.guard = some true) (hdn : Nat.blt d n = true) {v : Value} {w' : World}
    (hr : ∀ a, Fits n a ρ → (execOp a.eval o).run P w = .ok (.value v) w') (h : WL P n ops rest K ((d, v) :: ρ) w') : WL P n ops (o :: rest) K ρ w := by
  intro a ha Q hQ
  unfold wpList
  rw [if_pos (gd_wanted hg ha)]
  refine .inl ?_
  unfold Oper.wp
  rw [hr a ha]
  show wpList P ops.toArray Q rest (a.put o.dst v) w'
  rw [hd]
  exact h _ (ha.put hdn v) Q hQ

/-- An operation that is passed over. -/
theorem WL_skip {o : Oper} {d : Nat} (hd : o.dst = some d) (hg : gd ops ρ o.guard = some false) (hdn : Nat.blt d n = true) (h : WL P n ops rest K ((d, undef) :: ρ) w) : WL P n ops (o :: rest) K ρ w := by
  intro a ha Q hQ
  unfold wpList
  rw [if_neg (by rw [gd_wanted hg ha]; simp)]
  rw [hd]
  exact h _ (ha.put hdn undef) Q hQ

/-- A store (no slot is written). -/
theorem WL_eff {o : Oper} (hd : o.dst = none) (hg : gd ops ρ o.guard = some true) {w' : World}
    (hr : ∀ a, Fits n a ρ → (execOp a.eval o).run P w = .ok .skip w') (h : WL P n ops rest K ρ w') : WL P n ops (o :: rest) K ρ w := by
  intro a ha Q hQ
  unfold wpList
  rw [if_pos (gd_wanted hg ha)]
  refine .inl ?_
  unfold Oper.wp
  rw [hr a ha]
  show wpList P ops.toArray Q rest (a.put o.dst undef) w'
  rw [hd]
  exact h a ha Q hQ

/-- A bool in a slot is parted on. -/
theorem WL_bool {l : List Oper} (t : Nat) {b : Bool} (hb : look ρ t = some (.bool b)) (h1 : b = true → WL P n ops l K ((t, .bool true) :: ρ) w) (h0 : b = false → WL P n ops l K ((t, .bool false) :: ρ) w) : WL P n ops l K ρ w := by
  intro a ha
  have key : ∀ c : Bool, b = c → Fits n a ((t, .bool c) :: ρ) := by
    intro c e; subst e
    refine ⟨ha.defers, ha.size, fun s v hs => ?_⟩
    rw [look_cons] at hs
    by_cases ht : t = s
    · subst ht; simp at hs; rw [← hs]; exact ha.at_ _ _ hb
    · simp only [ht, if_false] at hs; exact ha.at_ _ _ hs
  cases b with
  | true => exact h1 rfl a (key true rfl)
  | false => exact h0 rfl a (key false rfl)
theorem WL_dec {l : List Oper} (t : Nat) {p : Prop} [Decidable p] (hb : look ρ t = some (.bool (decide p))) (h1 : p → WL P n ops l K ((t, .bool true) :: ρ) w) (h0 : ¬ p → WL P n ops l K ((t, .bool false) :: ρ) w) : WL P n ops l K ρ w :=
  WL_bool t hb (fun e => h1 (of_decide_eq_true e)) (fun e => h0 (of_decide_eq_false e))
theorem WL_ndec {l : List Oper} (t : Nat) {p : Prop} [Decidable (¬ p)] (hb : look ρ t = some (.bool (decide (¬ p)))) (h1 : ¬ p → WL P n ops l K ((t, .bool true) :: ρ) w) (h0 : p → WL P n ops l K ((t, .bool false) :: ρ) w) : WL P n ops l K ρ w :=
  WL_bool t hb (fun e => h1 (of_decide_eq_true e)) (fun e => h0 (Classical.not_not.1 (of_decide_eq_false e)))
theorem WL_bool' (t : Nat) {l : List Oper} {b c : Bool} (hb : look ρ t = some (.bool b)) (e : b = c) (h : WL P n ops l K ((t, .bool c) :: ρ) w) : WL P n ops l K ρ w := by
  subst e
  cases b with
  | true => exact WL_bool t hb (fun _ => h) (fun e => by cases e)
  | false => exact WL_bool t hb (fun e => by cases e) (fun _ => h)
end
end Go.Proofs.Ytoccimigjjndpaa

set_option linter.unusedVariables false
set_option linter.unusedSimpArgs false
namespace Go.Proofs.Ytoccimigjjndpaa
open Go Go.RowKit

/-! ### Worlds that go on -/
/-- Of what was there nothing has turned. -/
def Ext (w w' : World) : Prop := Below w.heap.size w w'
theorem Ext.refl (w : World) : Ext w w := Below.refl _ _
theorem Ext.trans {a b c : World} (h : Ext a b) (k : Ext b c) : Ext a c := Below.trans h (k.mono h.size)
theorem Ext.size {a b : World} (h : Ext a b) : a.heap.size ≤ b.heap.size := Below.size h
theorem Ext.alloc (w : World) (o : Obj) : Ext w (w.alloc o) := (Below.refl _ _).alloc (Nat.le_refl _) o
theorem Ext.drew (w : World) : Ext w { w with drawn := w.drawn + 1 } := ⟨rfl, rfl, rfl, Nat.le_refl _, fun _ _ => rfl⟩
theorem Ext.cell {w w' : World} (h : Ext w w') {a : Addr} {v : Value} (hc : w.cell? a = some v) : w'.cell? a = some v :=
  (Below.cell h (block_lt_of_cell hc)).trans hc
theorem Ext.heap {w w' : World} (h : Ext w w') {b : Nat} {o : Obj} (hb : w.heap[b]? = some o) : w'.heap[b]? = some o := by
  have hlt : b < w.heap.size := by
    rcases Nat.lt_or_ge b w.heap.size with k | k
    · exact k
    · simp [Array.getElem?_eq_none k] at hb
  rw [Below.block h b hlt]; exact hb

/-- Block 'b' alone has turned. -/
structure Chg (b : Nat) (w w' : World) : Prop where
  os : w'.os = w.os
  tape : w'.tape = w.tape
  output : w'.output = w.output
  size : w'.heap.size = w.heap.size
  block : ∀ k, k ≠ b → w'.heap[k]? = w.heap[k]?
theorem Chg.ext {b : Nat} {w0 w w' : World} (h : Chg b w w') (he : Ext w0 w) (hb : w0.heap.size ≤ b) : Ext w0 w' :=
  ⟨h.os.trans he.os, h.tape.trans he.tape, h.output.trans he.output, by rw [h.size]; exact he.size, fun k hk => (h.block k (by omega)).trans (Below.block he k hk)⟩
theorem Chg.setCell (w : World) (p : Addr) (u : Value) : Chg p.block w (w.setCell p u) :=
  ⟨rfl, rfl, rfl, by simp [World.setCell], fun k hk => heap_setCell_other w p k u hk⟩
theorem Chg.setRow (w : World) (g : Nat) (cs : Array Value) : Chg g w (w.setRow g cs) :=
  ⟨rfl, rfl, rfl, by simp, fun k hk => setRow_other w g k cs hk⟩

/-! ### Slices -/
def slAt : Value → Nat → Addr
  | .slice (some a) _ _, i => a.add i
  | _, _ => default
/-- The slice v reads as these values. -/
def SlV (w : World) (v : Value) (vs : List Value) : Prop :=
  ∃ a cap, v = .slice a vs.length cap ∧ vs.length ≤ cap ∧ cap ≤ maxLen ∧ (a = none → cap = 0) ∧ ∀ i u, vs[i]? = some u → ∃ x, a = some x ∧ w.cell? (x.add i) = some u

theorem SlV.nil (w : World) : SlV w (.slice none 0 0) [] := ⟨none, 0, rfl, by simp, by simp, fun _ => rfl, by simp⟩
theorem SlV.ext {w w' : World} {v : Value} {vs : List Value} (h : SlV w v vs) (he : Ext w w') : SlV w' v vs := by
  obtain ⟨a, cap, h1, h2, h3, h4, h5⟩ := h
  exact ⟨a, cap, h1, h2, h3, h4, fun i u hu => let ⟨x, hx, hc⟩ := h5 i u hu; ⟨x, hx, he.cell hc⟩⟩
theorem SlV.cell {w : World} {v : Value} {vs : List Value} (h : SlV w v vs) {i : Nat} {u : Value} (hu : vs[i]? = some u) : w.cell? (slAt v i) = some u := by
  obtain ⟨a, cap, rfl, _, _, _, h5⟩ := h
  obtain ⟨x, rfl, hc⟩ := h5 i u hu
  exact hc
theorem SlV.le {w : World} {v : Value} {vs : List Value} (h : SlV w v vs) : vs.length ≤ maxLen := by
  obtain ⟨a, cap, _, h2, h3, _⟩ := h; omega
/-- The block that a slice leads to. -/
def vblk : Value → Nat
  | .slice (some a) _ _ => a.block
  | .pointer (some a) => a.block
  | _ => 0
theorem SlV.chg {w w' : World} {v : Value} {vs : List Value} {b : Nat} (h : SlV w v vs) (hc : Chg b w w') (hb : vs ≠ [] → vblk v ≠ b) : SlV w' v vs := by
  obtain ⟨a, cap, rfl, h2, h3, h4, h5⟩ := h
  refine ⟨a, cap, rfl, h2, h3, h4, fun i u hu => ?_⟩
  obtain ⟨x, rfl, hx⟩ := h5 i u hu
  have hne : vs ≠ [] := by rintro rfl; simp at hu
  have hb' : x.block ≠ b := hb hne
  refine ⟨x, rfl, ?_⟩
  have hbl : (x.add i).block = x.block := by unfold Addr.add; split <;> rfl
  exact (World.cell?_of_block (by rw [hbl]; exact hc.block _ hb')).trans hx

/-- The slice v is a row of one's own from block 'B' on, with these values; one cell each. -/
def Own (B : Nat) (e : TypeId) (w : World) (v : Value) (vs : List Value) : Prop := w.ownsRow B e 1 v vs.length vs
theorem Own.nil (B : Nat) (e : TypeId) (w : World) : Own B e w (.slice none 0 0) [] := World.ownsRow_nil w B e 1
theorem Own.mono {B B' : Nat} {e : TypeId} {w : World} {v : Value} {vs : List Value} (h : Own B e w v vs) (hb : B' ≤ B) : Own B' e w v vs := by
  obtain ⟨h1, h2⟩ := h
  refine ⟨h1, ?_⟩
  rcases h2 with h2 | ⟨g, cap, cur, h3, h4, r⟩
  · exact .inl h2
  · exact .inr ⟨g, cap, cur, h3, Nat.le_trans hb h4, r⟩
theorem take_getElem? {α : Type} {l : List α} {n i : Nat} {xs : List α} (h : l.take n = xs) {u : α} (hu : xs[i]? = some u) : l[i]? = some u := by
  subst h
  rw [List.getElem?_take] at hu
  split at hu
  · exact hu
  · cases hu
theorem Own.sl {B : Nat} {e : TypeId} {w : World} {v : Value} {vs : List Value} (h : Own B e w v vs) : SlV w v vs := by
  obtain ⟨h1, h2⟩ := h
  rcases h2 with ⟨rfl, h0⟩ | ⟨g, cap, cur, rfl, hb, hh, hn, hm, hs, ht⟩
  · have : vs = [] := List.eq_nil_of_length_eq_zero h0
    subst this; exact SlV.nil w
  · refine ⟨_, cap, rfl, hn, hm, by simp, fun i u hu => ⟨_, rfl, ?_⟩⟩
    have hlt : i < vs.length := by
      rcases Nat.lt_or_ge i vs.length with k | k
      · exact k
      · simp [List.getElem?_eq_none k] at hu
    have h5 : cur[i]? = some u := by
      have := take_getElem? ht hu
      simpa using this
    have : (⟨g, 0, none⟩ : Addr).add i = ⟨g, i, none⟩ := by unfold Addr.add; split <;> simp_all
    rw [this, cell_of_row w g i cur e (0, 0) hh]; exact h5
theorem Own.ext {B : Nat} {e : TypeId} {w w' : World} {v : Value} {vs : List Value} (h : Own B e w v vs) (he : Ext w w') : Own B e w' v vs := by
  obtain ⟨h1, h2⟩ := h
  refine ⟨h1, ?_⟩
  rcases h2 with h2 | ⟨g, cap, cur, h3, h4, hh, r⟩
  · exact .inl h2
  · exact .inr ⟨g, cap, cur, h3, h4, he.heap hh, r⟩
theorem Own.chg {B b : Nat} {e : TypeId} {w w' : World} {v : Value} {vs : List Value} (h : Own B e w v vs) (hc : Chg b w w') (hb : vblk v ≠ b) : Own B e w' v vs := by
  obtain ⟨h1, h2⟩ := h
  refine ⟨h1, ?_⟩
  rcases h2 with h2 | ⟨g, cap, cur, rfl, h4, hh, r⟩
  · exact .inl h2
  · exact .inr ⟨g, cap, cur, rfl, h4, (hc.block g hb).trans hh, r⟩
theorem Own.blk {B : Nat} {e : TypeId} {w : World} {v : Value} {vs : List Value} (h : Own B e w v vs) (hne : vs ≠ []) : B ≤ vblk v ∧ vblk v < w.heap.size := by
  obtain ⟨h1, h2⟩ := h
  rcases h2 with ⟨rfl, h0⟩ | ⟨g, cap, cur, rfl, h4, hh, r⟩
  · exact absurd (List.eq_nil_of_length_eq_zero h0) hne
  · refine ⟨h4, ?_⟩
    rcases Nat.lt_or_ge g w.heap.size with k | k
    · exact k
    · simp [Array.getElem?_eq_none k] at hh

/-! ### Operations -/
section
variable {P : Program} {n : Nat} {K : Rho → World → Prop} {ρ : Rho} {w : World} {ops rest : List Oper}
variable {ty : TypeId} {pos : String} {after : Array Edge} {g : Option (Nat × Bool)} {d : Nat}

theorem O_move {x : Operand} {v : Value} (hg : gd ops ρ g = some true) (hd : Nat.blt d n = true) (hx : ev ρ x = some v) (h : WL P n ops rest K ((d, v) :: ρ) w) :
    WL P n ops (⟨some d, .move x, ty, pos, after, g⟩ :: rest) K ρ w := WL_val rfl hg hd (fun a ha => by simp [execOp, ha.eval hx]) h
theorem O_assign {x : Operand} {v : Value} (hg : gd ops ρ g = some true) (hd : Nat.blt d n = true) (hx : ev ρ x = some v) (h : WL P n ops rest K ((d, v) :: ρ) w) :
    WL P n ops (⟨some d, .assign x, ty, pos, after, g⟩ :: rest) K ρ w := WL_val rfl hg hd (fun a ha => by simp [execOp, ha.eval hx]) h
theorem O_skip {op : Op} (hg : gd ops ρ g = some false) (hd : Nat.blt d n = true) (h : WL P n ops rest K ((d, undef) :: ρ) w) :
    WL P n ops (⟨some d, op, ty, pos, after, g⟩ :: rest) K ρ w := WL_skip rfl hg hd h
theorem O_pickT {c x y : Operand} {v : Value} (hg : gd ops ρ g = some true) (hd : Nat.blt d n = true) (hc : ev ρ c = some (.bool true)) (hx : ev ρ x = some v) (h : WL P n ops rest K ((d, v) :: ρ) w) :
    WL P n ops (⟨some d, .pick c x y, ty, pos, after, g⟩ :: rest) K ρ w := WL_val rfl hg hd (fun a ha => by simp [execOp, ha.eval hc, ha.eval hx, asBool]) h
theorem O_pickF {c x y : Operand} {v : Value} (hg : gd ops ρ g = some true) (hd : Nat.blt d n = true) (hc : ev ρ c = some (.bool false)) (hy : ev ρ y = some v) (h : WL P n ops rest K ((d, v) :: ρ) w) :
    WL P n ops (⟨some d, .pick c x y, ty, pos, after, g⟩ :: rest) K ρ w := WL_val rfl hg hd (fun a ha => by simp [execOp, ha.eval hc, ha.eval hy, asBool]) h

section bin
variable {xt yt : TypeId} {x y : Operand} {k yk : IntKind} {a b r : Int}
theorem O_add (hg : gd ops ρ g = some true) (hd : Nat.blt d n = true) (hx : ev ρ x = some (.int k a)) (hy : ev ρ y = some (.int k b)) (hr : k.wrap (a + b) = r) (h : WL P n ops rest K ((d, .int k r) :: ρ) w) :
    WL P n ops (⟨some d, .binOp .add xt x y yt, ty, pos, after, g⟩ :: rest) K ρ w :=
  WL_val rfl hg hd (fun c hc => by simp [execOp, hc.eval hx, hc.eval hy, eqGuard, binOp, Op.intArith, hr]) h
theorem O_sub (hg : gd ops ρ g = some true) (hd : Nat.blt d n = true) (hx : ev ρ x = some (.int k a)) (hy : ev ρ y = some (.int k b)) (hr : k.wrap (a - b) = r) (h : WL P n ops rest K ((d, .int k r) :: ρ) w) :
    WL P n ops (⟨some d, .binOp .sub xt x y yt, ty, pos, after, g⟩ :: rest) K ρ w :=
  WL_val rfl hg hd (fun c hc => by simp [execOp, hc.eval hx, hc.eval hy, eqGuard, binOp, Op.intArith, hr]) h
theorem O_mul (hg : gd ops ρ g = some true) (hd : Nat.blt d n = true) (hx : ev ρ x = some (.int k a)) (hy : ev ρ y = some (.int k b)) (hr : k.wrap (a * b) = r) (h : WL P n ops rest K ((d, .int k r) :: ρ) w) :
    WL P n ops (⟨some d, .binOp .mul xt x y yt, ty, pos, after, g⟩ :: rest) K ρ w :=
  WL_val rfl hg hd (fun c hc => by simp [execOp, hc.eval hx, hc.eval hy, eqGuard, binOp, Op.intArith, hr]) h
theorem O_quo (hg : gd ops ρ g = some true) (hd : Nat.blt d n = true) (hx : ev ρ x = some (.int k a)) (hy : ev ρ y = some (.int k b)) (hb : b ≠ 0) (hr : k.wrap (a.tdiv b) = r) (h : WL P n ops rest K ((d, .int k r) :: ρ) w) :
    WL P n ops (⟨some d, .binOp .quo xt x y yt, ty, pos, after, g⟩ :: rest) K ρ w :=
  WL_val rfl hg hd (fun c hc => by simp [execOp, hc.eval hx, hc.eval hy, eqGuard, binOp, Op.intDiv, hb, hr]) h
theorem O_rem (hg : gd ops ρ g = some true) (hd : Nat.blt d n = true) (hx : ev ρ x = some (.int k a)) (hy : ev ρ y = some (.int k b)) (hb : b ≠ 0) (hr : a.tmod b = r) (h : WL P n ops rest K ((d, .int k r) :: ρ) w) :
    WL P n ops (⟨some d, .binOp .rem xt x y yt, ty, pos, after, g⟩ :: rest) K ρ w :=
  WL_val rfl hg hd (fun c hc => by simp [execOp, hc.eval hx, hc.eval hy, eqGuard, binOp, Op.intDiv, hb, hr]) h
theorem O_and (hg : gd ops ρ g = some true) (hd : Nat.blt d n = true) (hx : ev ρ x = some (.int k a)) (hy : ev ρ y = some (.int k b)) (hr : k.wrap ((BitVec.ofInt k.bits a &&& BitVec.ofInt k.bits b).toNat : Int) = r) (h : WL P n ops rest K ((d, .int k r) :: ρ) w) :
    WL P n ops (⟨some d, .binOp .and xt x y yt, ty, pos, after, g⟩ :: rest) K ρ w :=
  WL_val rfl hg hd (fun c hc => by subst hr; simp [execOp, hc.eval hx, hc.eval hy, eqGuard, binOp, Op.intBits]) h
theorem O_or (hg : gd ops ρ g = some true) (hd : Nat.blt d n = true) (hx : ev ρ x = some (.int k a)) (hy : ev ρ y = some (.int k b)) (hr : k.wrap ((BitVec.ofInt k.bits a ||| BitVec.ofInt k.bits b).toNat : Int) = r) (h : WL P n ops rest K ((d, .int k r) :: ρ) w) :
    WL P n ops (⟨some d, .binOp .or xt x y yt, ty, pos, after, g⟩ :: rest) K ρ w :=
  WL_val rfl hg hd (fun c hc => by subst hr; simp [execOp, hc.eval hx, hc.eval hy, eqGuard, binOp, Op.intBits]) h
theorem O_shl (hg : gd ops ρ g = some true) (hd : Nat.blt d n = true) (hx : ev ρ x = some (.int k a)) (hy : ev ρ y = some (.int yk b)) (hb : 0 ≤ b) (hr : k.wrap (a * 2 ^ (min b.toNat k.bits)) = r) (h : WL P n ops rest K ((d, .int k r) :: ρ) w) :
    WL P n ops (⟨some d, .binOp .shl xt x y yt, ty, pos, after, g⟩ :: rest) K ρ w :=
  WL_val rfl hg hd (fun c hc => by subst hr; simp [execOp, hc.eval hx, hc.eval hy, eqGuard, binOp, Op.shift, Int.not_lt.2 hb]) h
theorem O_shr (hg : gd ops ρ g = some true) (hd : Nat.blt d n = true) (hx : ev ρ x = some (.int k a)) (hy : ev ρ y = some (.int yk b)) (hb : 0 ≤ b) (hr : a.fdiv (2 ^ (min b.toNat k.bits)) = r) (h : WL P n ops rest K ((d, .int k r) :: ρ) w) :
    WL P n ops (⟨some d, .binOp .shr xt x y yt, ty, pos, after, g⟩ :: rest) K ρ w :=
  WL_val rfl hg hd (fun c hc => by subst hr; simp [execOp, hc.eval hx, hc.eval hy, eqGuard, binOp, Op.shift, Int.not_lt.2 hb]) h
variable {t : Bool}
theorem O_lss (hg : gd ops ρ g = some true) (hd : Nat.blt d n = true) (hx : ev ρ x = some (.int k a)) (hy : ev ρ y = some (.int k b)) (hr : decide (a < b) = t) (h : WL P n ops rest K ((d, .bool t) :: ρ) w) :
    WL P n ops (⟨some d, .binOp .lss xt x y yt, ty, pos, after, g⟩ :: rest) K ρ w :=
  WL_val rfl hg hd (fun c hc => by subst hr; simp [execOp, hc.eval hx, hc.eval hy, eqGuard, binOp, Op.intCmp]) h
theorem O_leq (hg : gd ops ρ g = some true) (hd : Nat.blt d n = true) (hx : ev ρ x = some (.int k a)) (hy : ev ρ y = some (.int k b)) (hr : decide (a ≤ b) = t) (h : WL P n ops rest K ((d, .bool t) :: ρ) w) :
    WL P n ops (⟨some d, .binOp .leq xt x y yt, ty, pos, after, g⟩ :: rest) K ρ w :=
  WL_val rfl hg hd (fun c hc => by subst hr; simp [execOp, hc.eval hx, hc.eval hy, eqGuard, binOp, Op.intCmp]) h
theorem O_gtr (hg : gd ops ρ g = some true) (hd : Nat.blt d n = true) (hx : ev ρ x = some (.int k a)) (hy : ev ρ y = some (.int k b)) (hr : decide (b < a) = t) (h : WL P n ops rest K ((d, .bool t) :: ρ) w) :
    WL P n ops (⟨some d, .binOp .gtr xt x y yt, ty, pos, after, g⟩ :: rest) K ρ w :=
  WL_val rfl hg hd (fun c hc => by subst hr; simp [execOp, hc.eval hx, hc.eval hy, eqGuard, binOp, Op.intCmp]) h
theorem O_geq (hg : gd ops ρ g = some true) (hd : Nat.blt d n = true) (hx : ev ρ x = some (.int k a)) (hy : ev ρ y = some (.int k b)) (hr : decide (b ≤ a) = t) (h : WL P n ops rest K ((d, .bool t) :: ρ) w) :
    WL P n ops (⟨some d, .binOp .geq xt x y yt, ty, pos, after, g⟩ :: rest) K ρ w :=
  WL_val rfl hg hd (fun c hc => by subst hr; simp [execOp, hc.eval hx, hc.eval hy, eqGuard, binOp, Op.intCmp]) h
theorem O_eql (hg : gd ops ρ g = some true) (hd : Nat.blt d n = true) (hx : ev ρ x = some (.int k a)) (hy : ev ρ y = some (.int k b)) (hr : decide (a = b) = t) (h : WL P n ops rest K ((d, .bool t) :: ρ) w) :
    WL P n ops (⟨some d, .binOp .eql xt x y yt, ty, pos, after, g⟩ :: rest) K ρ w :=
  WL_val rfl hg hd (fun c hc => by
    have e : (a == b) = t := by rw [← hr]; by_cases q : a = b <;> simp [q]
    simp [execOp, hc.eval hx, hc.eval hy, eqGuard, binOp, Op.intCmp, e]) h
theorem O_neq (hg : gd ops ρ g = some true) (hd : Nat.blt d n = true) (hx : ev ρ x = some (.int k a)) (hy : ev ρ y = some (.int k b)) (hr : decide (a ≠ b) = t) (h : WL P n ops rest K ((d, .bool t) :: ρ) w) :
    WL P n ops (⟨some d, .binOp .neq xt x y yt, ty, pos, after, g⟩ :: rest) K ρ w :=
  WL_val rfl hg hd (fun c hc => by
    have e : (a != b) = t := by rw [← hr]; by_cases q : a = b <;> simp [q]
    simp [execOp, hc.eval hx, hc.eval hy, eqGuard, binOp, Op.intCmp, e]) h
variable {p q : Bool}
theorem O_beql (hT : P.underlying xt = some .bool) (hg : gd ops ρ g = some true) (hd : Nat.blt d n = true) (hx : ev ρ x = some (.bool p)) (hy : ev ρ y = some (.bool q)) (hr : (p == q) = t) (h : WL P n ops rest K ((d, .bool t) :: ρ) w) :
    WL P n ops (⟨some d, .binOp .eql xt x y yt, ty, pos, after, g⟩ :: rest) K ρ w :=
  WL_val rfl hg hd (fun c hc => by simp [execOp, hc.eval hx, hc.eval hy, eqGuard, run_eql_bool w xt p q hT, hr]) h
theorem O_bneq (hT : P.underlying xt = some .bool) (hg : gd ops ρ g = some true) (hd : Nat.blt d n = true) (hx : ev ρ x = some (.bool p)) (hy : ev ρ y = some (.bool q)) (hr : (!(p == q)) = t) (h : WL P n ops rest K ((d, .bool t) :: ρ) w) :
    WL P n ops (⟨some d, .binOp .neq xt x y yt, ty, pos, after, g⟩ :: rest) K ρ w :=
  WL_val rfl hg hd (fun c hc => by subst hr; simp [execOp, hc.eval hx, hc.eval hy, eqGuard, run_neq_bool w xt p q hT]) h
theorem O_not (hg : gd ops ρ g = some true) (hd : Nat.blt d n = true) (hx : ev ρ x = some (.bool p)) (hr : (!p) = t) (h : WL P n ops rest K ((d, .bool t) :: ρ) w) :
    WL P n ops (⟨some d, .unOp .not xt x, ty, pos, after, g⟩ :: rest) K ρ w :=
  WL_val rfl hg hd (fun c hc => by subst hr; simp [execOp, hc.eval hx, Op.unary]) h
theorem O_neg (hg : gd ops ρ g = some true) (hd : Nat.blt d n = true) (hx : ev ρ x = some (.int k a)) (hr : k.wrap (0 - a) = r) (h : WL P n ops rest K ((d, .int k r) :: ρ) w) :
    WL P n ops (⟨some d, .unOp .neg xt x, ty, pos, after, g⟩ :: rest) K ρ w :=
  WL_val rfl hg hd (fun c hc => by subst hr; simp [execOp, hc.eval hx, Op.unary, Op.intArith]) h
theorem O_conv {ds : TypeDesc} {k' : IntKind} (hs : P.underlying xt = some ds) (ht : P.underlying yt = some (.int k)) (hg : gd ops ρ g = some true) (hd : Nat.blt d n = true) (hx : ev ρ x = some (.int k' a)) (hr : k.wrap a = r) (h : WL P n ops rest K ((d, .int k r) :: ρ) w) :
    WL P n ops (⟨some d, .convert xt yt x, ty, pos, after, g⟩ :: rest) K ρ w :=
  WL_val rfl hg hd (fun c hc => by subst hr; simp [execOp, hc.eval hx, convert, run_underlying hs, run_underlying ht, Conv.intToInt]) h
end bin

theorem O_extract {x : Operand} {i : Nat} {vs : Array Value} {v : Value} (hg : gd ops ρ g = some true) (hd : Nat.blt d n = true) (hx : ev ρ x = some (.tuple vs)) (hv : vs[i]? = some v) (h : WL P n ops rest K ((d, v) :: ρ) w) :
    WL P n ops (⟨some d, .extract x i, ty, pos, after, g⟩ :: rest) K ρ w := WL_val rfl hg hd (fun a ha => by simp [execOp, ha.eval hx, Instr.extract, hv]) h

theorem O_max {x y : Operand} {at_ : Array TypeId} {k k' : IntKind} {a b r : Int} (hg : gd ops ρ g = some true) (hd : Nat.blt d n = true) (hx : ev ρ x = some (.int k a)) (hy : ev ρ y = some (.int k' b)) (hr : max a b = r) (h : WL P n ops rest K ((d, .int k r) :: ρ) w) :
    WL P n ops (⟨some d, .call { callee := .builtin .max, args := #[x, y], argTypes := at_ }, ty, pos, after, g⟩ :: rest) K ρ w :=
  WL_val rfl hg hd (fun c hc => by
    have e : (if b > a then b else a) = r := by rw [← hr]; omega
    simp [execOp, resolve, invoke, builtin, hc.eval hx, hc.eval hy, run_max_int2, e]) h
theorem O_min {x y : Operand} {at_ : Array TypeId} {k k' : IntKind} {a b r : Int} (hg : gd ops ρ g = some true) (hd : Nat.blt d n = true) (hx : ev ρ x = some (.int k a)) (hy : ev ρ y = some (.int k' b)) (hr : min a b = r) (h : WL P n ops rest K ((d, .int k r) :: ρ) w) :
    WL P n ops (⟨some d, .call { callee := .builtin .min, args := #[x, y], argTypes := at_ }, ty, pos, after, g⟩ :: rest) K ρ w :=
  WL_val rfl hg hd (fun c hc => by
    have e : (if b < a then b else a) = r := by rw [← hr]; omega
    simp [execOp, resolve, invoke, builtin, hc.eval hx, hc.eval hy, run_min_int2, e]) h

theorem O_len {x : Operand} {t e : TypeId} {v : Value} {vs : List Value} (hT : P.underlying t = some (.slice e)) (hg : gd ops ρ g = some true) (hd : Nat.blt d n = true) (hx : ev ρ x = some v) (hs : SlV w v vs)
    (h : WL P n ops rest K ((d, .int .i64 vs.length) :: ρ) w) :
    WL P n ops (⟨some d, .call { callee := .builtin .len, args := #[x], argTypes := #[t] }, ty, pos, after, g⟩ :: rest) K ρ w := by
  obtain ⟨a, cap, rfl, _⟩ := hs
  exact WL_val rfl hg hd (fun c hc => by simp [execOp, resolve, invoke, builtin, hc.eval hx, Builtin.len_, run_underlying hT, goInt]) h

theorem O_index {x ix : Operand} {t e : TypeId} {v : Value} {vs : List Value} {k : IntKind} {i : Int} {inf : TypeInfo} (hT : P.underlying t = some (.slice e)) (hi : P.info? e = some inf) (hsz : inf.size = 1)
    (hg : gd ops ρ g = some true) (hd : Nat.blt d n = true) (hx : ev ρ x = some v) (hix : ev ρ ix = some (.int k i)) (hs : SlV w v vs) (j : Nat) (hj : i = (j : Int)) (hlt : j < vs.length)
    (h : WL P n ops rest K ((d, .pointer (some (slAt v j))) :: ρ) w) :
    WL P n ops (⟨some d, .indexAddr t x ix, ty, pos, after, g⟩ :: rest) K ρ w := by
  obtain ⟨a, cap, rfl, _, _, _, h5⟩ := hs
  subst hj
  obtain ⟨p, rfl, _⟩ := h5 j vs[j] (by simp [hlt])
  refine WL_val rfl hg hd (fun c hc => ?_) h
  have h0 : (0 : Int) ≤ (j : Int) ∧ (j : Int) < (vs.length : Int) := by omega
  have h9 : ¬ vs.length ≤ j := by omega
  simp [execOp, hc.eval hx, hc.eval hix, Instr.indexAt, asIntOf, run_underlying hT, sizeOf, typeInfo, hi, hsz, h0, slAt, h9]

theorem O_load {x : Operand} {t : TypeId} {p : Addr} {u : Value} {ds : TypeDesc} (hT : P.underlying t = some ds) (hna : (match ds with | .struct _ | .array _ _ => false | _ => true) = true) (hg : gd ops ρ g = some true) (hd : Nat.blt d n = true)
    (hx : ev ρ x = some (.pointer (some p))) (hc : w.cell? p = some u) (h : WL P n ops rest K ((d, u) :: ρ) w) :
    WL P n ops (⟨some d, .load t x, ty, pos, after, g⟩ :: rest) K ρ w := by
  refine WL_val rfl hg hd (fun c hcc => ?_) h
  cases ds <;> simp at hna <;> simp [execOp, hcc.eval hx, Instr.loadAt, Instr.sureAddr, loadVar, isAgg, run_underlying hT, load, Sem.run, hc]

/-- A store of one cell. -/
theorem O_store {x y : Operand} {t : TypeId} {p : Addr} {u u0 : Value} {inf : TypeInfo} (hi : P.info? t = some inf) (hsz : inf.size = 1) (hg : gd ops ρ g = some true)
    (hx : ev ρ x = some (.pointer (some p))) (hy : ev ρ y = some u) (h1 : u.oneCell' = true) (hc : w.cell? p = some u0) (hf : w.frozen? p = false) (h : WL P n ops rest K ρ (w.setCell p u)) :
    WL P n ops (⟨none, .store t x y, ty, pos, after, g⟩ :: rest) K ρ w := by
  refine WL_eff rfl hg (fun c hcc => ?_) h
  have ha : p.add 0 = p := by simp [Addr.add]
  cases u <;> simp [Value.oneCell'] at h1 <;>
    simp [execOp, hcc.eval hx, hcc.eval hy, Instr.storeAt, Instr.sureAddr, storeVar, sizeOf, typeInfo, hi, hsz, Value.cells, storeCells, store, Sem.run, hc, hf, ha]

theorem Own.at_ {B : Nat} {e : TypeId} {v : Value} {vs : List Value} (h : Own B e w v vs) {j : Nat} (hj : j < vs.length) :
    ∃ g cap cur, v = .slice (some ⟨g, 0, none⟩) vs.length cap ∧ B ≤ g ∧ w.heap[g]? = some (.cells cur e (0, 0)) ∧ vs.length ≤ cap ∧ cap ≤ maxLen ∧ cur.size = cap ∧ cur.toList.take vs.length = vs := by
  obtain ⟨h1, h2⟩ := h
  rcases h2 with ⟨rfl, h0⟩ | ⟨g, cap, cur, rfl, hb, hh, hn, hm, hs, ht⟩
  · omega
  · exact ⟨g, cap, cur, rfl, hb, hh, hn, hm, by simpa using hs, by simpa using ht⟩

/-- A store into a row of one's own. -/
theorem O_storeOwn {x y : Operand} {t e : TypeId} {B : Nat} {v u : Value} {vs : List Value} {j : Nat} {inf : TypeInfo} (hi : P.info? t = some inf) (hsz : inf.size = 1) (hg : gd ops ρ g = some true)
    (hx : ev ρ x = some (.pointer (some (slAt v j)))) (hy : ev ρ y = some u) (h1 : u.oneCell' = true) (ho : Own B e w v vs) (hj : j < vs.length)
    (h : ∀ w', Own B e w' v (vs.set j u) → Chg (vblk v) w w' → WL P n ops rest K ρ w') :
    WL P n ops (⟨none, .store t x y, ty, pos, after, g⟩ :: rest) K ρ w := by
  obtain ⟨gb, cap, cur, rfl, hb, hh, hn, hm, hs, ht⟩ := ho.at_ hj
  have ha : slAt (.slice (some ⟨gb, 0, none⟩) vs.length cap) j = ⟨gb, j, none⟩ := by simp [slAt, Addr.add]; omega
  rw [ha] at hx
  have hcell : w.cell? ⟨gb, j, none⟩ = some vs[j] := by
    rw [cell_of_row w gb j cur e (0, 0) hh]
    have := take_getElem? (u := vs[j]) (i := j) ht (by simp [hj])
    simpa using this
  refine O_store hi hsz hg hx hy h1 hcell (frozen_of_row w gb j cur e hh) (h _ ?_ (Chg.setCell w ⟨gb, j, none⟩ u))
  refine ⟨by simp, .inr ⟨gb, cap, cur.setIfInBounds j u, by simp, hb, heap_setCell_same w gb j cur e u hh, by simpa using hn, hm, by simpa using hs, ?_⟩⟩
  rw [Array.toList_setIfInBounds, Nat.mul_one, List.length_set]
  rw [List.take_set, ht]

theorem O_indexStr {x ix : Operand} {t : TypeId} {s : ByteArray} {k : IntKind} {i : Int} {b : UInt8} (hT : P.underlying t = some .string) (hg : gd ops ρ g = some true) (hd : Nat.blt d n = true)
    (hx : ev ρ x = some (.string s)) (hix : ev ρ ix = some (.int k i)) (j : Nat) (hj : i = (j : Int)) (hb : s[j]? = some b) (h : WL P n ops rest K ((d, .int .u8 (b.toNat : Int)) :: ρ) w) :
    WL P n ops (⟨some d, .index t x ix, ty, pos, after, g⟩ :: rest) K ρ w := by
  subst hj
  refine WL_val rfl hg hd (fun c hc => ?_) h
  have h0 : (0 : Int) ≤ (j : Int) := by omega
  simp [execOp, hc.eval hx, hc.eval hix, Instr.index, asIntOf, run_underlying hT, h0, hb]

/-! Calls -/
def Enters (P : Program) (f : FuncId) : Prop := ∃ fn, P.funcs[f]? = some fn ∧ (fn.name == "runtime.NumGoroutine") = false ∧ fn.body.isNone = false
def evs (ρ : Rho) : List Operand → Option (List Value)
  | [] => some []
  | x :: r => match ev ρ x, evs ρ r with
    | some v, some vs => some (v :: vs)
    | _, _ => none
theorem Fits.evals {n : Nat} {a : Act} {ρ : Rho} (h : Fits n a ρ) : ∀ {l : List Operand} {vs : List Value}, evs ρ l = some vs → l.map a.eval = vs
  | [], vs, e => by simpa [evs] using e
  | x :: r, vs, e => by
    simp only [evs] at e
    split at e
    · rename_i v us h1 h2
      cases e
      simp [h.eval h1, h.evals h2]
    · cases e

/-- What a call hands back: a value with Φ, in a world that goes on. -/
def Ret (w : World) (Φ : Value → World → Prop) (e : Ending) (w' : World) : Prop := ∃ v, e = .returned v ∧ Ext w w' ∧ Φ v w'

theorem O_callR {f : FuncId} {args : List Operand} {at_ : Array TypeId} {vs : List Value} {R : Ending → World → Prop} (hE : Enters P f) (hg : gd ops ρ g = some true) (hd : Nat.blt d n = true) (ha : evs ρ args = some vs)
    (hc : Calls P f vs.toArray w R) (h : ∀ e w', R e w' → ∃ v, e = .returned v ∧ WL P n ops rest K ((d, v) :: ρ) w') :
    WL P n ops (⟨some d, .call { callee := .value (.func f), args := args.toArray, argTypes := at_ }, ty, pos, after, g⟩ :: rest) K ρ w := by
  obtain ⟨fn, hf, hn, hb⟩ := hE
  intro a hfit Q hQ
  unfold wpList
  rw [if_pos (gd_wanted hg hfit)]
  refine .inl ?_
  unfold Oper.wp
  have hargs := hfit.evals ha
  have hrun : (execOp a.eval ⟨some d, .call { callee := .value (.func f), args := args.toArray, argTypes := at_ }, ty, pos, after, g⟩).run P w = .ok (.enter f vs.toArray) w := by
    have hm : (args.toArray.map a.eval) = vs.toArray := by rw [← hargs]; simp
    simp only [execOp, resolve, hm, Act.eval, Deferred.ofValue, invoke, callFunc, Sem.run_bind, Sem.run_pure, Result.andThen_ok, Array.empty_append, Array.append_empty, run_program, hf, hn, hb, Bool.false_eq_true, if_false]
  rw [hrun]
  refine Calls.mono hc fun e w' hR => ?_
  obtain ⟨v, rfl, hw⟩ := h e w' hR
  exact hw _ (hfit.put hd v) Q hQ

theorem O_call {f : FuncId} {args : List Operand} {at_ : Array TypeId} {vs : List Value} {Φ : Value → World → Prop} (hE : Enters P f) (hg : gd ops ρ g = some true) (hd : Nat.blt d n = true) (ha : evs ρ args = some vs)
    (hc : Calls P f vs.toArray w (Ret w Φ)) (h : ∀ v w', Ext w w' → Φ v w' → WL P n ops rest K ((d, v) :: ρ) w') :
    WL P n ops (⟨some d, .call { callee := .value (.func f), args := args.toArray, argTypes := at_ }, ty, pos, after, g⟩ :: rest) K ρ w :=
  O_callR hE hg hd ha hc fun e w' ⟨v, he, hx, hv⟩ => ⟨v, he, h v w' hx hv⟩

/-! Making memory -/
theorem madeCells_one (z : Value) (m : Nat) : madeCells #[z] m = (List.replicate m z).toArray := by
  unfold madeCells
  apply Array.ext
  · simp
  · intro i h1 h2
    simp [Nat.mod_one]

theorem O_make {x y : Operand} {t e : TypeId} {k k' : IntKind} {m : Nat} {z : Value} {bytes : Nat} {inf : TypeInfo} (hT : P.underlying t = some (.slice e)) (hi : P.info? e = some inf) (hz : inf.zero = some z) (hzc : z.cells = #[z]) (hsz : inf.size = 1) (hby : inf.bytes = bytes)
    (hg : gd ops ρ g = some true) (hd : Nat.blt d n = true) {a b : Int} (hx : ev ρ x = some (.int k a)) (hy : ev ρ y = some (.int k' b)) (ha : a = (m : Int)) (hb : b = (m : Int)) (hm : m * bytes ≤ 281474976710656) (hm' : m ≤ 35184372088832)
    (h : ∀ v w', Own w.heap.size e w' v (List.replicate m z) → Ext w w' → vblk v = w.heap.size → w'.heap.size = w.heap.size + 1 → v = .slice (some ⟨w.heap.size, 0, none⟩) m m → WL P n ops rest K ((d, v) :: ρ) w') :
    WL P n ops (⟨some d, .makeSlice t x y, ty, pos, after, g⟩ :: rest) K ρ w := by
  subst ha; subst hb
  have hmax : m ≤ maxLen := by simp only [maxLen]; omega
  have hmi : (m : Int) * (bytes : Int) ≤ 281474976710656 := by
    have h9 : ((m * bytes : Nat) : Int) ≤ 281474976710656 := by omega
    rwa [Int.natCast_mul] at h9
  have hr := run_make (P := P) w t e inf z hT hi hz k k' (m : Int) (m : Int) (by omega) (Int.le_refl _) (by rw [hby, Int.mul_comm]; exact hmi) (by omega)
  simp only [Int.toNat_natCast] at hr
  refine WL_val rfl hg hd (v := .slice (some ⟨w.heap.size, 0, none⟩) m m) (w' := w.alloc (.cells (madeCells z.cells (m * inf.size)) e)) (fun c hc => by simp only [execOp, hc.eval hx, hc.eval hy, Sem.run_bind, hr, Result.andThen_ok, Sem.run_pure]) ?_
  refine h _ _ ?_ (Ext.alloc w _) rfl (by simp) rfl
  refine ⟨by simp, .inr ⟨w.heap.size, m, _, by simp, Nat.le_refl _, heap_alloc_new w _, by simp, hmax, by simp [size_madeCells, hsz], ?_⟩⟩
  rw [hzc, hsz, Nat.mul_one, madeCells_one]
  simp

/-- 'append' to a row of one's own. -/
theorem O_append {x y : Operand} {t e : TypeId} {B : Nat} {v v2 : Value} {vs vs2 : List Value} {z : Value} {bytes : Nat} {inf : TypeInfo} (hT : P.underlying t = some (.slice e)) (hi : P.info? e = some inf) (hz : inf.zero = some z) (hzc : z.cells.size = 1) (hsz : inf.size = 1) (hby : inf.bytes = bytes)
    (hg : gd ops ρ g = some true) (hd : Nat.blt d n = true) (hx : ev ρ x = some v) (hy : ev ρ y = some v2) (ho : Own B e w v vs) (h2 : SlV w v2 vs2) (h1 : ∀ u ∈ vs2, u.oneCell' = true)
    (hm : vs.length + vs2.length ≤ 1073741824) (hbm : bytes ≤ 64) (hB : B ≤ w.heap.size)
    (h : ∀ v' w', Own B e w' v' (vs ++ vs2) → w.grownBy w' v.ownBlock → WL P n ops rest K ((d, v') :: ρ) w') :
    WL P n ops (⟨some d, .call { callee := .builtin .append, args := #[x, y], argTypes := #[t, t] }, ty, pos, after, g⟩ :: rest) K ρ w := by
  obtain ⟨a, cap, rfl, hle, hcm, hnone, hcells⟩ := h2
  have hb1 : (vs.length + vs2.length) * bytes ≤ 1073741824 * 64 := Nat.mul_le_mul hm hbm
  have key : ∃ v' w', (Builtin.append_ #[t, t] ty #[v, .slice a vs2.length cap]).run P w = .ok v' w' ∧ w'.ownsRow B e 1 v' (vs.length + vs2.length) (vs ++ vs2) ∧ w.grownBy w' v.ownBlock := by
    cases a with
    | some ad =>
      obtain ⟨v', w', h1', h2', h3', _⟩ := run_append_own (P := P) w B t ty e inf z 1 bytes hT hi hz hsz hby hzc (by omega) v vs.length vs ho ad vs2.length cap vs2 (by simp)
        (fun j u hu => by obtain ⟨x, hx, hc⟩ := hcells j u hu; cases hx; exact hc) h1 (by simp only [maxLen]; omega) (by omega) hB
      exact ⟨v', w', h1', h2', h3'⟩
    | none =>
      have hc0 : cap = 0 := hnone rfl
      have hv0 : vs2 = [] := List.eq_nil_of_length_eq_zero (by omega)
      subst hv0; subst hc0
      refine ⟨v, w, ?_, (by simpa [Own] using ho), ⟨rfl, rfl, rfl, Nat.le_refl _, fun _ _ _ => rfl⟩⟩
      have ho' := ho
      obtain ⟨_, h0 | ⟨g', cap', cur', rfl, _, _, hn', _⟩⟩ := ho'
      · obtain ⟨rfl, _⟩ := h0
        simp [Builtin.append_, run_underlying hT, sizeOf, typeInfo, hi, Builtin.lenOf, Builtin.firstCells]
      · simp [Builtin.append_, run_underlying hT, sizeOf, typeInfo, hi, Builtin.lenOf, Builtin.firstCells, hn', storeCells]
  obtain ⟨v', w', hr, hown, hgr⟩ := key
  refine WL_val rfl hg hd (fun c hc => by simp [execOp, resolve, invoke, builtin, hc.eval hx, hc.eval hy, hr]) (h v' w' ?_ hgr)
  unfold Own
  rw [List.length_append]; exact hown

theorem grown_ext {w0 w' : World} {row : Option Nat} (h : w.grownBy w' row) (he : Ext w0 w) (hr : ∀ k, row = some k → w0.heap.size ≤ k) : Ext w0 w' :=
  Below.grown he h he.size hr
theorem Own.row {B : Nat} {e : TypeId} {v : Value} {vs : List Value} (h : Own B e w v vs) : ∀ k, v.ownBlock = some k → B ≤ k := fun k hk => (World.ownsRow.lt h k hk).1

/-- v[:h]. -/
def slTake : Value → Nat → Value
  | .slice a _ c, h => .slice a h c
  | v, _ => v
theorem SlV.take {v : Value} {vs : List Value} (h : SlV w v vs) (m : Nat) (hm : m ≤ vs.length) : SlV w (slTake v m) (vs.take m) := by
  obtain ⟨a, cap, rfl, h2, h3, h4, h5⟩ := h
  refine ⟨a, cap, by simp [slTake, Nat.min_eq_left hm], by simp; omega, h3, h4, fun i u hu => h5 i u ?_⟩
  rw [List.getElem?_take] at hu
  split at hu
  · exact hu
  · cases hu
theorem Own.take {B : Nat} {e : TypeId} {v : Value} {vs : List Value} (h : Own B e w v vs) (m : Nat) (hm : m ≤ vs.length) : Own B e w (slTake v m) (vs.take m) := by
  obtain ⟨h1, h2⟩ := h
  have hl : (vs.take m).length = m := by simp; omega
  refine ⟨by simp, ?_⟩
  rw [hl]
  rcases h2 with ⟨rfl, h0⟩ | ⟨g, cap, cur, rfl, hb, hh, hn, hmx, hs, ht⟩
  · left; exact ⟨by simp [slTake]; omega, by omega⟩
  · right
    refine ⟨g, cap, cur, rfl, hb, hh, by omega, hmx, hs, ?_⟩
    rw [← ht, List.take_take]; congr 1; omega
theorem O_sliceTo {x y : Operand} {t e : TypeId} {v : Value} {vs : List Value} {k : IntKind} {i : Int} {inf : TypeInfo} (hT : P.underlying t = some (.slice e)) (hi : P.info? e = some inf) (hg : gd ops ρ g = some true) (hd : Nat.blt d n = true)
    (hx : ev ρ x = some v) (hy : ev ρ y = some (.int k i)) (hs : SlV w v vs) (m : Nat) (hm : i = (m : Int)) (hle : m ≤ vs.length) (h : WL P n ops rest K ((d, slTake v m) :: ρ) w) :
    WL P n ops (⟨some d, .slice t x none (some y) none, ty, pos, after, g⟩ :: rest) K ρ w := by
  obtain ⟨a, cap, rfl, h2, h3, h4, h5⟩ := hs
  subst hm
  refine WL_val rfl hg hd (fun c hc => ?_) h
  have hb : (0 : Int) ≤ (m : Int) ∧ (m : Int) ≤ (cap : Int) := by omega
  simp only [execOp, hc.eval hx, hc.eval hy, Option.map_some, Option.map_none, Instr.sliceAt, Instr.slice, Instr.sliceBounds, Instr.sliceBound, asIntOf, Sem.run_bind, run_underlying hT, Result.andThen_ok, Sem.run_pure, hb, if_true, sizeOf, typeInfo, Int.toNat_natCast]
  simp [hi, slTake, hb]
  cases a <;> simp [Addr.add]
end
end Go.Proofs.Ytoccimigjjndpaa

set_option linter.unusedVariables false
set_option linter.unusedSimpArgs false
namespace Go.Proofs.Ytoccimigjjndpaa
open Go Go.RowKit

/-! ### Digits -/
def val : List Nat → Nat
  | [] => 0
  | x :: l => x + 4294967296 * val l
def D (l : List Nat) : Prop := ∀ x ∈ l, x < 4294967296
def dig (n : Nat) : List Nat := if h : n = 0 then [] else n % 4294967296 :: dig (n / 4294967296)
termination_by n
decreasing_by exact Nat.div_lt_self (by omega) (by omega)

theorem dig_zero : dig 0 = [] := by rw [dig]; simp
theorem dig_pos {n : Nat} (h : n ≠ 0) : dig n = n % 4294967296 :: dig (n / 4294967296) := by rw [dig]; simp [h]
theorem val_dig (n : Nat) : val (dig n) = n := by
  induction n using Nat.strongRecOn with
  | _ n ih =>
    by_cases h : n = 0
    · subst h; simp [dig_zero, val]
    · rw [dig_pos h, val, ih _ (Nat.div_lt_self (by omega) (by omega))]; omega
theorem D_dig (n : Nat) : D (dig n) := by
  induction n using Nat.strongRecOn with
  | _ n ih =>
    by_cases h : n = 0
    · subst h; simp [dig_zero, D]
    · rw [dig_pos h]
      intro x hx
      rcases List.mem_cons.1 hx with rfl | hx
      · omega
      · exact ih _ (Nat.div_lt_self (by omega) (by omega)) x hx
theorem D.nil : D [] := by simp [D]
theorem D.tail {x : Nat} {l : List Nat} (h : D (x :: l)) : D l := fun y hy => h y (List.mem_cons_of_mem _ hy)
theorem D.head {x : Nat} {l : List Nat} (h : D (x :: l)) : x < 4294967296 := h x (by simp)
theorem D.cons {x : Nat} {l : List Nat} (hx : x < 4294967296) (h : D l) : D (x :: l) := by
  intro y hy; rcases List.mem_cons.1 hy with rfl | hy
  · exact hx
  · exact h y hy
theorem D.append {l m : List Nat} (h : D l) (k : D m) : D (l ++ m) := by
  intro y hy; rcases List.mem_append.1 hy with hy | hy
  · exact h y hy
  · exact k y hy
theorem D.take {l : List Nat} (h : D l) (n : Nat) : D (l.take n) := fun y hy => h y (List.mem_of_mem_take hy)
theorem D.drop {l : List Nat} (h : D l) (n : Nat) : D (l.drop n) := fun y hy => h y (List.mem_of_mem_drop hy)
theorem D.getD {l : List Nat} (h : D l) (i : Nat) : l.getD i 0 < 4294967296 := by
  by_cases hi : i < l.length
  · rw [List.getD_eq_getElem?_getD, List.getElem?_eq_getElem hi]; exact h _ (List.getElem_mem hi)
  · rw [List.getD_eq_getElem?_getD, List.getElem?_eq_none (by omega)]; simp
theorem D.set {l : List Nat} (h : D l) (i : Nat) {x : Nat} (hx : x < 4294967296) : D (l.set i x) := by
  intro y hy; rcases List.mem_or_eq_of_mem_set hy with hy | rfl
  · exact h y hy
  · exact hx
theorem D.replicate (n : Nat) : D (List.replicate n 0) := by intro y hy; rw [List.eq_of_mem_replicate hy]; omega

theorem val_append (l m : List Nat) : val (l ++ m) = val l + 4294967296 ^ l.length * val m := by
  induction l with
  | nil => simp [val]
  | cons x l ih => simp only [List.cons_append, val, ih, List.length_cons, Nat.pow_succ]; rw [Nat.mul_add, ← Nat.mul_assoc, Nat.mul_comm 4294967296 (4294967296 ^ l.length)]; omega
theorem val_lt {l : List Nat} (h : D l) : val l < 4294967296 ^ l.length := by
  induction l with
  | nil => simp [val]
  | cons x l ih =>
    have h1 := ih h.tail
    have h2 := h.head
    simp only [val, List.length_cons, Nat.pow_succ]
    omega
theorem val_replicate (n : Nat) : val (List.replicate n 0) = 0 := by
  induction n with
  | zero => rfl
  | succ n ih => simp [List.replicate_succ, val, ih]
theorem val_inj {l m : List Nat} (hl : D l) (hm : D m) (hlen : l.length = m.length) (h : val l = val m) : l = m := by
  induction l generalizing m with
  | nil => cases m with
    | nil => rfl
    | cons y m => simp at hlen
  | cons x l ih => cases m with
    | nil => simp at hlen
    | cons y m =>
      simp only [val] at h
      have h1 := hl.head
      have h2 := hm.head
      have e1 : x = y := by omega
      have e2 : val l = val m := by omega
      rw [e1, ih hl.tail hm.tail (by simpa using hlen) e2]
/-- No zero at the top. -/
def Can (l : List Nat) : Prop := l.getLast? ≠ some 0
theorem Can_nil : Can [] := by simp [Can]
theorem Can.tail {x : Nat} {l : List Nat} (h : Can (x :: l)) : Can l := by
  unfold Can at *
  cases l with
  | nil => simp
  | cons y l => simpa [List.getLast?_cons_cons] using h
theorem val_pos {l : List Nat} (h : Can l) (hne : l ≠ []) : 0 < val l := by
  induction l with
  | nil => exact absurd rfl hne
  | cons x l ih =>
    cases l with
    | nil => simp [Can] at h; simp [val]; omega
    | cons y m =>
      have := ih h.tail (by simp)
      simp only [val] at this ⊢; omega
theorem dig_val {l : List Nat} (hd : D l) (hc : Can l) : dig (val l) = l := by
  induction l with
  | nil => simp [val, dig_zero]
  | cons x l ih =>
    have h1 := val_pos hc (by simp)
    have h2 := hd.head
    rw [dig_pos (by omega)]
    have h3 : val (x :: l) % 4294967296 = x := by simp only [val]; omega
    have h4 : val (x :: l) / 4294967296 = val l := by simp only [val]; omega
    rw [h3, h4, ih hd.tail hc.tail]
theorem Can_dig (n : Nat) : Can (dig n) := by
  induction n using Nat.strongRecOn with
  | _ n ih =>
    by_cases h : n = 0
    · subst h; simp [dig_zero, Can]
    · rw [dig_pos h]
      by_cases h2 : n / 4294967296 = 0
      · have h3 : n % 4294967296 = n := by omega
        rw [h2, dig_zero, h3]; simpa [Can] using h
      · have := ih (n / 4294967296) (by omega)
        rw [dig_pos h2] at this ⊢
        unfold Can at *
        rw [List.getLast?_cons_cons]; exact this
/-- How many digits are left when the zeros at the top are struck. -/
def sz (l : List Nat) : Nat := (dig (val l)).length
theorem val_snoc_zero (l : List Nat) : val (l ++ [0]) = val l := by rw [val_append]; simp [val]
theorem sz_snoc_zero (l : List Nat) : sz (l ++ [0]) = sz l := by unfold sz; rw [val_snoc_zero]
theorem sz_can {l : List Nat} (hd : D l) (hc : Can l) : sz l = l.length := by unfold sz; rw [dig_val hd hc]
theorem take_succ_getD (l : List Nat) (k : Nat) (h : k < l.length) : l.take (k + 1) = l.take k ++ [l.getD k 0] := by
  rw [List.take_succ_eq_append_getElem h]; simp [List.getD_eq_getElem?_getD, List.getElem?_eq_getElem h]
theorem sz_take_zero {l : List Nat} {k : Nat} (h : k < l.length) (h0 : l.getD k 0 = 0) : sz (l.take (k + 1)) = sz (l.take k) := by
  rw [take_succ_getD l k h, h0, sz_snoc_zero]
theorem sz_take_pos {l : List Nat} {k : Nat} (hd : D l) (h : k < l.length) (h0 : l.getD k 0 ≠ 0) : sz (l.take (k + 1)) = k + 1 := by
  rw [sz_can (hd.take _)]
  · simp; omega
  · rw [take_succ_getD l k h]; simpa [Can] using h0
theorem val_take_sz {l : List Nat} (hd : D l) : l.take (sz l) = dig (val l) := by
  induction hn : l.length using Nat.strongRecOn generalizing l with
  | _ n ih =>
    by_cases hc : Can l
    · rw [sz_can hd hc, List.take_length, dig_val hd hc]
    · cases hl : l.getLast? with
      | none => rw [List.getLast?_eq_none_iff] at hl; subst hl; simp [sz, val, dig_zero]
      | some x =>
        have hx : x = 0 := by unfold Can at hc; rw [hl] at hc; simpa using hc
        subst hx
        obtain ⟨m, rfl⟩ := List.getLast?_eq_some_iff.1 hl
        rw [sz_snoc_zero, val_snoc_zero]
        have hm : D m := fun y hy => hd y (List.mem_append_left _ hy)
        have h1 := ih m.length (by subst hn; simp) hm rfl
        rw [← h1, List.take_append_of_le_length]
        have h2 := congrArg List.length h1
        simp only [List.length_take] at h2
        unfold sz at *
        omega
theorem sz_le {l : List Nat} (hd : D l) : sz l ≤ l.length := by
  have h := congrArg List.length (val_take_sz hd)
  simp only [List.length_take] at h
  unfold sz at *; omega
theorem dig_len_le {l : List Nat} (hd : D l) : (dig (val l)).length ≤ l.length := sz_le hd

/-! ### Slices of digits -/
def dv (n : Nat) : Value := .int .u32 (n : Int)
/-- The slice reads as these digits. -/
structure Nl (w : World) (v : Value) (l : List Nat) : Prop where
  sl : SlV w v (l.map dv)
  d : D l
theorem Nl.ext {w w' : World} {v : Value} {l : List Nat} (h : Nl w v l) (he : Ext w w') : Nl w' v l := ⟨h.sl.ext he, h.d⟩
theorem Nl.len_le {w : World} {v : Value} {l : List Nat} (h : Nl w v l) : l.length ≤ 9223372036854775807 := by
  have := h.sl.le
  simp only [List.length_map, maxLen] at this; omega
theorem Nl.one {w : World} {v : Value} {l : List Nat} (h : Nl w v l) : v.oneCell' = true := by
  obtain ⟨a, cap, rfl, _⟩ := h.sl; rfl
theorem Nl.cells1 {w : World} {v : Value} {l : List Nat} (h : Nl w v l) : v.cells = #[v] := by
  obtain ⟨a, cap, rfl, _⟩ := h.sl; rfl
theorem Nl.nil (w : World) : Nl w (.slice none 0 0) [] := ⟨SlV.nil w, D.nil⟩
theorem Nl.cell {w : World} {v : Value} {l : List Nat} (h : Nl w v l) {j : Nat} (hj : j < l.length) : w.cell? (slAt v j) = some (.int .u32 (l.getD j 0 : Nat)) := by
  refine h.sl.cell (u := dv (l.getD j 0)) ?_
  simp [hj, dv]
theorem Nl.take {w : World} {v : Value} {l : List Nat} (h : Nl w v l) (m : Nat) (hm : m ≤ l.length) : Nl w (slTake v m) (l.take m) :=
  ⟨by rw [List.map_take]; exact h.sl.take m (by simpa using hm), h.d.take m⟩
theorem Nl.chg {w w' : World} {v : Value} {l : List Nat} {b : Nat} (h : Nl w v l) (hc : Chg b w w') (hb : l ≠ [] → vblk v ≠ b) : Nl w' v l :=
  ⟨h.sl.chg hc (fun hne => hb (by rintro rfl; exact hne rfl)), h.d⟩
/-- .. and is a row of one's own. -/
structure No (B : Nat) (e : TypeId) (w : World) (v : Value) (l : List Nat) : Prop where
  own : Own B e w v (l.map dv)
  d : D l
theorem No.nl {B : Nat} {e : TypeId} {w : World} {v : Value} {l : List Nat} (h : No B e w v l) : Nl w v l := ⟨h.own.sl, h.d⟩
theorem No.ext {B : Nat} {e : TypeId} {w w' : World} {v : Value} {l : List Nat} (h : No B e w v l) (he : Ext w w') : No B e w' v l := ⟨h.own.ext he, h.d⟩
theorem No.mono {B B' : Nat} {e : TypeId} {w : World} {v : Value} {l : List Nat} (h : No B e w v l) (hb : B' ≤ B) : No B' e w v l := ⟨h.own.mono hb, h.d⟩
theorem No.chg {B b : Nat} {e : TypeId} {w w' : World} {v : Value} {l : List Nat} (h : No B e w v l) (hc : Chg b w w') (hb : vblk v ≠ b) : No B e w' v l := ⟨h.own.chg hc hb, h.d⟩
theorem No.take {B : Nat} {e : TypeId} {w : World} {v : Value} {l : List Nat} (h : No B e w v l) (m : Nat) (hm : m ≤ l.length) : No B e w (slTake v m) (l.take m) :=
  ⟨by rw [List.map_take]; exact h.own.take m (by simpa using hm), h.d.take m⟩
theorem No.nil (B : Nat) (e : TypeId) (w : World) : No B e w (.slice none 0 0) [] := ⟨Own.nil B e w, D.nil⟩
theorem No.blk {B : Nat} {e : TypeId} {w : World} {v : Value} {l : List Nat} (h : No B e w v l) (hne : l ≠ []) : B ≤ vblk v ∧ vblk v < w.heap.size :=
  h.own.blk (by simpa using hne)

/-- What is known of a slice type: its elements are one cell each. -/
structure ElT (P : Program) (t e : TypeId) (z : Value) (b : Nat) : Prop where
  sl : P.underlying t = some (.slice e)
  info : ∃ i, P.info? e = some i ∧ i.size = 1 ∧ i.zero = some z ∧ i.bytes = b
theorem ElT.mk' {P : Program} {t e : TypeId} {z : Value} {b : Nat} (h : P.underlying t = some (.slice e)) (k : (P.info? e).map (fun i => (i.zero, i.size, i.bytes)) = some (some z, 1, b)) : ElT P t e z b := by
  refine ⟨h, ?_⟩
  cases hi : P.info? e with
  | none => rw [hi] at k; cases k
  | some i =>
    rw [hi] at k
    simp only [Option.map_some, Option.some.injEq, Prod.mk.injEq] at k
    exact ⟨i, rfl, k.2.1, k.1, k.2.2⟩

section
variable {P : Program} {n : Nat} {K : Rho → World → Prop} {ρ : Rho} {w : World} {ops rest : List Oper}
variable {ty : TypeId} {pos : String} {after : Array Edge} {g : Option (Nat × Bool)} {d : Nat} {t e : TypeId}

theorem N_len {x : Operand} {z : Value} {b : Nat} {v : Value} {l : List Nat} (T : ElT P t e z b) (hg : gd ops ρ g = some true) (hd : Nat.blt d n = true) (hx : ev ρ x = some v) (hs : Nl w v l)
    (h : WL P n ops rest K ((d, .int .i64 (l.length : Nat)) :: ρ) w) :
    WL P n ops (⟨some d, .call { callee := .builtin .len, args := #[x], argTypes := #[t] }, ty, pos, after, g⟩ :: rest) K ρ w :=
  O_len T.sl hg hd hx hs.sl (by simpa using h)
theorem N_index {x ix : Operand} {v : Value} {l : List Nat} {k : IntKind} {i : Int} {z : Value} {b : Nat} (T : ElT P t e z b)
    (hg : gd ops ρ g = some true) (hd : Nat.blt d n = true) (hx : ev ρ x = some v) (hix : ev ρ ix = some (.int k i)) (hs : Nl w v l) (j : Nat) (hj : i = (j : Int)) (hlt : j < l.length)
    (h : WL P n ops rest K ((d, .pointer (some (slAt v j))) :: ρ) w) :
    WL P n ops (⟨some d, .indexAddr t x ix, ty, pos, after, g⟩ :: rest) K ρ w := by
  obtain ⟨inf, h1, h2, _⟩ := T.info
  exact O_index T.sl h1 h2 hg hd hx hix hs.sl j hj (by simpa using hlt) h
theorem N_load {x : Operand} {v : Value} {l : List Nat} {j : Nat} {k : IntKind} (hT : P.underlying t = some (.int k)) (hg : gd ops ρ g = some true) (hd : Nat.blt d n = true)
    (hx : ev ρ x = some (.pointer (some (slAt v j)))) (hs : Nl w v l) (hj : j < l.length) (h : l.getD j 0 < 4294967296 → WL P n ops rest K ((d, .int .u32 (l.getD j 0 : Nat)) :: ρ) w) :
    WL P n ops (⟨some d, .load t x, ty, pos, after, g⟩ :: rest) K ρ w :=
  O_load hT rfl hg hd hx (hs.cell hj) (h (hs.d.getD j))
theorem N_store {x y : Operand} {z : Value} {b : Nat} {B : Nat} {v : Value} {l : List Nat} {j : Nat} {i : Int} (T : ElT P t e z b) (hg : gd ops ρ g = some true)
    (hx : ev ρ x = some (.pointer (some (slAt v j)))) (hy : ev ρ y = some (.int .u32 i)) (ho : No B e w v l) (hj : j < l.length) (u : Nat) (hu : i = (u : Int)) (hlt : u < 4294967296)
    (h : ∀ w', No B e w' v (l.set j u) → Chg (vblk v) w w' → B ≤ vblk v → vblk v < w.heap.size → WL P n ops rest K ρ w') :
    WL P n ops (⟨none, .store e x y, ty, pos, after, g⟩ :: rest) K ρ w := by
  subst hu
  obtain ⟨inf, h1, h2, _⟩ := T.info
  have hb := ho.blk (by rintro rfl; simp at hj)
  refine O_storeOwn (B := B) (vs := l.map dv) h1 h2 hg hx hy rfl ho.own (by simpa using hj) (fun w' ho' hc => h w' ⟨?_, ho.d.set j hlt⟩ hc hb.1 hb.2)
  rw [List.map_set]; exact ho'
theorem N_make {x y : Operand} {k k' : IntKind} {bytes : Nat} (T : ElT P t e (.int .u32 0) bytes) (hby : bytes ≤ 64) (hg : gd ops ρ g = some true) (hd : Nat.blt d n = true) {a b : Int} (hx : ev ρ x = some (.int k a)) (hy : ev ρ y = some (.int k' b)) (m : Nat) (ha : a = (m : Int)) (hb : b = (m : Int)) (hm : m ≤ 1073741824)
    (h : ∀ v w', No w.heap.size e w' v (List.replicate m 0) → Ext w w' → WL P n ops rest K ((d, v) :: ρ) w') :
    WL P n ops (⟨some d, .makeSlice t x y, ty, pos, after, g⟩ :: rest) K ρ w := by
  obtain ⟨inf, h1, h2, h3, h4⟩ := T.info
  have hb1 : m * bytes ≤ 1073741824 * 64 := Nat.mul_le_mul hm hby
  refine O_make T.sl h1 h3 rfl h2 h4 hg hd hx hy ha hb (by omega) (by omega) (fun v w' ho he _ _ _ => h v w' ⟨?_, D.replicate m⟩ he)
  rw [List.map_replicate]; exact ho
theorem N_append {x y : Operand} {B : Nat} {v v2 : Value} {l l2 : List Nat} {z : Value} {bytes : Nat} (T : ElT P t e z bytes) (hzc : z.cells.size = 1) (hbm : bytes ≤ 64) (hg : gd ops ρ g = some true) (hd : Nat.blt d n = true) (hx : ev ρ x = some v) (hy : ev ρ y = some v2)
    (ho : No B e w v l) (h2 : Nl w v2 l2) (hm : l.length + l2.length ≤ 1073741824) (hB : B ≤ w.heap.size)
    (h : ∀ v' w', No B e w' v' (l ++ l2) → w.grownBy w' v.ownBlock → WL P n ops rest K ((d, v') :: ρ) w') :
    WL P n ops (⟨some d, .call { callee := .builtin .append, args := #[x, y], argTypes := #[t, t] }, ty, pos, after, g⟩ :: rest) K ρ w := by
  obtain ⟨inf, h1, h2', h3, h4⟩ := T.info
  refine O_append T.sl h1 h3 hzc h2' h4 hg hd hx hy ho.own h2.sl (fun u hu => ?_) (by simpa using hm) hbm hB (fun v' w' ho' hg' => h v' w' ⟨?_, ho.d.append h2.d⟩ hg')
  · obtain ⟨q, _, rfl⟩ := List.mem_map.1 hu; rfl
  · rw [List.map_append]; exact ho'
theorem N_sliceTo {x y : Operand} {v : Value} {l : List Nat} {k : IntKind} {i : Int} {z : Value} {b : Nat} (T : ElT P t e z b) (hg : gd ops ρ g = some true) (hd : Nat.blt d n = true)
    (hx : ev ρ x = some v) (hy : ev ρ y = some (.int k i)) (hs : Nl w v l) (m : Nat) (hm : i = (m : Int)) (hle : m ≤ l.length) (h : WL P n ops rest K ((d, slTake v m) :: ρ) w) :
    WL P n ops (⟨some d, .slice t x none (some y) none, ty, pos, after, g⟩ :: rest) K ρ w := by
  obtain ⟨inf, h1, _⟩ := T.info
  exact O_sliceTo T.sl h1 hg hd hx hy hs.sl m hm (by simpa using hle) h
theorem V_len {x : Operand} {z : Value} {b : Nat} {v : Value} {vs : List Value} (T : ElT P t e z b) (hg : gd ops ρ g = some true) (hd : Nat.blt d n = true) (hx : ev ρ x = some v) (hs : SlV w v vs)
    (h : WL P n ops rest K ((d, .int .i64 (vs.length : Nat)) :: ρ) w) :
    WL P n ops (⟨some d, .call { callee := .builtin .len, args := #[x], argTypes := #[t] }, ty, pos, after, g⟩ :: rest) K ρ w :=
  O_len T.sl hg hd hx hs h
theorem V_index {x ix : Operand} {v : Value} {vs : List Value} {k : IntKind} {i : Int} {z : Value} {b : Nat} (T : ElT P t e z b)
    (hg : gd ops ρ g = some true) (hd : Nat.blt d n = true) (hx : ev ρ x = some v) (hix : ev ρ ix = some (.int k i)) (hs : SlV w v vs) (j : Nat) (hj : i = (j : Int)) (hlt : j < vs.length)
    (h : WL P n ops rest K ((d, .pointer (some (slAt v j))) :: ρ) w) :
    WL P n ops (⟨some d, .indexAddr t x ix, ty, pos, after, g⟩ :: rest) K ρ w := by
  obtain ⟨inf, h1, h2, _⟩ := T.info
  exact O_index T.sl h1 h2 hg hd hx hix hs j hj hlt h
theorem No.ext_grown {B : Nat} {v : Value} {l : List Nat} {w0 w' : World} (ho : No B e w v l) (h : w.grownBy w' v.ownBlock) (he : Ext w0 w) (hB : w0.heap.size ≤ B) : Ext w0 w' :=
  grown_ext h he (fun k hk => Nat.le_trans hB (ho.own.row k hk))
/-- '[]uint32{..}' of digits. -/
theorem fill_range : ∀ (vs : List Value) (k : Nat) (cells : Array Value), (∀ u ∈ vs, u.cells = #[u]) → k + vs.length = cells.size →
    Instr.fill (fun i => some (i, 1)) cells ((List.range' k vs.length).zip vs) = some (cells.toList.take k ++ vs).toArray
  | [], k, cells, _, h => by
    have hk : k = cells.toList.length := by simpa using h
    have ht : cells.toList.take k = cells.toList := List.take_of_length_le (by omega)
    simp only [List.length_nil, List.range'_zero, List.zip_nil_left, Instr.fill, ht, List.append_nil]
  | v :: vs, k, cells, h1, h => by
    have hv : v.cells = #[v] := h1 v (by simp)
    have hlt : k < cells.size := by simp at h; omega
    have ih := fill_range vs (k + 1) (cells.setIfInBounds k v) (fun u hu => h1 u (List.mem_cons_of_mem _ hu)) (by simp at h ⊢; omega)
    have h9 : ¬ (k + 1 > cells.size) := by omega
    simp only [List.length_cons, List.range'_succ, List.zip_cons_cons, Instr.fill, hv]
    simp only [List.size_toArray, List.length_cons, List.length_nil, Nat.zero_add, ne_eq, not_true, decide_false, Bool.false_or, h9, Bool.false_eq_true, if_false]
    rw [show ((#[v] : Array Value).zipIdx.foldl (fun cs x => match x with | (c, j) => cs.setIfInBounds (k + j) c) cells) = cells.setIfInBounds k v from by simp]
    rw [ih]
    congr 2
    rw [Array.toList_setIfInBounds, List.take_set, List.take_succ_eq_append_getElem (by simpa using hlt)]
    rw [List.set_append_right _ _ (by simp; omega)]
    simp [Nat.min_eq_left (Nat.le_of_lt hlt)]
theorem N_lit {z : Value} {b : Nat} {len : Nat} {parts : List (Nat × Operand)} (T : ElT P t e z b) (hg : gd ops ρ g = some true) (hd : Nat.blt d n = true) (l : List Nat) (hl : D l) (hlen : l.length = len) (hsm : len ≤ 1000) (hp : evs ρ (parts.map (·.2)) = some (l.map dv)) (hi : parts.map (·.1) = List.range len)
    (h : ∀ v w', No w.heap.size e w' v l → Ext w w' → WL P n ops rest K ((d, v) :: ρ) w') :
    WL P n ops (⟨some d, .buildSlice t len parts.toArray, ty, pos, after, g⟩ :: rest) K ρ w := by
  subst hlen
  obtain ⟨inf, h1, h2, h3, h4⟩ := T.info
  have hcell : (l.map dv).toArray.size = l.length := by simp
  have hone : ∀ u ∈ l.map dv, u.cells = #[u] := fun u hu => by obtain ⟨q, _, rfl⟩ := List.mem_map.1 hu; rfl
  refine WL_val rfl hg hd (v := .slice (some ⟨w.heap.size, 0, none⟩) l.length l.length) (w' := w.alloc (.cells (l.map dv).toArray e)) (fun c hc => ?_)
    (h _ _ ⟨⟨by simp, .inr ⟨w.heap.size, l.length, _, by simp, Nat.le_refl _, heap_alloc_new w _, by simp, by simp only [maxLen]; omega, by simp, by rw [List.take_of_length_le (by simp)]⟩⟩, hl⟩ (Ext.alloc w _))
  have hz : (parts.toArray.map fun x => (x.1, c.eval x.2)).toList = (List.range' 0 (l.map dv).length).zip (l.map dv) := by
    have he := hc.evals hp
    have : (parts.toArray.map fun x => (x.1, c.eval x.2)).toList = (parts.map (·.1)).zip ((parts.map (·.2)).map c.eval) := by
      simp [List.zip_map', List.map_map, Function.comp_def]
    rw [this, he, hi, List.range_eq_range']; simp
  have hf := fun (cells : Array Value) (hs : cells.size = l.length) => fill_range (l.map dv) 0 cells hone (by simp [hs])
  have hrange : ∀ x : Array Value, ((Array.range (l.length * 1)).map fun i => x[i % x.size]!).size = l.length := by intro x; simp
  have hsm' : ¬ (l.length > 2 ^ 24) := by omega
  have hm : (parts.toArray.map fun x => match x with | (i, x) => (i, c.eval x)) = (parts.toArray.map fun x => (x.1, c.eval x.2)) := rfl
  by_cases h0 : l.length = 0
  · have hnil : l = [] := List.eq_nil_of_length_eq_zero h0
    subst hnil
    have hp0 : parts = [] := by cases parts with
      | nil => rfl
      | cons x r => simp at hi
    subst hp0
    simp [execOp, Instr.buildSlice, run_underlying T.sl, sizeOf, typeInfo, h1, h2, Instr.fill, newRow, Array.range_zero']
  · have hf1 := hf (((Array.range (l.length * 1)).map fun i => z.cells[i % z.cells.size]!)) (hrange z.cells)
    rw [← hz] at hf1
    simp at hf1
    simp only [execOp, hm, Instr.buildSlice, Sem.run_bind, run_underlying T.sl, Result.andThen_ok, sizeOf, typeInfo, run_program, h1, h2, Sem.run_pure, Nat.mul_one, hsm', h0, if_false, zeroValue, h3, newRow]
    simp [hf1, newRow]
/-- A slice literal without elements. -/
theorem N_lit0 {z : Value} {b : Nat} (T : ElT P t e z b) (hg : gd ops ρ g = some true) (hd : Nat.blt d n = true)
    (h : ∀ v w', No w.heap.size e w' v [] → Ext w w' → WL P n ops rest K ((d, v) :: ρ) w') :
    WL P n ops (⟨some d, .buildSlice t 0 #[], ty, pos, after, g⟩ :: rest) K ρ w := by
  obtain ⟨inf, h1, h2, h3, h4⟩ := T.info
  refine WL_val rfl hg hd (v := .slice (some ⟨w.heap.size, 0, none⟩) 0 0) (w' := w.alloc (.cells #[] e)) (fun c hc => ?_) (h _ _ ⟨⟨rfl, .inr ⟨w.heap.size, 0, #[], rfl, Nat.le_refl _, heap_alloc_new w _, by simp, by simp, by simp, by simp⟩⟩, D.nil⟩ (Ext.alloc w _))
  simp [execOp, Instr.buildSlice, run_underlying T.sl, sizeOf, typeInfo, h1, h2, Instr.fill, newRow, Array.range_zero']
/-- '[]T{x}', '[]T{x, y}' of values of one cell. -/
theorem V_lit1 {z : Value} {b : Nat} {x : Operand} {u : Value} (T : ElT P t e z b) (hg : gd ops ρ g = some true) (hd : Nat.blt d n = true) (hx : ev ρ x = some u) (hu : u.cells = #[u])
    (h : ∀ v w', Own w.heap.size e w' v [u] → Ext w w' → WL P n ops rest K ((d, v) :: ρ) w') :
    WL P n ops (⟨some d, .buildSlice t 1 #[(0, x)], ty, pos, after, g⟩ :: rest) K ρ w := by
  obtain ⟨inf, h1, h2, h3, h4⟩ := T.info
  refine WL_val rfl hg hd (v := .slice (some ⟨w.heap.size, 0, none⟩) 1 1) (w' := w.alloc (.cells #[u] e)) (fun c hc => ?_)
    (h _ _ ⟨by simp, .inr ⟨w.heap.size, 1, #[u], rfl, Nat.le_refl _, heap_alloc_new w _, by simp, by simp [maxLen], by simp, by simp⟩⟩ (Ext.alloc w _))
  have hf := fill_range [u] 0 ((Array.range 1).map fun i => z.cells[i % z.cells.size]!) (by simpa using hu) (by simp)
  simp at hf
  simp [execOp, hc.eval hx, Instr.buildSlice, run_underlying T.sl, sizeOf, typeInfo, h1, h2, zeroValue, h3, newRow, hf]
theorem V_lit2 {z : Value} {b : Nat} {x y : Operand} {u u2 : Value} (T : ElT P t e z b) (hg : gd ops ρ g = some true) (hd : Nat.blt d n = true) (hx : ev ρ x = some u) (hy : ev ρ y = some u2) (hu : u.cells = #[u]) (hu2 : u2.cells = #[u2])
    (h : ∀ v w', Own w.heap.size e w' v [u, u2] → Ext w w' → WL P n ops rest K ((d, v) :: ρ) w') :
    WL P n ops (⟨some d, .buildSlice t 2 #[(0, x), (1, y)], ty, pos, after, g⟩ :: rest) K ρ w := by
  obtain ⟨inf, h1, h2, h3, h4⟩ := T.info
  refine WL_val rfl hg hd (v := .slice (some ⟨w.heap.size, 0, none⟩) 2 2) (w' := w.alloc (.cells #[u, u2] e)) (fun c hc => ?_)
    (h _ _ ⟨by simp, .inr ⟨w.heap.size, 2, #[u, u2], rfl, Nat.le_refl _, heap_alloc_new w _, by simp, by simp [maxLen], by simp, by simp⟩⟩ (Ext.alloc w _))
  have hf := fill_range [u, u2] 0 ((Array.range 2).map fun i => z.cells[i % z.cells.size]!) (by simp [hu, hu2]) (by simp)
  simp [List.range'_succ] at hf
  simp [execOp, hc.eval hx, hc.eval hy, Instr.buildSlice, run_underlying T.sl, sizeOf, typeInfo, h1, h2, zeroValue, h3, newRow, hf]
theorem V_append {x y : Operand} {B : Nat} {v v2 : Value} {vs vs2 : List Value} {z : Value} {bytes : Nat} (T : ElT P t e z bytes) (hzc : z.cells.size = 1) (hbm : bytes ≤ 64) (hg : gd ops ρ g = some true) (hd : Nat.blt d n = true) (hx : ev ρ x = some v) (hy : ev ρ y = some v2)
    (ho : Own B e w v vs) (h2 : SlV w v2 vs2) (h1 : ∀ u ∈ vs2, u.oneCell' = true) (hm : vs.length + vs2.length ≤ 1073741824) (hB : B ≤ w.heap.size)
    (h : ∀ v' w', Own B e w' v' (vs ++ vs2) → w.grownBy w' v.ownBlock → WL P n ops rest K ((d, v') :: ρ) w') :
    WL P n ops (⟨some d, .call { callee := .builtin .append, args := #[x, y], argTypes := #[t, t] }, ty, pos, after, g⟩ :: rest) K ρ w := by
  obtain ⟨inf, h1', h2', h3, h4⟩ := T.info
  exact O_append T.sl h1' h3 hzc h2' h4 hg hd hx hy ho h2 h1 hm hbm hB h
/-- Rows of other elements are not touched by an append. -/
theorem Own.grownOther {B B' : Nat} {e e' : TypeId} {u v : Value} {us vs : List Value} {w' : World} (hne : e ≠ e') (h : Own B e w u us) (hv : Own B' e' w v vs) (hg : w.grownBy w' v.ownBlock) : Own B e w' u us := by
  obtain ⟨h1, h2⟩ := h
  refine ⟨h1, ?_⟩
  rcases h2 with h2 | ⟨g, cap, cur, rfl, hb, hh, r⟩
  · exact .inl h2
  · refine .inr ⟨g, cap, cur, rfl, hb, ?_, r⟩
    have hlt : g < w.heap.size := by
      rcases Nat.lt_or_ge g w.heap.size with k | k
      · exact k
      · simp [Array.getElem?_eq_none k] at hh
    rw [hg.block g hlt ?_]; exact hh
    intro heq
    obtain ⟨_, h0 | ⟨g', cap', cur', rfl, _, hh', _⟩⟩ := hv
    · rw [h0.1] at heq; simp [Value.ownBlock] at heq
    · simp [Value.ownBlock] at heq
      subst heq
      rw [hh] at hh'
      simp at hh'
      exact hne hh'.2
theorem No.grownOther {B B' : Nat} {e e' : TypeId} {u v : Value} {l : List Nat} {vs : List Value} {w' : World} (hne : e ≠ e') (h : No B e w u l) (hv : Own B' e' w v vs) (hg : w.grownBy w' v.ownBlock) : No B e w' u l := ⟨h.own.grownOther hne hv hg, h.d⟩
end

/-! ### A slice against nil -/
def vnil : Value → Bool
  | .slice none _ _ => true
  | _ => false
theorem Nl.nilL {w : World} {v : Value} {l : List Nat} (h : Nl w v l) (hv : vnil v = true) : l = [] := by
  obtain ⟨a, cap, rfl, h2, _, h4, _⟩ := h.sl
  cases a with
  | none => have := h4 rfl; subst this; exact List.eq_nil_of_length_eq_zero (by simpa using h2)
  | some x => simp [vnil] at hv
section
variable {P : Program} {n : Nat} {K : Rho → World → Prop} {ρ : Rho} {w : World} {ops rest : List Oper}
variable {ty : TypeId} {pos : String} {after : Array Edge} {g : Option (Nat × Bool)} {d : Nat} {t e : TypeId}
theorem run_equalIn_slnil (dd : Nat) (t e : TypeId) (a : Option Addr) (l c : Nat) (h : P.underlying t = some (.slice e)) :
    (Op.equalIn (dd + 1) t (.slice a l c) (.slice none 0 0)).run P w = .ok a.isNone w := by
  cases a <;> simp [Op.equalIn, run_underlying h]
theorem run_equal_slnil (t e : TypeId) (a : Option Addr) (l c : Nat) (h : P.underlying t = some (.slice e)) :
    (Op.equal t (.slice a l c) (.slice none 0 0)).run P w = .ok a.isNone w := run_equalIn_slnil 9999 t e a l c h
theorem N_isNil {x : Operand} {yt : TypeId} {v : Value} {l : List Nat} {z : Value} {b : Nat} (T : ElT P t e z b) (hg : gd ops ρ g = some true) (hd : Nat.blt d n = true)
    (hx : ev ρ x = some v) (hs : Nl w v l) (h : WL P n ops rest K ((d, .bool (vnil v)) :: ρ) w) :
    WL P n ops (⟨some d, .binOp .eql t x (.const (.slice none 0 0)) yt, ty, pos, after, g⟩ :: rest) K ρ w := by
  obtain ⟨a, cap, rfl, _⟩ := hs.sl
  refine WL_val rfl hg hd (fun c hc => ?_) h
  have hr : (binOp .eql t (.slice a (l.map dv).length cap) (.slice none 0 0)).run P w = .ok (.bool a.isNone) w := by
    simp only [binOp, Sem.run_bind, run_equal_slnil t e a _ cap T.sl, Result.andThen_ok, Sem.run_pure]
  have hg' : (eqGuard .eql t x (.const (.slice none 0 0)) (.slice a (l.map dv).length cap) (.slice none 0 0)).run P w = .ok () w := by simp [eqGuard]
  have hv : vnil (.slice a (l.map dv).length cap) = a.isNone := by cases a <;> rfl
  have hk : c.eval (.const (.slice none 0 0)) = .slice none 0 0 := rfl
  simp only [execOp, hc.eval hx, hk, Sem.run_bind, hg', hr, Result.andThen_ok, Sem.run_pure, hv]
end

/-! ### int's and uint64's arithmetic -/
theorem wrap_i64_id {x : Int} (h0 : -9223372036854775808 ≤ x) (h1 : x ≤ 9223372036854775807) : IntKind.i64.wrap x = x := by rw [IntKind.wrap_i64]; omega
theorem wrap_u64 (x : Int) : IntKind.u64.wrap x = x % 18446744073709551616 := by simp [IntKind.wrap, IntKind.bits, IntKind.signed]
theorem wrap_u32 (x : Int) : IntKind.u32.wrap x = x % 4294967296 := by simp [IntKind.wrap, IntKind.bits, IntKind.signed]
theorem wrap_u8 (x : Int) : IntKind.u8.wrap x = x % 256 := by simp [IntKind.wrap, IntKind.bits, IntKind.signed]
theorem wrap_u64_id {x : Int} (h0 : 0 ≤ x) (h1 : x < 18446744073709551616) : IntKind.u64.wrap x = x := by rw [wrap_u64]; omega
theorem wrap_u32_id {x : Int} (h0 : 0 ≤ x) (h1 : x < 4294967296) : IntKind.u32.wrap x = x := by rw [wrap_u32]; omega
/-- What lengths are, for 'simp'. -/
theorem lens : (∀ n, val (dig n) = n) ∧ (∀ (i : Nat) (l : List Nat), (l.take i).length = min i l.length) ∧ (([] : List Nat).length = 0) ∧ (∀ (a : Nat) (l : List Nat), (a :: l).length = l.length + 1) ∧ (∀ (l m : List Nat), (l ++ m).length = l.length + m.length) ∧
    (∀ (n a : Nat), (List.replicate n a).length = n) ∧ (∀ (l : List Nat) (i a : Nat), (l.set i a).length = l.length) ∧ (∀ (i : Nat) (l : List Nat), (l.drop i).length = l.length - i) :=
  ⟨val_dig, fun _ _ => List.length_take, rfl, fun _ _ => rfl, fun _ _ => List.length_append, fun _ _ => List.length_replicate, fun _ _ _ => List.length_set, fun _ _ => List.length_drop⟩
end Go.Proofs.Ytoccimigjjndpaa

