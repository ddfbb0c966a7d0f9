/-
  A small program logic over the model's own 'Code.wp': frames are known in part (a list of slots and values), each operation is one lemma, side conditions on the frame close by 'rfl'. It says nothing of any program.
-/
import Derived.Tactics
import Derived.Deep.Quiet
import Derived.Below
import Derived.Laws.MakeOwn
import Derived.Laws.OwnMore
set_option linter.unusedVariables false
set_option linter.unusedSimpArgs false
namespace Go.Proofs.YtnfnadhbjdcbnaaDoor
open Go Go.RowKit

/-! ### Frames that are known in part -/
abbrev Rho := List (Nat × Value)

def look : Rho → Nat → Option Value
  | [], _ => none
  | (t, v) :: r, s => match Nat.beq t s with | true => some v | false => look r s

def ev (ρ : Rho) : Operand → Option Value
  | .tmp t => look ρ t
  | .const v => some v
  | .global g => some (.pointer (some ⟨g, 0, none⟩))
  | .func f => some (.func (.func f) #[] #[])

structure Fits (n : Nat) (a : Act) (ρ : Rho) : Prop where
  defers : a.defers = []
  size : a.tmps.size = n
  at_ : ∀ t v, look ρ t = some v → a.tmps[t]? = some v

theorem look_cons (t : Nat) (v : Value) (r : Rho) (s : Nat) : look ((t, v) :: r) s = if t = s then some v else look r s := by
  show (match Nat.beq t s with | true => some v | false => look r s) = _
  by_cases h : t = s
  · subst h
    rw [show Nat.beq t t = true from Nat.beq_refl t]
    simp
  · have : Nat.beq t s = false := by
      cases hb : Nat.beq t s with
      | false => rfl
      | true => exact absurd (Nat.eq_of_beq_eq_true hb) h
    rw [this]; simp [h]

theorem Fits.eval {n : Nat} {a : Act} {ρ : Rho} (h : Fits n a ρ) {x : Operand} {v : Value} (hx : ev ρ x = some v) : a.eval x = v := by
  cases x with
  | tmp t => have := h.at_ t v hx; simp [Act.eval, this]
  | const c => simpa [ev, Act.eval] using hx
  | global g => simpa [ev, Act.eval] using hx
  | func f => simpa [ev, Act.eval] using hx

theorem Fits.put {n : Nat} {a : Act} {ρ : Rho} (h : Fits n a ρ) {d : Nat} (hd : Nat.blt d n = true) (v : Value) : Fits n (a.put (some d) v) ((d, v) :: ρ) := by
  have hd' : d < n := by simpa [Nat.blt_eq] using hd
  refine ⟨h.defers, by simpa [Act.put] using h.size, fun t u ht => ?_⟩
  rw [look_cons] at ht
  simp only [Act.put, Array.getElem?_setIfInBounds]
  by_cases e : d = t
  · simp only [e, if_true] at ht ⊢
    rw [if_pos (by rw [h.size, ← e]; exact hd')]
    exact ht
  · simp only [e, if_false] at ht ⊢
    exact h.at_ t u ht

def AllIn : Rho → Rho → Prop
  | [], _ => True
  | (t, v) :: r, ρ => look ρ t = some v ∧ AllIn r ρ

theorem look_of_allIn {ρ' ρ : Rho} (h : AllIn ρ' ρ) : ∀ t v, look ρ' t = some v → look ρ t = some v := by
  induction ρ' with
  | nil => intro t v e; simp [look] at e
  | cons x r ih =>
    obtain ⟨s, u⟩ := x
    intro t v e
    rw [look_cons] at e
    by_cases c : s = t
    · simp only [c, if_true] at e; cases e; rw [← c]; exact h.1
    · simp only [c, if_false] at e; exact ih h.2 t v e

theorem Fits.sub {n : Nat} {a : Act} {ρ ρ' : Rho} (h : Fits n a ρ) (hs : AllIn ρ' ρ) : Fits n a ρ' :=
  ⟨h.defers, h.size, fun t v e => h.at_ t v (look_of_allIn hs t v e)⟩

/-! ### Code -/
/-- From every frame that fits: the code ends normally in a frame that fits some 'ρ'' with K, or leaves by an exit with E. -/
def WP (P : Program) (n : Nat) (c : Code) (K : Rho → World → Prop) (E : Exit → Rho → World → Prop) (ρ : Rho) (w : World) : Prop :=
  ∀ a, Fits n a ρ → c.wp P (fun e a' w' => ∃ ρ', Fits n a' ρ' ∧ match e with | .normal => K ρ' w' | e => E e ρ' w') a w

section
variable {P : Program} {n : Nat} {K : Rho → World → Prop} {E : Exit → Rho → World → Prop} {ρ : Rho} {w : World}

theorem WP_sub {c : Code} (ρ' : Rho) (hs : AllIn ρ' ρ) (h : WP P n c K E ρ' w) : WP P n c K E ρ w := fun a ha => h a (ha.sub hs)

theorem WP_skip (h : K ρ w) : WP P n .skip K E ρ w := fun a ha => wp_skip ⟨ρ, ha, h⟩
theorem WP_exit {id : Nat} (h : E (.exit id) ρ w) : WP P n (.exit id) K E ρ w := fun a ha => wp_exit ⟨ρ, ha, h⟩
theorem WP_ret (h : E .ret ρ w) : WP P n .ret K E ρ w := fun a ha => wp_ret ⟨ρ, ha, h⟩

theorem WP_seq {x y : Code} (h : WP P n x (fun ρ' w' => WP P n y K E ρ' w') E ρ w) : WP P n (.seq x y) K E ρ w := fun a ha =>
  wp_seq (wp_mono (h a ha) fun e a' w' ⟨ρ', hf, hq⟩ => by
    cases e with
    | normal => exact hq a' hf
    | _ => exact ⟨ρ', hf, hq⟩)

theorem WP_cond {c : Operand} {x y : Code} {b : Bool} (hc : ev ρ c = some (.bool b)) (ht : b = true → WP P n x K E ρ w) (hf : b = false → WP P n y K E ρ w) :
    WP P n (.cond c x y) K E ρ w := fun a ha => wp_cond_split (ha.eval hc) (fun e => ht e a ha) (fun e => hf e a ha)
theorem WP_condT {c : Operand} {x y : Code} (hc : ev ρ c = some (.bool true)) (h : WP P n x K E ρ w) : WP P n (.cond c x y) K E ρ w := fun a ha => wp_cond_true (ha.eval hc) (h a ha)
theorem WP_condF {c : Operand} {x y : Code} (hc : ev ρ c = some (.bool false)) (h : WP P n y K E ρ w) : WP P n (.cond c x y) K E ρ w := fun a ha => wp_cond_false (ha.eval hc) (h a ha)
/-- A test that is decided by a proposition. -/
theorem WP_condD {c : Operand} {x y : Code} {p : Prop} [Decidable p] (hc : ev ρ c = some (.bool (decide p))) (ht : p → WP P n x K E ρ w) (hf : ¬ p → WP P n y K E ρ w) :
    WP P n (.cond c x y) K E ρ w := WP_cond hc (fun e => ht (of_decide_eq_true e)) (fun e => hf (of_decide_eq_false e))

theorem WP_condN {c : Operand} {x y : Code} {p : Prop} [Decidable (¬ p)] (hc : ev ρ c = some (.bool (decide (¬ p)))) (ht : ¬ p → WP P n x K E ρ w) (hf : p → WP P n y K E ρ w) :
    WP P n (.cond c x y) K E ρ w := WP_cond hc (fun e => ht (of_decide_eq_true e)) (fun e => hf (Classical.not_not.1 (of_decide_eq_false e)))

def inBlk (id : Nat) (K : Rho → World → Prop) (E : Exit → Rho → World → Prop) : Exit → Rho → World → Prop
  | .exit id', ρ, w => if id' = id then K ρ w else E (.exit id') ρ w
  | e, ρ, w => E e ρ w
theorem inBlk_hit {id : Nat} (h : K ρ w) : inBlk id K E (.exit id) ρ w := by simpa [inBlk] using h
theorem inBlk_miss {id id' : Nat} (hne : Nat.beq id' id = false) (h : E (.exit id') ρ w) : inBlk id K E (.exit id') ρ w := by
  have : ¬ id' = id := fun e => by subst e; simp at hne
  simpa [inBlk, this] using h
theorem inBlk_ret {id : Nat} (h : E .ret ρ w) : inBlk id K E .ret ρ w := h

theorem WP_block {id : Nat} {c : Code} (h : WP P n c K (inBlk id K E) ρ w) : WP P n (.block id c) K E ρ w := fun a ha =>
  wp_block (wp_mono (h a ha) fun e a' w' ⟨ρ', hf, hq⟩ => by
    cases e with
    | exit id' =>
      simp only [inBlk, Exit.inBlock] at hq ⊢
      split
      · rename_i e; subst e; simp only [if_true] at hq; exact ⟨ρ', hf, hq⟩
      · rename_i e; simp only [e, if_false] at hq; exact ⟨ρ', hf, hq⟩
    | _ => exact ⟨ρ', hf, hq⟩)

/-- A loop whose states are told by 'S': the frame at the head, what holds there, a measure. -/
theorem WP_loop {c : Code} {S : Type} (I : S → Rho) (J : S → World → Prop) (μ : S → Nat) (s₀ : S) (hs : AllIn (I s₀) ρ) (h₀ : J s₀ w)
    (round : ∀ s w, J s w → WP P n c (fun ρ' w' => ∃ s', AllIn (I s') ρ' ∧ J s' w' ∧ μ s' < μ s) E (I s) w) : WP P n (.loop c) K E ρ w := by
  intro a ha b k cs
  have key : ∀ m s a w, μ s = m → Fits n a (I s) → J s w →
      ∃ e a' w', (∃ ρ', Fits n a' ρ' ∧ match e with | .normal => K ρ' w' | e => E e ρ' w') ∧ Arrives P (lone (b.at a (.code c :: .inLoop c :: k)) cs w) b k cs e a' w' := by
    intro m
    induction m using Nat.strongRecOn with
    | _ m ih =>
      intro s a w hm hfit hJ
      obtain ⟨e, a₁, w₁, ⟨ρ₁, hf₁, hq⟩, harr⟩ := round s w hJ a hfit b (.inLoop c :: k) cs
      cases e with
      | normal =>
        obtain ⟨s', hin, hJ', hlt⟩ := hq
        obtain ⟨e₂, a₂, w₂, hq₂, harr₂⟩ := ih (μ s') (hm ▸ hlt) s' a₁ w₁ rfl (hf₁.sub hin) hJ'
        exact ⟨e₂, a₂, w₂, hq₂, .of_steps (Steps.trans harr (.one step_inLoop)) harr₂⟩
      | exit id => exact ⟨_, a₁, w₁, ⟨ρ₁, hf₁, hq⟩, .pass (x := .inLoop c) rfl (fun _ _ => .inl (by simp)) harr⟩
      | goto l => exact ⟨_, a₁, w₁, ⟨ρ₁, hf₁, hq⟩, .pass (x := .inLoop c) rfl (fun _ _ => .inl (by simp)) harr⟩
      | ret => exact ⟨_, a₁, w₁, ⟨ρ₁, hf₁, hq⟩, .pass (x := .inLoop c) rfl (fun _ _ => .inl (by simp)) harr⟩
      | panic ch => exact ⟨_, a₁, w₁, ⟨ρ₁, hf₁, hq⟩, .pass (x := .inLoop c) rfl (fun _ _ => .inl (by simp)) harr⟩
      | outgrown => exact ⟨_, a₁, w₁, ⟨ρ₁, hf₁, hq⟩, .pass (x := .inLoop c) rfl (fun _ _ => .inl (by simp)) harr⟩
  obtain ⟨e, a', w', hq, harr⟩ := key _ s₀ a w rfl (ha.sub hs) h₀
  exact ⟨e, a', w', hq, .of_steps (.one step_loop) harr⟩

/-- Two ways that meet again: what lies behind is proved once. -/
theorem WP_join {x y : Code} {S : Type} (I : S → Rho) (J : S → World → Prop) (hx : WP P n x (fun ρ' w' => ∃ s, AllIn (I s) ρ' ∧ J s w') E ρ w)
    (hy : ∀ s w, J s w → WP P n y K E (I s) w) : WP P n (.seq x y) K E ρ w := fun a ha =>
  wp_seq (wp_mono (hx a ha) fun e a' w' ⟨ρ', hf, hq⟩ => by
    cases e with
    | normal => obtain ⟨s, hin, hJ⟩ := hq; exact hy s w' hJ a' (hf.sub hin)
    | _ => exact ⟨ρ', hf, hq⟩)
theorem WP_joinK {x : Code} {S : Type} (I : S → Rho) (J : S → World → Prop) (hx : WP P n x (fun ρ' w' => ∃ s, AllIn (I s) ρ' ∧ J s w') E ρ w)
    (hy : ∀ s w, J s w → K (I s) w) : WP P n x K E ρ w := fun a ha =>
  wp_mono (hx a ha) fun e a' w' ⟨ρ', hf, hq⟩ => by
    cases e with
    | normal => obtain ⟨s, hin, hJ⟩ := hq; exact ⟨I s, hf.sub hin, hy s w' hJ⟩
    | _ => exact ⟨ρ', hf, hq⟩
theorem WP_mono {c : Code} {K' : Rho → World → Prop} (hk : ∀ ρ w, K ρ w → K' ρ w) (h : WP P n c K E ρ w) : WP P n c K' E ρ w := fun a ha =>
  wp_mono (h a ha) fun e a' w' ⟨ρ', hf, hq⟩ => by
    cases e with
    | normal => exact ⟨ρ', hf, hk _ _ hq⟩
    | _ => exact ⟨ρ', hf, hq⟩

/-! ### A function's body -/
def bodyE (P : Program) (fn : Func) (n : Nat) (R : Ending → World → Prop) (ρ : Rho) (w : World) : Prop :=
  ∀ a, Fits n a ρ → ∃ v, (results fn a.tmps).run P w = .ok v w ∧ R (.returned v) w
def fnE (P : Program) (fn : Func) (n : Nat) (R : Ending → World → Prop) : Exit → Rho → World → Prop
  | .ret, ρ, w => bodyE P fn n R ρ w
  | _, _, _ => False

def argRho : Nat → List Value → Rho
  | _, [] => []
  | i, v :: r => (i, v) :: argRho (i + 1) r

theorem look_argRho (args : List Value) : ∀ i t v, look (argRho i args) t = some v → i ≤ t ∧ args[t - i]? = some v := by
  induction args with
  | nil => intro i t v h; simp [argRho, look] at h
  | cons x r ih =>
    intro i t v h
    rw [argRho, look_cons] at h
    by_cases e : i = t
    · subst e; simp at h; simp [h]
    · simp only [e, if_false] at h
      obtain ⟨h1, h2⟩ := ih (i + 1) t v h
      refine ⟨by omega, ?_⟩
      have : t - i = (t - (i + 1)) + 1 := by omega
      rw [this]; simpa using h2

theorem enter {f : FuncId} {fn : Func} {c : Code} {args : List Value} {R : Ending → World → Prop} (hf : P.funcs[f]? = some fn) (hb : fn.body = some c) (hn : fn.ntmps = n)
    (hl : Nat.ble args.length n = true) (h : WP P n c (bodyE P fn n R) (fnE P fn n R) (argRho 0 args) w) : Calls P f args.toArray w R := by
  have hl' : args.length ≤ n := by simpa using hl
  refine calls_of_wp hf hb (wp_mono (h _ ⟨rfl, ?_, ?_⟩) ?_)
  · simp [hn]; omega
  · intro t v ht
    obtain ⟨_, h2⟩ := look_argRho args 0 t v ht
    simp only [Nat.sub_zero] at h2
    have hlt : t < args.length := by
      rcases Nat.lt_or_ge t args.length with h | h
      · exact h
      · simp [List.getElem?_eq_none h] at h2
    rw [Array.getElem?_append_left (by simpa using hlt)]
    simpa using h2
  · intro e a' w' ⟨ρ', hfit, hq⟩
    cases e with
    | normal => exact ⟨hfit.defers, hq a' hfit⟩
    | ret => exact ⟨hfit.defers, hq a' hfit⟩
    | _ => exact hq.elim

theorem ret1 {fn : Func} {R : Ending → World → Prop} {t : Tmp} {v : Value} (hr : fn.results = #[.tmp t]) (hv : look ρ t = some v) (h : R (.returned v) w) : bodyE P fn n R ρ w := by
  intro a ha
  refine ⟨v, ?_, h⟩
  have := ha.at_ t v hv
  simp [results, hr, this]
theorem ret2 {fn : Func} {R : Ending → World → Prop} {t u : Tmp} {v x : Value} (hr : fn.results = #[.tmp t, .tmp u]) (hv : look ρ t = some v) (hx : look ρ u = some x)
    (h : R (.returned (.tuple #[v, x])) w) : bodyE P fn n R ρ w := by
  intro a ha
  refine ⟨_, ?_, h⟩
  have h1 := ha.at_ t v hv
  have h2 := ha.at_ u x hx
  simp [results, hr, h1, h2]
theorem ret3 {fn : Func} {R : Ending → World → Prop} {t u s : Tmp} {v x y : Value} (hr : fn.results = #[.tmp t, .tmp u, .tmp s]) (hv : look ρ t = some v) (hx : look ρ u = some x) (hy : look ρ s = some y)
    (h : R (.returned (.tuple #[v, x, y])) w) : bodyE P fn n R ρ w := by
  intro a ha
  refine ⟨_, ?_, h⟩
  have h1 := ha.at_ t v hv
  have h2 := ha.at_ u x hx
  have h3 := ha.at_ s y hy
  simp [results, hr, h1, h2, h3]
theorem ret0 {fn : Func} {R : Ending → World → Prop} (hr : fn.results = #[]) (h : R (.returned (.tuple #[])) w) : bodyE P fn n R ρ w := by
  intro a ha
  exact ⟨_, by simp [results, hr], h⟩
end

/-! ### Operations in their order -/
/-- The guard: 'some true': the operation comes up; 'some false': it is passed over. -/
def gd (ops : List Oper) (ρ : Rho) : Option (Nat × Bool) → Option Bool
  | none => some true
  | some (j, want) => match (ops[j]?).bind (·.dst) with
    | some t => match look ρ t with
      | some (.bool b) => some (b == want)
      | _ => none
    | none => none

theorem gd_wanted {ops : List Oper} {ρ : Rho} {o : Oper} {n : Nat} {a : Act} {b : Bool} (h : gd ops ρ o.guard = some b) (ha : Fits n a ρ) : Region.wanted o (yielded ops.toArray a.tmps) = b := by
  unfold Region.wanted
  cases hg : o.guard with
  | none => rw [hg] at h; simpa [gd] using h
  | some g =>
    obtain ⟨j, want⟩ := g
    rw [hg] at h
    simp only [gd] at h
    cases ht : (ops[j]?).bind (·.dst) with
    | none => simp [ht] at h
    | some t =>
      simp only [ht] at h
      cases hl : look ρ t with
      | none => simp [hl] at h
      | some v =>
        have hv := ha.at_ t v hl
        cases v <;> simp [hl] at h
        simp [yielded, ht, hv, h]

def WL (P : Program) (n : Nat) (ops : List Oper) (l : List Oper) (K : Rho → World → Prop) (ρ : Rho) (w : World) : Prop :=
  ∀ a, Fits n a ρ → ∀ Q : Exit → Act → World → Prop, (∀ a' w' ρ', Fits n a' ρ' → K ρ' w' → Q .normal a' w') → wpList P ops.toArray Q l a w

section
variable {P : Program} {n : Nat} {K : Rho → World → Prop} {E : Exit → Rho → World → Prop} {ρ : Rho} {w : World} {ops rest : List Oper}

theorem WP_region {id : Nat} {l : List Oper} (h : WL P n l l K ρ w) : WP P n (.region id l.toArray false) K E ρ w := fun a ha =>
  wp_region_lit (h a ha _ fun a' w' ρ' hf hk => ⟨ρ', hf, hk⟩)

theorem WL_nil (h : K ρ w) : WL P n ops [] K ρ w := fun a ha Q hQ => hQ a w ρ ha h
/-- The end of a region: of what is known, this is carried on. -/
theorem WL_end (ρ' : Rho) (hs : AllIn ρ' ρ) (h : K ρ' w) : WL P n ops [] K ρ w := fun a ha Q hQ => hQ a w ρ' (ha.sub hs) h
theorem WL_sub {l : List Oper} (ρ' : Rho) (hs : AllIn ρ' ρ) (h : WL P n ops l K ρ' w) : WL P n ops l K ρ w := fun a ha => h a (ha.sub hs)

/-- An operation that yields a value. -/
theorem WL_val {o : Oper} {d : Nat} (hd : o.dst = some d) (hg : gd ops ρ o.guard = some true) (hdn : Nat.blt d n = true) {v : Value} {w' : World}
    (hr : ∀ a, Fits n a ρ → (execOp a.eval o).run P w = .ok (.value v) w') (h : WL P n ops rest K ((d, v) :: ρ) w') : WL P n ops (o :: rest) K ρ w := by
  intro a ha Q hQ
  unfold wpList
  rw [if_pos (gd_wanted hg ha)]
  refine .inl ?_
  unfold Oper.wp
  rw [hr a ha]
  show wpList P ops.toArray Q rest (a.put o.dst v) w'
  rw [hd]
  exact h _ (ha.put hdn v) Q hQ

/-- An operation that is passed over. -/
theorem WL_skip {o : Oper} {d : Nat} (hd : o.dst = some d) (hg : gd ops ρ o.guard = some false) (hdn : Nat.blt d n = true) (h : WL P n ops rest K ((d, undef) :: ρ) w) : WL P n ops (o :: rest) K ρ w := by
  intro a ha Q hQ
  unfold wpList
  rw [if_neg (by rw [gd_wanted hg ha]; simp)]
  rw [hd]
  exact h _ (ha.put hdn undef) Q hQ

/-- A store (no slot is written). -/
theorem WL_eff {o : Oper} (hd : o.dst = none) (hg : gd ops ρ o.guard = some true) {w' : World}
    (hr : ∀ a, Fits n a ρ → (execOp a.eval o).run P w = .ok .skip w') (h : WL P n ops rest K ρ w') : WL P n ops (o :: rest) K ρ w := by
  intro a ha Q hQ
  unfold wpList
  rw [if_pos (gd_wanted hg ha)]
  refine .inl ?_
  unfold Oper.wp
  rw [hr a ha]
  show wpList P ops.toArray Q rest (a.put o.dst undef) w'
  rw [hd]
  exact h a ha Q hQ

/-- A bool in a slot is parted on. -/
theorem WL_bool {l : List Oper} (t : Nat) {b : Bool} (hb : look ρ t = some (.bool b)) (h1 : b = true → WL P n ops l K ((t, .bool true) :: ρ) w) (h0 : b = false → WL P n ops l K ((t, .bool false) :: ρ) w) : WL P n ops l K ρ w := by
  intro a ha
  have key : ∀ c : Bool, b = c → Fits n a ((t, .bool c) :: ρ) := by
    intro c e; subst e
    refine ⟨ha.defers, ha.size, fun s v hs => ?_⟩
    rw [look_cons] at hs
    by_cases ht : t = s
    · subst ht; simp at hs; rw [← hs]; exact ha.at_ _ _ hb
    · simp only [ht, if_false] at hs; exact ha.at_ _ _ hs
  cases b with
  | true => exact h1 rfl a (key true rfl)
  | false => exact h0 rfl a (key false rfl)
theorem WL_dec {l : List Oper} (t : Nat) {p : Prop} [Decidable p] (hb : look ρ t = some (.bool (decide p))) (h1 : p → WL P n ops l K ((t, .bool true) :: ρ) w) (h0 : ¬ p → WL P n ops l K ((t, .bool false) :: ρ) w) : WL P n ops l K ρ w :=
  WL_bool t hb (fun e => h1 (of_decide_eq_true e)) (fun e => h0 (of_decide_eq_false e))
theorem WL_ndec {l : List Oper} (t : Nat) {p : Prop} [Decidable (¬ p)] (hb : look ρ t = some (.bool (decide (¬ p)))) (h1 : ¬ p → WL P n ops l K ((t, .bool true) :: ρ) w) (h0 : p → WL P n ops l K ((t, .bool false) :: ρ) w) : WL P n ops l K ρ w :=
  WL_bool t hb (fun e => h1 (of_decide_eq_true e)) (fun e => h0 (Classical.not_not.1 (of_decide_eq_false e)))
theorem WL_bool' (t : Nat) {l : List Oper} {b c : Bool} (hb : look ρ t = some (.bool b)) (e : b = c) (h : WL P n ops l K ((t, .bool c) :: ρ) w) : WL P n ops l K ρ w := by
  subst e
  cases b with
  | true => exact WL_bool t hb (fun _ => h) (fun e => by cases e)
  | false => exact WL_bool t hb (fun e => by cases e) (fun _ => h)
end
end Go.Proofs.YtnfnadhbjdcbnaaDoor
