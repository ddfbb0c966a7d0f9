/-
  Regions that draw their order: operations that only go on ('Ext') may come up in any order; each is shown once, from what its own operands are known to be; a tail that waits for all the rest is walked in order.
  Parts of slices, and calls that write into a row that is handed to them.
  Structs: blocks of cells, whole structs as values, fields, results that lie in cells. It says nothing of any program.
-/
import Derived.Test.YtoccimigjjndpaaNum
import Derived.StillTail
import Derived.Laws.CopyRow
set_option linter.unusedVariables false
set_option linter.unusedSimpArgs false
namespace Go.Proofs.Ytoccimigjjndpaa
open Go Go.RowKit

/-- What is known of a temporary: its value, or a relation of the sizes of the heap ahead of and behind its operation, the value and the world. -/
inductive Kn where
  | val (x : Value)
  | rel (R : Nat → Nat → Value → World → Prop)
  | same (s : Nat)
def Kn.holds : Kn → Nat → Nat → Value → World → Prop
  | .val x, _, _, v, _ => v = x
  | .rel R, a, b, v, w => R a b v w
  | .same _, _, _, _, _ => True
/-- Its value is that of temporary s. -/
def Kn.linked : Kn → Rho → Value → Prop
  | .same s, ρ, v => look ρ s = some v
  | _, _, _ => True
def Apart (a b : Nat) : List (Nat × Nat) → Prop
  | [] => True
  | (c, d) :: r => (d ≤ a ∨ b ≤ c) ∧ Apart a b r
def mem (t : Nat) : List Nat → Bool
  | [] => false
  | s :: r => match Nat.beq t s with | true => true | false => mem t r
def keys : List (Nat × Kn) → List Nat
  | [] => []
  | (t, _) :: r => t :: keys r
def Kn.Fine : Kn → List Nat → List (Nat × Kn) → Prop
  | .same s, reads, done => mem s reads = true ∧ mem s (keys done) = true
  | _, _, _ => True
def AllV (B : Nat) (w : World) (C : Rho → Prop) : List (Nat × Kn) → List (Nat × Nat) → Rho → Prop
  | [], _, ρ => C ρ
  | (t, .val x) :: r, acc, ρ => AllV B w C r acc ((t, x) :: ρ)
  | (t, .rel R) :: r, acc, ρ => ∀ a b v, B ≤ a → a ≤ b → b ≤ w.heap.size → R a b v w → Apart a b acc → AllV B w C r ((a, b) :: acc) ((t, v) :: ρ)
  | (t, .same s) :: r, acc, ρ => match look ρ s with
    | some v => AllV B w C r acc ((t, v) :: ρ)
    | none => ∀ v, AllV B w C r acc ((t, v) :: ρ)
def tmpsOf : List Operand → List Nat
  | [] => []
  | .tmp t :: r => t :: tmpsOf r
  | _ :: r => tmpsOf r
/-- The temporaries that an operation looks at. -/
def readsOf (l : List Oper) (o : Oper) : List Nat :=
  (match o.guard with
   | some (g, _) => match (l[g]?).bind (·.dst) with
     | some t => [t]
     | none => []
   | none => []) ++ tmpsOf o.op.operands.toList
def rel (reads : List Nat) : List (Nat × Kn) → List (Nat × Kn)
  | [] => []
  | (t, R) :: r => match mem t reads with | true => (t, R) :: rel reads r | false => rel reads r

def Kn.Mono (R : Kn) : Prop := ∀ a b v w w', Ext w w' → R.holds a b v w → R.holds a b v w'
theorem Kn.Mono.val (x : Value) : (Kn.val x).Mono := fun _ _ _ _ _ _ h => h

section
variable {P : Program} {n : Nat} {w : World} {ρ : Rho} {l : List Oper}
/-- What is asked of one operation. -/
def OpOk (P : Program) (n : Nat) (l : List Oper) (w : World) (ρ : Rho) (o : Oper) (d : Nat) (done : List (Nat × Kn)) (R : Kn) : Prop :=
  ∀ w', Ext w w' → AllV w.heap.size w' (fun ρ' => WL P n l [o] (fun ρ'' w'' => Ext w' w'' ∧ ∃ v, look ρ'' d = some v ∧ R.holds w'.heap.size w''.heap.size v w'' ∧ R.linked ρ'' v) ρ' w') (rel (readsOf l o) done) [] ρ
def Any (P : Program) (n : Nat) (l : List Oper) (w : World) (ρ : Rho) (tail : List (Nat × Kn) → Prop) : List Oper → List (Nat × Kn) → Prop
  | [], done => tail done
  | o :: r, done => ∃ d R, o.dst = some d ∧ R.Mono ∧ R.Fine (readsOf l o) done ∧ OpOk P n l w ρ o d done R ∧ Any P n l w ρ tail r (done ++ [(d, R)])

theorem AllV.mono {B : Nat} {w' : World} {C C' : Rho → Prop} (h : ∀ ρ', C ρ' → C' ρ') : ∀ {ps : List (Nat × Kn)} {acc : List (Nat × Nat)} {ρ : Rho}, AllV B w' C ps acc ρ → AllV B w' C' ps acc ρ := by
  intro ps
  induction ps with
  | nil => exact fun h1 => h _ h1
  | cons p ps ih =>
    obtain ⟨t, R⟩ := p
    cases R with
    | val x => exact fun h1 => ih h1
    | rel R => exact fun h1 a b v k1 k2 k3 k4 k5 => ih (h1 a b v k1 k2 k3 k4 k5)
    | same s =>
      intro acc ρ h1
      unfold AllV at h1 ⊢
      cases hl : look ρ s with
      | some v => simp only [hl] at h1 ⊢; exact ih h1
      | none => simp only [hl] at h1 ⊢; exact fun v => ih (h1 v)
theorem WL_mono {ops : List Oper} {K K' : Rho → World → Prop} {ρ : Rho} {w' : World} (h : WL P n l ops K ρ w') (hk : ∀ ρ' w'', K ρ' w'' → K' ρ' w'') : WL P n l ops K' ρ w' :=
  fun a ha Q hQ => h a ha Q fun a' w'' ρ' hf h1 => hQ a' w'' ρ' hf (hk _ _ h1)
/-- An operation that yields one value in every world that goes on. -/
theorem Any_val {tail : List (Nat × Kn) → Prop} {o : Oper} {r : List Oper} {done : List (Nat × Kn)} {d : Nat} {x : Value} (hd : o.dst = some d)
    (h : ∀ w', Ext w w' → AllV w.heap.size w' (fun ρ' => WL P n l [o] (fun ρ'' w'' => Ext w' w'' ∧ look ρ'' d = some x) ρ' w') (rel (readsOf l o) done) [] ρ)
    (hr : Any P n l w ρ tail r (done ++ [(d, .val x)])) : Any P n l w ρ tail (o :: r) done := by
  exact ⟨d, .val x, hd, Kn.Mono.val x, trivial, fun w' he => AllV.mono (fun ρ' h1 => WL_mono h1 fun ρ'' w'' ⟨h2, h3⟩ => ⟨h2, x, h3, rfl, trivial⟩) (h w' he), hr⟩
/-- An operation whose value has R. -/
theorem Any_rel {tail : List (Nat × Kn) → Prop} {o : Oper} {r : List Oper} {done : List (Nat × Kn)} {d : Nat} (R : Nat → Nat → Value → World → Prop) (hd : o.dst = some d)
    (hm : (Kn.rel R).Mono) (h : ∀ w', Ext w w' → AllV w.heap.size w' (fun ρ' => WL P n l [o] (fun ρ'' w'' => Ext w' w'' ∧ ∃ v, look ρ'' d = some v ∧ R w'.heap.size w''.heap.size v w'') ρ' w') (rel (readsOf l o) done) [] ρ)
    (hr : Any P n l w ρ tail r (done ++ [(d, .rel R)])) : Any P n l w ρ tail (o :: r) done :=
  ⟨d, .rel R, hd, hm, trivial, fun w' he => AllV.mono (fun ρ' h1 => WL_mono h1 fun ρ'' w'' ⟨h2, v, h3, h4⟩ => ⟨h2, v, h3, h4, trivial⟩) (h w' he), hr⟩
/-- An operation that hands on the value of another one. -/
theorem Any_same {tail : List (Nat × Kn) → Prop} {o : Oper} {r : List Oper} {done : List (Nat × Kn)} {d : Nat} (s : Nat) (hd : o.dst = some d) (hs : mem s (readsOf l o) = true) (hk : mem s (keys done) = true)
    (h : ∀ w', Ext w w' → AllV w.heap.size w' (fun ρ' => WL P n l [o] (fun ρ'' w'' => Ext w' w'' ∧ ∃ v, look ρ'' d = some v ∧ look ρ'' s = some v) ρ' w') (rel (readsOf l o) done) [] ρ)
    (hr : Any P n l w ρ tail r (done ++ [(d, .same s)])) : Any P n l w ρ tail (o :: r) done :=
  ⟨d, .same s, hd, fun _ _ _ _ _ _ h => h, ⟨hs, hk⟩, fun w' he => AllV.mono (fun ρ' h1 => WL_mono h1 fun ρ'' w'' ⟨h2, v, h3, h4⟩ => ⟨h2, v, h3, trivial, h4⟩) (h w' he), hr⟩
theorem Any_nil {tail : List (Nat × Kn) → Prop} {done : List (Nat × Kn)} (h : tail done) : Any P n l w ρ tail [] done := h

theorem any_lists {tail : List (Nat × Kn) → Prop} : ∀ (r : List Oper) (done : List (Nat × Kn)), Any P n l w ρ tail r done →
    ∃ ps : List (Nat × Kn), ps.length = r.length ∧ tail (done ++ ps) ∧ ∀ i o p, r[i]? = some o → ps[i]? = some p → o.dst = some p.1 ∧ p.2.Mono ∧ p.2.Fine (readsOf l o) (done ++ ps.take i) ∧ OpOk P n l w ρ o p.1 (done ++ ps.take i) p.2
  | [], done, h => ⟨[], rfl, by rw [List.append_nil]; exact h, fun i o p h1 => by simp at h1⟩
  | o :: r, done, h => by
    obtain ⟨d, R, hd, hm, hfi, hok, hr⟩ := h
    obtain ⟨ps, hl, ht, hall⟩ := any_lists r _ hr
    refine ⟨(d, R) :: ps, by simp [hl], by simpa using ht, fun i o' p h1 h2 => ?_⟩
    cases i with
    | zero =>
      simp at h1 h2; subst h1; subst h2
      exact ⟨hd, hm, by simpa using hfi, by simpa using hok⟩
    | succ i =>
      simp at h1 h2
      have := hall i o' p h1 h2
      simpa using this

/-- Operation i waits for j, by some edges. -/
def reachB (l : List Oper) : Nat → Nat → Nat → Bool
  | 0, _, _ => false
  | f + 1, i, j => match l[i]? with
    | none => false
    | some o => (o.after.toList.any fun e => Region.binds .any e && e.on == j) || (o.after.toList.any fun e => Region.binds .any e && reachB l f e.on j)
/-- What the region's own edges must say. -/
def anyB (l : List Oper) (m : Nat) (used : List Nat) : Bool :=
  Region.noSelect l.toArray && decide (m ≤ l.length) &&
  ((List.range l.length).all fun i => match l[i]? with
    | none => true
    | some o => (o.after.toList.all fun e => !Region.binds .any e || decide (e.on < i)) &&
      (if i < m then
        (match o.dst with
         | none => false
         | some d => !mem d used && ((List.range i).all fun j => match (l[j]?).bind (·.dst) with
            | some d' => (!Nat.beq d d') && (!mem d' (readsOf l o) || o.after.toList.any fun e => Region.binds .any e && e.on == j)
            | none => true))
       else (List.range i).all fun j => decide (m ≤ j) || reachB l 8 i j)) &&
  Region.seqB .any l.toArray (l.length - m) m (((List.range l.length).map fun i => decide (i < m)).toArray)

def slots : Rho → List Nat
  | [] => []
  | (t, _) :: r => t :: slots r
theorem mem_slots {ρ : Rho} {t : Nat} {v : Value} (h : look ρ t = some v) : mem t (slots ρ) = true := by
  induction ρ with
  | nil => simp [look] at h
  | cons x r ih =>
    obtain ⟨s, u⟩ := x
    rw [look_cons] at h
    show (match Nat.beq t s with | true => true | false => mem t (slots r)) = true
    by_cases e : s = t
    · subst e
      rw [show Nat.beq s s = true from Nat.beq_refl s]
    · simp only [e, if_false] at h
      cases hb : Nat.beq t s with
      | true => rfl
      | false => exact ih h

abbrev Ap (x y : Nat × Nat) : Prop := x.2 ≤ y.1 ∨ y.2 ≤ x.1
theorem apart_mk {a b : Nat} : ∀ {acc : List (Nat × Nat)}, (∀ c ∈ acc, Ap c (a, b)) → Apart a b acc := by
  intro acc
  induction acc with
  | nil => exact fun _ => trivial
  | cons x r ih => exact fun h => ⟨h x (by simp), ih fun c hc => h c (List.mem_cons_of_mem _ hc)⟩
theorem allV_at {B : Nat} {w' : World} {C : Rho → Prop} {a : Act} (rng : Nat → Nat × Nat) {ps : List (Nat × Kn)} : ∀ {acc : List (Nat × Nat)} {ρ : Rho}, AllV B w' C ps acc ρ →
    (∀ p ∈ ps, ∃ v, a.tmps[p.1]? = some v ∧ B ≤ (rng p.1).1 ∧ (rng p.1).1 ≤ (rng p.1).2 ∧ (rng p.1).2 ≤ w'.heap.size ∧ p.2.holds (rng p.1).1 (rng p.1).2 v w' ∧ ∀ s, p.2 = .same s → a.tmps[s]? = some v) →
    ps.Pairwise (fun p q => Ap (rng p.1) (rng q.1)) → (∀ c ∈ acc, ∀ p ∈ ps, Ap c (rng p.1)) → Fits n a ρ → ∃ ρ', Fits n a ρ' ∧ C ρ' := by
  induction ps with
  | nil => exact fun h _ _ _ hf => ⟨_, hf, h⟩
  | cons p ps ih =>
    intro acc ρ h hall hpw hacc hf
    obtain ⟨t, R⟩ := p
    obtain ⟨v, h1, h2, h3, h4, h5, h6⟩ := hall (t, R) (by simp)
    have hf' : Fits n a ((t, v) :: ρ) := ⟨hf.defers, hf.size, fun s u ht => by
      rw [look_cons] at ht
      by_cases e : t = s
      · simp only [e, if_true] at ht; cases ht; rw [← e]; exact h1
      · simp only [e, if_false] at ht; exact hf.at_ s u ht⟩
    rw [List.pairwise_cons] at hpw
    cases R with
    | val x =>
      have hx : v = x := h5
      subst hx
      exact ih h (fun q hq => hall q (List.mem_cons_of_mem _ hq)) hpw.2 (fun c hc q hq => hacc c hc q (List.mem_cons_of_mem _ hq)) hf'
    | same s =>
      unfold AllV at h
      have hrest := fun h9 => ih (acc := acc) (ρ := (t, v) :: ρ) h9 (fun q hq => hall q (List.mem_cons_of_mem _ hq)) hpw.2 (fun c hc q hq => hacc c hc q (List.mem_cons_of_mem _ hq)) hf'
      cases hl : look ρ s with
      | some u =>
        have h7 := hf.at_ s u hl
        rw [h6 s rfl] at h7
        cases h7
        simp only [hl] at h
        exact hrest h
      | none =>
        simp only [hl] at h
        exact hrest (h v)
    | rel R =>
      refine ih (h (rng t).1 (rng t).2 v h2 h3 h4 h5 (apart_mk fun c hc => hacc c hc (t, .rel R) (by simp))) (fun q hq => hall q (List.mem_cons_of_mem _ hq)) hpw.2 ?_ hf'
      intro c hc q hq
      rcases List.mem_cons.1 hc with rfl | hc
      · exact hpw.1 q hq
      · exact hacc c hc q (List.mem_cons_of_mem _ hq)
theorem rel_sub {reads : List Nat} : ∀ {ps : List (Nat × Kn)} {p : Nat × Kn}, p ∈ rel reads ps → p ∈ ps ∧ mem p.1 reads = true := by
  intro ps
  induction ps with
  | nil => intro p h; simp [rel] at h
  | cons x r ih =>
    obtain ⟨t, R⟩ := x
    intro p h
    unfold rel at h
    cases hm : mem t reads with
    | true =>
      rw [hm] at h
      rcases List.mem_cons.1 h with rfl | h
      · exact ⟨by simp, hm⟩
      · exact ⟨List.mem_cons_of_mem _ (ih h).1, (ih h).2⟩
    | false => rw [hm] at h; exact ⟨List.mem_cons_of_mem _ (ih h).1, (ih h).2⟩
theorem mem_keys {s : Nat} : ∀ {ps : List (Nat × Kn)}, mem s (keys ps) = true → ∃ (j : Nat) (q : Nat × Kn), j < ps.length ∧ ps[j]? = some q ∧ q.1 = s := by
  intro ps
  induction ps with
  | nil => intro h; simp [keys, mem] at h
  | cons x r ih =>
    obtain ⟨t, R⟩ := x
    intro h
    change (match Nat.beq s t with | true => true | false => mem s (keys r)) = true at h
    cases hb : Nat.beq s t with
    | true => exact ⟨0, (t, R), by simp, rfl, (Nat.eq_of_beq_eq_true hb).symm⟩
    | false =>
      rw [hb] at h
      obtain ⟨j, q, h1, h2, h3⟩ := ih h
      exact ⟨j + 1, q, by simp; omega, by simpa using h2, h3⟩
theorem rel_sublist {reads : List Nat} : ∀ (ps : List (Nat × Kn)), (rel reads ps).Sublist ps := by
  intro ps
  induction ps with
  | nil => exact List.Sublist.slnil
  | cons x r ih =>
    obtain ⟨t, R⟩ := x
    unfold rel
    cases mem t reads with
    | true => exact ih.cons_cons _
    | false => exact ih.cons _

theorem oper_wp_put {o : Oper} {a : Act} {w : World} {next next' : Act → World → Prop} {Q Q' : Exit → Act → World → Prop} (hn : ∀ v w', next (a.put o.dst v) w' → next' (a.put o.dst v) w')
    (hd : ∀ d v w', next (Act.put { a with defers := d :: a.defers } o.dst v) w' → next' (Act.put { a with defers := d :: a.defers } o.dst v) w')
    (hQ : ∀ c w', Q (.panic c) a w' → Q' (.panic c) a w') (hO : LetsOut Q → LetsOut Q') (h : o.wp P a w next Q) : o.wp P a w next' Q' := by
  unfold Oper.wp at *
  generalize (execOp a.eval o).run P w = r at *
  cases r with
  | ok x w' =>
    cases x <;> simp only [Oper.upon] at h ⊢
    case value v => exact hn _ _ h
    case skip => exact hn _ _ h
    case defer d => exact hd _ _ _ h
    case enter f args =>
      refine Calls.mono h fun e w'' he => ?_
      cases e with
      | returned v => exact hn _ _ he
      | panicked c => exact hQ _ _ he
      | outgrown => exact hO he
    case row row args => exact Rows.mono h fun v w'' he => hn _ _ he
  | halt x w' =>
    cases x <;> simp only [Oper.upon] at h ⊢
    case panic v => exact hQ _ _ h

structure Inv (n : Nat) (l : List Oper) (m : Nat) (w : World) (ρ : Rho) (ps : List (Nat × Kn)) (rng : Nat → Nat × Nat) (listed : Array Bool) (a : Act) (w' : World) : Prop where
  size : listed.size = l.length
  tail : ∀ i, m ≤ i → listed.getD i false = false
  ext : Ext w w'
  fits : Fits n a ρ
  vals : ∀ i p, ps[i]? = some p → listed.getD i false = true → ∃ v, a.tmps[p.1]? = some v ∧ w.heap.size ≤ (rng p.1).1 ∧ (rng p.1).1 ≤ (rng p.1).2 ∧ (rng p.1).2 ≤ w'.heap.size ∧ p.2.holds (rng p.1).1 (rng p.1).2 v w' ∧
    ∀ s, p.2 = .same s → a.tmps[s]? = some v ∧ ∃ (j : Nat) (q : Nat × Kn), ps[j]? = some q ∧ q.1 = s ∧ listed.getD j false = true
  closed : ∀ (i : Nat) (o : Oper), listed.getD i false = true → l[i]? = some o → ∀ e ∈ o.after, Region.binds .any e = true → listed.getD e.on false = true
  apart : ∀ (i j : Nat) (p q : Nat × Kn), i ≠ j → ps[i]? = some p → ps[j]? = some q → listed.getD i false = true → listed.getD j false = true → Ap (rng p.1) (rng q.1)

theorem reach_listed {listed : Array Bool} (hc : ∀ (i : Nat) (o : Oper), listed.getD i false = true → l[i]? = some o → ∀ e ∈ o.after, Region.binds .any e = true → listed.getD e.on false = true) :
    ∀ (f i j : Nat) (o : Oper), l[i]? = some o → (∀ e ∈ o.after, Region.binds .any e = true → listed.getD e.on false = true) → reachB l f i j = true → listed.getD j false = true := by
  intro f
  induction f with
  | zero => intro i j o _ _ h; simp [reachB] at h
  | succ f ih =>
    intro i j o ho hall h
    unfold reachB at h
    rw [ho] at h
    simp only [Bool.or_eq_true, List.any_eq_true, Array.mem_toList_iff, Bool.and_eq_true, beq_iff_eq] at h
    rcases h with ⟨e, he, hb, hj⟩ | ⟨e, he, hb, hj⟩
    · rw [← hj]; exact hall e he hb
    · have h1 := hall e he hb
      cases ho2 : l[e.on]? with
      | none =>
        cases f with
        | zero => simp [reachB] at hj
        | succ f => unfold reachB at hj; rw [ho2] at hj; simp at hj
      | some o2 => exact ih e.on j o2 ho2 (hc e.on o2 h1 ho2) hj
theorem count_set {listed : Array Bool} {i : Nat} (h : listed.getD i true = false) : ((listed.setIfInBounds i true).toList.filter (!·)).length + 1 = (listed.toList.filter (!·)).length := by
  have hi : i < listed.size := by
    rcases Nat.lt_or_ge i listed.size with k | k
    · exact k
    · simp [Array.getElem?_eq_none k] at h
  have hv : listed[i] = false := by simpa [hi] using h
  rw [Array.toList_setIfInBounds]
  have hl : listed.toList = listed.toList.take i ++ false :: listed.toList.drop (i + 1) := by
    have h1 : listed.toList.drop i = listed.toList[i]'(by simpa using hi) :: listed.toList.drop (i + 1) := List.drop_eq_getElem_cons (by simpa using hi)
    have h2 : listed.toList[i]'(by simpa using hi) = false := by simpa using hv
    rw [← h2, ← h1, List.take_append_drop]
  have hs : listed.toList.set i true = listed.toList.take i ++ true :: listed.toList.drop (i + 1) := by
    rw [List.set_eq_take_append_cons_drop]; simp [hi]
  rw [hs]
  conv => rhs; rw [hl]
  simp [List.filter_append]
  omega

set_option maxHeartbeats 1000000 in
theorem wpAny_inv {m : Nat} {K : Rho → World → Prop} {Q : Exit → Act → World → Prop} {ps : List (Nat × Kn)} (hB : anyB l m (slots ρ) = true) (hps : ps.length = m)
    (hok : ∀ i o p, (l.take m)[i]? = some o → ps[i]? = some p → o.dst = some p.1 ∧ p.2.Mono ∧ p.2.Fine (readsOf l o) (ps.take i) ∧ OpOk P n l w ρ o p.1 (ps.take i) p.2)
    (htail : ∀ w', Ext w w' → AllV w.heap.size w' (fun ρ' => WL P n l (l.drop m) K ρ' w') ps [] ρ) (hQ : ∀ a' w' ρ', Fits n a' ρ' → K ρ' w' → Q .normal a' w') :
    ∀ (fuel : Nat) (listed : Array Bool) (rng : Nat → Nat × Nat) (a : Act) (w' : World), (listed.toList.filter (!·)).length = fuel → Inv n l m w ρ ps rng listed a w' → wpAny P .any l.toArray Q fuel listed a w' := by
  simp only [anyB, Bool.and_eq_true, decide_eq_true_eq] at hB
  obtain ⟨⟨⟨hsel, hm⟩, hedge⟩, hseq⟩ := hB
  rw [List.all_eq_true] at hedge
  have hedge' : ∀ i o, l[i]? = some o → (∀ e ∈ o.after, Region.binds .any e = true → e.on < i) ∧
      (i < m → ∃ d, o.dst = some d ∧ mem d (slots ρ) = false ∧ ∀ j d', j < i → (l[j]?).bind (·.dst) = some d' → Nat.beq d d' = false ∧ (mem d' (readsOf l o) = true → ∃ e ∈ o.after, Region.binds .any e = true ∧ e.on = j)) ∧
      (m ≤ i → ∀ j, j < i → j < m → reachB l 8 i j = true) := by
    intro i o hi
    have hlt : i < l.length := (List.getElem?_eq_some_iff.1 hi).1
    have h := hedge i (by simpa using hlt)
    rw [hi] at h
    simp only [Bool.and_eq_true, List.all_eq_true, Array.mem_toList_iff] at h
    obtain ⟨h1, h2⟩ := h
    refine ⟨fun e he hb => ?_, fun him => ?_, fun him j hj hjm => ?_⟩
    · have := h1 e he; simp [hb] at this; exact this
    · rw [if_pos him] at h2
      cases hd : o.dst with
      | none => rw [hd] at h2; simp at h2
      | some d =>
        rw [hd] at h2
        simp only [Bool.and_eq_true, Bool.not_eq_true', List.all_eq_true, List.mem_range] at h2
        refine ⟨d, rfl, h2.1, fun j d' hj hjd => ?_⟩
        have h3 := h2.2 j hj
        rw [hjd] at h3
        simp only [Bool.and_eq_true, Bool.not_eq_true', Bool.or_eq_true, List.any_eq_true, Array.mem_toList_iff, beq_iff_eq] at h3
        refine ⟨h3.1, fun hmem => ?_⟩
        rcases h3.2 with h4 | ⟨e, he, hb, ho⟩
        · rw [hmem] at h4; cases h4
        · exact ⟨e, he, hb, ho⟩
    · rw [if_neg (by omega)] at h2
      rw [List.all_eq_true] at h2
      have h3 := h2 j (by simpa using hj)
      simp only [Bool.or_eq_true, decide_eq_true_eq] at h3
      rcases h3 with h3 | h3
      · omega
      · exact h3
  have hget : ∀ (listed : Array Bool) (i : Nat), listed.size = l.length → i < l.length → listed.getD i true = listed.getD i false := by
    intro listed i hs hi
    have : i < listed.size := by omega
    simp [this]
  have huniq : ∀ (i j : Nat) (p q : Nat × Kn), i < j → ps[i]? = some p → ps[j]? = some q → p.1 ≠ q.1 := by
    intro i j p q hij hp hq
    have hj1 : j < ps.length := (List.getElem?_eq_some_iff.1 hq).1
    have hi1 : i < l.length := by omega
    have hj2 : j < l.length := by omega
    obtain ⟨d, hd, _, hdj⟩ := (hedge' j l[j] (by simp [hj2])).2.1 (by omega)
    have h1 := (hok i l[i] p (by rw [List.getElem?_take, if_pos (by omega)]; simp [hi1]) hp).1
    have h2 := (hok j l[j] q (by rw [List.getElem?_take, if_pos (by omega)]; simp [hj2]) hq).1
    have h9 := (hdj i p.1 hij (by simp [hi1, h1])).1
    rw [hd] at h2; cases h2
    intro e; rw [e] at h9; simp at h9
  have hpair : ∀ (rng : Nat → Nat × Nat) (ls : List (Nat × Kn)) (good : Nat × Kn → Prop), ls.Sublist ps → (∀ p ∈ ls, good p) →
      (∀ (i j : Nat) (p q : Nat × Kn), i ≠ j → ps[i]? = some p → ps[j]? = some q → good p → good q → Ap (rng p.1) (rng q.1)) → ls.Pairwise (fun (p q : Nat × Kn) => Ap (rng p.1) (rng q.1)) := by
    intro rng ls good hs hg hap
    have h1 : ps.Pairwise (fun (p q : Nat × Kn) => good p → good q → Ap (rng p.1) (rng q.1)) := by
      rw [List.pairwise_iff_getElem]
      intro i j hi hj hij g1 g2
      exact hap i j ps[i] ps[j] (by omega) (by simp [hi]) (by simp [hj]) g1 g2
    exact (h1.sublist hs).imp_of_mem fun {a b} ha hb h => h (hg a ha) (hg b hb)
  have hgood : ∀ (listed : Array Bool) (p : Nat × Kn), (∃ i : Nat, ps[i]? = some p ∧ listed.getD i false = true) → ∀ j, ps[j]? = some p → listed.getD j false = true := by
    intro listed p ⟨i, hi, hl⟩ j hj
    rcases Nat.lt_trichotomy i j with h | h | h
    · exact absurd rfl (huniq i j p p h hi hj)
    · rw [← h]; exact hl
    · exact absurd rfl (huniq j i p p h hj hi)
  intro fuel
  induction fuel with
  | zero =>
    intro listed rng a w' hc inv
    -- nothing is left: all are listed
    have hallT : ∀ i, i < l.length → listed.getD i false = true := by
      intro i hi
      have h0 : listed.toList.filter (!·) = [] := List.eq_nil_of_length_eq_zero hc
      rw [List.filter_eq_nil_iff] at h0
      have hi' : i < listed.size := by rw [inv.size]; exact hi
      have := h0 listed[i] (by simp)
      simp at this
      simp [hi', this]
    have hml : m = l.length := by
      rcases Nat.lt_or_ge m l.length with h | h
      · have h1 := hallT m h
        rw [inv.tail m (Nat.le_refl _)] at h1; cases h1
      · omega
    obtain ⟨ρ', hf, hw⟩ := allV_at (a := a) rng (htail w' inv.ext) (fun p hp => by
      obtain ⟨i, hi, he⟩ := List.getElem_of_mem hp
      obtain ⟨v, k1, k2, k3, k4, k5, k6⟩ := inv.vals i p (by rw [← he]; exact List.getElem?_eq_getElem hi) (hallT i (by omega))
      exact ⟨v, k1, k2, k3, k4, k5, fun s e => (k6 s e).1⟩)
      (hpair rng ps (fun _ => True) (List.Sublist.refl _) (fun _ _ => trivial) fun i j p q hij hp hq _ _ => inv.apart i j p q hij hp hq
        (hallT i (by have := (List.getElem?_eq_some_iff.1 hp).1; omega)) (hallT j (by have := (List.getElem?_eq_some_iff.1 hq).1; omega))) (by simp) inv.fits
    rw [hml, List.drop_length] at hw
    refine ⟨?_, ?_⟩
    · apply List.eq_nil_iff_forall_not_mem.2
      intro i hi
      obtain ⟨h1, o, ho, _⟩ := mem_ready.1 hi
      have hlt : i < l.length := by simpa using (Array.getElem?_eq_some_iff.1 ho).1
      rw [hget listed i inv.size hlt, hallT i hlt] at h1; cases h1
    · exact hw a hf Q hQ
  | succ fuel ih =>
    intro listed rng a w' hc inv
    by_cases hfull : ∀ i, i < m → listed.getD i false = true
    · -- the tail
      obtain ⟨ρ', hf, hw⟩ := allV_at (a := a) rng (htail w' inv.ext) (fun p hp => by
        obtain ⟨i, hi, he⟩ := List.getElem_of_mem hp
        obtain ⟨v, k1, k2, k3, k4, k5, k6⟩ := inv.vals i p (by rw [← he]; exact List.getElem?_eq_getElem hi) (hfull i (by omega))
        exact ⟨v, k1, k2, k3, k4, k5, fun s e => (k6 s e).1⟩)
        (hpair rng ps (fun _ => True) (List.Sublist.refl _) (fun _ _ => trivial) fun i j p q hij hp hq _ _ => inv.apart i j p q hij hp hq
          (hfull i (by have := (List.getElem?_eq_some_iff.1 hp).1; omega)) (hfull j (by have := (List.getElem?_eq_some_iff.1 hq).1; omega))) (by simp) inv.fits
      have hlisted : listed = ((List.range l.length).map fun i => decide (i < m)).toArray := by
        apply Array.ext
        · simp [inv.size]
        · intro i h1 h2
          simp only [List.size_toArray, List.length_map, List.length_range] at h2
          simp only [List.getElem_toArray, List.getElem_map, List.getElem_range]
          rcases Nat.lt_or_ge i m with h | h
          · have := hfull i h; simp [h1] at this; simp [this, h]
          · have := inv.tail i h; simp [h1] at this; simp [this]; omega
      have hlen : (l.drop m).length = fuel + 1 := by
        rw [← hc, hlisted]
        have : ((List.range l.length).map fun i => decide (i < m)).filter (!·) = (List.replicate (l.length - m) false) := by
          have h1 : List.range l.length = List.range m ++ (List.range (l.length - m)).map (m + ·) := by
            rw [← List.range_add]; congr 1; omega
          rw [h1, List.map_append, List.filter_append]
          have h2 : ((List.range m).map fun i => decide (i < m)).filter (!·) = [] := by
            rw [List.filter_eq_nil_iff]; intro b hb
            obtain ⟨i, hi, rfl⟩ := List.mem_map.1 hb
            have : i < m := by simpa using hi
            simp [this]
          have h3 : (((List.range (l.length - m)).map (m + ·)).map fun i => decide (i < m)) = List.replicate (l.length - m) false := by
            apply List.ext_getElem
            · simp
            · intro i h1 h2; simp
          rw [h2, h3]; simp
        rw [this]; simp
      rw [← hlen]
      refine wpAny_of_seq (l.drop m) m listed a w' (fun j => by simp [List.getElem?_drop]) ?_ (hw a hf Q hQ)
      rw [hlisted, List.length_drop]; exact hseq
    · -- one of the first m comes up
      have hsome : ∃ i, i < m ∧ listed.getD i false = false := by
        apply Classical.byContradiction
        intro hno
        apply hfull
        intro i hi
        cases hb : listed.getD i false with
        | true => rfl
        | false => exact absurd ⟨i, hi, hb⟩ hno
      refine ⟨fun hnil => ?_, fun i hi => ?_⟩
      · -- the least that is not listed is ready
        exfalso
        obtain ⟨i0, hi0, hf0⟩ := hsome
        have hleast : ∃ i, i < m ∧ listed.getD i false = false ∧ ∀ j, j < i → listed.getD j false = true := by
          clear hnil
          induction i0 using Nat.strongRecOn with
          | _ i0 ihl =>
            by_cases hall : ∀ j, j < i0 → listed.getD j false = true
            · exact ⟨i0, hi0, hf0, hall⟩
            · have : ∃ j, j < i0 ∧ listed.getD j false = false := by
                apply Classical.byContradiction
                intro hno
                apply hall
                intro j hj
                cases hb : listed.getD j false with
                | true => rfl
                | false => exact absurd ⟨j, hj, hb⟩ hno
              obtain ⟨j, hj, hjf⟩ := this
              exact ihl j hj (by omega) hjf
        obtain ⟨i, him, hif, hbefore⟩ := hleast
        have hlt : i < l.length := by omega
        have hmem : i ∈ Region.ready .any l.toArray listed := by
          rw [mem_ready]
          refine ⟨by rw [hget listed i inv.size hlt]; exact hif, l[i], by simp [hlt], fun e he hb => ?_⟩
          have := (hedge' i l[i] (by simp [hlt])).1 e he hb
          exact hbefore e.on this
        rw [hnil] at hmem; cases hmem
      · obtain ⟨hun, o, ho, hafter⟩ := mem_ready.1 hi
        have hol : l[i]? = some o := by simpa using ho
        have hlt : i < l.length := (List.getElem?_eq_some_iff.1 hol).1
        obtain ⟨hE1, hE2, hE3⟩ := hedge' i o hol
        have him : i < m := by
          rcases Nat.lt_or_ge i m with h | h
          · exact h
          · exfalso
            obtain ⟨j, hj, hjf⟩ := hsome
            have := reach_listed inv.closed 8 i j o hol hafter (hE3 h j (by omega) hj)
            rw [hjf] at this; cases this
        obtain ⟨d, hd, hdρ, hdj⟩ := hE2 him
        have hpi : i < ps.length := by omega
        obtain ⟨hdp, hmono, hfine, hOp⟩ := hok i o ps[i] (by rw [List.getElem?_take, if_pos him]; exact hol) (by simp [hpi])
        have hdp' : ps[i].1 = d := by rw [hd] at hdp; cases hdp; rfl
        have hall := hOp w' inv.ext
        have hdone : ∀ p ∈ rel (readsOf l o) (ps.take i), ∃ j, ps[j]? = some p ∧ listed.getD j false = true := fun p hp => by
          obtain ⟨hp1, hp2⟩ := rel_sub hp
          obtain ⟨j, hj, he⟩ := List.getElem_of_mem hp1
          have hj' : j < i := by simp at hj; omega
          have hjl : j < l.length := by omega
          have hjp : j < ps.length := by omega
          have hpe : ps[j]? = some p := by
            rw [← he]; simp [hjp]
          have hjd := (hok j l[j] p (by rw [List.getElem?_take, if_pos (by omega)]; simp [hjl]) hpe).1
          obtain ⟨_, hed⟩ := hdj j p.1 hj' (by simp [hjl, hjd])
          obtain ⟨e, he1, he2, he3⟩ := hed hp2
          exact ⟨j, hpe, by rw [← he3]; exact hafter e he1 he2⟩
        obtain ⟨ρ', hf, hw⟩ := allV_at (a := a) rng hall (fun p hp => by
          obtain ⟨j, hj1, hj2⟩ := hdone p hp
          obtain ⟨v, k1, k2, k3, k4, k5, k6⟩ := inv.vals j p hj1 hj2
          exact ⟨v, k1, k2, k3, k4, k5, fun s e => (k6 s e).1⟩)
          (hpair rng _ (fun p => ∃ j, ps[j]? = some p ∧ listed.getD j false = true) ((rel_sublist _).trans (List.take_sublist i ps)) hdone
            fun i' j' p q hij hp hq g1 g2 => inv.apart i' j' p q hij hp hq (hgood listed p g1 i' hp) (hgood listed q g2 j' hq)) (by simp) inv.fits
        -- the operation, run in this very frame
        have hrun := hw a hf (fun e a' w'' => match e with
          | .normal => Ext w' w'' ∧ ∃ v, a'.tmps[d]? = some v ∧ ps[i].2.holds w'.heap.size w''.heap.size v w'' ∧ (∀ s, ps[i].2 = .same s → a'.tmps[s]? = some v) ∧ a'.defers = [] ∧ a'.tmps.size = n
          | e => Q e a' w'') (fun a' w'' ρ'' hf'' ⟨he, v, hv, hR, hlk⟩ => ⟨he, v, hf''.at_ d v (by rw [← hdp']; exact hv), hR, fun s es => hf''.at_ s v (by rw [es] at hlk; exact hlk), hf''.defers, hf''.size⟩)
        have next : ∀ v w'', (Ext w' w'' ∧ ∃ u, (a.put o.dst v).tmps[d]? = some u ∧ ps[i].2.holds w'.heap.size w''.heap.size u w'' ∧ (∀ s, ps[i].2 = .same s → (a.put o.dst v).tmps[s]? = some u) ∧ (a.put o.dst v).defers = [] ∧ (a.put o.dst v).tmps.size = n) →
            wpAny P .any l.toArray Q fuel (listed.setIfInBounds i true) (a.put o.dst v) w'' := by
          intro v w'' ⟨he, u, hu, hR, hlk, hdf, hsz⟩
          refine ih _ (fun t => if t = d then (w'.heap.size, w''.heap.size) else rng t) _ _ ?_ ?_
          · have := count_set hun; omega
          · have hkey : ∀ j p, ps[j]? = some p → i ≠ j → p.1 ≠ d := by
              intro j p hjp hij
              rcases Nat.lt_or_ge i j with h | h
              · have := huniq i j ps[i] p h (by simp [hpi]) hjp
                rw [hdp'] at this; exact fun e => this e.symm
              · have := huniq j i p ps[i] (by omega) hjp (by simp [hpi])
                rw [hdp'] at this; exact this
            have hself : ∀ p, ps[i]? = some p → p = ps[i] := fun p hjp => by rw [List.getElem?_eq_getElem hpi] at hjp; cases hjp; rfl
            have hold : ∀ j p, ps[j]? = some p → i ≠ j → (listed.setIfInBounds i true).getD j false = true → listed.getD j false = true := fun j p _ hij hjl => by
              rw [getD_set_ne false hij] at hjl; exact hjl
            have hes := he.size
            refine ⟨by simp [inv.size], fun j hj => ?_, inv.ext.trans he, ⟨hdf, hsz, fun t x ht => ?_⟩, fun j p hjp hjl => ?_, fun j o' hjl hjo e he hb => ?_, fun j j' p q hij hp hq hl1 hl2 => ?_⟩
            · have hne : i ≠ j := by omega
              rw [getD_set_ne false hne]; exact inv.tail j hj
            · have hne : d ≠ t := by
                intro e; subst e
                have := mem_slots ht
                rw [hdρ] at this; cases this
              rw [hd]
              simp only [Act.put, Array.getElem?_setIfInBounds_ne hne]
              exact inv.fits.at_ t x ht
            · by_cases hij : i = j
              · subst hij
                have := hself p hjp
                subst this
                refine ⟨u, ?_⟩
                rw [hdp']
                simp only [if_true]
                refine ⟨hu, inv.ext.size, hes, Nat.le_refl _, hR, fun s es => ⟨hlk s es, ?_⟩⟩
                rw [es] at hfine
                obtain ⟨hf1, hf2⟩ := hfine
                obtain ⟨j0, q0, hj0, hq0, hs0⟩ := mem_keys hf2
                have hj0i : j0 < i := by
                  have := (List.getElem?_eq_some_iff.1 hq0).1
                  simp at this; omega
                have hq1 : ps[j0]? = some q0 := by rw [List.getElem?_take, if_pos hj0i] at hq0; exact hq0
                have hjl : j0 < l.length := by omega
                have hjd := (hok j0 l[j0] q0 (by rw [List.getElem?_take, if_pos (by omega)]; simp [hjl]) hq1).1
                obtain ⟨_, hed⟩ := hdj j0 q0.1 hj0i (by simp [hjl, hjd])
                obtain ⟨e, he1, he2, he3⟩ := hed (by rw [hs0]; exact hf1)
                refine ⟨j0, q0, hq1, hs0, ?_⟩
                rw [getD_set_ne false (by omega), ← he3]; exact hafter e he1 he2
              · obtain ⟨x, hx1, hx2, hx3, hx4, hx5, hx6⟩ := inv.vals j p hjp (hold j p hjp hij hjl)
                have hne : d ≠ p.1 := fun e => hkey j p hjp hij e.symm
                have hjps : j < ps.length := (List.getElem?_eq_some_iff.1 hjp).1
                have hjl2 : j < l.length := by omega
                refine ⟨x, ?_, ?_⟩
                · rw [hd]
                  simp only [Act.put, Array.getElem?_setIfInBounds_ne hne]
                  exact hx1
                · simp only [if_neg (fun e => hne e.symm : ¬ p.1 = d)]
                  refine ⟨hx2, hx3, by omega, (hok j l[j] p (by rw [List.getElem?_take, if_pos (by omega)]; simp [hjl2]) hjp).2.1 _ _ x _ _ he hx5, fun s es => ?_⟩
                  obtain ⟨g1, j0, q0, g2, g3, g4⟩ := hx6 s es
                  have hij0 : i ≠ j0 := by
                    intro e; subst e
                    have := hun
                    rw [hget listed i inv.size hlt, g4] at this; cases this
                  refine ⟨?_, j0, q0, g2, g3, by rw [getD_set_ne false hij0]; exact g4⟩
                  have hne2 : d ≠ s := by rw [← g3]; exact fun e => hkey j0 q0 g2 hij0 e.symm
                  rw [hd]
                  simp only [Act.put, Array.getElem?_setIfInBounds_ne hne2]
                  exact g1
            · have hmono : ∀ k, listed.getD k false = true → (listed.setIfInBounds i true).getD k false = true := by
                intro k hk
                by_cases hik : i = k
                · subst hik
                  rw [hget listed i inv.size hlt] at hun
                  rw [hun] at hk; cases hk
                · rw [getD_set_ne false hik]; exact hk
              by_cases hij : i = j
              · subst hij
                rw [hol] at hjo
                cases hjo
                exact hmono _ (hafter e he hb)
              · rw [getD_set_ne false hij] at hjl
                exact hmono _ (inv.closed j o' hjl hjo e he hb)
            · by_cases h1 : i = j
              · subst h1
                have := hself p hp
                subst this
                obtain ⟨x, hx1, hx2, hx3, hx4, hx5, _⟩ := inv.vals j' q hq (hold j' q hq hij hl2)
                simp only [hdp', if_true, if_neg (hkey j' q hq hij)]
                exact .inr hx4
              · by_cases h2 : i = j'
                · subst h2
                  have := hself q hq
                  subst this
                  obtain ⟨x, hx1, hx2, hx3, hx4, hx5, _⟩ := inv.vals j p hp (hold j p hp h1 hl1)
                  simp only [hdp', if_true, if_neg (hkey j p hp h1)]
                  exact .inl hx4
                · simp only [if_neg (hkey j p hp h1), if_neg (hkey j' q hq h2)]
                  exact inv.apart j j' p q hij hp hq (hold j p hp h1 hl1) (hold j' q hq h2 hl2)
        unfold wpOp
        simp only [List.getElem?_toArray, hol]
        unfold wpList at hrun
        split
        · rename_i hw1
          rw [if_pos hw1] at hrun
          rcases hrun with h | ⟨h1, h2⟩
          · refine .inl (oper_wp_put (fun v w'' hn => next v w'' hn) (fun dd v w'' hn => ?_) (fun c w'' hq => hq) (fun hq => hq) h)
            have hn : Ext w' w'' ∧ ∃ u, (Act.put { a with defers := dd :: a.defers } o.dst v).tmps[d]? = some u ∧ ps[i].2.holds w'.heap.size w''.heap.size u w'' ∧ (∀ s, ps[i].2 = .same s → (Act.put { a with defers := dd :: a.defers } o.dst v).tmps[s]? = some u) ∧ (Act.put { a with defers := dd :: a.defers } o.dst v).defers = [] ∧ _ := hn
            obtain ⟨_, u, _, _, _, hdf, _⟩ := hn
            exfalso
            rw [hd] at hdf
            simp [Act.put] at hdf
          · exact .inr ⟨h1, h2⟩
        · rename_i hw1
          rw [if_neg hw1] at hrun
          exact next undef w' hrun

theorem WP_any {id : Nat} {K : Rho → World → Prop} {E : Exit → Rho → World → Prop} (m : Nat) (us : List Nat) (hmix : P.follows .mixedOrders = true) (hu : slots ρ = us) (hB : anyB l m us = true)
    (h : Any P n l w ρ (fun ps => ∀ w', Ext w w' → AllV w.heap.size w' (fun ρ' => WL P n l (l.drop m) K ρ' w') ps [] ρ) (l.take m) []) :
    WP P n (.region id l.toArray true) K E ρ w := by
  intro a ha
  subst hu
  obtain ⟨ps, hl, ht, hall⟩ := any_lists _ _ h
  have hm : m ≤ l.length := by
    simp only [anyB, Bool.and_eq_true, decide_eq_true_eq] at hB
    exact hB.1.1.2
  have hpl : ps.length = m := by rw [hl, List.length_take]; omega
  refine wp_region_any hmix ?_
  have hc : ((Array.replicate l.toArray.size false).toList.filter (!·)).length = l.toArray.size := by simp
  refine wpAny_inv (K := K) hB hpl (fun i o p h1 h2 => by have := hall i o p h1 h2; simpa using this) (by simpa using ht) (fun a' w' ρ' hf hk => ⟨ρ', hf, hk⟩) _ _ (fun _ => (0, 0)) a _ hc
    ⟨by simp, fun i _ => by simp [Array.getElem?_replicate]; split <;> rfl, Ext.drew _, ha, fun i p _ h => by simp [Array.getElem?_replicate] at h; split at h <;> simp at h, fun i o h => by simp [Array.getElem?_replicate] at h; split at h <;> simp at h, fun i j p q _ _ _ h _ => by simp [Array.getElem?_replicate] at h; split at h <;> simp at h⟩

theorem AllV_v {B : Nat} {w' : World} {C : Rho → Prop} {t : Nat} {x : Value} {r : List (Nat × Kn)} {acc : List (Nat × Nat)} (h : AllV B w' C r acc ((t, x) :: ρ)) : AllV B w' C ((t, .val x) :: r) acc ρ := h
theorem AllV_r {B : Nat} {w' : World} {C : Rho → Prop} {t : Nat} {R : Nat → Nat → Value → World → Prop} {r : List (Nat × Kn)} {acc : List (Nat × Nat)}
    (h : ∀ a b v, B ≤ a → a ≤ b → b ≤ w'.heap.size → R a b v w' → Apart a b acc → AllV B w' C r ((a, b) :: acc) ((t, v) :: ρ)) : AllV B w' C ((t, .rel R) :: r) acc ρ := h
theorem AllV_s {B : Nat} {w' : World} {C : Rho → Prop} {t s : Nat} {x : Value} {r : List (Nat × Kn)} {acc : List (Nat × Nat)} (hx : look ρ s = some x) (h : AllV B w' C r acc ((t, x) :: ρ)) : AllV B w' C ((t, .same s) :: r) acc ρ := by
  unfold AllV
  rw [hx]; exact h
theorem AllV_nil {B : Nat} {w' : World} {C : Rho → Prop} {acc : List (Nat × Nat)} (h : C ρ) : AllV B w' C [] acc ρ := h

/-- An own row of digits, made by this very operation. -/
def NoR (E : TypeId) (l : List Nat) : Nat → Nat → Value → World → Prop := fun a b v w => No a E w v l ∧ (l ≠ [] → vblk v < b)
theorem NoR.mono {E : TypeId} {l : List Nat} : (Kn.rel (NoR E l)).Mono := fun _ _ _ _ _ he h => ⟨h.1.ext he, h.2⟩
theorem NoR.mk' {E : TypeId} {l : List Nat} {a : Nat} {v : Value} {w' : World} (h : No a E w' v l) : NoR E l a w'.heap.size v w' := ⟨h, fun hne => (h.blk hne).2⟩
theorem Any_no {tail : List (Nat × Kn) → Prop} {o : Oper} {r : List Oper} {done : List (Nat × Kn)} {d : Nat} {E : TypeId} {dl : List Nat} (hd : o.dst = some d)
    (h : ∀ w', Ext w w' → AllV w.heap.size w' (fun ρ' => WL P n l [o] (fun ρ'' w'' => Ext w' w'' ∧ ∃ v, look ρ'' d = some v ∧ NoR E dl w'.heap.size w''.heap.size v w'') ρ' w') (rel (readsOf l o) done) [] ρ)
    (hr : Any P n l w ρ tail r (done ++ [(d, .rel (NoR E dl))])) : Any P n l w ρ tail (o :: r) done := Any_rel _ hd NoR.mono h hr
/-- A slice of digits, of whatever origin. -/
def NlR (l : List Nat) : Nat → Nat → Value → World → Prop := fun _ _ v w => Nl w v l
theorem NlR.mono {l : List Nat} : (Kn.rel (NlR l)).Mono := fun _ _ _ _ _ he h => Nl.ext h he
theorem Any_nl {tail : List (Nat × Kn) → Prop} {o : Oper} {r : List Oper} {done : List (Nat × Kn)} {d : Nat} {dl : List Nat} (hd : o.dst = some d)
    (h : ∀ w', Ext w w' → AllV w.heap.size w' (fun ρ' => WL P n l [o] (fun ρ'' w'' => Ext w' w'' ∧ ∃ v, look ρ'' d = some v ∧ NlR dl w'.heap.size w''.heap.size v w'') ρ' w') (rel (readsOf l o) done) [] ρ)
    (hr : Any P n l w ρ tail r (done ++ [(d, .rel (NlR dl))])) : Any P n l w ρ tail (o :: r) done := Any_rel _ hd NlR.mono h hr
end

/-! The same with lists that stay cells: what is done, the newest first. -/
def rrel (reads : List Nat) : List (Nat × Kn) → List (Nat × Kn) → List (Nat × Kn)
  | [], acc => acc
  | (t, R) :: r, acc => match mem t reads with | true => rrel reads r ((t, R) :: acc) | false => rrel reads r acc
def rrev : List (Nat × Kn) → List (Nat × Kn) → List (Nat × Kn)
  | [], acc => acc
  | p :: r, acc => rrev r (p :: acc)
theorem rel_append (reads : List Nat) (a b : List (Nat × Kn)) : rel reads (a ++ b) = rel reads a ++ rel reads b := by
  induction a with
  | nil => rfl
  | cons x a ih =>
    obtain ⟨t, R⟩ := x
    show (match mem t reads with | true => (t, R) :: rel reads (a ++ b) | false => rel reads (a ++ b)) = (match mem t reads with | true => (t, R) :: rel reads a | false => rel reads a) ++ rel reads b
    cases mem t reads <;> simp [ih]
theorem rrel_eq (reads : List Nat) (ds acc : List (Nat × Kn)) : rrel reads ds acc = rel reads ds.reverse ++ acc := by
  induction ds generalizing acc with
  | nil => rfl
  | cons x r ih =>
    obtain ⟨t, R⟩ := x
    rw [List.reverse_cons, rel_append]
    show (match mem t reads with | true => rrel reads r ((t, R) :: acc) | false => rrel reads r acc) = rel reads r.reverse ++ (match mem t reads with | true => [(t, R)] | false => []) ++ acc
    cases mem t reads <;> simp [ih]
theorem rrev_eq (ds acc : List (Nat × Kn)) : rrev ds acc = ds.reverse ++ acc := by
  induction ds generalizing acc with
  | nil => rfl
  | cons x r ih => simp [rrev, ih]
theorem mem_keys_append (s : Nat) (a b : List (Nat × Kn)) : mem s (keys (a ++ b)) = (mem s (keys a) || mem s (keys b)) := by
  induction a with
  | nil => rfl
  | cons x a ih =>
    obtain ⟨t, R⟩ := x
    show (match Nat.beq s t with | true => true | false => mem s (keys (a ++ b))) = ((match Nat.beq s t with | true => true | false => mem s (keys a)) || mem s (keys b))
    cases Nat.beq s t <;> simp [ih]
theorem mem_keys_reverse (s : Nat) (a : List (Nat × Kn)) : mem s (keys a.reverse) = mem s (keys a) := by
  induction a with
  | nil => rfl
  | cons x a ih =>
    obtain ⟨t, R⟩ := x
    rw [List.reverse_cons, mem_keys_append, ih]
    show (mem s (keys a) || (match Nat.beq s t with | true => true | false => false)) = (match Nat.beq s t with | true => true | false => mem s (keys a))
    cases Nat.beq s t <;> simp
def AnyR (P : Program) (n : Nat) (l : List Oper) (w : World) (ρ : Rho) (tail : List (Nat × Kn) → Prop) (r : List Oper) (ds : List (Nat × Kn)) : Prop := Any P n l w ρ tail r ds.reverse
section
variable {P : Program} {n : Nat} {w : World} {ρ : Rho} {l : List Oper} {tail : List (Nat × Kn) → Prop} {o : Oper} {r : List Oper} {ds : List (Nat × Kn)} {d : Nat}
theorem AnyR_val {x : Value} (reads : List Nat) (hd : o.dst = some d) (hreads : readsOf l o = reads)
    (h : ∀ w', Ext w w' → AllV w.heap.size w' (fun ρ' => WL P n l [o] (fun ρ'' w'' => Ext w' w'' ∧ look ρ'' d = some x) ρ' w') (rrel reads ds []) [] ρ)
    (hr : AnyR P n l w ρ tail r ((d, .val x) :: ds)) : AnyR P n l w ρ tail (o :: r) ds := by
  unfold AnyR at *
  rw [List.reverse_cons] at hr
  refine Any_val hd (fun w' he => ?_) hr
  rw [hreads]; have := h w' he; rw [rrel_eq, List.append_nil] at this; exact this
theorem AnyR_rel (R : Nat → Nat → Value → World → Prop) (reads : List Nat) (hd : o.dst = some d) (hm : (Kn.rel R).Mono) (hreads : readsOf l o = reads)
    (h : ∀ w', Ext w w' → AllV w.heap.size w' (fun ρ' => WL P n l [o] (fun ρ'' w'' => Ext w' w'' ∧ ∃ v, look ρ'' d = some v ∧ R w'.heap.size w''.heap.size v w'') ρ' w') (rrel reads ds []) [] ρ)
    (hr : AnyR P n l w ρ tail r ((d, .rel R) :: ds)) : AnyR P n l w ρ tail (o :: r) ds := by
  unfold AnyR at *
  rw [List.reverse_cons] at hr
  refine Any_rel R hd hm (fun w' he => ?_) hr
  rw [hreads]; have := h w' he; rw [rrel_eq, List.append_nil] at this; exact this
theorem AnyR_same (s : Nat) (reads : List Nat) (hd : o.dst = some d) (hreads : readsOf l o = reads) (hs : mem s reads = true) (hk : mem s (keys ds) = true)
    (h : ∀ w', Ext w w' → AllV w.heap.size w' (fun ρ' => WL P n l [o] (fun ρ'' w'' => Ext w' w'' ∧ ∃ v, look ρ'' d = some v ∧ look ρ'' s = some v) ρ' w') (rrel reads ds []) [] ρ)
    (hr : AnyR P n l w ρ tail r ((d, .same s) :: ds)) : AnyR P n l w ρ tail (o :: r) ds := by
  unfold AnyR at *
  rw [List.reverse_cons] at hr
  refine Any_same s hd (by rw [hreads]; exact hs) (by rw [mem_keys_reverse]; exact hk) (fun w' he => ?_) hr
  rw [hreads]; have := h w' he; rw [rrel_eq, List.append_nil] at this; exact this
theorem AnyR_no {E : TypeId} {dl : List Nat} (reads : List Nat) (hd : o.dst = some d) (hreads : readsOf l o = reads)
    (h : ∀ w', Ext w w' → AllV w.heap.size w' (fun ρ' => WL P n l [o] (fun ρ'' w'' => Ext w' w'' ∧ ∃ v, look ρ'' d = some v ∧ NoR E dl w'.heap.size w''.heap.size v w'') ρ' w') (rrel reads ds []) [] ρ)
    (hr : AnyR P n l w ρ tail r ((d, .rel (NoR E dl)) :: ds)) : AnyR P n l w ρ tail (o :: r) ds := AnyR_rel _ reads hd NoR.mono hreads h hr
theorem AnyR_nl {dl : List Nat} (reads : List Nat) (hd : o.dst = some d) (hreads : readsOf l o = reads)
    (h : ∀ w', Ext w w' → AllV w.heap.size w' (fun ρ' => WL P n l [o] (fun ρ'' w'' => Ext w' w'' ∧ ∃ v, look ρ'' d = some v ∧ NlR dl w'.heap.size w''.heap.size v w'') ρ' w') (rrel reads ds []) [] ρ)
    (hr : AnyR P n l w ρ tail r ((d, .rel (NlR dl)) :: ds)) : AnyR P n l w ρ tail (o :: r) ds := AnyR_rel _ reads hd NlR.mono hreads h hr
theorem AnyR_nil (h : tail (rrev ds [])) : AnyR P n l w ρ tail [] ds := by
  unfold AnyR
  rw [rrev_eq, List.append_nil] at h
  exact h
theorem WP_anyR {id : Nat} {K : Rho → World → Prop} {E : Exit → Rho → World → Prop} (m : Nat) (us : List Nat) (hmix : P.follows .mixedOrders = true) (hu : slots ρ = us) (hB : anyB l m us = true)
    (h : AnyR P n l w ρ (fun ps => ∀ w', Ext w w' → AllV w.heap.size w' (fun ρ' => WL P n l (l.drop m) K ρ' w') ps [] ρ) (l.take m) []) :
    WP P n (.region id l.toArray true) K E ρ w := WP_any m us hmix hu hB h
end
end Go.Proofs.Ytoccimigjjndpaa

set_option linter.unusedVariables false
set_option linter.unusedSimpArgs false
namespace Go.Proofs.Ytoccimigjjndpaa
open Go Go.RowKit

/-- The world goes on; block b may have turned. -/
structure ExtB (b : Nat) (w w' : World) : Prop where
  os : w'.os = w.os
  tape : w'.tape = w.tape
  output : w'.output = w.output
  size : w.heap.size ≤ w'.heap.size
  block : ∀ k, k < w.heap.size → k ≠ b → w'.heap[k]? = w.heap[k]?
theorem ExtB.refl (b : Nat) (w : World) : ExtB b w w := ⟨rfl, rfl, rfl, Nat.le_refl _, fun _ _ _ => rfl⟩
theorem ExtB.trans {b : Nat} {w1 w2 w3 : World} (h : ExtB b w1 w2) (k : ExtB b w2 w3) : ExtB b w1 w3 :=
  ⟨k.os.trans h.os, k.tape.trans h.tape, k.output.trans h.output, Nat.le_trans h.size k.size, fun j hj hb => (k.block j (Nat.lt_of_lt_of_le hj h.size) hb).trans (h.block j hj hb)⟩
theorem Chg.toB {b : Nat} {w w' : World} (h : Chg b w w') : ExtB b w w' := ⟨h.os, h.tape, h.output, by rw [h.size]; exact Nat.le_refl _, fun k _ hb => h.block k hb⟩
theorem Ext.toB {b : Nat} {w w' : World} (h : Ext w w') : ExtB b w w' := ⟨Below.os h, Below.tape h, Below.output h, h.size, fun k hk _ => Below.block h k hk⟩
theorem Ext.extB {b : Nat} {w0 w w' : World} (he : Ext w0 w) (h : ExtB b w w') (hb : w0.heap.size ≤ b) : Ext w0 w' :=
  ⟨h.os.trans (Below.os he), h.tape.trans (Below.tape he), h.output.trans (Below.output he), Nat.le_trans he.size h.size,
    fun k hk => (h.block k (Nat.lt_of_lt_of_le hk he.size) (by omega)).trans (Below.block he k hk)⟩
theorem SlV.extB {w w' : World} {v : Value} {vs : List Value} {b : Nat} (h : SlV w v vs) (hc : ExtB b w w') (hb : vs ≠ [] → vblk v ≠ b) : SlV w' v vs := by
  obtain ⟨a, cap, rfl, h2, h3, h4, h5⟩ := h
  refine ⟨a, cap, rfl, h2, h3, h4, fun i u hu => ?_⟩
  obtain ⟨x, rfl, hx⟩ := h5 i u hu
  have hne : vs ≠ [] := by rintro rfl; simp at hu
  have hb' : x.block ≠ b := hb hne
  refine ⟨x, rfl, ?_⟩
  have hbl : (x.add i).block = x.block := by unfold Addr.add; split <;> rfl
  have hlt : x.block < w.heap.size := by
    rcases Nat.lt_or_ge x.block w.heap.size with k | k
    · exact k
    · exfalso
      unfold World.cell? at hx
      rw [hbl, Array.getElem?_eq_none k] at hx
      simp at hx
  exact (World.cell?_of_block (by rw [hbl]; exact hc.block _ hlt hb')).trans hx
theorem Own.extB {B b : Nat} {e : TypeId} {w w' : World} {v : Value} {vs : List Value} (h : Own B e w v vs) (hc : ExtB b w w') (hb : vblk v ≠ b) : Own B e w' v vs := by
  obtain ⟨h1, h2⟩ := h
  refine ⟨h1, ?_⟩
  rcases h2 with h2 | ⟨g, cap, cur, rfl, h4, hh, r⟩
  · exact .inl h2
  · have hlt : g < w.heap.size := by
      rcases Nat.lt_or_ge g w.heap.size with k | k
      · exact k
      · simp [Array.getElem?_eq_none k] at hh
    exact .inr ⟨g, cap, cur, rfl, h4, (hc.block g hlt hb).trans hh, r⟩
theorem Nl.extB {w w' : World} {v : Value} {l : List Nat} {b : Nat} (h : Nl w v l) (hc : ExtB b w w') (hb : l ≠ [] → vblk v ≠ b) : Nl w' v l :=
  ⟨h.sl.extB hc (fun hne => hb (by rintro rfl; exact hne rfl)), h.d⟩
theorem No.extB {B b : Nat} {e : TypeId} {w w' : World} {v : Value} {l : List Nat} (h : No B e w v l) (hc : ExtB b w w') (hb : vblk v ≠ b) : No B e w' v l := ⟨h.own.extB hc hb, h.d⟩

/-- What a call that writes into block b makes. -/
def RetB (b : Nat) (w : World) (Φ : Value → World → Prop) (e : Ending) (w' : World) : Prop := ∃ v, e = .returned v ∧ ExtB b w w' ∧ Φ v w'

/-- The part of a slice from l up to h. -/
def slSub : Value → Nat → Nat → Value
  | .slice a _ c, l, h => .slice (if c = l then a else a.map (·.add l)) (h - l) (c - l)
  | v, _, _ => v
theorem add_add (a : Addr) (l i : Nat) : (a.add l).add i = a.add (l + i) := by
  unfold Addr.add
  by_cases h1 : l = 0
  · subst h1; simp
  · by_cases h2 : i = 0
    · subst h2; simp [h1]
    · simp [h1, h2]; omega
theorem SlV.sub {w : World} {v : Value} {vs : List Value} (h : SlV w v vs) {l m : Nat} (hl : l ≤ m) (hm : m ≤ vs.length) : SlV w (slSub v l m) ((vs.take m).drop l) := by
  obtain ⟨a, cap, rfl, h2, h3, h4, h5⟩ := h
  refine ⟨if cap = l then a else a.map (·.add l), cap - l, by simp [slSub, Nat.min_eq_left hm], by simp; omega, by omega, fun ha => ?_, fun i u hu => ?_⟩
  · by_cases hc : cap = l
    · omega
    · rw [if_neg hc] at ha
      have := h4 (by simpa using ha)
      omega
  · rw [List.getElem?_drop, List.getElem?_take] at hu
    split at hu
    · rename_i hlt
      obtain ⟨x, rfl, hx⟩ := h5 (l + i) u hu
      refine ⟨x.add l, ?_, by rw [add_add]; exact hx⟩
      rw [if_neg (by omega)]; rfl
    · cases hu
theorem Nl.sub {w : World} {v : Value} {d : List Nat} (h : Nl w v d) {l m : Nat} (hl : l ≤ m) (hm : m ≤ d.length) : Nl w (slSub v l m) ((d.take m).drop l) :=
  ⟨by have := h.sl.sub hl (m := m) (by simpa using hm); rwa [← List.map_take, ← List.map_drop] at this, (h.d.take m).drop l⟩
theorem slAt_sub {w : World} {v : Value} {vs : List Value} (h : SlV w v vs) {l m j : Nat} (hm : m ≤ vs.length) (hj : l + j < m) : slAt (slSub v l m) j = slAt v (l + j) := by
  obtain ⟨a, cap, rfl, h2, h3, h4, h5⟩ := h
  have hlt : l + j < vs.length := by omega
  obtain ⟨x, rfl, hx⟩ := h5 (l + j) vs[l + j] (by simp [hlt])
  have hc : ¬ cap = l := by omega
  simp [slSub, hc, slAt, add_add]
theorem vblk_sub {w : World} {v : Value} {vs : List Value} (h : SlV w v vs) (l m : Nat) : vblk (slSub v l m) = vblk v := by
  obtain ⟨a, cap, rfl, h2, h3, h4, h5⟩ := h
  cases a with
  | none => simp [slSub, vblk]
  | some x =>
    by_cases hc : cap = l
    · simp [slSub, hc, vblk]
    · have : (x.add l).block = x.block := by unfold Addr.add; split <;> rfl
      simp [slSub, hc, vblk, this]

section
variable {P : Program} {n : Nat} {K : Rho → World → Prop} {ρ : Rho} {w : World} {ops rest : List Oper}
variable {ty : TypeId} {pos : String} {after : Array Edge} {g : Option (Nat × Bool)} {d : Nat} {t e : TypeId}
theorem O_callB {f : FuncId} {args : List Operand} {at_ : Array TypeId} {vs : List Value} {Φ : Value → World → Prop} {b : Nat} (hE : Enters P f) (hg : gd ops ρ g = some true) (hd : Nat.blt d n = true) (ha : evs ρ args = some vs)
    (hc : Calls P f vs.toArray w (RetB b w Φ)) (h : ∀ v w', ExtB b w w' → Φ v w' → WL P n ops rest K ((d, v) :: ρ) w') :
    WL P n ops (⟨some d, .call { callee := .value (.func f), args := args.toArray, argTypes := at_ }, ty, pos, after, g⟩ :: rest) K ρ w :=
  O_callR hE hg hd ha hc fun e w' ⟨v, he, hx, hv⟩ => ⟨v, he, h v w' hx hv⟩
/-- 'v[l:m]'. -/
theorem O_slice {x y z : Operand} {v : Value} {vs : List Value} {k k' : IntKind} {i i' : Int} {inf : TypeInfo} (hT : P.underlying t = some (.slice e)) (hi : P.info? e = some inf) (hsz : inf.size = 1) (hg : gd ops ρ g = some true) (hd : Nat.blt d n = true)
    (hx : ev ρ x = some v) (hy : ev ρ y = some (.int k i)) (hz : ev ρ z = some (.int k' i')) (hs : SlV w v vs) (l m : Nat) (hl : i = (l : Int)) (hm : i' = (m : Int)) (hlm : l ≤ m) (hle : m ≤ vs.length)
    (h : WL P n ops rest K ((d, slSub v l m) :: ρ) w) :
    WL P n ops (⟨some d, .slice t x (some y) (some z) none, ty, pos, after, g⟩ :: rest) K ρ w := by
  obtain ⟨a, cap, rfl, h2, h3, h4, h5⟩ := hs
  subst hl; subst hm
  refine WL_val rfl hg hd (fun c hc => ?_) h
  have hb : (0 : Int) ≤ (m : Int) ∧ (m : Int) ≤ (cap : Int) := by omega
  have hb2 : (0 : Int) ≤ (l : Int) ∧ (l : Int) ≤ (m : Int) := by omega
  simp only [execOp, hc.eval hx, hc.eval hy, hc.eval hz, Option.map_some, Option.map_none, Instr.sliceAt, Instr.slice, Instr.sliceBounds, Instr.sliceBound, asIntOf, Sem.run_bind, run_underlying hT, Result.andThen_ok, Sem.run_pure, hb, if_true, sizeOf, typeInfo, Int.toNat_natCast]
  simp [hi, hsz, slSub, hb, hb2]
  intro h9; omega
theorem N_slice {x y z : Operand} {v : Value} {dl : List Nat} {k k' : IntKind} {i i' : Int} {zv : Value} {b : Nat} (T : ElT P t e zv b) (hg : gd ops ρ g = some true) (hd : Nat.blt d n = true)
    (hx : ev ρ x = some v) (hy : ev ρ y = some (.int k i)) (hz : ev ρ z = some (.int k' i')) (hs : Nl w v dl) (l m : Nat) (hl : i = (l : Int)) (hm : i' = (m : Int)) (hlm : l ≤ m) (hle : m ≤ dl.length)
    (h : WL P n ops rest K ((d, slSub v l m) :: ρ) w) :
    WL P n ops (⟨some d, .slice t x (some y) (some z) none, ty, pos, after, g⟩ :: rest) K ρ w := by
  obtain ⟨inf, h1, h2, _⟩ := T.info
  exact O_slice T.sl h1 h2 hg hd hx hy hz hs.sl l m hl hm hlm (by simpa using hle) h
/-- An element of a part: the pointer leads into the whole row. -/
theorem N_indexV {x ix : Operand} {v : Value} {dl : List Nat} {k : IntKind} {i : Int} {zv : Value} {b : Nat} (T : ElT P t e zv b) (l m : Nat)
    (hg : gd ops ρ g = some true) (hd : Nat.blt d n = true) (hx : ev ρ x = some (slSub v l m)) (hix : ev ρ ix = some (.int k i)) (hs : Nl w v dl) (hlm : l ≤ m) (hm : m ≤ dl.length) (j : Nat) (hj : i = (j : Int)) (hlt : l + j < m)
    (h : WL P n ops rest K ((d, .pointer (some (slAt v (l + j)))) :: ρ) w) :
    WL P n ops (⟨some d, .indexAddr t x ix, ty, pos, after, g⟩ :: rest) K ρ w := by
  refine N_index T hg hd hx hix (hs.sub hlm hm) j hj (by simp; omega) ?_
  rw [slAt_sub hs.sl (by simpa using hm) hlt]; exact h
end
theorem grown_extB {w w' : World} {v : Value} (h : w.grownBy w' v.ownBlock) : ExtB (vblk v) w w' := by
  refine ⟨h.os, h.tape, h.output, h.size, fun k hk hne => h.block k hk ?_⟩
  intro e
  unfold Value.ownBlock at e
  split at e
  · rename_i a l c
    simp at e
    exact hne (by first | exact e | exact e.symm)
  · cases e
/-! 'append' to a row without room: nothing that was there turns. -/
theorem run_append_zero {P : Program} {w : World} {t ty e : TypeId} {inf : TypeInfo} {a : Addr} {b : Option Addr} {n c : Nat} (hT : P.underlying t = some (.slice e)) (hi : P.info? e = some inf) (hn : 0 < n) (hbm : n * inf.bytes ≤ 281474976710656) (hby : inf.bytes ≠ 0) :
    (Builtin.append_ #[t, t] ty #[.slice (some a) 0 0, .slice b n c]).run P w = (Builtin.append_ #[t, t] ty #[.slice none 0 0, .slice b n c]).run P w := by
  have hl : ∀ w, (Builtin.firstCells inf.size 0 (.slice (some a) 0 0)).run P w = .ok #[] w := by intro w; simp [Builtin.firstCells, loadCells, loadCellsFrom]
  have hl2 : ∀ w, (Builtin.firstCells inf.size 0 (.slice none 0 0)).run P w = .ok #[] w := by intro w; simp [Builtin.firstCells]
  have hb2 : ¬ (281474976710656 < Builtin.nextslicecap n 0 * inf.bytes) := by
    have : Builtin.nextslicecap n 0 = n := by unfold Builtin.nextslicecap; rw [if_pos (by omega)]
    rw [this]; omega
  have hn2 : ¬ n = 0 := by omega
  simp [Builtin.append_, run_underlying hT, sizeOf, typeInfo, hi, Builtin.lenOf, hn2, hby, hb2, hl, hl2]
section
variable {P : Program} {n : Nat} {K : Rho → World → Prop} {ρ : Rho} {w : World} {ops rest : List Oper}
variable {ty : TypeId} {pos : String} {after : Array Edge} {g : Option (Nat × Bool)} {d : Nat} {t e : TypeId}
theorem O_append0 {x y : Operand} {B : Nat} {v v2 : Value} {vs2 : List Value} {z : Value} {bytes : Nat} {inf : TypeInfo} (hT : P.underlying t = some (.slice e)) (hi : P.info? e = some inf) (hz : inf.zero = some z) (hzc : z.cells.size = 1) (hsz : inf.size = 1) (hby : inf.bytes = bytes) (hby0 : bytes ≠ 0)
    (hg : gd ops ρ g = some true) (hd : Nat.blt d n = true) (hx : ev ρ x = some v) (hy : ev ρ y = some v2) (ho : Own B e w v []) (hv0 : ∃ a, v = .slice a 0 0) (h2 : SlV w v2 vs2) (h1 : ∀ u ∈ vs2, u.oneCell' = true)
    (hm : vs2.length ≤ 1073741824) (hbm : bytes ≤ 64) (hB : B ≤ w.heap.size)
    (h : ∀ v' w', Own B e w' v' vs2 → Ext w w' → WL P n ops rest K ((d, v') :: ρ) w') :
    WL P n ops (⟨some d, .call { callee := .builtin .append, args := #[x, y], argTypes := #[t, t] }, ty, pos, after, g⟩ :: rest) K ρ w := by
  obtain ⟨a, cap, rfl, hle, hcm, hnone, hcells⟩ := h2
  obtain ⟨a0, rfl⟩ := hv0
  have hb1 : vs2.length * bytes ≤ 1073741824 * 64 := Nat.mul_le_mul hm hbm
  rcases Nat.eq_zero_or_pos vs2.length with h0 | h0
  · have hnil : vs2 = [] := List.eq_nil_of_length_eq_zero h0
    subst hnil
    have hr : (Builtin.append_ #[t, t] ty #[.slice a0 0 0, .slice a 0 cap]).run P w = .ok (.slice a0 0 0) w := by
      cases a0 <;> cases a <;> simp [Builtin.append_, run_underlying hT, sizeOf, typeInfo, hi, Builtin.lenOf, Builtin.firstCells, storeCells, loadCells, loadCellsFrom]
    exact WL_val rfl hg hd (fun c hc => by simp [execOp, resolve, invoke, builtin, hc.eval hx, hc.eval hy, hr]) (h _ _ ho (Ext.refl _))
  · have hrun : (Builtin.append_ #[t, t] ty #[.slice a0 0 0, .slice a vs2.length cap]).run P w = (Builtin.append_ #[t, t] ty #[.slice none 0 0, .slice a vs2.length cap]).run P w := by
      cases a0 with
      | none => rfl
      | some a0 => exact run_append_zero hT hi h0 (by rw [hby]; omega) (by rw [hby]; exact hby0)
    cases a with
    | none => have := hnone rfl; omega
    | some ad =>
      obtain ⟨v', w', h1', h2', h3', _⟩ := run_append_own (P := P) w B t ty e inf z 1 bytes hT hi hz hsz hby hzc (by omega) (.slice none 0 0) 0 [] (by simpa [Own] using Own.nil B e w) ad vs2.length cap vs2 (by simp)
        (fun j u hu => by obtain ⟨x, hx, hc⟩ := hcells j u hu; cases hx; exact hc) h1 (by simp only [maxLen]; omega) (by rw [Nat.zero_add]; omega) hB
      rw [h1'] at hrun
      refine WL_val rfl hg hd (fun c hc => by simp [execOp, resolve, invoke, builtin, hc.eval hx, hc.eval hy, hrun]) (h v' w' (by simpa [Own] using h2') ?_)
      exact grown_ext h3' (Ext.refl _) (fun k hk => by simp [Value.ownBlock] at hk)
/-- An own empty row without room. -/
def NoZ (E : TypeId) : Nat → Nat → Value → World → Prop := fun a _ v w => No a E w v [] ∧ ∃ x, v = .slice x 0 0
theorem NoZ.mono {E : TypeId} : (Kn.rel (NoZ E)).Mono := fun _ _ _ _ _ he h => ⟨h.1.ext he, h.2⟩
/-- An own row, from block B on. -/
def NoB (B : Nat) (E : TypeId) (l : List Nat) : Nat → Nat → Value → World → Prop := fun _ _ v w => No B E w v l
theorem NoB.mono {B : Nat} {E : TypeId} {l : List Nat} : (Kn.rel (NoB B E l)).Mono := fun _ _ _ _ _ he h => No.ext h he
theorem N_append0 {x y : Operand} {B : Nat} {v v2 : Value} {l2 : List Nat} {z : Value} {bytes : Nat} (T : ElT P t e z bytes) (hzc : z.cells.size = 1) (hbm : bytes ≤ 64) (hby0 : bytes ≠ 0) (hg : gd ops ρ g = some true) (hd : Nat.blt d n = true) (hx : ev ρ x = some v) (hy : ev ρ y = some v2)
    (ho : No B e w v []) (hv0 : ∃ a, v = .slice a 0 0) (h2 : Nl w v2 l2) (hm : l2.length ≤ 1073741824) (hB : B ≤ w.heap.size)
    (h : ∀ v' w', No B e w' v' l2 → Ext w w' → WL P n ops rest K ((d, v') :: ρ) w') :
    WL P n ops (⟨some d, .call { callee := .builtin .append, args := #[x, y], argTypes := #[t, t] }, ty, pos, after, g⟩ :: rest) K ρ w := by
  obtain ⟨inf, h1, h2', h3, h4⟩ := T.info
  exact O_append0 T.sl h1 h3 hzc h2' h4 hby0 hg hd hx hy ho.own hv0 h2.sl (fun u hu => by obtain ⟨q, _, rfl⟩ := List.mem_map.1 hu; rfl) (by simpa using hm) hbm hB (fun v' w' ho' he => h v' w' ⟨ho', h2.d⟩ he)
theorem N_litZ {z : Value} {b : Nat} (T : ElT P t e z b) (hg : gd ops ρ g = some true) (hd : Nat.blt d n = true)
    (h : ∀ v w', No w.heap.size e w' v [] → (∃ a, v = .slice a 0 0) → Ext w w' → WL P n ops rest K ((d, v) :: ρ) w') :
    WL P n ops (⟨some d, .buildSlice t 0 #[], ty, pos, after, g⟩ :: rest) K ρ w := by
  obtain ⟨inf, h1, h2, h3, h4⟩ := T.info
  refine WL_val rfl hg hd (v := .slice (some ⟨w.heap.size, 0, none⟩) 0 0) (w' := w.alloc (.cells #[] e)) (fun c hc => ?_) (h _ _ ⟨⟨rfl, .inr ⟨w.heap.size, 0, #[], rfl, Nat.le_refl _, heap_alloc_new w _, by simp, by simp, by simp, by simp⟩⟩, D.nil⟩ ⟨_, rfl⟩ (Ext.alloc w _))
  simp [execOp, Instr.buildSlice, run_underlying T.sl, sizeOf, typeInfo, h1, h2, Instr.fill, newRow, Array.range_zero']
/-- An operation whose guard was passed over itself. -/
theorem O_skipU {op : Op} {j t : Nat} {want : Bool} (hj : (ops[j]?).bind (·.dst) = some t) (hl : look ρ t = some undef) (hd : Nat.blt d n = true) (h : WL P n ops rest K ((d, undef) :: ρ) w) :
    WL P n ops (⟨some d, op, ty, pos, after, some (j, want)⟩ :: rest) K ρ w := by
  intro a ha Q hQ
  unfold wpList
  have hw : Region.wanted ⟨some d, op, ty, pos, after, some (j, want)⟩ (yielded ops.toArray a.tmps) = false := by
    have hv := ha.at_ t undef hl
    simp [Region.wanted, yielded, hj, hv, undef]
  rw [if_neg (by rw [hw]; simp)]
  exact h _ (ha.put hd undef) Q hQ
end
/-- A pointer to a cell with this value. -/
def PtR (u : Value) : Nat → Nat → Value → World → Prop := fun _ _ v w => ∃ p, v = .pointer (some p) ∧ w.cell? p = some u
theorem PtR.mono {u : Value} : (Kn.rel (PtR u)).Mono := fun _ _ _ _ _ he ⟨p, h1, h2⟩ => ⟨p, h1, he.cell h2⟩
end Go.Proofs.Ytoccimigjjndpaa

set_option linter.unusedVariables false
set_option linter.unusedSimpArgs false
namespace Go.Proofs.Ytoccimigjjndpaa
open Go Go.RowKit

/-- Block g holds these cells. -/
def Bk (w : World) (g : Nat) (t : TypeId) (cs : List Value) : Prop := w.heap[g]? = some (.cells cs.toArray t (0, 0))
section
variable {w w' : World} {g b : Nat} {t : TypeId} {cs : List Value}
theorem Bk.lt (h : Bk w g t cs) : g < w.heap.size := by
  rcases Nat.lt_or_ge g w.heap.size with k | k
  · exact k
  · unfold Bk at h; simp [Array.getElem?_eq_none k] at h
theorem Bk.ext (h : Bk w g t cs) (he : Ext w w') : Bk w' g t cs := he.heap h
theorem Bk.chg (h : Bk w g t cs) (hc : Chg b w w') (hne : g ≠ b) : Bk w' g t cs := (hc.block g hne).trans h
theorem Bk.extB (h : Bk w g t cs) (hc : ExtB b w w') (hne : g ≠ b) : Bk w' g t cs := (hc.block g h.lt hne).trans h
theorem Bk.cell (h : Bk w g t cs) {i : Nat} {u : Value} (hu : cs[i]? = some u) : w.cell? ⟨g, i, none⟩ = some u := by
  rw [cell_of_row w g i cs.toArray t (0, 0) h]; simpa using hu
end
/-- What is known of a struct type: its size, its zero. -/
structure StT (P : Program) (t : TypeId) (n : Nat) (zs : List Value) : Prop where
  st : ∃ fs, P.underlying t = some (.struct fs)
  info : ∃ i, P.info? t = some i ∧ i.size = n ∧ i.zero = some (.agg zs.toArray)
def stB (P : Program) (t : TypeId) : Option (Nat × Option Value) :=
  match P.underlying t with
  | some (.struct _) => (P.info? t).map fun i => (i.size, i.zero)
  | _ => none
theorem StT.mk' {P : Program} {t : TypeId} {n : Nat} {zs : List Value} (h : stB P t = some (n, some (.agg zs.toArray))) : StT P t n zs := by
  unfold stB at h
  split at h
  · rename_i fs hfs
    refine ⟨⟨fs, hfs⟩, ?_⟩
    cases hi : P.info? t with
    | none => rw [hi] at h; cases h
    | some i =>
      rw [hi] at h
      simp only [Option.map_some, Option.some.injEq, Prod.mk.injEq] at h
      exact ⟨i, rfl, h.1, h.2⟩
  · cases h
/-- .. its field f lies at this place. -/
def FdT (P : Program) (t : TypeId) (f off : Nat) : Prop := ∃ fs fd i, P.underlying t = some (.struct fs) ∧ fs[f]? = some fd ∧ fd.offset = off ∧ P.info? fd.type = some i ∧ i.size ≠ 0
def fdB (P : Program) (t : TypeId) (f : Nat) : Option (Nat × Bool) :=
  match P.underlying t with
  | some (.struct fs) => match fs[f]? with
    | some fd => (P.info? fd.type).map fun i => (fd.offset, Nat.beq i.size 0)
    | none => none
  | _ => none
theorem FdT.mk' {P : Program} {t : TypeId} {f off : Nat} (h : fdB P t f = some (off, false)) : FdT P t f off := by
  unfold fdB at h
  split at h
  · rename_i fs hfs
    split at h
    · rename_i fd hfd
      cases hi : P.info? fd.type with
      | none => rw [hi] at h; cases h
      | some i =>
        rw [hi] at h
        simp only [Option.map_some, Option.some.injEq, Prod.mk.injEq] at h
        exact ⟨fs, fd, i, hfs, hfd, h.1, hi, fun e => by rw [e] at h; simp at h⟩
    · cases h
  · cases h
/-- .. and the places of its fields, for building one. -/
structure BdT (P : Program) (t : TypeId) (zs : List Value) (places : List (Nat × Nat)) : Prop where
  ok : ∃ i fs, P.info? t = some i ∧ P.underlying t = some (.struct fs) ∧ i.zero = some (.agg zs.toArray) ∧ fs.toList.mapM (fun f => (P.info? f.type).map fun i => (f.offset, i.size)) = some places
def bdB (P : Program) (t : TypeId) : Option (Option Value × Option (List (Nat × Nat))) :=
  match P.info? t, P.underlying t with
  | some i, some (.struct fs) => some (i.zero, fs.toList.mapM (fun f => (P.info? f.type).map fun i => (f.offset, i.size)))
  | _, _ => none
theorem BdT.mk' {P : Program} {t : TypeId} {zs : List Value} {places : List (Nat × Nat)} (h : bdB P t = some (some (.agg zs.toArray), some places)) : BdT P t zs places := by
  unfold bdB at h
  split at h
  · rename_i i fs hi hfs
    simp only [Option.some.injEq, Prod.mk.injEq] at h
    exact ⟨i, fs, hi, hfs, h.1, h.2⟩
  · cases h
def fillL (places : List (Nat × Nat)) : List Value → List (Nat × List Value) → Option (List Value)
  | zs, [] => some zs
  | zs, (i, vs) :: r => match places[i]? with
    | some (off, sz) => match Nat.beq vs.length sz, Nat.ble (off + vs.length) zs.length with
      | true, true => fillL places (zs.take off ++ (vs ++ zs.drop (off + vs.length))) r
      | _, _ => none
    | none => none
theorem fold_set (off : Nat) : ∀ (vs : List Value) (k : Nat) (cells : Array Value), off + k + vs.length ≤ cells.size →
    (vs.zipIdx k).foldl (fun cs (x : Value × Nat) => cs.setIfInBounds (off + x.2) x.1) cells = (cells.toList.take (off + k) ++ (vs ++ cells.toList.drop (off + k + vs.length))).toArray
  | [], k, cells, h => by simp
  | v :: vs, k, cells, h => by
    simp only [List.length_cons] at h
    rw [List.zipIdx_cons, List.foldl_cons, fold_set off vs (k + 1) (cells.setIfInBounds (off + k) v) (by simp; omega)]
    congr 1
    simp only [Array.toList_setIfInBounds, List.length_cons]
    rw [show off + (k + 1) = off + k + 1 from by omega, List.take_set, List.take_succ_eq_append_getElem (by simp; omega), List.drop_set, if_pos (by omega)]
    rw [List.set_append_right _ _ (by simp; omega)]
    simp [Nat.min_eq_left (show off + k ≤ cells.size by omega)]
    omega
theorem fill_fillL {places : List (Nat × Nat)} : ∀ (parts : List (Nat × Value)) (css : List (List Value)) (zs cs : List Value), parts.map (fun p => p.2.cells) = css.map List.toArray →
    fillL places zs ((parts.map (·.1)).zip css) = some cs → Instr.fill (places.toArray[·]?) zs.toArray parts = some cs.toArray
  | [], css, zs, cs, hc, h => by
    simp [fillL] at h; subst h; rfl
  | (i, v) :: parts, [], zs, cs, hc, h => by simp at hc
  | (i, v) :: parts, vs :: css, zs, cs, hc, h => by
    simp only [List.map_cons, List.cons.injEq] at hc
    obtain ⟨hv, hc⟩ := hc
    simp only [List.map_cons, List.zip_cons_cons, fillL] at h
    split at h
    · rename_i off sz hpl
      split at h
      · rename_i h1 h2
        have h1' : vs.length = sz := by simpa using h1
        have h2' : off + vs.length ≤ zs.length := by simpa using h2
        unfold Instr.fill
        have hpl' : places.toArray[i]? = some (off, sz) := by simpa using hpl
        simp only [hpl', hv]
        have hsz : ¬ (decide (vs.toArray.size ≠ sz) || decide (off + vs.toArray.size > zs.toArray.size)) = true := by simp; omega
        rw [if_neg hsz]
        have hf := fold_set off vs 0 zs.toArray (by simpa using h2')
        have hz : vs.toArray.zipIdx.foldl (fun cs (x : Value × Nat) => match x with | (c, j) => cs.setIfInBounds (off + j) c) zs.toArray = (zs.take off ++ (vs ++ zs.drop (off + vs.length))).toArray := by
          rw [← Array.foldl_toList]
          simpa using hf
        rw [hz]
        exact fill_fillL parts css _ cs hc h
      · cases h
    · cases h
theorem BdT.built {P : Program} {t : TypeId} {zs cs : List Value} {places : List (Nat × Nat)} (B : BdT P t zs places) {parts : List (Nat × Value)} {css : List (List Value)} (hc : parts.map (fun p => p.2.cells) = css.map List.toArray)
    (h : fillL places zs ((parts.map (·.1)).zip css) = some cs) : P.built t parts = some cs.toArray := by
  obtain ⟨i, fs, h1, h2, h3, h4⟩ := B.ok
  unfold Program.built
  simp only [h1, h2, h3, h4]
  exact fill_fillL parts css zs cs hc h

section
variable {P : Program} {n : Nat} {K : Rho → World → Prop} {E : Exit → Rho → World → Prop} {ρ : Rho} {w : World} {ops rest : List Oper}
variable {ty : TypeId} {pos : String} {after : Array Edge} {gd_ : Option (Nat × Bool)} {d : Nat} {t : TypeId}
theorem O_box {x : Operand} {v : Value} (cs : List Value) (hg : gd ops ρ gd_ = some true) (hd : Nat.blt d n = true) (hx : ev ρ x = some v) (hv : v.cells = cs.toArray)
    (h : ∀ g w', Bk w' g t cs → Ext w w' → w.heap.size ≤ g → g < w'.heap.size → WL P n ops rest K ((d, .pointer (some ⟨g, 0, none⟩)) :: ρ) w') :
    WL P n ops (⟨some d, .box t x, ty, pos, after, gd_⟩ :: rest) K ρ w := by
  refine WL_val rfl hg hd (v := .pointer (some ⟨w.heap.size, 0, none⟩)) (w' := w.alloc (.cells cs.toArray t)) (fun c hc => ?_)
    (h w.heap.size _ (heap_alloc_new w _) (Ext.alloc w _) (Nat.le_refl _) (by simp))
  simp [execOp, hc.eval hx, Instr.box, newVar, newRow, hv]
theorem O_alloc {z : Nat} {zs : List Value} (S : StT P t z zs) (hg : gd ops ρ gd_ = some true) (hd : Nat.blt d n = true)
    (h : ∀ g w', Bk w' g t zs → Ext w w' → w.heap.size ≤ g → g < w'.heap.size → WL P n ops rest K ((d, .pointer (some ⟨g, 0, none⟩)) :: ρ) w') :
    WL P n ops (⟨some d, .alloc t, ty, pos, after, gd_⟩ :: rest) K ρ w := by
  obtain ⟨i, h1, h2, h3⟩ := S.info
  refine WL_val rfl hg hd (v := .pointer (some ⟨w.heap.size, 0, none⟩)) (w' := w.alloc (.cells zs.toArray t)) (fun c hc => ?_)
    (h w.heap.size _ (heap_alloc_new w _) (Ext.alloc w _) (Nat.le_refl _) (by simp))
  simp [execOp, Instr.alloc, zeroValue, typeInfo, h1, h3, newVar, newRow, Value.cells]
theorem O_field {x : Operand} {f o off : Nat} {g : Nat} (F : FdT P t f off) (hg : gd ops ρ gd_ = some true) (hd : Nat.blt d n = true) (hx : ev ρ x = some (.pointer (some ⟨g, o, none⟩)))
    (h : WL P n ops rest K ((d, .pointer (some ⟨g, o + off, none⟩)) :: ρ) w) :
    WL P n ops (⟨some d, .fieldAddr t x f, ty, pos, after, gd_⟩ :: rest) K ρ w := by
  obtain ⟨fs, fd, i, h1, h2, h3, h4, h5⟩ := F
  refine WL_val rfl hg hd (fun c hc => ?_) h
  have ha : (⟨g, o, none⟩ : Addr).add off = ⟨g, o + off, none⟩ := by unfold Addr.add; split <;> simp_all
  simp [execOp, hc.eval hx, Instr.fieldAt, run_underlying h1, h2, Instr.sureAddr, fieldPlace, sizeOf, typeInfo, h4, h5, h3, ha]
/-- A load of one cell. -/
theorem O_loadC {x : Operand} {g i : Nat} {tb : TypeId} {cs : List Value} {u : Value} {ds : TypeDesc} (hT : P.underlying t = some ds) (hna : (match ds with | .struct _ | .array _ _ => false | _ => true) = true) (hg : gd ops ρ gd_ = some true) (hd : Nat.blt d n = true)
    (hx : ev ρ x = some (.pointer (some ⟨g, i, none⟩))) (hb : Bk w g tb cs) (hu : cs[i]? = some u) (h : WL P n ops rest K ((d, u) :: ρ) w) :
    WL P n ops (⟨some d, .load t x, ty, pos, after, gd_⟩ :: rest) K ρ w := O_load hT hna hg hd hx (hb.cell hu) h
theorem run_loadVar_bk {g o z : Nat} {tb : TypeId} {cs zs vs : List Value} (S : StT P t z zs) (hb : Bk w g tb cs) (hvs : (cs.drop o).take z = vs) (hl : Nat.beq vs.length z = true) :
    (loadVar t ⟨g, o, none⟩).run P w = .ok (.agg vs.toArray) w := by
  obtain ⟨fs, hfs⟩ := S.st
  obtain ⟨i, h1, h2, h3⟩ := S.info
  have hl' : vs.length = z := by simpa using hl
  have hr : (loadCells ⟨g, o, none⟩ vs.length).run P w = .ok vs.toArray w := run_loadCells_list (P := P) w ⟨g, o, none⟩ vs (fun j v hv => by
    have ha : (⟨g, o, none⟩ : Addr).add j = ⟨g, o + j, none⟩ := by unfold Addr.add; split <;> simp_all
    rw [ha]
    refine hb.cell ?_
    subst hvs
    rw [List.getElem?_take] at hv
    split at hv
    · rwa [List.getElem?_drop] at hv
    · cases hv)
  rw [hl'] at hr
  simp [loadVar, isAgg, run_underlying hfs, sizeOf, typeInfo, h1, h2, hr]
/-- A load of a whole struct. -/
theorem O_loadA {x : Operand} {g o z : Nat} {tb : TypeId} {cs zs vs : List Value} (S : StT P t z zs) (hg : gd ops ρ gd_ = some true) (hd : Nat.blt d n = true)
    (hx : ev ρ x = some (.pointer (some ⟨g, o, none⟩))) (hb : Bk w g tb cs) (hvs : (cs.drop o).take z = vs) (hl : Nat.beq vs.length z = true) (h : WL P n ops rest K ((d, .agg vs.toArray) :: ρ) w) :
    WL P n ops (⟨some d, .load t x, ty, pos, after, gd_⟩ :: rest) K ρ w :=
  WL_val rfl hg hd (fun c hc => by simp [execOp, hc.eval hx, Instr.loadAt, Instr.sureAddr, run_loadVar_bk S hb hvs hl]) h
/-- A store of one cell. -/
theorem O_storeC {x y : Operand} {g i : Nat} {tb : TypeId} {cs cs' : List Value} {u : Value} (hi : (P.info? t).map (·.size) = some 1) (hg : gd ops ρ gd_ = some true)
    (hx : ev ρ x = some (.pointer (some ⟨g, i, none⟩))) (hy : ev ρ y = some u) (h1 : u.oneCell' = true) (hb : Bk w g tb cs) (hlt : Nat.blt i cs.length = true) (hcs : cs.set i u = cs')
    (h : ∀ w', Bk w' g tb cs' → Chg g w w' → WL P n ops rest K ρ w') :
    WL P n ops (⟨none, .store t x y, ty, pos, after, gd_⟩ :: rest) K ρ w := by
  have hlt' : i < cs.length := by simpa [Nat.blt_eq] using hlt
  cases hq : P.info? t with
  | none => rw [hq] at hi; cases hi
  | some inf =>
    rw [hq] at hi
    have hsz : inf.size = 1 := by simpa using hi
    refine O_store hq hsz hg hx hy h1 (hb.cell (u := cs[i]) (by simp [hlt'])) (frozen_of_row w g i cs.toArray tb hb) (h _ ?_ (Chg.setCell w ⟨g, i, none⟩ u))
    have := heap_setCell_same w g i cs.toArray tb u hb
    unfold Bk
    rw [this, ← hcs]; simp
/-- A store of a whole struct into a part of a block. -/
theorem O_storeA {x y : Operand} {g o z : Nat} {tb : TypeId} {cs zs vs cs' : List Value} (S : StT P t z zs) (hg : gd ops ρ gd_ = some true)
    (hx : ev ρ x = some (.pointer (some ⟨g, o, none⟩))) (hy : ev ρ y = some (.agg vs.toArray)) (hb : Bk w g tb cs) (hl : Nat.beq vs.length z = true) (hle : Nat.ble (o + vs.length) cs.length = true) (h1 : ∀ v ∈ vs, v.oneCell' = true)
    (hcs : cs.take o ++ (vs ++ cs.drop (o + vs.length)) = cs')
    (h : ∀ w', Bk w' g tb cs' → Chg g w w' → WL P n ops rest K ρ w') :
    WL P n ops (⟨none, .store t x y, ty, pos, after, gd_⟩ :: rest) K ρ w := by
  obtain ⟨i, h1', h2, h3⟩ := S.info
  have hl' : vs.length = z := by simpa using hl
  have hle' : o + vs.length ≤ cs.length := by simpa using hle
  have hr := run_storeCells_at (P := P) g o tb vs 0 cs.toArray w hb (by simpa using hle') h1
  refine WL_eff rfl hg (fun c hc => ?_) (h (w.setRow g (cs.take o ++ vs ++ cs.drop (o + vs.length)).toArray) ?_ (Chg.setRow w g _))
  · simp only [Nat.add_zero] at hr
    simp [execOp, hc.eval hx, hc.eval hy, Instr.storeAt, Instr.sureAddr, storeVar, Value.cells, sizeOf, typeInfo, h1', h2, hl', hr] at hr ⊢
  · unfold Bk
    rw [← hcs, ← List.append_assoc]
    exact setRow_heap w g cs.toArray _ tb _ hb
/-- A struct out of parts. -/
theorem O_build {zs cs : List Value} {places : List (Nat × Nat)} {parts : List (Nat × Operand)} {vs : List Value} {css : List (List Value)} (B : BdT P t zs places) (hg : gd ops ρ gd_ = some true) (hd : Nat.blt d n = true)
    (hp : evs ρ (parts.map (·.2)) = some vs) (hc : vs.map Value.cells = css.map List.toArray) (hf : fillL places zs ((parts.map (·.1)).zip css) = some cs)
    (h : WL P n ops rest K ((d, .agg cs.toArray) :: ρ) w) : WL P n ops (⟨some d, .build t parts.toArray, ty, pos, after, gd_⟩ :: rest) K ρ w := by
  refine WL_val rfl hg hd (fun c hcc => ?_) h
  have he := hcc.evals hp
  have hlen : vs.length = parts.length := by rw [← he]; simp
  have hm : (parts.toArray.map fun x => match x with | (i, x) => (i, c.eval x)) = (parts.map fun x => (x.1, c.eval x.2)).toArray := by simp
  have hb := B.built (parts := parts.map fun x => (x.1, c.eval x.2)) (css := css) (cs := cs) (by
    rw [List.map_map]
    have : (fun p : Nat × Value => p.2.cells) ∘ (fun x : Nat × Operand => (x.1, c.eval x.2)) = Value.cells ∘ (c.eval ∘ fun x : Nat × Operand => x.2) := rfl
    rw [this, ← List.map_map, ← List.map_map, he, hc]) (by
    rw [List.map_map]
    have : (fun p : Nat × Value => p.1) ∘ (fun x : Nat × Operand => (x.1, c.eval x.2)) = fun x => x.1 := rfl
    rw [this]; exact hf)
  have hr := run_build (P := P) w t (parts.map fun x => (x.1, c.eval x.2)).toArray cs.toArray (by simpa using hb)
  simp only [execOp, hm, Sem.run_bind, hr, Result.andThen_ok, Sem.run_pure]

/-! Results -/
def notAgg : TypeDesc → Bool
  | .struct _ | .array _ _ => false
  | _ => true
def resOne (tmps : Array Value) : ResultVar → Sem Value
  | .tmp t => pure (tmps.getD t undef)
  | .cell s t => do loadVar t (← asAddr (tmps.getD s undef))
inductive RV (P : Program) (ρ : Rho) (w : World) : List ResultVar → List Value → Prop
  | nil : RV P ρ w [] []
  | tmp {s : Tmp} {v : Value} {rs : List ResultVar} {vs : List Value} (h : look ρ s = some v) (hr : RV P ρ w rs vs) : RV P ρ w (.tmp s :: rs) (v :: vs)
  | cell {s : Tmp} {t tb : TypeId} {g z : Nat} {zs cs : List Value} {rs : List ResultVar} {vs : List Value} (h : look ρ s = some (.pointer (some ⟨g, 0, none⟩))) (S : StT P t z zs) (hb : Bk w g tb cs) (hl : Nat.beq cs.length z = true)
      (hr : RV P ρ w rs vs) : RV P ρ w (.cell s t :: rs) (.agg cs.toArray :: vs)
  | cell1 {s : Tmp} {t tb : TypeId} {g : Nat} {u : Value} {ds : TypeDesc} {rs : List ResultVar} {vs : List Value} (h : look ρ s = some (.pointer (some ⟨g, 0, none⟩))) (hT : P.underlying t = some ds) (hna : notAgg ds = true) (hb : Bk w g tb [u])
      (hr : RV P ρ w rs vs) : RV P ρ w (.cell s t :: rs) (u :: vs)
theorem RV.run {fit : Nat} {a : Act} (ha : Fits fit a ρ) {rs : List ResultVar} {vs : List Value} (h : RV P ρ w rs vs) :
    (rs.mapM (resOne a.tmps)).run P w = .ok vs w := by
  induction h with
  | nil => simp
  | tmp h hr ih =>
    have h1 := ha.at_ _ _ h
    simp [List.mapM_cons, resOne, h1, ih]
  | cell h S hb hl hr ih =>
    have h1 := ha.at_ _ _ h
    have h2 : _ := run_loadVar_bk (w := w) (o := 0) S hb (vs := _) (by rw [List.drop_zero]; exact List.take_of_length_le (by simp at hl; omega)) hl
    simp [List.mapM_cons, resOne, h1, asAddr, h2, ih]
  | cell1 h hT hna hb hr ih =>
    have h1 := ha.at_ _ _ h
    have h3 := hb.cell (i := 0) rfl
    rename_i s t tb g u ds rs vs
    have h2 : (loadVar t ⟨g, 0, none⟩).run P w = .ok u w := by
      cases ds <;> simp [notAgg] at hna <;> simp [loadVar, isAgg, run_underlying hT, load, Sem.run, h3]
    simp [List.mapM_cons, resOne, h1, asAddr, h2, ih]
def tup : List Value → Value
  | [v] => v
  | vs => .tuple vs.toArray
theorem retL {fn : Func} {R : Ending → World → Prop} {rs : List ResultVar} {vs : List Value} (hr : fn.results = rs.toArray) (hv : RV P ρ w rs vs) (h : R (.returned (tup vs)) w) : bodyE P fn n R ρ w := by
  intro a ha
  refine ⟨_, ?_, h⟩
  have h1 := hv.run ha
  unfold results
  rw [hr]
  have h2 : (rs.toArray.mapM (resOne a.tmps)).run P w = .ok vs.toArray w := by
    rw [List.mapM_toArray]
    simp [h1]
  refine (congrArg (fun m : Sem (Array Value) => Sem.run P (m >>= fun vs => pure (if h : vs.size = 1 then vs[0] else .tuple vs)) w)
    (show Array.mapM _ rs.toArray = rs.toArray.mapM (resOne a.tmps) from by congr 1)).trans ?_
  simp only [Sem.run_bind, h2, Result.andThen_ok, Sem.run_pure]
  congr 1
  match vs with
  | [] => rfl
  | [v] => rfl
  | v :: u :: r => simp [tup]
end
theorem cells_nil : ([] : List Value).map Value.cells = ([] : List (List Value)).map List.toArray := rfl
theorem cells_cons {v : Value} {l : List Value} {vs : List Value} {css : List (List Value)} (h : v.cells = l.toArray) (hr : vs.map Value.cells = css.map List.toArray) : (v :: vs).map Value.cells = (l :: css).map List.toArray := by
  simp only [List.map_cons, h, hr]
theorem one_nil : ∀ v ∈ ([] : List Value), v.oneCell' = true := by simp
theorem one_cons {v : Value} {vs : List Value} (h : v.oneCell' = true) (hr : ∀ u ∈ vs, u.oneCell' = true) : ∀ u ∈ v :: vs, u.oneCell' = true := by
  intro u hu
  rcases List.mem_cons.1 hu with rfl | hu
  · exact h
  · exact hr u hu
/-- A struct of two cells, the second an own row. -/
def AggR (E : TypeId) (c : Value) (l : List Nat) : Nat → Nat → Value → World → Prop := fun a b v w => ∃ q, v = .agg #[c, q] ∧ NoR E l a b q w
theorem AggR.mono {E : TypeId} {c : Value} {l : List Nat} : (Kn.rel (AggR E c l)).Mono := fun _ _ _ _ _ he ⟨q, h1, h2, h3⟩ => ⟨q, h1, h2.ext he, h3⟩
/-- A row of digits is no struct: a store into a struct leaves it. -/
theorem Own.chgBk {B g : Nat} {e t : TypeId} {w w' : World} {v : Value} {vs cs : List Value} (h : Own B e w v vs) (hb : Bk w g t cs) (hne : e ≠ t) (hc : Chg g w w') : Own B e w' v vs := by
  obtain ⟨h1, h2⟩ := h
  refine ⟨h1, ?_⟩
  rcases h2 with h2 | ⟨g', cap, cur, rfl, h4, hh, r⟩
  · exact .inl h2
  · refine .inr ⟨g', cap, cur, rfl, h4, (hc.block g' ?_).trans hh, r⟩
    intro e'
    subst e'
    unfold Bk at hb
    rw [hb] at hh
    simp at hh
    exact hne hh.2.symm
theorem No.chgBk {B g : Nat} {e t : TypeId} {w w' : World} {v : Value} {l : List Nat} {cs : List Value} (h : No B e w v l) (hb : Bk w g t cs) (hne : e ≠ t) (hc : Chg g w w') : No B e w' v l := ⟨h.own.chgBk hb hne hc, h.d⟩
/-! What is known of a value, by its shape: for regions that draw their order. -/
abbrev Pv := Value → World → Prop
def Pv.Mono (p : Pv) : Prop := ∀ v w w', Ext w w' → p v w → p v w'
def RelP (p : Pv) : Nat → Nat → Value → World → Prop := fun _ _ v w => p v w
theorem RelP.mono {p : Pv} (h : p.Mono) : (Kn.rel (RelP p)).Mono := fun _ _ v w w' he hp => h v w w' he hp
def pEq (x : Value) : Pv := fun v _ => v = x
theorem pEq_mono {x : Value} : (pEq x).Mono := fun _ _ _ _ h => h
def pNo (B : Nat) (E : TypeId) (l : List Nat) : Pv := fun v w => No B E w v l
theorem pNo_mono {B : Nat} {E : TypeId} {l : List Nat} : (pNo B E l).Mono := fun _ _ _ he h => No.ext h he
def pNl (l : List Nat) : Pv := fun v w => Nl w v l
theorem pNl_mono {l : List Nat} : (pNl l).Mono := fun _ _ _ he h => Nl.ext h he
def pAgg2 (p q : Pv) : Pv := fun v w => ∃ a b, v = .agg #[a, b] ∧ p a w ∧ q b w
theorem pAgg2_mono {p q : Pv} (hp : p.Mono) (hq : q.Mono) : (pAgg2 p q).Mono := fun _ _ _ he ⟨a, b, h, h1, h2⟩ => ⟨a, b, h, hp _ _ _ he h1, hq _ _ _ he h2⟩
def pAgg3 (p q r : Pv) : Pv := fun v w => ∃ a b c, v = .agg #[a, b, c] ∧ p a w ∧ q b w ∧ r c w
theorem pAgg3_mono {p q r : Pv} (hp : p.Mono) (hq : q.Mono) (hr : r.Mono) : (pAgg3 p q r).Mono := fun _ _ _ he ⟨a, b, c, h, h1, h2, h3⟩ => ⟨a, b, c, h, hp _ _ _ he h1, hq _ _ _ he h2, hr _ _ _ he h3⟩
def pTup2 (p q : Pv) : Pv := fun v w => ∃ a b, v = .tuple #[a, b] ∧ p a w ∧ q b w
theorem pTup2_mono {p q : Pv} (hp : p.Mono) (hq : q.Mono) : (pTup2 p q).Mono := fun _ _ _ he ⟨a, b, h, h1, h2⟩ => ⟨a, b, h, hp _ _ _ he h1, hq _ _ _ he h2⟩
def pTup3 (p q r : Pv) : Pv := fun v w => ∃ a b c, v = .tuple #[a, b, c] ∧ p a w ∧ q b w ∧ r c w
theorem pTup3_mono {p q r : Pv} (hp : p.Mono) (hq : q.Mono) (hr : r.Mono) : (pTup3 p q r).Mono := fun _ _ _ he ⟨a, b, c, h, h1, h2, h3⟩ => ⟨a, b, c, h, hp _ _ _ he h1, hq _ _ _ he h2, hr _ _ _ he h3⟩
/-- The parts of a value, each with what is known of it. -/
def AllP : List Pv → List Value → World → Prop
  | [], vs, _ => vs = []
  | p :: ps, vs, w => ∃ v r, vs = v :: r ∧ p v w ∧ AllP ps r w
theorem AllP.nil {w : World} : AllP [] [] w := rfl
theorem AllP.cons {p : Pv} {ps : List Pv} {v : Value} {r : List Value} {w : World} (h : p v w) (hr : AllP ps r w) : AllP (p :: ps) (v :: r) w := ⟨v, r, rfl, h, hr⟩
def PsM (ps : List Pv) : Prop := ∀ p ∈ ps, Pv.Mono p
theorem PsM.nil : PsM [] := by simp [PsM]
theorem PsM.cons {p : Pv} {ps : List Pv} (h : p.Mono) (hr : PsM ps) : PsM (p :: ps) := by
  intro q hq
  rcases List.mem_cons.1 hq with rfl | hq
  · exact h
  · exact hr q hq
theorem AllP.mono : ∀ {ps : List Pv} {vs : List Value}, PsM ps → ∀ w w', Ext w w' → AllP ps vs w → AllP ps vs w'
  | [], _, _, _, _, _, h => h
  | p :: ps, _, hm, w, w', he, ⟨v, r, h1, h2, h3⟩ => ⟨v, r, h1, hm p (by simp) _ _ _ he h2, AllP.mono (fun q hq => hm q (List.mem_cons_of_mem _ hq)) w w' he h3⟩
def pAgg (ps : List Pv) : Pv := fun v w => ∃ vs : List Value, v = .agg vs.toArray ∧ AllP ps vs w
theorem pAgg_mono {ps : List Pv} (h : PsM ps) : (pAgg ps).Mono := fun _ _ _ he ⟨vs, h1, h2⟩ => ⟨vs, h1, AllP.mono h _ _ he h2⟩
def pTup (ps : List Pv) : Pv := fun v w => ∃ vs : List Value, v = .tuple vs.toArray ∧ AllP ps vs w
theorem pTup_mono {ps : List Pv} (h : PsM ps) : (pTup ps).Mono := fun _ _ _ he ⟨vs, h1, h2⟩ => ⟨vs, h1, AllP.mono h _ _ he h2⟩
theorem ap_ne {a b c d g h : Nat} (p : d ≤ a ∨ b ≤ c) (h1 : a ≤ g) (h2 : g < b) (h3 : c ≤ h) (h4 : h < d) : g ≠ h := by omega
/-- A pointer to a block made by this very operation. -/
def BkR (T : TypeId) (cs : List Value) : Nat → Nat → Value → World → Prop := fun a b v w => ∃ g, v = .pointer (some ⟨g, 0, none⟩) ∧ a ≤ g ∧ g < b ∧ Bk w g T cs
theorem BkR.mono {T : TypeId} {cs : List Value} : (Kn.rel (BkR T cs)).Mono := fun _ _ _ _ _ he ⟨g, h1, h2, h3, h4⟩ => ⟨g, h1, h2, h3, h4.ext he⟩
end Go.Proofs.Ytoccimigjjndpaa

