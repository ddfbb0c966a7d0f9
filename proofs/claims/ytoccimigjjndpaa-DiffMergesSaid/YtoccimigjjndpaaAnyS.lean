/-
  Regions that draw their order, where stores into blocks of their own may float too. 
-/
import Derived.Test.YtoccimigjjndpaaBox
set_option linter.unusedVariables false
set_option linter.unusedSimpArgs false
namespace Go.Proofs.Ytoccimigjjndpaa
open Go Go.RowKit
/-- What is known of a temporary: its value, or a relation of the sizes of the heap ahead of and behind its operation, the value and the world. -/
inductive Ks where
  | val (x : Value)
  | rel (R : Nat → Nat → Value → World → Prop)
  | same (s : Nat)
  | st (g : Nat) (T : TypeId × Nat) (Q : World → Prop)
  | stv (s : Nat) (T : TypeId × Nat) (Q : Value → World → Prop)
/-- A relation that says: a pointer to a block made by this very operation. -/
def PtrIn (R : Nat → Nat → Value → World → Prop) : Prop := ∀ a b v w, R a b v w → ∃ g, v = .pointer (some ⟨g, 0, none⟩) ∧ a ≤ g ∧ g < b
/-- Blocks that may turn: some that are named, and new ones of some types. -/
structure SS where
  l : List (Nat × (TypeId × Nat))
  F : List (TypeId × Nat)
  B : Nat
instance : Membership (Nat × (TypeId × Nat)) SS := ⟨fun S p => p ∈ S.l ∨ (S.B ≤ p.1 ∧ p.2 ∈ S.F)⟩
theorem mem_SS {l : List (Nat × (TypeId × Nat))} {F : List (TypeId × Nat)} {B g : Nat} {T : TypeId × Nat} : (g, T) ∈ (⟨l, F, B⟩ : SS) ↔ ((g, T) ∈ l ∨ (B ≤ g ∧ T ∈ F)) := Iff.rfl
def Ks.holds : Ks → Nat → Nat → Value → World → Prop
  | .val x, _, _, v, _ => v = x
  | .rel R, a, b, v, w => R a b v w
  | .same _, _, _, _, _ => True
  | .st _ _ Q, _, _, _, w => Q w
  | .stv _ _ Q, _, _, v, w => Q v w
def Ks.isSt : Ks → Bool
  | .st _ _ _ => true
  | .stv _ _ _ => true
  | _ => false
/-- The temporary whose value it shares. -/
def Ks.src : Ks → Option Nat
  | .same s => some s
  | .stv s _ _ => some s
  | _ => none
/-- Its value is that of temporary s. -/
def Ks.linked : Ks → Rho → Value → Prop
  | .same s, ρ, v => look ρ s = some v
  | .stv s _ _, ρ, v => look ρ s = some v
  | _, _, _ => True
theorem Ks.linked_src {R : Ks} {ρ : Rho} {v : Value} (h : R.linked ρ v) {s : Nat} (hs : R.src = some s) : look ρ s = some v := by
  cases R <;> simp [Ks.src] at hs <;> (subst hs; exact h)
def keysS : List (Nat × Ks) → List Nat
  | [] => []
  | (t, _) :: r => t :: keysS r
def Ks.Fine : Ks → List Nat → List (Nat × Ks) → Prop
  | .same s, reads, done => mem s reads = true ∧ mem s (keysS done) = true
  | .stv s _ _, reads, done => (mem s reads = true ∧ mem s (keysS done) = true) ∧ ∃ R, (s, Ks.rel R) ∈ done ∧ PtrIn R
  | _, _, _ => True
theorem Ks.Fine.src {R : Ks} {reads : List Nat} {done : List (Nat × Ks)} (h : R.Fine reads done) {s : Nat} (hs : R.src = some s) : mem s reads = true ∧ mem s (keysS done) = true := by
  cases R <;> simp [Ks.src] at hs <;> subst hs
  · exact h
  · exact h.1
def AllS (B : Nat) (w : World) (C : Rho → Prop) : List (Nat × Ks) → List (Nat × Nat) → Rho → Prop
  | [], _, ρ => C ρ
  | (t, .val x) :: r, acc, ρ => AllS B w C r acc ((t, x) :: ρ)
  | (t, .rel R) :: r, acc, ρ => ∀ a b v, B ≤ a → a ≤ b → b ≤ w.heap.size → R a b v w → Apart a b acc → AllS B w C r ((a, b) :: acc) ((t, v) :: ρ)
  | (t, .same s) :: r, acc, ρ => match look ρ s with
    | some v => AllS B w C r acc ((t, v) :: ρ)
    | none => ∀ v, AllS B w C r acc ((t, v) :: ρ)
  | (_, .st _ _ Q) :: r, acc, ρ => Q w → AllS B w C r acc ρ
  | (_, .stv s _ Q) :: r, acc, ρ => match look ρ s with
    | some v => Q v w → AllS B w C r acc ρ
    | none => ∀ v, Q v w → AllS B w C r acc ρ
def relS (reads : List Nat) : List (Nat × Ks) → List (Nat × Ks)
  | [] => []
  | (t, R) :: r => match mem t reads with | true => (t, R) :: relS reads r | false => relS reads r

/-- Block g is a struct of a type, of so many cells. -/
def BkT (w : World) (g : Nat) (T : TypeId × Nat) : Prop := ∃ cs, Bk w g T.1 cs ∧ cs.length = T.2
/-- The world goes on; blocks of S may have turned. -/
structure ExtS (S : SS) (w w' : World) : Prop where
  os : w'.os = w.os
  tape : w'.tape = w.tape
  output : w'.output = w.output
  size : w.heap.size ≤ w'.heap.size
  block : ∀ k, k < w.heap.size → (∀ T, (k, T) ∉ S) → w'.heap[k]? = w.heap[k]?
  tag : ∀ g T, (g, T) ∈ S → BkT w g T → BkT w' g T
theorem ExtS.trans {S : SS} {w1 w2 w3 : World} (h : ExtS S w1 w2) (k : ExtS S w2 w3) : ExtS S w1 w3 :=
  ⟨k.os.trans h.os, k.tape.trans h.tape, k.output.trans h.output, Nat.le_trans h.size k.size, fun j hj hb => (k.block j (Nat.lt_of_lt_of_le hj h.size) hb).trans (h.block j hj hb), fun g T hm hb => k.tag g T hm (h.tag g T hm hb)⟩
theorem Ext.toS {S : SS} {w w' : World} (h : Ext w w') : ExtS S w w' :=
  ⟨Below.os h, Below.tape h, Below.output h, h.size, fun k hk _ => Below.block h k hk, fun g T _ ⟨cs, hb, hl⟩ => ⟨cs, hb.ext h, hl⟩⟩
theorem ExtS.of_chg {S : SS} {g : Nat} {T : TypeId × Nat} {w w' : World} (h1 : BkT w g T) (h2 : Chg g w w') (h3 : BkT w' g T) (hm : (g, T) ∈ S) : ExtS S w w' := by
    refine ⟨h2.os, h2.tape, h2.output, Nat.le_of_eq h2.size.symm, fun k hk hn => h2.block k (fun e => hn T (by rw [e]; exact hm)), fun g' T' hm' ⟨cs, hb, hl⟩ => ?_⟩
    by_cases e : g' = g
    · subst e
      obtain ⟨cs1, hb1, hl1⟩ := h1
      unfold Bk at hb hb1
      rw [hb1] at hb
      simp at hb
      obtain ⟨e1, e2⟩ := hb
      obtain ⟨t1, n1⟩ := T
      obtain ⟨t2, n2⟩ := T'
      simp only at e1 e2 hl hl1
      subst e1
      have e3 : t1 = t2 := by first | exact e2 | exact e2.symm
      have e4 : n1 = n2 := by omega
      subst e3
      subst e4
      exact h3
    · exact ⟨cs, hb.chg h2 e, hl⟩
/-- How the world goes on in one operation; v is its value, or where a store goes to. -/
def StepS (R : Ks) (v : Value) (w w' : World) : Prop := match R with
  | .st g T _ => BkT w g T ∧ Chg g w w' ∧ BkT w' g T
  | .stv _ T _ => ∃ g, v = .pointer (some ⟨g, 0, none⟩) ∧ BkT w g T ∧ Chg g w w' ∧ BkT w' g T
  | _ => Ext w w'
theorem StepS.size {R : Ks} {v : Value} {w w' : World} (h : StepS R v w w') : w.heap.size ≤ w'.heap.size := by
  cases R with
  | st g T Q => exact Nat.le_of_eq h.2.1.size.symm
  | stv s T Q => obtain ⟨g, _, _, h2, _⟩ := h; exact Nat.le_of_eq h2.size.symm
  | _ => exact Ext.size h
theorem StepS.toS {S : SS} {R : Ks} {v : Value} {w w' : World} (h : StepS R v w w') (hS : ∀ g T Q, R = .st g T Q → (g, T) ∈ S) (hV : ∀ s T Q g, R = .stv s T Q → v = .pointer (some ⟨g, 0, none⟩) → (g, T) ∈ S) : ExtS S w w' := by
  cases R with
  | st g T Q => exact ExtS.of_chg h.1 h.2.1 h.2.2 (hS g T Q rfl)
  | stv s T Q => obtain ⟨g, e, h1, h2, h3⟩ := h; exact ExtS.of_chg h1 h2 h3 (hV s T Q g rfl e)
  | _ => exact Ext.toS h
def Compat : Ks → Ks → Prop
  | .st g _ _, .st g' _ _ => g ≠ g'
  | .stv s _ _, .stv s' _ _ => s ≠ s'
  | .st _ _ _, .stv _ _ _ => False
  | .stv _ _ _, .st _ _ _ => False
  | _, _ => True
def Ks.MonoS (S : SS) (R : Ks) : Prop := (∀ a b v w w', Ext w w' → R.holds a b v w → R.holds a b v w') ∧
  ∀ g T, (g, T) ∈ S → (∀ T' Q, R = .st g T' Q → False) → ∀ a b v w w', (∀ s T' Q, R = .stv s T' Q → v ≠ .pointer (some ⟨g, 0, none⟩)) → BkT w g T → BkT w' g T → Chg g w w' → R.holds a b v w → R.holds a b v w'
theorem Ks.MonoS.step {S : SS} {R R' : Ks} (h : R.MonoS S) (hc : Compat R' R) {v' : Value} (hS : ∀ g T Q, R' = .st g T Q → (g, T) ∈ S) (hV : ∀ s T Q g, R' = .stv s T Q → v' = .pointer (some ⟨g, 0, none⟩) → (g, T) ∈ S) {a b : Nat} {v : Value} {w w' : World}
    (hne : ∀ s T Q s' T' Q', R' = .stv s T Q → R = .stv s' T' Q' → v ≠ v') (hs : StepS R' v' w w') (hh : R.holds a b v w) : R.holds a b v w' := by
  cases R' with
  | st g T Q =>
    refine h.2 g T (hS g T Q rfl) (fun T' Q' e => ?_) a b v w w' (fun s T' Q' e => ?_) hs.1 hs.2.2 hs.2.1 hh
    · subst e
      exact hc rfl
    · subst e
      exact hc.elim
  | stv s T Q =>
    obtain ⟨g, e, h1, h2, h3⟩ := hs
    refine h.2 g T (hV s T Q g rfl e) (fun T' Q' e' => ?_) a b v w w' (fun s' T' Q' e' => ?_) h1 h3 h2 hh
    · subst e'
      exact hc.elim
    · rw [← e]; exact hne s T Q s' T' Q' rfl e'
  | _ => exact h.1 a b v w w' hs hh
/-- Where an operation's value goes; a store is kept under a key of its own. -/
def DstS (S : SS) (o : Oper) (d : Nat) (R : Ks) (k : Nat) : Prop := match R with
  | .st g T _ => o.dst = none ∧ d = 1000000 + k ∧ (g, T) ∈ S
  | .stv _ T _ => o.dst = none ∧ d = 1000000 + k ∧ T ∈ S.F
  | _ => o.dst = some d
theorem DstS.val {S : SS} {o : Oper} {d k : Nat} {R : Ks} (h : DstS S o d R k) (hs : R.isSt = false) : o.dst = some d := by
  cases R <;> simp [Ks.isSt] at hs <;> exact h
theorem DstS.st {S : SS} {o : Oper} {d k : Nat} {R : Ks} (h : DstS S o d R k) (hs : R.isSt = true) : o.dst = none ∧ d = 1000000 + k := by
  cases R <;> simp [Ks.isSt] at hs <;> exact ⟨h.1, h.2.1⟩
theorem DstS.mem {S : SS} {o : Oper} {d k : Nat} {R : Ks} (h : DstS S o d R k) : ∀ g T Q, R = .st g T Q → (g, T) ∈ S := by
  intro g T Q e; subst e; exact h.2.2
theorem DstS.new {S : SS} {o : Oper} {d k : Nat} {R : Ks} (h : DstS S o d R k) : ∀ s T Q, R = .stv s T Q → T ∈ S.F := by
  intro g T Q e; subst e; exact h.2.2

section
variable {S : SS} {P : Program} {n : Nat} {w : World} {ρ : Rho} {l : List Oper}
/-- What is asked of one operation. -/
def OpOkS (S : SS) (P : Program) (n : Nat) (l : List Oper) (w : World) (ρ : Rho) (o : Oper) (d : Nat) (done : List (Nat × Ks)) (R : Ks) : Prop :=
  ∀ w', ExtS S w w' → AllS w.heap.size w' (fun ρ' => WL P n l [o] (fun ρ'' w'' => ∃ v, StepS R v w' w'' ∧ (R.isSt = false → look ρ'' d = some v) ∧ R.holds w'.heap.size w''.heap.size v w'' ∧ R.linked ρ'' v) ρ' w') (relS (readsOf l o) done) [] ρ
def AnyS0 (S : SS) (P : Program) (n : Nat) (l : List Oper) (w : World) (ρ : Rho) (tail : List (Nat × Ks) → Prop) : List Oper → List (Nat × Ks) → Prop
  | [], done => tail done
  | o :: r, done => ∃ d R, DstS S o d R done.length ∧ R.MonoS S ∧ R.Fine (readsOf l o) done ∧ (∀ q ∈ done, Compat R q.2 ∧ Compat q.2 R) ∧ OpOkS S P n l w ρ o d done R ∧ AnyS0 S P n l w ρ tail r (done ++ [(d, R)])

theorem AllS.mono {B : Nat} {w' : World} {C C' : Rho → Prop} (h : ∀ ρ', C ρ' → C' ρ') : ∀ {ps : List (Nat × Ks)} {acc : List (Nat × Nat)} {ρ : Rho}, AllS B w' C ps acc ρ → AllS B w' C' ps acc ρ := by
  intro ps
  induction ps with
  | nil => exact fun h1 => h _ h1
  | cons p ps ih =>
    obtain ⟨t, R⟩ := p
    cases R with
    | val x => exact fun h1 => ih h1
    | rel R => exact fun h1 a b v k1 k2 k3 k4 k5 => ih (h1 a b v k1 k2 k3 k4 k5)
    | st g T Q => exact fun h1 hq => ih (h1 hq)
    | stv s T Q =>
      intro acc ρ h1
      unfold AllS at h1 ⊢
      cases hl : look ρ s with
      | some v => simp only [hl] at h1 ⊢; exact fun hq => ih (h1 hq)
      | none => simp only [hl] at h1 ⊢; exact fun v hq => ih (h1 v hq)
    | same s =>
      intro acc ρ h1
      unfold AllS at h1 ⊢
      cases hl : look ρ s with
      | some v => simp only [hl] at h1 ⊢; exact ih h1
      | none => simp only [hl] at h1 ⊢; exact fun v => ih (h1 v)
theorem WL_monoS {ops : List Oper} {K K' : Rho → World → Prop} {ρ : Rho} {w' : World} (h : WL P n l ops K ρ w') (hk : ∀ ρ' w'', K ρ' w'' → K' ρ' w'') : WL P n l ops K' ρ w' :=
  fun a ha Q hQ => h a ha Q fun a' w'' ρ' hf h1 => hQ a' w'' ρ' hf (hk _ _ h1)
variable {tail : List (Nat × Ks) → Prop} {o : Oper} {r : List Oper} {done : List (Nat × Ks)} {d : Nat}
theorem compat_val {R : Ks} (h : R.isSt = false) : ∀ q ∈ done, Compat R q.2 ∧ Compat q.2 R := by
  intro q _
  cases R <;> simp [Ks.isSt] at h <;> (cases q.2 <;> exact ⟨trivial, trivial⟩)
theorem AnyS_val {x : Value} (hd : o.dst = some d)
    (h : ∀ w', ExtS S w w' → AllS w.heap.size w' (fun ρ' => WL P n l [o] (fun ρ'' w'' => Ext w' w'' ∧ look ρ'' d = some x) ρ' w') (relS (readsOf l o) done) [] ρ)
    (hr : AnyS0 S P n l w ρ tail r (done ++ [(d, .val x)])) : AnyS0 S P n l w ρ tail (o :: r) done :=
  ⟨d, .val x, hd, ⟨fun _ _ _ _ _ _ h => h, fun _ _ _ _ _ _ _ _ _ _ _ _ _ h => h⟩, trivial, compat_val rfl, fun w' he => AllS.mono (fun ρ' h1 => WL_monoS h1 fun ρ'' w'' ⟨h2, h3⟩ => ⟨x, h2, fun _ => h3, rfl, trivial⟩) (h w' he), hr⟩
theorem AnyS_rel (R : Nat → Nat → Value → World → Prop) (hd : o.dst = some d)
    (hm : (Ks.rel R).MonoS S) (h : ∀ w', ExtS S w w' → AllS w.heap.size w' (fun ρ' => WL P n l [o] (fun ρ'' w'' => Ext w' w'' ∧ ∃ v, look ρ'' d = some v ∧ R w'.heap.size w''.heap.size v w'') ρ' w') (relS (readsOf l o) done) [] ρ)
    (hr : AnyS0 S P n l w ρ tail r (done ++ [(d, .rel R)])) : AnyS0 S P n l w ρ tail (o :: r) done :=
  ⟨d, .rel R, hd, hm, trivial, compat_val rfl, fun w' he => AllS.mono (fun ρ' h1 => WL_monoS h1 fun ρ'' w'' ⟨h2, v, h3, h4⟩ => ⟨v, h2, fun _ => h3, h4, trivial⟩) (h w' he), hr⟩
theorem AnyS_same (s : Nat) (hd : o.dst = some d) (hs : mem s (readsOf l o) = true) (hk : mem s (keysS done) = true)
    (h : ∀ w', ExtS S w w' → AllS w.heap.size w' (fun ρ' => WL P n l [o] (fun ρ'' w'' => Ext w' w'' ∧ ∃ v, look ρ'' d = some v ∧ look ρ'' s = some v) ρ' w') (relS (readsOf l o) done) [] ρ)
    (hr : AnyS0 S P n l w ρ tail r (done ++ [(d, .same s)])) : AnyS0 S P n l w ρ tail (o :: r) done :=
  ⟨d, .same s, hd, ⟨fun _ _ _ _ _ _ h => h, fun _ _ _ _ _ _ _ _ _ _ _ _ _ h => h⟩, ⟨hs, hk⟩, compat_val rfl, fun w' he => AllS.mono (fun ρ' h1 => WL_monoS h1 fun ρ'' w'' ⟨h2, v, h3, h4⟩ => ⟨v, h2, fun _ => h3, trivial, h4⟩) (h w' he), hr⟩
/-- A store into a block of S. -/
theorem AnyS_st (g : Nat) (T : TypeId × Nat) (Q : World → Prop) (hd : o.dst = none) (hS : (g, T) ∈ S) (hm : (Ks.st g T Q).MonoS S) (hc : ∀ q ∈ done, Compat (.st g T Q) q.2 ∧ Compat q.2 (.st g T Q))
    (h : ∀ w', ExtS S w w' → AllS w.heap.size w' (fun ρ' => WL P n l [o] (fun ρ'' w'' => (BkT w' g T ∧ Chg g w' w'' ∧ BkT w'' g T) ∧ Q w'') ρ' w') (relS (readsOf l o) done) [] ρ)
    (hr : AnyS0 S P n l w ρ tail r (done ++ [(1000000 + done.length, .st g T Q)])) : AnyS0 S P n l w ρ tail (o :: r) done :=
  ⟨_, .st g T Q, ⟨hd, rfl, hS⟩, hm, trivial, hc, fun w' he => AllS.mono (fun ρ' h1 => WL_monoS h1 fun ρ'' w'' ⟨h2, h3⟩ => ⟨undef, h2, (fun h => by cases h), h3, trivial⟩) (h w' he), hr⟩
/-- A store into a block that this region makes. -/
theorem AnyS_stv (s : Nat) (T : TypeId × Nat) (Q : Value → World → Prop) (hd : o.dst = none) (hF : T ∈ S.F) (hs : mem s (readsOf l o) = true) (hk : mem s (keysS done) = true) (hR : ∃ R, (s, Ks.rel R) ∈ done ∧ PtrIn R) (hm : (Ks.stv s T Q).MonoS S) (hc : ∀ q ∈ done, Compat (.stv s T Q) q.2 ∧ Compat q.2 (.stv s T Q))
    (h : ∀ w', ExtS S w w' → AllS w.heap.size w' (fun ρ' => WL P n l [o] (fun ρ'' w'' => ∃ g, look ρ'' s = some (.pointer (some ⟨g, 0, none⟩)) ∧ (BkT w' g T ∧ Chg g w' w'' ∧ BkT w'' g T) ∧ Q (.pointer (some ⟨g, 0, none⟩)) w'') ρ' w') (relS (readsOf l o) done) [] ρ)
    (hr : AnyS0 S P n l w ρ tail r (done ++ [(1000000 + done.length, .stv s T Q)])) : AnyS0 S P n l w ρ tail (o :: r) done :=
  ⟨_, .stv s T Q, ⟨hd, rfl, hF⟩, hm, ⟨⟨hs, hk⟩, hR⟩, hc, fun w' he => AllS.mono (fun ρ' h1 => WL_monoS h1 fun ρ'' w'' ⟨g, h2, h3, h4⟩ => ⟨_, ⟨g, rfl, h3⟩, (fun h => by cases h), h4, h2⟩) (h w' he), hr⟩
theorem AnyS_nil (h : tail done) : AnyS0 S P n l w ρ tail [] done := h

theorem anyS_lists : ∀ (r : List Oper) (done : List (Nat × Ks)), AnyS0 S P n l w ρ tail r done →
    ∃ ps : List (Nat × Ks), ps.length = r.length ∧ tail (done ++ ps) ∧ ∀ i o p, r[i]? = some o → ps[i]? = some p → DstS S o p.1 p.2 (done.length + i) ∧ p.2.MonoS S ∧ p.2.Fine (readsOf l o) (done ++ ps.take i) ∧
      (∀ q ∈ done ++ ps.take i, Compat p.2 q.2 ∧ Compat q.2 p.2) ∧ OpOkS S P n l w ρ o p.1 (done ++ ps.take i) p.2
  | [], done, h => ⟨[], rfl, by rw [List.append_nil]; exact h, fun i o p h1 => by simp at h1⟩
  | o :: r, done, h => by
    obtain ⟨d, R, hd, hm, hfi, hc, hok, hr⟩ := h
    obtain ⟨ps, hl, ht, hall⟩ := anyS_lists r _ hr
    refine ⟨(d, R) :: ps, by simp [hl], by simpa using ht, fun i o' p h1 h2 => ?_⟩
    cases i with
    | zero =>
      simp at h1 h2; subst h1; subst h2
      exact ⟨hd, hm, by simpa using hfi, by simpa using hc, by simpa using hok⟩
    | succ i =>
      simp at h1 h2
      have h3 := hall i o' p h1 h2
      obtain ⟨k1, k2, k3, k4, k5⟩ := h3
      refine ⟨?_, k2, by simpa using k3, by simpa using k4, by simpa using k5⟩
      have e : (done ++ [(d, R)]).length + i = done.length + (i + 1) := by simp; omega
      rw [e] at k1; exact k1

/-- What the region's own edges must say. -/
def anySB (l : List Oper) (m : Nat) (used : List Nat) : Bool :=
  Region.noSelect l.toArray && decide (m ≤ l.length) &&
  ((List.range l.length).all fun i => match l[i]? with
    | none => true
    | some o => (o.after.toList.all fun e => !Region.binds .any e || decide (e.on < i)) &&
      (if i < m then
        ((readsOf l o).all fun d => Nat.blt d 1000000) &&
        ((List.range i).all fun j => match (l[j]?).bind (·.dst) with
            | some d' => !mem d' (readsOf l o) || o.after.toList.any fun e => Region.binds .any e && e.on == j
            | none => true) &&
        (match o.dst with
         | none => true
         | some d => Nat.blt d 1000000 && !mem d used && ((List.range i).all fun j => match (l[j]?).bind (·.dst) with
            | some d' => !Nat.beq d d'
            | none => true))
       else (List.range i).all fun j => decide (m ≤ j) || reachB l 8 i j)) &&
  Region.seqB .any l.toArray (l.length - m) m (((List.range l.length).map fun i => decide (i < m)).toArray)

theorem allS_at {B : Nat} {w' : World} {C : Rho → Prop} {a : Act} (rng : Nat → Nat × Nat) {ps : List (Nat × Ks)} : ∀ {acc : List (Nat × Nat)} {ρ : Rho}, AllS B w' C ps acc ρ →
    (∀ p ∈ ps, ∃ v, (p.2.isSt = false → a.tmps[p.1]? = some v) ∧ B ≤ (rng p.1).1 ∧ (rng p.1).1 ≤ (rng p.1).2 ∧ (rng p.1).2 ≤ w'.heap.size ∧ p.2.holds (rng p.1).1 (rng p.1).2 v w' ∧ ∀ s, p.2.src = some s → a.tmps[s]? = some v) →
    ps.Pairwise (fun p q => Ap (rng p.1) (rng q.1)) → (∀ c ∈ acc, ∀ p ∈ ps, Ap c (rng p.1)) → Fits n a ρ → ∃ ρ', Fits n a ρ' ∧ C ρ' := by
  induction ps with
  | nil => exact fun h _ _ _ hf => ⟨_, hf, h⟩
  | cons p ps ih =>
    intro acc ρ h hall hpw hacc hf
    obtain ⟨t, R⟩ := p
    obtain ⟨v, h1, h2, h3, h4, h5, h6⟩ := hall (t, R) (by simp)
    have hf0 : a.tmps[t]? = some v → Fits n a ((t, v) :: ρ) := fun h1 => ⟨hf.defers, hf.size, fun s u ht => by
      rw [look_cons] at ht
      by_cases e : t = s
      · simp only [e, if_true] at ht; cases ht; rw [← e]; exact h1
      · simp only [e, if_false] at ht; exact hf.at_ s u ht⟩
    rw [List.pairwise_cons] at hpw
    cases R with
    | stv s T Q =>
      unfold AllS at h
      have hrest := fun h9 => ih (acc := acc) (ρ := ρ) h9 (fun q hq => hall q (List.mem_cons_of_mem _ hq)) hpw.2 (fun c hc q hq => hacc c hc q (List.mem_cons_of_mem _ hq)) hf
      cases hl : look ρ s with
      | some u =>
        have h7 := hf.at_ s u hl
        rw [h6 s rfl] at h7
        cases h7
        simp only [hl] at h
        exact hrest (h h5)
      | none =>
        simp only [hl] at h
        exact hrest (h v h5)
    | st g T Q => exact ih (h h5) (fun q hq => hall q (List.mem_cons_of_mem _ hq)) hpw.2 (fun c hc q hq => hacc c hc q (List.mem_cons_of_mem _ hq)) hf
    | val x =>
      have hx : v = x := h5
      subst hx
      have hf' := hf0 (h1 rfl)
      exact ih h (fun q hq => hall q (List.mem_cons_of_mem _ hq)) hpw.2 (fun c hc q hq => hacc c hc q (List.mem_cons_of_mem _ hq)) hf'
    | same s =>
      have hf' := hf0 (h1 rfl)
      unfold AllS at h
      have hrest := fun h9 => ih (acc := acc) (ρ := (t, v) :: ρ) h9 (fun q hq => hall q (List.mem_cons_of_mem _ hq)) hpw.2 (fun c hc q hq => hacc c hc q (List.mem_cons_of_mem _ hq)) hf'
      cases hl : look ρ s with
      | some u =>
        have h7 := hf.at_ s u hl
        rw [h6 s rfl] at h7
        cases h7
        simp only [hl] at h
        exact hrest h
      | none =>
        simp only [hl] at h
        exact hrest (h v)
    | rel R =>
      have hf' := hf0 (h1 rfl)
      refine ih (h (rng t).1 (rng t).2 v h2 h3 h4 h5 (apart_mk fun c hc => hacc c hc (t, .rel R) (by simp))) (fun q hq => hall q (List.mem_cons_of_mem _ hq)) hpw.2 ?_ hf'
      intro c hc q hq
      rcases List.mem_cons.1 hc with rfl | hc
      · exact hpw.1 q hq
      · exact hacc c hc q (List.mem_cons_of_mem _ hq)
theorem mem_in {s : Nat} : ∀ {ls : List Nat}, mem s ls = true → s ∈ ls := by
  intro ls
  induction ls with
  | nil => intro h; simp [mem] at h
  | cons x r ih =>
    intro h
    unfold mem at h
    cases hb : Nat.beq s x with
    | true => rw [Nat.eq_of_beq_eq_true hb]; exact List.mem_cons_self
    | false => rw [hb] at h; exact List.mem_cons_of_mem _ (ih h)
theorem relS_sub {reads : List Nat} : ∀ {ps : List (Nat × Ks)} {p : Nat × Ks}, p ∈ relS reads ps → p ∈ ps ∧ mem p.1 reads = true := by
  intro ps
  induction ps with
  | nil => intro p h; simp [relS] at h
  | cons x r ih =>
    obtain ⟨t, R⟩ := x
    intro p h
    unfold relS at h
    cases hm : mem t reads with
    | true =>
      rw [hm] at h
      rcases List.mem_cons.1 h with rfl | h
      · exact ⟨by simp, hm⟩
      · exact ⟨List.mem_cons_of_mem _ (ih h).1, (ih h).2⟩
    | false => rw [hm] at h; exact ⟨List.mem_cons_of_mem _ (ih h).1, (ih h).2⟩
theorem mem_keysS {s : Nat} : ∀ {ps : List (Nat × Ks)}, mem s (keysS ps) = true → ∃ (j : Nat) (q : Nat × Ks), j < ps.length ∧ ps[j]? = some q ∧ q.1 = s := by
  intro ps
  induction ps with
  | nil => intro h; simp [keysS, mem] at h
  | cons x r ih =>
    obtain ⟨t, R⟩ := x
    intro h
    change (match Nat.beq s t with | true => true | false => mem s (keysS r)) = true at h
    cases hb : Nat.beq s t with
    | true => exact ⟨0, (t, R), by simp, rfl, (Nat.eq_of_beq_eq_true hb).symm⟩
    | false =>
      rw [hb] at h
      obtain ⟨j, q, h1, h2, h3⟩ := ih h
      exact ⟨j + 1, q, by simp; omega, by simpa using h2, h3⟩
theorem relS_sublist {reads : List Nat} : ∀ (ps : List (Nat × Ks)), (relS reads ps).Sublist ps := by
  intro ps
  induction ps with
  | nil => exact List.Sublist.slnil
  | cons x r ih =>
    obtain ⟨t, R⟩ := x
    unfold relS
    cases mem t reads with
    | true => exact ih.cons_cons _
    | false => exact ih.cons _

structure InvS (S : SS) (n : Nat) (l : List Oper) (m : Nat) (w : World) (ρ : Rho) (ps : List (Nat × Ks)) (rng : Nat → Nat × Nat) (listed : Array Bool) (a : Act) (w' : World) : Prop where
  size : listed.size = l.length
  tail : ∀ i, m ≤ i → listed.getD i false = false
  ext : ExtS S w w'
  fits : Fits n a ρ
  vals : ∀ i p, ps[i]? = some p → listed.getD i false = true → ∃ v, (p.2.isSt = false → a.tmps[p.1]? = some v) ∧ w.heap.size ≤ (rng p.1).1 ∧ (rng p.1).1 ≤ (rng p.1).2 ∧ (rng p.1).2 ≤ w'.heap.size ∧ p.2.holds (rng p.1).1 (rng p.1).2 v w' ∧
    ∀ s, p.2.src = some s → a.tmps[s]? = some v ∧ ∃ (j : Nat) (q : Nat × Ks), ps[j]? = some q ∧ q.1 = s ∧ listed.getD j false = true
  closed : ∀ (i : Nat) (o : Oper), listed.getD i false = true → l[i]? = some o → ∀ e ∈ o.after, Region.binds .any e = true → listed.getD e.on false = true
  apart : ∀ (i j : Nat) (p q : Nat × Ks), i ≠ j → ps[i]? = some p → ps[j]? = some q → listed.getD i false = true → listed.getD j false = true → Ap (rng p.1) (rng q.1)

set_option maxHeartbeats 1000000 in
theorem wpAnyS_inv {m : Nat} {K : Rho → World → Prop} {Q : Exit → Act → World → Prop} {ps : List (Nat × Ks)} (hB : anySB l m (slots ρ) = true) (hps : ps.length = m) (hSB : S.B ≤ w.heap.size)
    (hok : ∀ i o p, (l.take m)[i]? = some o → ps[i]? = some p → DstS S o p.1 p.2 i ∧ p.2.MonoS S ∧ p.2.Fine (readsOf l o) (ps.take i) ∧ (∀ q ∈ ps.take i, Compat p.2 q.2 ∧ Compat q.2 p.2) ∧ OpOkS S P n l w ρ o p.1 (ps.take i) p.2)
    (htail : ∀ w', ExtS S w w' → AllS w.heap.size w' (fun ρ' => WL P n l (l.drop m) K ρ' w') ps [] ρ) (hQ : ∀ a' w' ρ', Fits n a' ρ' → K ρ' w' → Q .normal a' w') :
    ∀ (fuel : Nat) (listed : Array Bool) (rng : Nat → Nat × Nat) (a : Act) (w' : World), (listed.toList.filter (!·)).length = fuel → InvS S n l m w ρ ps rng listed a w' → wpAny P .any l.toArray Q fuel listed a w' := by
  simp only [anySB, Bool.and_eq_true, decide_eq_true_eq] at hB
  obtain ⟨⟨⟨hsel, hm⟩, hedge⟩, hseq⟩ := hB
  rw [List.all_eq_true] at hedge
  have hedge' : ∀ i o, l[i]? = some o → (∀ e ∈ o.after, Region.binds .any e = true → e.on < i) ∧
      (i < m → (∀ d ∈ readsOf l o, d < 1000000) ∧ (∀ j d', j < i → (l[j]?).bind (·.dst) = some d' → mem d' (readsOf l o) = true → ∃ e ∈ o.after, Region.binds .any e = true ∧ e.on = j) ∧
        ∀ d, o.dst = some d → d < 1000000 ∧ mem d (slots ρ) = false ∧ ∀ j d', j < i → (l[j]?).bind (·.dst) = some d' → Nat.beq d d' = false) ∧
      (m ≤ i → ∀ j, j < i → j < m → reachB l 8 i j = true) := by
    intro i o hi
    have hlt : i < l.length := (List.getElem?_eq_some_iff.1 hi).1
    have h := hedge i (by simpa using hlt)
    rw [hi] at h
    simp only [Bool.and_eq_true, List.all_eq_true, Array.mem_toList_iff] at h
    obtain ⟨h1, h2⟩ := h
    refine ⟨fun e he hb => ?_, fun him => ?_, fun him j hj hjm => ?_⟩
    · have := h1 e he; simp [hb] at this; exact this
    · rw [if_pos him] at h2
      rw [Bool.and_eq_true, Bool.and_eq_true] at h2
      obtain ⟨⟨hr, he⟩, h2⟩ := h2
      rw [List.all_eq_true] at hr he
      refine ⟨fun d hd => by simpa [Nat.blt_eq] using hr d hd, fun j d' hj hjd hmem => ?_, fun d hd => ?_⟩
      · have h3 := he j (by simpa using hj)
        rw [hjd] at h3
        simp only [Bool.not_eq_true', Bool.or_eq_true, List.any_eq_true, Array.mem_toList_iff, Bool.and_eq_true, beq_iff_eq] at h3
        rcases h3 with h4 | ⟨e, he, hb, ho⟩
        · rw [hmem] at h4; cases h4
        · exact ⟨e, he, hb, ho⟩
      · rw [hd] at h2
        simp only [Bool.and_eq_true, Bool.not_eq_true', List.all_eq_true, List.mem_range] at h2
        refine ⟨by simpa [Nat.blt_eq] using h2.1.1, h2.1.2, fun j d' hj hjd => ?_⟩
        have h3 := h2.2 j hj
        rw [hjd] at h3
        simpa using h3
    · rw [if_neg (by omega)] at h2
      rw [List.all_eq_true] at h2
      have h3 := h2 j (by simpa using hj)
      simp only [Bool.or_eq_true, decide_eq_true_eq] at h3
      rcases h3 with h3 | h3
      · omega
      · exact h3
  have hget : ∀ (listed : Array Bool) (i : Nat), listed.size = l.length → i < l.length → listed.getD i true = listed.getD i false := by
    intro listed i hs hi
    have : i < listed.size := by omega
    simp [this]
  have hkeyv : ∀ (i : Nat) (p : Nat × Ks), ps[i]? = some p → (p.2.isSt = true → p.1 = 1000000 + i) ∧ (p.2.isSt = false → p.1 < 1000000 ∧ (l[i]?).bind (·.dst) = some p.1) := by
    intro i p hp
    have hi1 : i < ps.length := (List.getElem?_eq_some_iff.1 hp).1
    have hi2 : i < l.length := by omega
    have h1 := (hok i l[i] p (by rw [List.getElem?_take, if_pos (by omega)]; simp [hi2]) hp).1
    refine ⟨fun hs => (h1.st hs).2, fun hs => ?_⟩
    have h2 := h1.val hs
    exact ⟨(((hedge' i l[i] (by simp [hi2])).2.1 (by omega)).2.2 p.1 h2).1, by simp [hi2, h2]⟩
  have huniq : ∀ (i j : Nat) (p q : Nat × Ks), i < j → ps[i]? = some p → ps[j]? = some q → p.1 ≠ q.1 := by
    intro i j p q hij hp hq
    have hj1 : j < ps.length := (List.getElem?_eq_some_iff.1 hq).1
    have hi1 : i < l.length := by omega
    have hj2 : j < l.length := by omega
    have hkp := hkeyv i p hp
    have hkq := hkeyv j q hq
    cases hsp : p.2.isSt with
    | true =>
      have e1 := hkp.1 hsp
      cases hsq : q.2.isSt with
      | true => have e2 := hkq.1 hsq; omega
      | false => have e2 := (hkq.2 hsq).1; omega
    | false =>
      have e1 := hkp.2 hsp
      cases hsq : q.2.isSt with
      | true => have e2 := hkq.1 hsq; omega
      | false =>
        have h2 := (hok j l[j] q (by rw [List.getElem?_take, if_pos (by omega)]; simp [hj2]) hq).1.val hsq
        have h9 := (((hedge' j l[j] (by simp [hj2])).2.1 (by omega)).2.2 q.1 h2).2.2 i p.1 hij e1.2
        intro e; rw [e] at h9; simp at h9
  have hpair : ∀ (rng : Nat → Nat × Nat) (ls : List (Nat × Ks)) (good : Nat × Ks → Prop), ls.Sublist ps → (∀ p ∈ ls, good p) →
      (∀ (i j : Nat) (p q : Nat × Ks), i ≠ j → ps[i]? = some p → ps[j]? = some q → good p → good q → Ap (rng p.1) (rng q.1)) → ls.Pairwise (fun (p q : Nat × Ks) => Ap (rng p.1) (rng q.1)) := by
    intro rng ls good hs hg hap
    have h1 : ps.Pairwise (fun (p q : Nat × Ks) => good p → good q → Ap (rng p.1) (rng q.1)) := by
      rw [List.pairwise_iff_getElem]
      intro i j hi hj hij g1 g2
      exact hap i j ps[i] ps[j] (by omega) (by simp [hi]) (by simp [hj]) g1 g2
    exact (h1.sublist hs).imp_of_mem fun {a b} ha hb h => h (hg a ha) (hg b hb)
  have hgood : ∀ (listed : Array Bool) (p : Nat × Ks), (∃ i : Nat, ps[i]? = some p ∧ listed.getD i false = true) → ∀ j, ps[j]? = some p → listed.getD j false = true := by
    intro listed p ⟨i, hi, hl⟩ j hj
    rcases Nat.lt_trichotomy i j with h | h | h
    · exact absurd rfl (huniq i j p p h hi hj)
    · rw [← h]; exact hl
    · exact absurd rfl (huniq j i p p h hj hi)
  have hstv : ∀ (j : Nat) (p : Nat × Ks) (s : Nat) (T : TypeId × Nat) (Q : Value → World → Prop), ps[j]? = some p → p.2 = .stv s T Q → ∃ (j0 : Nat) (R : Nat → Nat → Value → World → Prop), ps[j0]? = some (s, .rel R) ∧ PtrIn R := by
    intro j p s T Q hp he
    have hj1 : j < ps.length := (List.getElem?_eq_some_iff.1 hp).1
    have hj2 : j < l.length := by omega
    have hf := (hok j l[j] p (by rw [List.getElem?_take, if_pos (by omega)]; simp [hj2]) hp).2.2.1
    rw [he] at hf
    obtain ⟨_, R, hm, hpi⟩ := hf
    obtain ⟨k, hk, ek⟩ := List.getElem_of_mem hm
    have hk1 : k < ps.length := by simp at hk; omega
    refine ⟨k, R, ?_, hpi⟩
    rw [← ek]; simp [hk1]
  intro fuel
  induction fuel with
  | zero =>
    intro listed rng a w' hc inv
    -- nothing is left: all are listed
    have hallT : ∀ i, i < l.length → listed.getD i false = true := by
      intro i hi
      have h0 : listed.toList.filter (!·) = [] := List.eq_nil_of_length_eq_zero hc
      rw [List.filter_eq_nil_iff] at h0
      have hi' : i < listed.size := by rw [inv.size]; exact hi
      have := h0 listed[i] (by simp)
      simp at this
      simp [hi', this]
    have hml : m = l.length := by
      rcases Nat.lt_or_ge m l.length with h | h
      · have h1 := hallT m h
        rw [inv.tail m (Nat.le_refl _)] at h1; cases h1
      · omega
    obtain ⟨ρ', hf, hw⟩ := allS_at (a := a) rng (htail w' inv.ext) (fun p hp => by
      obtain ⟨i, hi, he⟩ := List.getElem_of_mem hp
      obtain ⟨v, k1, k2, k3, k4, k5, k6⟩ := inv.vals i p (by rw [← he]; exact List.getElem?_eq_getElem hi) (hallT i (by omega))
      exact ⟨v, k1, k2, k3, k4, k5, fun s e => (k6 s e).1⟩)
      (hpair rng ps (fun _ => True) (List.Sublist.refl _) (fun _ _ => trivial) fun i j p q hij hp hq _ _ => inv.apart i j p q hij hp hq
        (hallT i (by have := (List.getElem?_eq_some_iff.1 hp).1; omega)) (hallT j (by have := (List.getElem?_eq_some_iff.1 hq).1; omega))) (by simp) inv.fits
    rw [hml, List.drop_length] at hw
    refine ⟨?_, ?_⟩
    · apply List.eq_nil_iff_forall_not_mem.2
      intro i hi
      obtain ⟨h1, o, ho, _⟩ := mem_ready.1 hi
      have hlt : i < l.length := by simpa using (Array.getElem?_eq_some_iff.1 ho).1
      rw [hget listed i inv.size hlt, hallT i hlt] at h1; cases h1
    · exact hw a hf Q hQ
  | succ fuel ih =>
    intro listed rng a w' hc inv
    by_cases hfull : ∀ i, i < m → listed.getD i false = true
    · -- the tail
      obtain ⟨ρ', hf, hw⟩ := allS_at (a := a) rng (htail w' inv.ext) (fun p hp => by
        obtain ⟨i, hi, he⟩ := List.getElem_of_mem hp
        obtain ⟨v, k1, k2, k3, k4, k5, k6⟩ := inv.vals i p (by rw [← he]; exact List.getElem?_eq_getElem hi) (hfull i (by omega))
        exact ⟨v, k1, k2, k3, k4, k5, fun s e => (k6 s e).1⟩)
        (hpair rng ps (fun _ => True) (List.Sublist.refl _) (fun _ _ => trivial) fun i j p q hij hp hq _ _ => inv.apart i j p q hij hp hq
          (hfull i (by have := (List.getElem?_eq_some_iff.1 hp).1; omega)) (hfull j (by have := (List.getElem?_eq_some_iff.1 hq).1; omega))) (by simp) inv.fits
      have hlisted : listed = ((List.range l.length).map fun i => decide (i < m)).toArray := by
        apply Array.ext
        · simp [inv.size]
        · intro i h1 h2
          simp only [List.size_toArray, List.length_map, List.length_range] at h2
          simp only [List.getElem_toArray, List.getElem_map, List.getElem_range]
          rcases Nat.lt_or_ge i m with h | h
          · have := hfull i h; simp [h1] at this; simp [this, h]
          · have := inv.tail i h; simp [h1] at this; simp [this]; omega
      have hlen : (l.drop m).length = fuel + 1 := by
        rw [← hc, hlisted]
        have : ((List.range l.length).map fun i => decide (i < m)).filter (!·) = (List.replicate (l.length - m) false) := by
          have h1 : List.range l.length = List.range m ++ (List.range (l.length - m)).map (m + ·) := by
            rw [← List.range_add]; congr 1; omega
          rw [h1, List.map_append, List.filter_append]
          have h2 : ((List.range m).map fun i => decide (i < m)).filter (!·) = [] := by
            rw [List.filter_eq_nil_iff]; intro b hb
            obtain ⟨i, hi, rfl⟩ := List.mem_map.1 hb
            have : i < m := by simpa using hi
            simp [this]
          have h3 : (((List.range (l.length - m)).map (m + ·)).map fun i => decide (i < m)) = List.replicate (l.length - m) false := by
            apply List.ext_getElem
            · simp
            · intro i h1 h2; simp
          rw [h2, h3]; simp
        rw [this]; simp
      rw [← hlen]
      refine wpAny_of_seq (l.drop m) m listed a w' (fun j => by simp [List.getElem?_drop]) ?_ (hw a hf Q hQ)
      rw [hlisted, List.length_drop]; exact hseq
    · -- one of the first m comes up
      have hsome : ∃ i, i < m ∧ listed.getD i false = false := by
        apply Classical.byContradiction
        intro hno
        apply hfull
        intro i hi
        cases hb : listed.getD i false with
        | true => rfl
        | false => exact absurd ⟨i, hi, hb⟩ hno
      refine ⟨fun hnil => ?_, fun i hi => ?_⟩
      · -- the least that is not listed is ready
        exfalso
        obtain ⟨i0, hi0, hf0⟩ := hsome
        have hleast : ∃ i, i < m ∧ listed.getD i false = false ∧ ∀ j, j < i → listed.getD j false = true := by
          clear hnil
          induction i0 using Nat.strongRecOn with
          | _ i0 ihl =>
            by_cases hall : ∀ j, j < i0 → listed.getD j false = true
            · exact ⟨i0, hi0, hf0, hall⟩
            · have : ∃ j, j < i0 ∧ listed.getD j false = false := by
                apply Classical.byContradiction
                intro hno
                apply hall
                intro j hj
                cases hb : listed.getD j false with
                | true => rfl
                | false => exact absurd ⟨j, hj, hb⟩ hno
              obtain ⟨j, hj, hjf⟩ := this
              exact ihl j hj (by omega) hjf
        obtain ⟨i, him, hif, hbefore⟩ := hleast
        have hlt : i < l.length := by omega
        have hmem : i ∈ Region.ready .any l.toArray listed := by
          rw [mem_ready]
          refine ⟨by rw [hget listed i inv.size hlt]; exact hif, l[i], by simp [hlt], fun e he hb => ?_⟩
          have := (hedge' i l[i] (by simp [hlt])).1 e he hb
          exact hbefore e.on this
        rw [hnil] at hmem; cases hmem
      · obtain ⟨hun, o, ho, hafter⟩ := mem_ready.1 hi
        have hol : l[i]? = some o := by simpa using ho
        have hlt : i < l.length := (List.getElem?_eq_some_iff.1 hol).1
        obtain ⟨hE1, hE2, hE3⟩ := hedge' i o hol
        have him : i < m := by
          rcases Nat.lt_or_ge i m with h | h
          · exact h
          · exfalso
            obtain ⟨j, hj, hjf⟩ := hsome
            have := reach_listed inv.closed 8 i j o hol hafter (hE3 h j (by omega) hj)
            rw [hjf] at this; cases this
        obtain ⟨hrd, hdj, hEv⟩ := hE2 him
        have hpi : i < ps.length := by omega
        obtain ⟨hdst, hmono, hfine, hcmp, hOp⟩ := hok i o ps[i] (by rw [List.getElem?_take, if_pos him]; exact hol) (by simp [hpi])
        have hDv : ∀ d, o.dst = some d → ps[i].2.isSt = false ∧ ps[i].1 = d := by
          intro d hd
          cases hs : ps[i].2.isSt with
          | true => rw [(hdst.st hs).1] at hd; cases hd
          | false => have := hdst.val hs; rw [hd] at this; cases this; exact ⟨rfl, rfl⟩
        have hkeep : ∀ v t, (∀ d, o.dst = some d → d ≠ t) → (a.put o.dst v).tmps[t]? = a.tmps[t]? := by
          intro v t h
          cases hd : o.dst with
          | none => rfl
          | some d => simp only [Act.put, Array.getElem?_setIfInBounds_ne (h d hd)]
        have hall := hOp w' inv.ext
        have hdone : ∀ p ∈ relS (readsOf l o) (ps.take i), ∃ j, ps[j]? = some p ∧ listed.getD j false = true := fun p hp => by
          obtain ⟨hp1, hp2⟩ := relS_sub hp
          obtain ⟨j, hj, he⟩ := List.getElem_of_mem hp1
          have hj' : j < i := by simp at hj; omega
          have hjp : j < ps.length := by omega
          have hpe : ps[j]? = some p := by
            rw [← he]; simp [hjp]
          have hlt' := hrd p.1 (mem_in hp2)
          have hkp := hkeyv j p hpe
          have hns : p.2.isSt = false := by
            cases hs : p.2.isSt with
            | false => rfl
            | true => have := hkp.1 hs; omega
          obtain ⟨e, he1, he2, he3⟩ := hdj j p.1 hj' (hkp.2 hns).2 hp2
          exact ⟨j, hpe, by rw [← he3]; exact hafter e he1 he2⟩
        obtain ⟨ρ', hf, hw⟩ := allS_at (a := a) rng hall (fun p hp => by
          obtain ⟨j, hj1, hj2⟩ := hdone p hp
          obtain ⟨v, k1, k2, k3, k4, k5, k6⟩ := inv.vals j p hj1 hj2
          exact ⟨v, k1, k2, k3, k4, k5, fun s e => (k6 s e).1⟩)
          (hpair rng _ (fun p => ∃ j, ps[j]? = some p ∧ listed.getD j false = true) ((relS_sublist _).trans (List.take_sublist i ps)) hdone
            fun i' j' p q hij hp hq g1 g2 => inv.apart i' j' p q hij hp hq (hgood listed p g1 i' hp) (hgood listed q g2 j' hq)) (by simp) inv.fits
        -- the operation, run in this very frame
        have hrun := hw a hf (fun e a' w'' => match e with
          | .normal => ∃ v, StepS ps[i].2 v w' w'' ∧ (ps[i].2.isSt = false → a'.tmps[ps[i].1]? = some v) ∧ ps[i].2.holds w'.heap.size w''.heap.size v w'' ∧ (∀ s, ps[i].2.src = some s → a'.tmps[s]? = some v) ∧ a'.defers = [] ∧ a'.tmps.size = n
          | e => Q e a' w'') (fun a' w'' ρ'' hf'' ⟨v, he, hv, hR, hlk⟩ => ⟨v, he, fun hs => hf''.at_ _ v (hv hs), hR, fun s es => hf''.at_ s v (Ks.linked_src hlk es), hf''.defers, hf''.size⟩)
        have hdeps : ∀ s, ps[i].2.src = some s → ∃ (j0 : Nat) (q0 : Nat × Ks), ps[j0]? = some q0 ∧ q0.1 = s ∧ j0 < i ∧ listed.getD j0 false = true := by
          intro s es
          obtain ⟨hf1, hf2⟩ := hfine.src es
          obtain ⟨j0, q0, hj0, hq0, hs0⟩ := mem_keysS hf2
          have hj0i : j0 < i := by
            have := (List.getElem?_eq_some_iff.1 hq0).1
            simp at this; omega
          have hq1 : ps[j0]? = some q0 := by rw [List.getElem?_take, if_pos hj0i] at hq0; exact hq0
          have hlt' := hrd s (mem_in hf1)
          have hkp := hkeyv j0 q0 hq1
          have hns : q0.2.isSt = false := by
            cases hs : q0.2.isSt with
            | false => rfl
            | true => have := hkp.1 hs; omega
          obtain ⟨e, he1, he2, he3⟩ := hdj j0 q0.1 hj0i (hkp.2 hns).2 (by rw [hs0]; exact hf1)
          exact ⟨j0, q0, hq1, hs0, hj0i, by rw [← he3]; exact hafter e he1 he2⟩
        have hptr : ∀ (j : Nat) (p : Nat × Ks) (s : Nat) (T : TypeId × Nat) (Q : Value → World → Prop), ps[j]? = some p → p.2 = .stv s T Q → (∃ (j0 : Nat) (q0 : Nat × Ks), ps[j0]? = some q0 ∧ q0.1 = s ∧ listed.getD j0 false = true) →
            ∀ x, a.tmps[s]? = some x → ∃ (j1 : Nat) (q1 : Nat × Ks) (g : Nat), ps[j1]? = some q1 ∧ q1.1 = s ∧ listed.getD j1 false = true ∧ x = .pointer (some ⟨g, 0, none⟩) ∧ (rng s).1 ≤ g ∧ g < (rng s).2 ∧ w.heap.size ≤ g := by
          intro j p s T Q hp he ⟨j0, q0, g1, g2, g3⟩ x hx
          obtain ⟨j1, R, g4, g5⟩ := hstv j p s T Q hp he
          have e01 : j0 = j1 := by
            rcases Nat.lt_trichotomy j0 j1 with h | h | h
            · exact absurd g2 (huniq j0 j1 q0 (s, .rel R) h g1 g4)
            · exact h
            · exact absurd g2.symm (huniq j1 j0 (s, .rel R) q0 h g4 g1)
          subst e01
          rw [g1] at g4
          cases g4
          obtain ⟨v, k1, k2, k3, k4, k5, k6⟩ := inv.vals j0 (s, .rel R) g1 g3
          have k7 := k1 rfl
          simp only at k2 k3 k4 k5 k7
          rw [hx] at k7
          cases k7
          obtain ⟨g, h1, h2, h3⟩ := g5 _ _ _ _ k5
          exact ⟨j0, _, g, g1, rfl, g3, h1, h2, h3, Nat.le_trans k2 h2⟩
        have next : ∀ v w'', (∃ u, StepS ps[i].2 u w' w'' ∧ (ps[i].2.isSt = false → (a.put o.dst v).tmps[ps[i].1]? = some u) ∧ ps[i].2.holds w'.heap.size w''.heap.size u w'' ∧ (∀ s, ps[i].2.src = some s → (a.put o.dst v).tmps[s]? = some u) ∧ (a.put o.dst v).defers = [] ∧ (a.put o.dst v).tmps.size = n) →
            wpAny P .any l.toArray Q fuel (listed.setIfInBounds i true) (a.put o.dst v) w'' := by
          intro v w'' ⟨u, he, hu, hR, hlk, hdf, hsz⟩
          have hu0 : ∀ s T Q, ps[i].2 = .stv s T Q → ∃ (j1 : Nat) (q1 : Nat × Ks) (g : Nat), ps[j1]? = some q1 ∧ q1.1 = s ∧ listed.getD j1 false = true ∧ u = .pointer (some ⟨g, 0, none⟩) ∧ (rng s).1 ≤ g ∧ g < (rng s).2 ∧ w.heap.size ≤ g := by
            intro s T Q e
            have es : ps[i].2.src = some s := by rw [e]; rfl
            obtain ⟨j0, q0, g1, g2, _, g3⟩ := hdeps s es
            have hn : o.dst = none := (hdst.st (by rw [e]; rfl)).1
            have hx := hlk s es
            rw [hn] at hx
            exact hptr i ps[i] s T Q (by simp [hpi]) e ⟨j0, q0, g1, g2, g3⟩ u hx
          have hnew : ∀ s T Q g, ps[i].2 = .stv s T Q → u = .pointer (some ⟨g, 0, none⟩) → (g, T) ∈ S := by
            intro s T Q g e eu
            obtain ⟨_, _, g', _, _, _, h1, _, _, h2⟩ := hu0 s T Q e
            rw [eu] at h1
            simp at h1
            subst h1
            exact .inr ⟨Nat.le_trans hSB h2, hdst.new s T Q e⟩
          refine ih _ (fun t => if t = ps[i].1 then (w'.heap.size, w''.heap.size) else rng t) _ _ ?_ ?_
          · have := count_set hun; omega
          · have hkey : ∀ j p, ps[j]? = some p → i ≠ j → p.1 ≠ ps[i].1 := by
              intro j p hjp hij
              rcases Nat.lt_or_ge i j with h | h
              · have := huniq i j ps[i] p h (by simp [hpi]) hjp
                exact fun e => this e.symm
              · exact huniq j i p ps[i] (by omega) hjp (by simp [hpi])
            have hself : ∀ p, ps[i]? = some p → p = ps[i] := fun p hjp => by rw [List.getElem?_eq_getElem hpi] at hjp; cases hjp; rfl
            have hold : ∀ j p, ps[j]? = some p → i ≠ j → (listed.setIfInBounds i true).getD j false = true → listed.getD j false = true := fun j p _ hij hjl => by
              rw [getD_set_ne false hij] at hjl; exact hjl
            have hes := he.size
            have hcm : ∀ j p, ps[j]? = some p → i ≠ j → Compat ps[i].2 p.2 := by
              intro j p hjp hij
              have hjps : j < ps.length := (List.getElem?_eq_some_iff.1 hjp).1
              rcases Nat.lt_or_ge j i with h | h
              · refine (hcmp p ?_).1
                have : ps[j] = p := (List.getElem?_eq_some_iff.1 hjp).2
                rw [← this]
                exact List.mem_take_iff_getElem.2 ⟨j, by omega, rfl⟩
              · have hjl2 : j < l.length := by omega
                refine ((hok j l[j] p (by rw [List.getElem?_take, if_pos (by omega)]; simp [hjl2]) hjp).2.2.2.1 ps[i] ?_).2
                exact List.mem_take_iff_getElem.2 ⟨i, by omega, rfl⟩
            refine ⟨by simp [inv.size], fun j hj => ?_, inv.ext.trans (he.toS hdst.mem hnew), ⟨hdf, hsz, fun t x ht => ?_⟩, fun j p hjp hjl => ?_, fun j o' hjl hjo e he hb => ?_, fun j j' p q hij hp hq hl1 hl2 => ?_⟩
            · have hne : i ≠ j := by omega
              rw [getD_set_ne false hne]; exact inv.tail j hj
            · rw [hkeep v t (fun d hd e => by
                subst e
                have := mem_slots ht
                rw [(hEv d hd).2.1] at this; cases this)]
              exact inv.fits.at_ t x ht
            · by_cases hij : i = j
              · subst hij
                have := hself p hjp
                subst this
                refine ⟨u, ?_⟩
                simp only [if_true]
                refine ⟨hu, inv.ext.size, hes, Nat.le_refl _, hR, fun s es => ⟨hlk s es, ?_⟩⟩
                obtain ⟨j0, q0, hq1, hs0, hj0i, hl0⟩ := hdeps s es
                refine ⟨j0, q0, hq1, hs0, ?_⟩
                rw [getD_set_ne false (by omega)]; exact hl0
              · obtain ⟨x, hx1, hx2, hx3, hx4, hx5, hx6⟩ := inv.vals j p hjp (hold j p hjp hij hjl)
                have hne : ps[i].1 ≠ p.1 := fun e => hkey j p hjp hij e.symm
                have hjps : j < ps.length := (List.getElem?_eq_some_iff.1 hjp).1
                have hjl2 : j < l.length := by omega
                refine ⟨x, ?_, ?_⟩
                · intro hs
                  rw [hkeep v p.1 (fun d hd e => hne (by rw [(hDv d hd).2]; exact e))]
                  exact hx1 hs
                · simp only [if_neg (fun e => hne e.symm : ¬ p.1 = ps[i].1)]
                  refine ⟨hx2, hx3, by omega, (hok j l[j] p (by rw [List.getElem?_take, if_pos (by omega)]; simp [hjl2]) hjp).2.1.step (hcm j p hjp hij) hdst.mem hnew (fun s T Q s' T' Q' e1 e2 => ?_) he hx5, fun s es => ?_⟩
                  · obtain ⟨j1, q1, g, k1, k2, k3, k4, k5, k6, _⟩ := hu0 s T Q e1
                    obtain ⟨y1, y2⟩ := hx6 s' (by rw [e2]; rfl)
                    obtain ⟨j2, q2, g', m1, m2, m3, m4, m5, m6, _⟩ := hptr j p s' T' Q' hjp e2 y2 x y1
                    have hss : s ≠ s' := by
                      have := hcm j p hjp hij
                      rw [e1, e2] at this
                      exact this
                    have hj12 : j1 ≠ j2 := by
                      intro e; subst e
                      rw [k1] at m1; cases m1
                      exact hss (k2.symm.trans m2)
                    have hap := inv.apart j1 j2 q1 q2 hj12 k1 m1 k3 m3
                    rw [k2, m2] at hap
                    rw [k4, m4]
                    intro e
                    simp at e
                    rcases hap with h | h <;> omega
                  obtain ⟨g1, j0, q0, g2, g3, g4⟩ := hx6 s es
                  have hij0 : i ≠ j0 := by
                    intro e; subst e
                    have := hun
                    rw [hget listed i inv.size hlt, g4] at this; cases this
                  refine ⟨?_, j0, q0, g2, g3, by rw [getD_set_ne false hij0]; exact g4⟩
                  have hne2 : ps[i].1 ≠ s := by rw [← g3]; exact fun e => hkey j0 q0 g2 hij0 e.symm
                  rw [hkeep v s (fun d hd e => hne2 (by rw [(hDv d hd).2]; exact e))]
                  exact g1
            · have hmono : ∀ k, listed.getD k false = true → (listed.setIfInBounds i true).getD k false = true := by
                intro k hk
                by_cases hik : i = k
                · subst hik
                  rw [hget listed i inv.size hlt] at hun
                  rw [hun] at hk; cases hk
                · rw [getD_set_ne false hik]; exact hk
              by_cases hij : i = j
              · subst hij
                rw [hol] at hjo
                cases hjo
                exact hmono _ (hafter e he hb)
              · rw [getD_set_ne false hij] at hjl
                exact hmono _ (inv.closed j o' hjl hjo e he hb)
            · by_cases h1 : i = j
              · subst h1
                have := hself p hp
                subst this
                obtain ⟨x, hx1, hx2, hx3, hx4, hx5, _⟩ := inv.vals j' q hq (hold j' q hq hij hl2)
                simp only [if_true, if_neg (hkey j' q hq hij)]
                exact .inr hx4
              · by_cases h2 : i = j'
                · subst h2
                  have := hself q hq
                  subst this
                  obtain ⟨x, hx1, hx2, hx3, hx4, hx5, _⟩ := inv.vals j p hp (hold j p hp h1 hl1)
                  simp only [if_true, if_neg (hkey j p hp h1)]
                  exact .inl hx4
                · simp only [if_neg (hkey j p hp h1), if_neg (hkey j' q hq h2)]
                  exact inv.apart j j' p q hij hp hq (hold j p hp h1 hl1) (hold j' q hq h2 hl2)
        unfold wpOp
        simp only [List.getElem?_toArray, hol]
        unfold wpList at hrun
        split
        · rename_i hw1
          rw [if_pos hw1] at hrun
          rcases hrun with h | ⟨h1, h2⟩
          · refine .inl (oper_wp_put (fun v w'' hn => next v w'' hn) (fun dd v w'' hn => ?_) (fun c w'' hq => hq) (fun hq => hq) h)
            obtain ⟨u, _, _, _, _, hdf, _⟩ := hn
            exfalso
            cases hd : o.dst with
            | none => rw [hd] at hdf; simp [Act.put] at hdf
            | some d => rw [hd] at hdf; simp [Act.put] at hdf
          · exact .inr ⟨h1, h2⟩
        · rename_i hw1
          rw [if_neg hw1] at hrun
          exact next undef w' hrun

theorem WP_anyS {id : Nat} {K : Rho → World → Prop} {E : Exit → Rho → World → Prop} (m : Nat) (us : List Nat) (hmix : P.follows .mixedOrders = true) (hu : slots ρ = us) (hB : anySB l m us = true) (hSB : S.B ≤ w.heap.size)
    (h : AnyS0 S P n l w ρ (fun ps => ∀ w', ExtS S w w' → AllS w.heap.size w' (fun ρ' => WL P n l (l.drop m) K ρ' w') ps [] ρ) (l.take m) []) :
    WP P n (.region id l.toArray true) K E ρ w := by
  intro a ha
  subst hu
  obtain ⟨ps, hl, ht, hall⟩ := anyS_lists _ _ h
  have hm : m ≤ l.length := by
    simp only [anySB, Bool.and_eq_true, decide_eq_true_eq] at hB
    exact hB.1.1.2
  have hpl : ps.length = m := by rw [hl, List.length_take]; omega
  refine wp_region_any hmix ?_
  have hc : ((Array.replicate l.toArray.size false).toList.filter (!·)).length = l.toArray.size := by simp
  refine wpAnyS_inv (S := S) (K := K) hB hpl hSB (fun i o p h1 h2 => by have := hall i o p h1 h2; simpa using this) (by simpa using ht) (fun a' w' ρ' hf hk => ⟨ρ', hf, hk⟩) _ _ (fun _ => (0, 0)) a _ hc
    ⟨by simp, fun i _ => by simp [Array.getElem?_replicate]; split <;> rfl, (Ext.drew _).toS, ha, fun i p _ h => by simp [Array.getElem?_replicate] at h; split at h <;> simp at h, fun i o h => by simp [Array.getElem?_replicate] at h; split at h <;> simp at h, fun i j p q _ _ _ h _ => by simp [Array.getElem?_replicate] at h; split at h <;> simp at h⟩

/-! The same with lists that stay cells. -/
def rrelS (reads : List Nat) : List (Nat × Ks) → List (Nat × Ks) → List (Nat × Ks)
  | [], acc => acc
  | (t, R) :: r, acc => match mem t reads with | true => rrelS reads r ((t, R) :: acc) | false => rrelS reads r acc
def rrevS : List (Nat × Ks) → List (Nat × Ks) → List (Nat × Ks)
  | [], acc => acc
  | p :: r, acc => rrevS r (p :: acc)
theorem relS_append (reads : List Nat) (a b : List (Nat × Ks)) : relS reads (a ++ b) = relS reads a ++ relS reads b := by
  induction a with
  | nil => rfl
  | cons x a ih =>
    obtain ⟨t, R⟩ := x
    show (match mem t reads with | true => (t, R) :: relS reads (a ++ b) | false => relS reads (a ++ b)) = (match mem t reads with | true => (t, R) :: relS reads a | false => relS reads a) ++ relS reads b
    cases mem t reads <;> simp [ih]
theorem rrelS_eq (reads : List Nat) (ds acc : List (Nat × Ks)) : rrelS reads ds acc = relS reads ds.reverse ++ acc := by
  induction ds generalizing acc with
  | nil => rfl
  | cons x r ih =>
    obtain ⟨t, R⟩ := x
    rw [List.reverse_cons, relS_append]
    show (match mem t reads with | true => rrelS reads r ((t, R) :: acc) | false => rrelS reads r acc) = relS reads r.reverse ++ (match mem t reads with | true => [(t, R)] | false => []) ++ acc
    cases mem t reads <;> simp [ih]
theorem rrevS_eq (ds acc : List (Nat × Ks)) : rrevS ds acc = ds.reverse ++ acc := by
  induction ds generalizing acc with
  | nil => rfl
  | cons x r ih => simp [rrevS, ih]
theorem mem_keysS_append (s : Nat) (a b : List (Nat × Ks)) : mem s (keysS (a ++ b)) = (mem s (keysS a) || mem s (keysS b)) := by
  induction a with
  | nil => rfl
  | cons x a ih =>
    obtain ⟨t, R⟩ := x
    show (match Nat.beq s t with | true => true | false => mem s (keysS (a ++ b))) = ((match Nat.beq s t with | true => true | false => mem s (keysS a)) || mem s (keysS b))
    cases Nat.beq s t <;> simp [ih]
theorem mem_keysS_reverse (s : Nat) (a : List (Nat × Ks)) : mem s (keysS a.reverse) = mem s (keysS a) := by
  induction a with
  | nil => rfl
  | cons x a ih =>
    obtain ⟨t, R⟩ := x
    rw [List.reverse_cons, mem_keysS_append, ih]
    show (mem s (keysS a) || (match Nat.beq s t with | true => true | false => false)) = (match Nat.beq s t with | true => true | false => mem s (keysS a))
    cases Nat.beq s t <;> simp
def AnySR (S : SS) (P : Program) (n : Nat) (l : List Oper) (w : World) (ρ : Rho) (tail : List (Nat × Ks) → Prop) (r : List Oper) (ds : List (Nat × Ks)) : Prop := AnyS0 S P n l w ρ tail r ds.reverse
variable {ds : List (Nat × Ks)}
theorem AnySR_val {x : Value} (reads : List Nat) (hd : o.dst = some d) (hreads : readsOf l o = reads)
    (h : ∀ w', ExtS S w w' → AllS w.heap.size w' (fun ρ' => WL P n l [o] (fun ρ'' w'' => Ext w' w'' ∧ look ρ'' d = some x) ρ' w') (rrelS reads ds []) [] ρ)
    (hr : AnySR S P n l w ρ tail r ((d, .val x) :: ds)) : AnySR S P n l w ρ tail (o :: r) ds := by
  unfold AnySR at *
  rw [List.reverse_cons] at hr
  refine AnyS_val hd (fun w' he => ?_) hr
  rw [hreads]; have := h w' he; rw [rrelS_eq, List.append_nil] at this; exact this
theorem AnySR_rel (R : Nat → Nat → Value → World → Prop) (reads : List Nat) (hd : o.dst = some d) (hm : (Ks.rel R).MonoS S) (hreads : readsOf l o = reads)
    (h : ∀ w', ExtS S w w' → AllS w.heap.size w' (fun ρ' => WL P n l [o] (fun ρ'' w'' => Ext w' w'' ∧ ∃ v, look ρ'' d = some v ∧ R w'.heap.size w''.heap.size v w'') ρ' w') (rrelS reads ds []) [] ρ)
    (hr : AnySR S P n l w ρ tail r ((d, .rel R) :: ds)) : AnySR S P n l w ρ tail (o :: r) ds := by
  unfold AnySR at *
  rw [List.reverse_cons] at hr
  refine AnyS_rel R hd hm (fun w' he => ?_) hr
  rw [hreads]; have := h w' he; rw [rrelS_eq, List.append_nil] at this; exact this
theorem AnySR_same (s : Nat) (reads : List Nat) (hd : o.dst = some d) (hreads : readsOf l o = reads) (hs : mem s reads = true) (hk : mem s (keysS ds) = true)
    (h : ∀ w', ExtS S w w' → AllS w.heap.size w' (fun ρ' => WL P n l [o] (fun ρ'' w'' => Ext w' w'' ∧ ∃ v, look ρ'' d = some v ∧ look ρ'' s = some v) ρ' w') (rrelS reads ds []) [] ρ)
    (hr : AnySR S P n l w ρ tail r ((d, .same s) :: ds)) : AnySR S P n l w ρ tail (o :: r) ds := by
  unfold AnySR at *
  rw [List.reverse_cons] at hr
  refine AnyS_same s hd (by rw [hreads]; exact hs) (by rw [mem_keysS_reverse]; exact hk) (fun w' he => ?_) hr
  rw [hreads]; have := h w' he; rw [rrelS_eq, List.append_nil] at this; exact this
theorem AnySR_st (g : Nat) (T : TypeId × Nat) (Q : World → Prop) (reads : List Nat) (hd : o.dst = none) (hS : (g, T) ∈ S) (hm : (Ks.st g T Q).MonoS S) (hc : ∀ q ∈ ds, Compat (.st g T Q) q.2 ∧ Compat q.2 (.st g T Q)) (hreads : readsOf l o = reads)
    (h : ∀ w', ExtS S w w' → AllS w.heap.size w' (fun ρ' => WL P n l [o] (fun ρ'' w'' => (BkT w' g T ∧ Chg g w' w'' ∧ BkT w'' g T) ∧ Q w'') ρ' w') (rrelS reads ds []) [] ρ)
    (hr : AnySR S P n l w ρ tail r ((1000000 + ds.length, .st g T Q) :: ds)) : AnySR S P n l w ρ tail (o :: r) ds := by
  unfold AnySR at *
  rw [List.reverse_cons] at hr
  refine AnyS_st g T Q hd hS hm (fun q hq => hc q (by simpa using hq)) (fun w' he => ?_) (by rw [List.length_reverse]; exact hr)
  rw [hreads]; have := h w' he; rw [rrelS_eq, List.append_nil] at this; exact this
theorem AnySR_nil (h : tail (rrevS ds [])) : AnySR S P n l w ρ tail [] ds := by
  unfold AnySR
  rw [rrevS_eq, List.append_nil] at h
  exact h
theorem AnySR_stv (s : Nat) (T : TypeId × Nat) (Q : Value → World → Prop) (reads : List Nat) (hd : o.dst = none) (hF : T ∈ S.F) (hs : mem s reads = true) (hk : mem s (keysS ds) = true) (hR : ∃ R, (s, Ks.rel R) ∈ ds ∧ PtrIn R) (hm : (Ks.stv s T Q).MonoS S) (hc : ∀ q ∈ ds, Compat (.stv s T Q) q.2 ∧ Compat q.2 (.stv s T Q)) (hreads : readsOf l o = reads)
    (h : ∀ w', ExtS S w w' → AllS w.heap.size w' (fun ρ' => WL P n l [o] (fun ρ'' w'' => ∃ g, look ρ'' s = some (.pointer (some ⟨g, 0, none⟩)) ∧ (BkT w' g T ∧ Chg g w' w'' ∧ BkT w'' g T) ∧ Q (.pointer (some ⟨g, 0, none⟩)) w'') ρ' w') (rrelS reads ds []) [] ρ)
    (hr : AnySR S P n l w ρ tail r ((1000000 + ds.length, .stv s T Q) :: ds)) : AnySR S P n l w ρ tail (o :: r) ds := by
  unfold AnySR at *
  rw [List.reverse_cons] at hr
  refine AnyS_stv s T Q hd hF (by rw [hreads]; exact hs) (by rw [mem_keysS_reverse]; exact hk) (by obtain ⟨R, h1, h2⟩ := hR; exact ⟨R, by simpa using h1, h2⟩) hm (fun q hq => hc q (by simpa using hq)) (fun w' he => ?_) (by rw [List.length_reverse]; exact hr)
  rw [hreads]; have := h w' he; rw [rrelS_eq, List.append_nil] at this; exact this
theorem WP_anySR (S : SS) {id : Nat} {K : Rho → World → Prop} {E : Exit → Rho → World → Prop} (m : Nat) (us : List Nat) (hmix : P.follows .mixedOrders = true) (hu : slots ρ = us) (hB : anySB l m us = true) (hSB : S.B ≤ w.heap.size)
    (h : AnySR S P n l w ρ (fun ps => ∀ w', ExtS S w w' → AllS w.heap.size w' (fun ρ' => WL P n l (l.drop m) K ρ' w') ps [] ρ) (l.take m) []) :
    WP P n (.region id l.toArray true) K E ρ w := WP_anyS m us hmix hu hB hSB h
end
/-! Facts across a region in which blocks of S turn. -/
section
variable {S : SS} {w w' : World}
theorem Bk.extS {g : Nat} {t : TypeId} {cs : List Value} (h : Bk w g t cs) (he : ExtS S w w') (hS : ∀ T, (g, T) ∉ S) : Bk w' g t cs := (he.block g h.lt hS).trans h
theorem Own.extS {B : Nat} {e : TypeId} {v : Value} {vs : List Value} (h : Own B e w v vs) (he : ExtS S w w') (hS : ∀ g T, (g, T) ∈ S → (BkT w g T ∨ w.heap.size ≤ g) ∧ e ≠ T.1) : Own B e w' v vs := by
  obtain ⟨h1, h2⟩ := h
  refine ⟨h1, ?_⟩
  rcases h2 with h2 | ⟨g', cap, cur, rfl, h4, hh, r⟩
  · exact .inl h2
  · have hlt : g' < w.heap.size := by
      rcases Nat.lt_or_ge g' w.heap.size with k | k
      · exact k
      · simp [Array.getElem?_eq_none k] at hh
    refine .inr ⟨g', cap, cur, rfl, h4, (he.block g' hlt fun T hm => ?_).trans hh, r⟩
    · obtain ⟨⟨cs, hb, _⟩ | hge, hne⟩ := hS g' T hm
      rotate_left
      · omega
      unfold Bk at hb
      rw [hb] at hh
      simp at hh
      exact hne hh.2.symm
theorem No.extS {B : Nat} {e : TypeId} {v : Value} {l : List Nat} (h : No B e w v l) (he : ExtS S w w') (hS : ∀ g T, (g, T) ∈ S → (BkT w g T ∨ w.heap.size ≤ g) ∧ e ≠ T.1) : No B e w' v l := ⟨h.own.extS he hS, h.d⟩
theorem SlV.extS {v : Value} {vs : List Value} (h : SlV w v vs) (he : ExtS S w w') (hS : vs ≠ [] → ∀ T, (vblk v, T) ∉ S) : SlV w' v vs := by
  obtain ⟨a, cap, rfl, h2, h3, h4, h5⟩ := h
  refine ⟨a, cap, rfl, h2, h3, h4, fun i u hu => ?_⟩
  obtain ⟨x, rfl, hx⟩ := h5 i u hu
  have hne : vs ≠ [] := by rintro rfl; simp at hu
  refine ⟨x, rfl, ?_⟩
  have hbl : (x.add i).block = x.block := by unfold Addr.add; split <;> rfl
  have hlt : x.block < w.heap.size := by rw [← hbl]; exact block_lt_of_cell hx
  exact (World.cell?_of_block (by rw [hbl]; exact he.block _ hlt (hS hne))).trans hx
theorem Nl.extS {v : Value} {l : List Nat} (h : Nl w v l) (he : ExtS S w w') (hS : l ≠ [] → ∀ T, (vblk v, T) ∉ S) : Nl w' v l :=
  ⟨h.sl.extS he (fun hne => hS (by rintro rfl; exact hne rfl)), h.d⟩
/-- What lay ahead of a world of one's own still does. -/
theorem ExtS.ext {w0 : World} (he : ExtS S w w') (h0 : Ext w0 w) (hS : ∀ g T, (g, T) ∈ S → w0.heap.size ≤ g) : Ext w0 w' :=
  ⟨he.os.trans (Below.os h0), he.tape.trans (Below.tape h0), he.output.trans (Below.output h0), Nat.le_trans h0.size he.size,
    fun k hk => (he.block k (Nat.lt_of_lt_of_le hk h0.size) (fun T hm => by have := hS k T hm; omega)).trans (Below.block h0 k hk)⟩
def Pv.MonoS (S : SS) (p : Pv) : Prop := p.Mono ∧ ∀ g T, (g, T) ∈ S → ∀ v w w', BkT w g T → BkT w' g T → Chg g w w' → p v w → p v w'
theorem RelP.monoS {p : Pv} (h : p.MonoS S) : (Ks.rel (RelP p)).MonoS S := ⟨fun _ _ v w w' he hp => h.1 v w w' he hp, fun g T hm _ _ _ v w w' _ hb hb' hc hp => h.2 g T hm v w w' hb hb' hc hp⟩
theorem pEq_monoS {x : Value} : (pEq x).MonoS S := ⟨pEq_mono, fun _ _ _ _ _ _ _ _ _ h => h⟩
theorem pNo_monoS {B : Nat} {E : TypeId} {l : List Nat} (hS : ∀ g T, (g, T) ∈ S → E ≠ T.1) : (pNo B E l).MonoS S :=
  ⟨pNo_mono, fun g T hm _ _ _ ⟨cs, hb, _⟩ _ hc h => No.chgBk h hb (hS g T hm) hc⟩
/-- The parts of a value, each with what is known of it. -/
def PsS (S : SS) (ps : List Pv) : Prop := ∀ p ∈ ps, Pv.MonoS S p
theorem PsS.nil : PsS S [] := by simp [PsS]
theorem PsS.cons {p : Pv} {ps : List Pv} (h : p.MonoS S) (hr : PsS S ps) : PsS S (p :: ps) := by
  intro q hq
  rcases List.mem_cons.1 hq with rfl | hq
  · exact h
  · exact hr q hq
theorem PsS.ps {ps : List Pv} (h : PsS S ps) : PsM ps := fun p hp => (h p hp).1
theorem AllP.monoS : ∀ {ps : List Pv} {vs : List Value}, PsS S ps → ∀ g T, (g, T) ∈ S → ∀ w w', BkT w g T → BkT w' g T → Chg g w w' → AllP ps vs w → AllP ps vs w'
  | [], _, _, _, _, _, _, _, _, _, _, h => h
  | p :: ps, _, hm, g, T, hg, w, w', hb, hb', hc, ⟨v, r, h1, h2, h3⟩ => ⟨v, r, h1, (hm p (by simp)).2 g T hg _ _ _ hb hb' hc h2, AllP.monoS (fun q hq => hm q (List.mem_cons_of_mem _ hq)) g T hg w w' hb hb' hc h3⟩
theorem pAgg_monoS {ps : List Pv} (h : PsS S ps) : (pAgg ps).MonoS S :=
  ⟨pAgg_mono h.ps, fun g T hm _ _ _ hb hb' hc ⟨vs, h1, h2⟩ => ⟨vs, h1, AllP.monoS h g T hm _ _ hb hb' hc h2⟩⟩
theorem pTup_monoS {ps : List Pv} (h : PsS S ps) : (pTup ps).MonoS S :=
  ⟨pTup_mono h.ps, fun g T hm _ _ _ hb hb' hc ⟨vs, h1, h2⟩ => ⟨vs, h1, AllP.monoS h g T hm _ _ hb hb' hc h2⟩⟩
/-- A block behind its store. -/
def pSt (g : Nat) (T : TypeId) (ps : List Pv) : World → Prop := fun w => ∃ vs, Bk w g T vs ∧ AllP ps vs w
theorem pSt_monoS {g : Nat} {T : TypeId} {ps : List Pv} {Tn : TypeId × Nat} (h : PsS S ps) : (Ks.st g Tn (pSt g T ps)).MonoS S :=
  ⟨fun _ _ _ w w' he ⟨vs, h1, h2⟩ => ⟨vs, h1.ext he, AllP.mono h.ps _ _ he h2⟩,
    fun g' T' hm hne _ _ _ w w' _ hb hb' hc ⟨vs, h1, h2⟩ => ⟨vs, h1.chg hc (fun e => by subst e; exact hne _ _ rfl), AllP.monoS h g' T' hm _ _ hb hb' hc h2⟩⟩
/-- .. and one that this very region made. -/
def pStv (T : TypeId) (ps : List Pv) : Value → World → Prop := fun v w => ∀ g, v = .pointer (some ⟨g, 0, none⟩) → pSt g T ps w
theorem pStv_monoS {s : Nat} {T : TypeId} {ps : List Pv} {Tn : TypeId × Nat} (h : PsS S ps) : (Ks.stv s Tn (pStv T ps)).MonoS S :=
  ⟨fun _ _ v w w' he hq g e => let ⟨vs, h1, h2⟩ := hq g e; ⟨vs, h1.ext he, AllP.mono h.ps _ _ he h2⟩,
    fun g' T' hm _ _ _ v w w' hv hb hb' hc hq g e => let ⟨vs, h1, h2⟩ := hq g e
      ⟨vs, h1.chg hc (fun e' => hv _ _ _ rfl (by rw [e, e'])), AllP.monoS h g' T' hm _ _ hb hb' hc h2⟩⟩
/-- A pointer to a new block of a type, whatever it holds. -/
def BkTR (T : TypeId × Nat) : Nat → Nat → Value → World → Prop := fun a b v w => ∃ g, v = .pointer (some ⟨g, 0, none⟩) ∧ a ≤ g ∧ g < b ∧ BkT w g T
theorem BkTR.ptr {T : TypeId × Nat} : PtrIn (BkTR T) := fun _ _ _ _ ⟨g, h1, h2, h3, _⟩ => ⟨g, h1, h2, h3⟩
theorem BkT.unique {w : World} {g : Nat} {T T' : TypeId × Nat} (h : BkT w g T) (h' : BkT w g T') : T = T' := by
  obtain ⟨cs, hb, hl⟩ := h
  obtain ⟨cs1, hb1, hl1⟩ := h'
  unfold Bk at hb hb1
  rw [hb1] at hb
  simp at hb
  obtain ⟨e1, e2⟩ := hb
  obtain ⟨t1, n1⟩ := T
  obtain ⟨t2, n2⟩ := T'
  simp only at e1 e2 hl hl1
  subst e1
  have e3 : t1 = t2 := by first | exact e2 | exact e2.symm
  have e4 : n1 = n2 := by omega
  rw [e3, e4]
theorem BkTR.monoS {T : TypeId × Nat} : (Ks.rel (BkTR T)).MonoS S :=
  ⟨fun _ _ _ _ _ he ⟨g, h1, h2, h3, cs, h4, h5⟩ => ⟨g, h1, h2, h3, cs, h4.ext he, h5⟩,
    fun g' T' hm _ _ _ v w w' _ hb hb' hc ⟨g, h1, h2, h3, h4⟩ => ⟨g, h1, h2, h3, by
      by_cases e : g = g'
      · subst e
        rw [h4.unique hb]; exact hb'
      · obtain ⟨cs, h5, h6⟩ := h4
        exact ⟨cs, h5.chg hc e, h6⟩⟩⟩
/-- Where new blocks alone turn, nothing old has turned. -/
theorem ExtS.toExt {F : List (TypeId × Nat)} (he : ExtS ⟨[], F, w.heap.size⟩ w w') : Ext w w' :=
  ⟨he.os, he.tape, he.output, he.size, fun k hk => he.block k hk (fun T hm => by
    rcases hm with hm | ⟨hm, _⟩
    · exact absurd hm (by simp)
    · simp only at hm; omega)⟩
end
section
variable {P : Program} {n : Nat} {K : Rho → World → Prop} {ρ : Rho} {w : World} {ops rest : List Oper}
variable {ty : TypeId} {pos : String} {after : Array Edge} {gd_ : Option (Nat × Bool)} {t : TypeId}
/-- A store of a whole struct into a whole block. -/
theorem O_storeW {x y : Operand} {g z : Nat} {tb : TypeId} {zs vs : List Value} (St : StT P t z zs) (hg : gd ops ρ gd_ = some true)
    (hx : ev ρ x = some (.pointer (some ⟨g, 0, none⟩))) (hy : ev ρ y = some (.agg vs.toArray)) (hb : BkT w g (tb, z)) (hl : Nat.beq vs.length z = true) (h1 : ∀ v ∈ vs, v.oneCell' = true)
    (h : ∀ w', Bk w' g tb vs → Chg g w w' → WL P n ops rest K ρ w') :
    WL P n ops (⟨none, .store t x y, ty, pos, after, gd_⟩ :: rest) K ρ w := by
  obtain ⟨cs, hbk, hlen⟩ := hb
  have hl' : vs.length = z := by simpa using hl
  refine O_storeA (cs' := vs) St hg hx hy hbk hl (by simp only at hlen; simp [hlen, hl']) h1 ?_ h
  simp only at hlen
  rw [List.take_zero, List.nil_append, List.drop_eq_nil_of_le (by omega), List.append_nil]
end
section
variable {w' : World} {B : Nat} {C : Rho → Prop} {ρ : Rho} {r : List (Nat × Ks)} {acc : List (Nat × Nat)} {t : Nat}
theorem AllS_v {x : Value} (h : AllS B w' C r acc ((t, x) :: ρ)) : AllS B w' C ((t, .val x) :: r) acc ρ := h
theorem AllS_r {R : Nat → Nat → Value → World → Prop}
    (h : ∀ a b v, B ≤ a → a ≤ b → b ≤ w'.heap.size → R a b v w' → Apart a b acc → AllS B w' C r ((a, b) :: acc) ((t, v) :: ρ)) : AllS B w' C ((t, .rel R) :: r) acc ρ := h
theorem AllS_s {s : Nat} {x : Value} (hx : look ρ s = some x) (h : AllS B w' C r acc ((t, x) :: ρ)) : AllS B w' C ((t, .same s) :: r) acc ρ := by
  unfold AllS
  rw [hx]; exact h
theorem AllS_q {g : Nat} {T : TypeId × Nat} {Q : World → Prop} (h : Q w' → AllS B w' C r acc ρ) : AllS B w' C ((t, .st g T Q) :: r) acc ρ := h
theorem AllS_qv {s : Nat} {T : TypeId × Nat} {Q : Value → World → Prop} {x : Value} (hx : look ρ s = some x) (h : Q x w' → AllS B w' C r acc ρ) : AllS B w' C ((t, .stv s T Q) :: r) acc ρ := by
  unfold AllS
  rw [hx]; exact h
theorem AllS_nil (h : C ρ) : AllS B w' C [] acc ρ := h
theorem compat_nil {R : Ks} : ∀ q ∈ ([] : List (Nat × Ks)), Compat R q.2 ∧ Compat q.2 R := by simp
theorem compat_cons {R R' : Ks} (h : Compat R R' ∧ Compat R' R) (hr : ∀ q ∈ r, Compat R q.2 ∧ Compat q.2 R) : ∀ q ∈ ((t, R') :: r : List (Nat × Ks)), Compat R q.2 ∧ Compat q.2 R := by
  intro q hq
  rcases List.mem_cons.1 hq with rfl | hq
  · exact h
  · exact hr q hq
end
end Go.Proofs.Ytoccimigjjndpaa
