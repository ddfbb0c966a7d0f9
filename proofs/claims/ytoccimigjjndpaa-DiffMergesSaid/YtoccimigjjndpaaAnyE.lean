/-
  Regions that draw their order, where some operations turn memory and stand in one order among themselves; all the others yield one value each, whenever they come up.
-/
import Derived.Test.YtoccimigjjndpaaRowk
set_option linter.unusedVariables false
set_option linter.unusedSimpArgs false
namespace Go.Proofs.Ytoccimigjjndpaa
open Go Go.RowKit
def pureE : List (Nat × Value) → Rho → Rho
  | [], ρ => ρ
  | (t, x) :: r, ρ => pureE r ((t, x) :: ρ)
def relE (reads : List Nat) : List (Nat × Value) → Rho → Rho
  | [], ρ => ρ
  | (t, x) :: r, ρ => match mem t reads with | true => relE reads r ((t, x) :: ρ) | false => relE reads r ρ
def effE : List Nat → List Value → Rho → Rho
  | d :: ds, v :: vs, ρ => effE ds vs ((d, v) :: ρ)
  | _, _, ρ => ρ
theorem Fits.cons {n : Nat} {a : Act} {ρ : Rho} (h : Fits n a ρ) {t : Nat} {x : Value} (hx : a.tmps[t]? = some x) : Fits n a ((t, x) :: ρ) := ⟨h.defers, h.size, fun s u hs => by
  rw [look_cons] at hs
  by_cases e : t = s
  · simp only [e, if_true] at hs; cases hs; rw [← e]; exact hx
  · simp only [e, if_false] at hs; exact h.at_ s u hs⟩
theorem fits_pureE {n : Nat} {a : Act} : ∀ {ds : List (Nat × Value)} {ρ : Rho}, Fits n a ρ → (∀ p ∈ ds, a.tmps[p.1]? = some p.2) → Fits n a (pureE ds ρ)
  | [], _, h, _ => h
  | (t, x) :: r, ρ, h, hp => fits_pureE (ds := r) (ρ := (t, x) :: ρ) (h.cons (hp (t, x) (by simp))) fun p hpr => hp p (List.mem_cons_of_mem _ hpr)
theorem fits_relE {n : Nat} {a : Act} {reads : List Nat} : ∀ {ds : List (Nat × Value)} {ρ : Rho}, Fits n a ρ → (∀ p ∈ ds, mem p.1 reads = true → a.tmps[p.1]? = some p.2) → Fits n a (relE reads ds ρ)
  | [], _, h, _ => h
  | (t, x) :: r, ρ, h, hp => by
    unfold relE
    cases hm : mem t reads with
    | true => exact fits_relE (h.cons (hp (t, x) (by simp) hm)) fun p hpr => hp p (List.mem_cons_of_mem _ hpr)
    | false => exact fits_relE h fun p hpr => hp p (List.mem_cons_of_mem _ hpr)
theorem fits_effE {n : Nat} {a : Act} : ∀ {D : List Nat} {vs : List Value} {ρ : Rho}, Fits n a ρ → (∀ (s : Nat) d v, D[s]? = some d → vs[s]? = some v → a.tmps[d]? = some v) → Fits n a (effE D vs ρ)
  | [], [], _, h, _ => h
  | [], _ :: _, _, h, _ => h
  | _ :: _, [], _, h, _ => h
  | d :: D, v :: vs, ρ, h, hp => fits_effE (D := D) (vs := vs) (ρ := (d, v) :: ρ) (h.cons (hp 0 d v rfl rfl)) fun s d' v' h1 h2 => hp (s + 1) d' v' h1 h2
/-- The pure values of a list, the newest first. -/
def dsOf : List (Nat × Option Value) → List (Nat × Value) → List (Nat × Value)
  | [], acc => acc
  | (d, some x) :: r, acc => dsOf r ((d, x) :: acc)
  | (_, none) :: r, acc => dsOf r acc
theorem mem_dsOf {p : Nat × Value} : ∀ {ps : List (Nat × Option Value)} {acc : List (Nat × Value)}, p ∈ dsOf ps acc → p ∈ acc ∨ ∃ j : Nat, ps[j]? = some (p.1, some p.2)
  | [], _, h => .inl h
  | (d, some x) :: r, acc, h => by
    rcases mem_dsOf (ps := r) h with h | ⟨j, hj⟩
    · rcases List.mem_cons.1 h with rfl | h
      · exact .inr ⟨0, rfl⟩
      · exact .inl h
    · exact .inr ⟨j + 1, hj⟩
  | (d, none) :: r, acc, h => by
    rcases mem_dsOf (ps := r) h with h | ⟨j, hj⟩
    · exact .inl h
    · exact .inr ⟨j + 1, hj⟩
theorem dsOf_snoc {d : Nat} {y : Option Value} : ∀ {ps : List (Nat × Option Value)} {acc : List (Nat × Value)}, dsOf (ps ++ [(d, y)]) acc = match y with | some x => (d, x) :: dsOf ps acc | none => dsOf ps acc
  | [], acc => by cases y <;> rfl
  | (d', some x) :: r, acc => by simpa [dsOf] using dsOf_snoc (ps := r) (acc := (d', x) :: acc)
  | (d', none) :: r, acc => by simpa [dsOf] using dsOf_snoc (ps := r) (acc := acc)
section
variable {P : Program} {n : Nat} {w : World} {ρ : Rho} {l : List Oper} {X : List Value → World → Prop} {Y : World → Prop} {E D : List Nat}
/-- What is asked of one operation: number i, behind these pure values. -/
def OpE (P : Program) (n : Nat) (l : List Oper) (X : List Value → World → Prop) (Y : World → Prop) (E D : List Nat) (ρ : Rho) (o : Oper) (i d : Nat) (ds : List (Nat × Value)) : Option Value → Prop
  | some x => mem i E = false ∧ ∀ w', Y w' → WL P n l [o] (fun ρ'' w'' => w'' = w' ∧ look ρ'' d = some x) (relE (readsOf l o) ds ρ) w'
  | none => ∃ s : Nat, E[s]? = some i ∧ ∀ vs w', vs.length = s → X vs w' → WL P n l [o] (fun ρ'' w'' => ∃ v, look ρ'' d = some v ∧ X (vs ++ [v]) w'') (effE (D.take s) vs (relE (readsOf l o) ds ρ)) w'
def AnyE (P : Program) (n : Nat) (l : List Oper) (X : List Value → World → Prop) (Y : World → Prop) (E D : List Nat) (ρ : Rho) (tail : List (Nat × Value) → Prop) : List Oper → Nat → List (Nat × Value) → Prop
  | [], _, ds => tail ds
  | o :: r, i, ds => ∃ d y, o.dst = some d ∧ OpE P n l X Y E D ρ o i d ds y ∧ AnyE P n l X Y E D ρ tail r (i + 1) (match y with | some x => (d, x) :: ds | none => ds)
theorem anyE_lists {tail : List (Nat × Value) → Prop} : ∀ (r : List Oper) (i : Nat) (qs : List (Nat × Option Value)), qs.length = i → AnyE P n l X Y E D ρ tail r i (dsOf qs []) →
    ∃ ps : List (Nat × Option Value), ps.length = r.length ∧ tail (dsOf (qs ++ ps) []) ∧ ∀ j o p, r[j]? = some o → ps[j]? = some p → o.dst = some p.1 ∧ OpE P n l X Y E D ρ o (i + j) p.1 (dsOf (qs ++ ps.take j) []) p.2
  | [], i, qs, hi, h => ⟨[], rfl, by rw [List.append_nil]; exact h, fun j o p h1 => by simp at h1⟩
  | o :: r, i, qs, hi, h => by
    obtain ⟨d, y, hd, hok, hr⟩ := h
    obtain ⟨ps, hl, ht, hall⟩ := anyE_lists r (i + 1) (qs ++ [(d, y)]) (by simp [hi]) (by rw [dsOf_snoc]; exact hr)
    refine ⟨(d, y) :: ps, by simp [hl], by simpa using ht, fun j o' p h1 h2 => ?_⟩
    cases j with
    | zero =>
      simp at h1 h2; subst h1; subst h2
      exact ⟨hd, by simpa using hok⟩
    | succ j =>
      simp at h1 h2
      have := hall j o' p h1 h2
      rw [show i + (j + 1) = i + 1 + j from by omega]
      simpa using this
/-- What the region's own edges must say of the operations that turn something. -/
def effB (l : List Oper) (m : Nat) (E D : List Nat) : Bool :=
  ((List.range E.length).all fun s => match E[s]? with
    | some i => decide (i < m) && (match (l[i]?).bind (·.dst) with
        | some d => D[s]? == some d
        | none => false) && ((List.range s).all fun s' => match E[s']? with
        | some j => reachB l 8 i j
        | none => true)
    | none => true) &&
  D.length == E.length
theorem mem_of_get {t i : Nat} : ∀ {E : List Nat}, E[i]? = some t → mem t E = true := by
  intro E
  induction E generalizing i with
  | nil => intro h; simp at h
  | cons x r ih =>
    intro h
    show (match Nat.beq t x with | true => true | false => mem t r) = true
    cases hb : Nat.beq t x with
    | true => rfl
    | false =>
      cases i with
      | zero => simp at h; subst h; simp at hb
      | succ i => exact ih (by simpa using h)
structure InvE (n : Nat) (l : List Oper) (m : Nat) (X : List Value → World → Prop) (E D : List Nat) (ρ : Rho) (ps : List (Nat × Option Value)) (listed : Array Bool) (a : Act) (w' : World) : Prop where
  size : listed.size = l.length
  tail : ∀ i, m ≤ i → listed.getD i false = false
  fits : Fits n a ρ
  vals : ∀ (i : Nat) d x, ps[i]? = some (d, some x) → listed.getD i false = true → a.tmps[d]? = some x
  effs : ∃ vs, X vs w' ∧ (∀ (s : Nat) i, E[s]? = some i → (listed.getD i false = true ↔ s < vs.length)) ∧ (∀ (s : Nat) d v, D[s]? = some d → vs[s]? = some v → a.tmps[d]? = some v) ∧ vs.length ≤ E.length
  closed : ∀ (i : Nat) (o : Oper), listed.getD i false = true → l[i]? = some o → ∀ e ∈ o.after, Region.binds .any e = true → listed.getD e.on false = true
set_option maxHeartbeats 1000000 in
theorem wpAnyE_inv {m : Nat} {K : Rho → World → Prop} {Q : Exit → Act → World → Prop} {ps : List (Nat × Option Value)} (hB : anyB l m (slots ρ) = true) (hEB : effB l m E D = true) (hps : ps.length = m) (hXY : ∀ vs w', X vs w' → Y w')
    (hok : ∀ i o p, (l.take m)[i]? = some o → ps[i]? = some p → o.dst = some p.1 ∧ OpE P n l X Y E D ρ o i p.1 (dsOf (ps.take i) []) p.2)
    (htail : ∀ vs w', vs.length = E.length → X vs w' → WL P n l (l.drop m) K (effE D vs (pureE (dsOf ps []) ρ)) w') (hQ : ∀ a' w' ρ', Fits n a' ρ' → K ρ' w' → Q .normal a' w') :
    ∀ (fuel : Nat) (listed : Array Bool) (a : Act) (w' : World), (listed.toList.filter (!·)).length = fuel → InvE n l m X E D ρ ps listed a w' → wpAny P .any l.toArray Q fuel listed a w' := by
  simp only [anyB, Bool.and_eq_true, decide_eq_true_eq] at hB
  obtain ⟨⟨⟨hsel, hm⟩, hedge⟩, hseq⟩ := hB
  rw [List.all_eq_true] at hedge
  have hedge' : ∀ i o, l[i]? = some o → (∀ e ∈ o.after, Region.binds .any e = true → e.on < i) ∧
      (i < m → ∃ d, o.dst = some d ∧ mem d (slots ρ) = false ∧ ∀ j d', j < i → (l[j]?).bind (·.dst) = some d' → Nat.beq d d' = false ∧ (mem d' (readsOf l o) = true → ∃ e ∈ o.after, Region.binds .any e = true ∧ e.on = j)) ∧
      (m ≤ i → ∀ j, j < i → j < m → reachB l 8 i j = true) := by
    intro i o hi
    have hlt : i < l.length := (List.getElem?_eq_some_iff.1 hi).1
    have h := hedge i (by simpa using hlt)
    rw [hi] at h
    simp only [Bool.and_eq_true, List.all_eq_true, Array.mem_toList_iff] at h
    obtain ⟨h1, h2⟩ := h
    refine ⟨fun e he hb => ?_, fun him => ?_, fun him j hj hjm => ?_⟩
    · have := h1 e he; simp [hb] at this; exact this
    · rw [if_pos him] at h2
      cases hd : o.dst with
      | none => rw [hd] at h2; simp at h2
      | some d =>
        rw [hd] at h2
        simp only [Bool.and_eq_true, Bool.not_eq_true', List.all_eq_true, List.mem_range] at h2
        refine ⟨d, rfl, h2.1, fun j d' hj hjd => ?_⟩
        have h3 := h2.2 j hj
        rw [hjd] at h3
        simp only [Bool.and_eq_true, Bool.not_eq_true', Bool.or_eq_true, List.any_eq_true, Array.mem_toList_iff, beq_iff_eq] at h3
        refine ⟨h3.1, fun hmem => ?_⟩
        rcases h3.2 with h4 | ⟨e, he, hb, ho⟩
        · rw [hmem] at h4; cases h4
        · exact ⟨e, he, hb, ho⟩
    · rw [if_neg (by omega)] at h2
      rw [List.all_eq_true] at h2
      have h3 := h2 j (by simpa using hj)
      simp only [Bool.or_eq_true, decide_eq_true_eq] at h3
      rcases h3 with h3 | h3
      · omega
      · exact h3
  simp only [effB, Bool.and_eq_true] at hEB
  obtain ⟨hE1, hE3⟩ := hEB
  have hDl : D.length = E.length := by simpa using hE3
  have hE : ∀ (s : Nat) i, E[s]? = some i → i < m ∧ (∃ o d, l[i]? = some o ∧ o.dst = some d ∧ D[s]? = some d) ∧ ∀ (s' : Nat) j, s' < s → E[s']? = some j → reachB l 8 i j = true := by
    intro s i hs
    have hlt : s < E.length := (List.getElem?_eq_some_iff.1 hs).1
    rw [List.all_eq_true] at hE1
    have h := hE1 s (by simpa using hlt)
    rw [hs] at h
    simp only [Bool.and_eq_true, decide_eq_true_eq] at h
    obtain ⟨⟨h1, h2⟩, h3⟩ := h
    refine ⟨h1, ?_, fun s' j hs' hj => ?_⟩
    · cases ho : l[i]? with
      | none => rw [ho] at h2; simp at h2
      | some o =>
        rw [ho] at h2
        cases hd : o.dst with
        | none => simp [hd] at h2
        | some d => exact ⟨o, d, rfl, hd, by simpa [hd] using h2⟩
    · rw [List.all_eq_true] at h3
      have := h3 s' (by simpa using hs')
      rw [hj] at this; exact this
  have hget : ∀ (listed : Array Bool) (i : Nat), listed.size = l.length → i < l.length → listed.getD i true = listed.getD i false := by
    intro listed i hs hi
    have : i < listed.size := by omega
    simp [this]
  have hdst : ∀ i p, ps[i]? = some p → ∃ o, l[i]? = some o ∧ o.dst = some p.1 ∧ OpE P n l X Y E D ρ o i p.1 (dsOf (ps.take i) []) p.2 := by
    intro i p hp
    have hi : i < ps.length := (List.getElem?_eq_some_iff.1 hp).1
    have hil : i < l.length := by omega
    have := hok i l[i] p (by rw [List.getElem?_take, if_pos (by omega)]; simp [hil]) hp
    exact ⟨l[i], by simp [hil], this.1, this.2⟩
  have huniq : ∀ (i j d : Nat) (o o' : Oper), i < m → j < m → i ≠ j → l[i]? = some o → l[j]? = some o' → o.dst = some d → o'.dst = some d → False := by
    have key : ∀ (i j d : Nat) (o o' : Oper), j < m → i < j → l[i]? = some o → l[j]? = some o' → o.dst = some d → o'.dst = some d → False := by
      intro i j d o o' hj hij h1 h2 h3 h4
      obtain ⟨d', hd', _, hdj⟩ := (hedge' j o' h2).2.1 hj
      rw [h4] at hd'; cases hd'
      have := (hdj i d hij (by rw [h1]; exact h3)).1
      simp at this
    intro i j d o o' hi hj hij h1 h2 h3 h4
    rcases Nat.lt_or_ge i j with h | h
    · exact key i j d o o' hj h h1 h2 h3 h4
    · exact key j i d o' o hi (by omega) h2 h1 h4 h3
  have hfull' : ∀ (listed : Array Bool) (a : Act) (w' : World), InvE n l m X E D ρ ps listed a w' → (∀ i, i < m → listed.getD i false = true) → ∃ ρ', Fits n a ρ' ∧ WL P n l (l.drop m) K ρ' w' := by
    intro listed a w' inv hall
    obtain ⟨vs, hX, hiff, hval, hle⟩ := inv.effs
    have hlen : vs.length = E.length := by
      rcases Nat.lt_or_ge vs.length E.length with h | h
      · have h1 := hiff vs.length E[vs.length] (by simp [h])
        have h2 := (hE vs.length E[vs.length] (by simp [h])).1
        have := h1.1 (hall _ h2)
        omega
      · omega
    refine ⟨_, fits_effE (fits_pureE inv.fits fun p hp => ?_) hval, htail vs w' hlen hX⟩
    rcases mem_dsOf hp with h | ⟨j, hj⟩
    · cases h
    · exact inv.vals j p.1 p.2 hj (hall j (by have := (List.getElem?_eq_some_iff.1 hj).1; omega))
  intro fuel
  induction fuel with
  | zero =>
    intro listed a w' hc inv
    have hallT : ∀ i, i < l.length → listed.getD i false = true := by
      intro i hi
      have h0 : listed.toList.filter (!·) = [] := List.eq_nil_of_length_eq_zero hc
      rw [List.filter_eq_nil_iff] at h0
      have hi' : i < listed.size := by rw [inv.size]; exact hi
      have := h0 listed[i] (by simp)
      simp at this
      simp [hi', this]
    have hml : m = l.length := by
      rcases Nat.lt_or_ge m l.length with h | h
      · have h1 := hallT m h
        rw [inv.tail m (Nat.le_refl _)] at h1; cases h1
      · omega
    obtain ⟨ρ', hf, hw⟩ := hfull' listed a w' inv fun i hi => hallT i (by omega)
    rw [hml, List.drop_length] at hw
    refine ⟨?_, ?_⟩
    · apply List.eq_nil_iff_forall_not_mem.2
      intro i hi
      obtain ⟨h1, o, ho, _⟩ := mem_ready.1 hi
      have hlt : i < l.length := by simpa using (Array.getElem?_eq_some_iff.1 ho).1
      rw [hget listed i inv.size hlt, hallT i hlt] at h1; cases h1
    · exact hw a hf Q hQ
  | succ fuel ih =>
    intro listed a w' hc inv
    by_cases hfull : ∀ i, i < m → listed.getD i false = true
    · obtain ⟨ρ', hf, hw⟩ := hfull' listed a w' inv hfull
      have hlisted : listed = ((List.range l.length).map fun i => decide (i < m)).toArray := by
        apply Array.ext
        · simp [inv.size]
        · intro i h1 h2
          simp only [List.size_toArray, List.length_map, List.length_range] at h2
          simp only [List.getElem_toArray, List.getElem_map, List.getElem_range]
          rcases Nat.lt_or_ge i m with h | h
          · have := hfull i h; simp [h1] at this; simp [this, h]
          · have := inv.tail i h; simp [h1] at this; simp [this]; omega
      have hlen : (l.drop m).length = fuel + 1 := by
        rw [← hc, hlisted]
        have : ((List.range l.length).map fun i => decide (i < m)).filter (!·) = (List.replicate (l.length - m) false) := by
          have h1 : List.range l.length = List.range m ++ (List.range (l.length - m)).map (m + ·) := by
            rw [← List.range_add]; congr 1; omega
          rw [h1, List.map_append, List.filter_append]
          have h2 : ((List.range m).map fun i => decide (i < m)).filter (!·) = [] := by
            rw [List.filter_eq_nil_iff]; intro b hb
            obtain ⟨i, hi, rfl⟩ := List.mem_map.1 hb
            have : i < m := by simpa using hi
            simp [this]
          have h3 : (((List.range (l.length - m)).map (m + ·)).map fun i => decide (i < m)) = List.replicate (l.length - m) false := by
            apply List.ext_getElem
            · simp
            · intro i h1 h2; simp
          rw [h2, h3]; simp
        rw [this]; simp
      rw [← hlen]
      refine wpAny_of_seq (l.drop m) m listed a w' (fun j => by simp [List.getElem?_drop]) ?_ (hw a hf Q hQ)
      rw [hlisted, List.length_drop]; exact hseq
    · have hsome : ∃ i, i < m ∧ listed.getD i false = false := by
        apply Classical.byContradiction
        intro hno
        apply hfull
        intro i hi
        cases hb : listed.getD i false with
        | true => rfl
        | false => exact absurd ⟨i, hi, hb⟩ hno
      refine ⟨fun hnil => ?_, fun i hi => ?_⟩
      · exfalso
        obtain ⟨i0, hi0, hf0⟩ := hsome
        have hleast : ∃ i, i < m ∧ listed.getD i false = false ∧ ∀ j, j < i → listed.getD j false = true := by
          clear hnil
          induction i0 using Nat.strongRecOn with
          | _ i0 ihl =>
            by_cases hall : ∀ j, j < i0 → listed.getD j false = true
            · exact ⟨i0, hi0, hf0, hall⟩
            · have : ∃ j, j < i0 ∧ listed.getD j false = false := by
                apply Classical.byContradiction
                intro hno
                apply hall
                intro j hj
                cases hb : listed.getD j false with
                | true => rfl
                | false => exact absurd ⟨j, hj, hb⟩ hno
              obtain ⟨j, hj, hjf⟩ := this
              exact ihl j hj (by omega) hjf
        obtain ⟨i, him, hif, hbefore⟩ := hleast
        have hlt : i < l.length := by omega
        have hmem : i ∈ Region.ready .any l.toArray listed := by
          rw [mem_ready]
          refine ⟨by rw [hget listed i inv.size hlt]; exact hif, l[i], by simp [hlt], fun e he hb => ?_⟩
          have := (hedge' i l[i] (by simp [hlt])).1 e he hb
          exact hbefore e.on this
        rw [hnil] at hmem; cases hmem
      · obtain ⟨hun, o, ho, hafter⟩ := mem_ready.1 hi
        have hol : l[i]? = some o := by simpa using ho
        have hlt : i < l.length := (List.getElem?_eq_some_iff.1 hol).1
        have hunF : listed.getD i false = false := by rw [← hget listed i inv.size hlt]; exact hun
        obtain ⟨hG1, hG2, hG3⟩ := hedge' i o hol
        have him : i < m := by
          rcases Nat.lt_or_ge i m with h | h
          · exact h
          · exfalso
            obtain ⟨j, hj, hjf⟩ := hsome
            have := reach_listed inv.closed 8 i j o hol hafter (hG3 h j (by omega) hj)
            rw [hjf] at this; cases this
        obtain ⟨d, hd, hdρ, hdj⟩ := hG2 him
        have hpi : i < ps.length := by omega
        obtain ⟨o2, ho2, hdp, hOp⟩ := hdst i ps[i] (by simp [hpi])
        rw [hol] at ho2; cases ho2
        have hdp' : ps[i].1 = d := by rw [hd] at hdp; cases hdp; rfl
        rw [hdp'] at hOp
        have hfr : Fits n a (relE (readsOf l o) (dsOf (ps.take i) []) ρ) := fits_relE inv.fits fun p hp hmem => by
          rcases mem_dsOf hp with h | ⟨j, hj⟩
          · cases h
          · have hj1 : j < i := by have := (List.getElem?_eq_some_iff.1 hj).1; simp at this; omega
            have hj2 : ps[j]? = some (p.1, some p.2) := by rw [List.getElem?_take, if_pos hj1] at hj; exact hj
            obtain ⟨o3, ho3, hd3, _⟩ := hdst j _ hj2
            obtain ⟨_, hed⟩ := hdj j p.1 hj1 (by rw [ho3]; exact hd3)
            obtain ⟨e, he1, he2, he3⟩ := hed hmem
            exact inv.vals j p.1 p.2 hj2 (by rw [← he3]; exact hafter e he1 he2)
        obtain ⟨vs, hX, hiff, hval, hle⟩ := inv.effs
        have hmono : ∀ k, listed.getD k false = true → (listed.setIfInBounds i true).getD k false = true := by
          intro k hk
          by_cases hik : i = k
          · subst hik; rw [hunF] at hk; cases hk
          · rw [getD_set_ne false hik]; exact hk
        have hii : (listed.setIfInBounds i true).getD i false = true := by
          have : i < listed.size := by rw [inv.size]; exact hlt
          simp [this]
        have hrank : ∀ s : Nat, E[s]? = some i → vs.length = s := by
          intro s hs
          have h1 : ¬ s < vs.length := fun h => by rw [(hiff s i hs).2 h] at hunF; cases hunF
          rcases Nat.lt_or_ge vs.length s with h2 | h2
          · exfalso
            have hsl : s < E.length := (List.getElem?_eq_some_iff.1 hs).1
            have hvl : vs.length < E.length := by omega
            have h3 := (hE s i hs).2.2 vs.length E[vs.length] h2 (by simp [hvl])
            have h4 := reach_listed inv.closed 8 i _ o hol hafter h3
            have h5 := (hiff vs.length E[vs.length] (by simp [hvl])).1 h4
            omega
          · omega
        let G : Value → World → Prop := fun v w'' => match ps[i].2 with
          | some x => v = x ∧ w'' = w'
          | none => X (vs ++ [v]) w''
        have hrun : wpList P l.toArray (fun e a' w'' => match e with
          | .normal => (∃ v, a'.tmps[d]? = some v ∧ G v w'') ∧ a'.defers = [] ∧ a'.tmps.size = n
          | e => Q e a' w'') [o] a w' := by
          cases hy : ps[i].2 with
          | some x =>
            rw [hy] at hOp
            refine hOp.2 w' (hXY vs w' hX) a hfr _ (fun a' w'' ρ'' hf'' h'' => ⟨⟨x, hf''.at_ d x h''.2, ?_⟩, hf''.defers, hf''.size⟩)
            show G x w''
            simp only [G, hy]
            first
              | exact ⟨rfl, h''.1⟩
              | exact ⟨trivial, h''.1⟩
          | none =>
            rw [hy] at hOp
            obtain ⟨s, hs, hop⟩ := hOp
            have hfe : Fits n a (effE (D.take s) vs (relE (readsOf l o) (dsOf (ps.take i) []) ρ)) := fits_effE hfr fun s' d' v' h1 h2 => by
              rw [List.getElem?_take] at h1
              split at h1
              · exact hval s' d' v' h1 h2
              · cases h1
            refine hop vs w' (hrank s hs) hX a hfe _ (fun a' w'' ρ'' hf'' h'' => ?_)
            obtain ⟨x, hx, hX2⟩ := h''
            refine ⟨⟨x, hf''.at_ d x hx, ?_⟩, hf''.defers, hf''.size⟩
            show G x w''
            simp only [G, hy]
            exact hX2
        have hmono : ∀ k, listed.getD k false = true → (listed.setIfInBounds i true).getD k false = true := by
          intro k hk
          by_cases hik : i = k
          · subst hik; rw [hunF] at hk; cases hk
          · rw [getD_set_ne false hik]; exact hk
        have hii : (listed.setIfInBounds i true).getD i false = true := by
          have : i < listed.size := by rw [inv.size]; exact hlt
          simp [this]
        have next : ∀ v w'', ((∃ u, (a.put o.dst v).tmps[d]? = some u ∧ G u w'') ∧ (a.put o.dst v).defers = [] ∧ (a.put o.dst v).tmps.size = n) → wpAny P .any l.toArray Q fuel (listed.setIfInBounds i true) (a.put o.dst v) w'' := by
          intro v w'' ⟨⟨u, hu, hG⟩, hdf, hsz⟩
          have hother : ∀ t, t ≠ d → (a.put o.dst v).tmps[t]? = a.tmps[t]? := fun t ht => by
            rw [hd]; simp only [Act.put, Array.getElem?_setIfInBounds_ne (Ne.symm ht)]
          refine ih _ _ _ ?_ ?_
          · have := count_set hun; omega
          · refine ⟨by simp [inv.size], fun j hj => ?_, ⟨hdf, hsz, fun t x ht => ?_⟩, fun j d' x hjp hjl => ?_, ?_, fun j o' hjl hjo e he hb => ?_⟩
            · rw [getD_set_ne false (by omega)]; exact inv.tail j hj
            · have hne : t ≠ d := by
                intro e; subst e
                have := mem_slots ht
                rw [hdρ] at this; cases this
              rw [hother t hne]; exact inv.fits.at_ t x ht
            · by_cases hij : i = j
              · subst hij
                have hp : ps[i] = (d', some x) := by rw [List.getElem?_eq_getElem hpi] at hjp; exact Option.some.inj hjp
                have hdd : d' = d := by rw [← hdp', hp]
                have hG' : u = x ∧ w'' = w' := by
                  have : G u w'' := hG
                  simp only [G, hp] at this
                  exact this
                rw [hdd, hu, hG'.1]
              · have hjl' : listed.getD j false = true := by rw [getD_set_ne false hij] at hjl; exact hjl
                obtain ⟨o3, ho3, hd3, _⟩ := hdst j _ hjp
                have hjm : j < m := by have := (List.getElem?_eq_some_iff.1 hjp).1; omega
                have hne : d' ≠ d := fun e => huniq i j d o o3 him hjm hij hol ho3 hd (by rw [← e]; exact hd3)
                rw [hother d' hne]; exact inv.vals j d' x hjp hjl'
            · cases hy : ps[i].2 with
              | some x =>
                have hG' : u = x ∧ w'' = w' := by
                  have : G u w'' := hG
                  simp only [G, hy] at this
                  exact this
                obtain ⟨hu2, rfl⟩ := hG'
                rw [hy] at hOp
                refine ⟨vs, hX, fun s k hs => ?_, fun s d' v' hs hv' => ?_, hle⟩
                · have hne : i ≠ k := by
                    intro e; subst e
                    have h1 := hOp.1
                    have : mem i E = true := mem_of_get hs
                    rw [this] at h1; cases h1
                  rw [getD_set_ne false hne]; exact hiff s k hs
                · have hsl : s < E.length := by have := (List.getElem?_eq_some_iff.1 hs).1; omega
                  obtain ⟨hk1, ⟨o4, d4, h41, h42, h43⟩, _⟩ := hE s E[s] (by simp [hsl])
                  rw [hs] at h43; cases h43
                  have hne : d' ≠ d := by
                    intro e
                    have hik : i ≠ E[s] := by
                      intro e2
                      have h1 := hOp.1
                      have : mem i E = true := mem_of_get (i := s) (by simp [hsl, e2])
                      rw [this] at h1; cases h1
                    exact huniq i E[s] d o o4 him hk1 hik hol h41 hd (by rw [← e]; exact h42)
                  rw [hother d' hne]; exact hval s d' v' hs hv'
              | none =>
                have hG' : X (vs ++ [u]) w'' := by
                  have : G u w'' := hG
                  simp only [G, hy] at this
                  exact this
                rw [hy] at hOp
                obtain ⟨s0, hs0, _⟩ := hOp
                have hs1 := hrank s0 hs0
                have hs0l : s0 < E.length := (List.getElem?_eq_some_iff.1 hs0).1
                refine ⟨vs ++ [u], hG', fun s k hs => ?_, fun s d' v' hs hv' => ?_, by simp; omega⟩
                · rw [List.length_append, List.length_singleton]
                  by_cases hik : i = k
                  · subst hik
                    have := hrank s hs
                    rw [hii]
                    exact ⟨fun _ => by omega, fun _ => rfl⟩
                  · rw [getD_set_ne false hik]
                    have h1 := hiff s k hs
                    have h2 : s ≠ vs.length := by
                      intro e
                      rw [e, hs1, hs0] at hs
                      cases hs; exact hik rfl
                    exact ⟨fun h => by have := h1.1 h; omega, fun h => h1.2 (by omega)⟩
                · have hsl : s < E.length := by have := (List.getElem?_eq_some_iff.1 hs).1; omega
                  obtain ⟨hk1, ⟨o4, d4, h41, h42, h43⟩, _⟩ := hE s E[s] (by simp [hsl])
                  rw [hs] at h43; cases h43
                  by_cases hsv : s < vs.length
                  · rw [List.getElem?_append_left hsv] at hv'
                    have hik : i ≠ E[s] := by
                      intro e2
                      have := hrank s (by rw [e2]; simp [hsl])
                      omega
                    have hne : d' ≠ d := fun e => huniq i E[s] d o o4 him hk1 hik hol h41 hd (by rw [← e]; exact h42)
                    rw [hother d' hne]; exact hval s d' v' hs hv'
                  · have hss : s = vs.length := by
                      have := (List.getElem?_eq_some_iff.1 hv').1
                      simp at this; omega
                    subst hss
                    simp at hv'
                    subst hv'
                    have hk : E[vs.length] = i := by
                      have h9 := hs0
                      rw [← hs1, List.getElem?_eq_getElem hsl] at h9
                      cases h9; rfl
                    rw [hk, hol] at h41
                    cases h41
                    rw [hd] at h42; cases h42
                    exact hu
            · by_cases hij : i = j
              · subst hij
                rw [hol] at hjo
                cases hjo
                exact hmono _ (hafter e he hb)
              · rw [getD_set_ne false hij] at hjl
                exact hmono _ (inv.closed j o' hjl hjo e he hb)
        unfold wpOp
        simp only [List.getElem?_toArray, hol]
        unfold wpList at hrun
        split
        · rename_i hw1
          rw [if_pos hw1] at hrun
          rcases hrun with h | ⟨h1, h2⟩
          · refine .inl (oper_wp_put (fun v w'' hn => next v w'' hn) (fun dd v w'' hn => ?_) (fun c w'' hq => hq) (fun hq => hq) h)
            have hn : (∃ u, (Act.put { a with defers := dd :: a.defers } o.dst v).tmps[d]? = some u ∧ G u w'') ∧ (Act.put { a with defers := dd :: a.defers } o.dst v).defers = [] ∧ _ := hn
            obtain ⟨_, hdf, _⟩ := hn
            exfalso
            rw [hd] at hdf
            simp [Act.put] at hdf
          · exact .inr ⟨h1, h2⟩
        · rename_i hw1
          rw [if_neg hw1] at hrun
          exact next undef w' hrun
theorem WP_anyE {id : Nat} {K : Rho → World → Prop} {EE : Exit → Rho → World → Prop} (X : List Value → World → Prop) (Y : World → Prop) (m : Nat) (us : List Nat) (E D : List Nat) (hmix : P.follows .mixedOrders = true) (hu : slots ρ = us) (hB : anyB l m us = true) (hEB : effB l m E D = true)
    (hXY : ∀ vs w', X vs w' → Y w') (h0 : ∀ w', Ext w w' → X [] w')
    (h : AnyE P n l X Y E D ρ (fun ds => ∀ vs w', vs.length = E.length → X vs w' → WL P n l (l.drop m) K (effE D vs (pureE ds ρ)) w') (l.take m) 0 []) :
    WP P n (.region id l.toArray true) K EE ρ w := by
  intro a ha
  subst hu
  obtain ⟨ps, hl, ht, hall⟩ := anyE_lists (l.take m) 0 [] rfl h
  have hm : m ≤ l.length := by
    simp only [anyB, Bool.and_eq_true, decide_eq_true_eq] at hB
    exact hB.1.1.2
  have hpl : ps.length = m := by rw [hl, List.length_take]; omega
  refine wp_region_any hmix ?_
  have hc : ((Array.replicate l.toArray.size false).toList.filter (!·)).length = l.toArray.size := by simp
  refine wpAnyE_inv (K := K) hB hEB hpl hXY (fun i o p h1 h2 => by have := hall i o p h1 h2; simpa using this) (by simpa using ht) (fun a' w' ρ' hf hk => ⟨ρ', hf, hk⟩) _ _ a _ hc
    ⟨by simp, fun i _ => by simp [Array.getElem?_replicate]; split <;> rfl, ha, fun i d x _ h => by simp [Array.getElem?_replicate] at h; split at h <;> simp at h,
      ⟨[], h0 _ (Ext.drew _), fun s i _ => by simp [Array.getElem?_replicate]; split <;> simp, fun s d v _ h => by simp at h, Nat.zero_le _⟩, fun i o h => by simp [Array.getElem?_replicate] at h; split at h <;> simp at h⟩
variable {tail : List (Nat × Value) → Prop} {o : Oper} {r : List Oper} {i d : Nat} {ds : List (Nat × Value)}
theorem AnyE_val {x : Value} (reads : List Nat) (hd : o.dst = some d) (hreads : readsOf l o = reads) (hE : mem i E = false)
    (h : ∀ w', Y w' → WL P n l [o] (fun ρ'' w'' => w'' = w' ∧ look ρ'' d = some x) (relE reads ds ρ) w')
    (hr : AnyE P n l X Y E D ρ tail r (i + 1) ((d, x) :: ds)) : AnyE P n l X Y E D ρ tail (o :: r) i ds :=
  ⟨d, some x, hd, ⟨hE, by rw [hreads]; exact h⟩, hr⟩
theorem AnyE_eff (s : Nat) (reads : List Nat) (hd : o.dst = some d) (hreads : readsOf l o = reads) (hs : E[s]? = some i)
    (h : ∀ vs w', vs.length = s → X vs w' → WL P n l [o] (fun ρ'' w'' => ∃ v, look ρ'' d = some v ∧ X (vs ++ [v]) w'') (effE (D.take s) vs (relE reads ds ρ)) w')
    (hr : AnyE P n l X Y E D ρ tail r (i + 1) ds) : AnyE P n l X Y E D ρ tail (o :: r) i ds :=
  ⟨d, none, hd, ⟨s, hs, by rw [hreads]; exact h⟩, hr⟩
theorem AnyE_nil (h : tail ds) : AnyE P n l X Y E D ρ tail [] i ds := h
end
end Go.Proofs.Ytoccimigjjndpaa
