/-
  Regions that draw their order, where some operations turn memory, ordered among themselves in part only.
-/
import Derived.Test.YtoccimigjjndpaaAnyE
set_option linter.unusedVariables false
set_option linter.unusedSimpArgs false
namespace Go.Proofs.Ytoccimigjjndpaa
open Go Go.RowKit
theorem WL_post {P : Program} {n : Nat} {l rest : List Oper} {K K' : Rho → World → Prop} {ρ : Rho} {w : World} (h : WL P n l rest K ρ w) (hk : ∀ ρ' w', K ρ' w' → K' ρ' w') : WL P n l rest K' ρ w :=
  fun a ha Q hQ => h a ha Q fun a' w' ρ' hf h' => hQ a' w' ρ' hf (hk ρ' w' h')
def effF (D : List (Option Nat)) (vs : List (Option Value)) : List Nat → Rho → Rho
  | [], ρ => ρ
  | s :: r, ρ => match D[s]?, vs[s]? with
    | some (some d), some (some v) => effF D vs r ((d, v) :: ρ)
    | _, _ => effF D vs r ρ
theorem fits_effF {n : Nat} {a : Act} {D : List (Option Nat)} {vs : List (Option Value)} : ∀ {S : List Nat} {ρ : Rho}, Fits n a ρ → (∀ (s : Nat) d v, D[s]? = some (some d) → vs[s]? = some (some v) → a.tmps[d]? = some v) → Fits n a (effF D vs S ρ)
  | [], _, h, _ => h
  | s :: r, ρ, h, hp => by
    unfold effF
    split
    · rename_i d v h1 h2
      exact fits_effF (h.cons (hp s d v h1 h2)) hp
    · exact fits_effF h hp
section
variable {P : Program} {n : Nat} {w : World} {ρ : Rho} {l : List Oper} {X : List (Option Value) → World → Prop} {Y : World → Prop} {E : List Nat} {D : List (Option Nat)} {W : List (List Nat)}
/-- What is asked of one operation: number i, behind these pure values. -/
def OpF (P : Program) (n : Nat) (l : List Oper) (X : List (Option Value) → World → Prop) (Y : World → Prop) (E : List Nat) (D : List (Option Nat)) (W : List (List Nat)) (ρ : Rho) (o : Oper) (i d : Nat) (ds : List (Nat × Value)) : Option Value → Prop
  | some x => mem i E = false ∧ ∃ ns : List Nat, (ns.all fun s => match E[s]? with | some j => reachB l 8 j i | none => false) = true ∧
    ∀ vs w', vs.length = E.length → (∀ s ∈ ns, vs[s]? = some none) → X vs w' → WL P n l [o] (fun ρ'' w'' => w'' = w' ∧ look ρ'' d = some x) (relE (readsOf l o) ds ρ) w'
  | none => ∃ s : Nat, E[s]? = some i ∧ ∀ vs w', vs.length = E.length → vs[s]? = some none → (∀ s' ∈ W.getD s [], ∃ v, vs[s']? = some (some v)) → X vs w' →
    WL P n l [o] (fun ρ'' w'' => ∃ v, (∀ d', o.dst = some d' → look ρ'' d' = some v) ∧ X (vs.set s (some v)) w'') (effF D vs (W.getD s []) (relE (readsOf l o) ds ρ)) w'
def AnyF (P : Program) (n : Nat) (l : List Oper) (X : List (Option Value) → World → Prop) (Y : World → Prop) (E : List Nat) (D : List (Option Nat)) (W : List (List Nat)) (ρ : Rho) (tail : List (Nat × Value) → Prop) : List Oper → Nat → List (Nat × Value) → Prop
  | [], _, ds => tail ds
  | o :: r, i, ds => ∃ d y, (o.dst = some d ∨ o.dst = none ∧ y = none) ∧ OpF P n l X Y E D W ρ o i d ds y ∧ AnyF P n l X Y E D W ρ tail r (i + 1) (match y with | some x => (d, x) :: ds | none => ds)
theorem anyF_lists {tail : List (Nat × Value) → Prop} : ∀ (r : List Oper) (i : Nat) (qs : List (Nat × Option Value)), qs.length = i → AnyF P n l X Y E D W ρ tail r i (dsOf qs []) →
    ∃ ps : List (Nat × Option Value), ps.length = r.length ∧ tail (dsOf (qs ++ ps) []) ∧ ∀ j o p, r[j]? = some o → ps[j]? = some p → (o.dst = some p.1 ∨ o.dst = none ∧ p.2 = none) ∧ OpF P n l X Y E D W ρ o (i + j) p.1 (dsOf (qs ++ ps.take j) []) p.2
  | [], i, qs, hi, h => ⟨[], rfl, by rw [List.append_nil]; exact h, fun j o p h1 => by simp at h1⟩
  | o :: r, i, qs, hi, h => by
    obtain ⟨d, y, hd, hok, hr⟩ := h
    obtain ⟨ps, hl, ht, hall⟩ := anyF_lists r (i + 1) (qs ++ [(d, y)]) (by simp [hi]) (by rw [dsOf_snoc]; exact hr)
    refine ⟨(d, y) :: ps, by simp [hl], by simpa using ht, fun j o' p h1 h2 => ?_⟩
    cases j with
    | zero =>
      simp at h1 h2; subst h1; subst h2
      exact ⟨hd, by simpa using hok⟩
    | succ j =>
      simp at h1 h2
      have := hall j o' p h1 h2
      rw [show i + (j + 1) = i + 1 + j from by omega]
      simpa using this
/-- What the region's own edges must say of the operations that turn something. -/
def effBF (l : List Oper) (m : Nat) (E : List Nat) (D : List (Option Nat)) (W : List (List Nat)) : Bool :=
  ((List.range E.length).all fun s => match E[s]? with
    | some i => decide (i < m) && (match l[i]? with
        | some o => D[s]? == some o.dst
        | none => false) && ((W.getD s []).all fun s' => match E[s']? with
        | some j => reachB l 8 i j
        | none => false) && ((List.range s).all fun s' => match E[s']? with
        | some j => j != i
        | none => true)
    | none => true) &&
  D.length == E.length
def anyFB (l : List Oper) (m : Nat) (used : List Nat) : Bool :=
  Region.noSelect l.toArray && decide (m ≤ l.length) &&
  ((List.range l.length).all fun i => match l[i]? with
    | none => true
    | some o => (o.after.toList.all fun e => !Region.binds .any e || decide (e.on < i)) &&
      (if i < m then
        (match o.dst with
         | none => true
         | some d => !mem d used && ((List.range i).all fun j => match (l[j]?).bind (·.dst) with
            | some d' => (!Nat.beq d d')
            | none => true)) &&
         ((List.range i).all fun j => match (l[j]?).bind (·.dst) with
            | some d' => (!mem d' (readsOf l o) || o.after.toList.any fun e => Region.binds .any e && e.on == j)
            | none => true)
       else (List.range i).all fun j => decide (m ≤ j) || reachB l 8 i j)) &&
  Region.seqB .any l.toArray (l.length - m) m (((List.range l.length).map fun i => decide (i < m)).toArray)
structure InvF (n : Nat) (l : List Oper) (m : Nat) (X : List (Option Value) → World → Prop) (E : List Nat) (D : List (Option Nat)) (ρ : Rho) (ps : List (Nat × Option Value)) (listed : Array Bool) (a : Act) (w' : World) : Prop where
  size : listed.size = l.length
  tail : ∀ i, m ≤ i → listed.getD i false = false
  fits : Fits n a ρ
  vals : ∀ (i : Nat) d x, ps[i]? = some (d, some x) → listed.getD i false = true → a.tmps[d]? = some x
  effs : ∃ vs, X vs w' ∧ (∀ (s : Nat) i, E[s]? = some i → (listed.getD i false = true ↔ ∃ v, vs[s]? = some (some v))) ∧ (∀ (s : Nat) d v, D[s]? = some (some d) → vs[s]? = some (some v) → a.tmps[d]? = some v) ∧ vs.length = E.length
  closed : ∀ (i : Nat) (o : Oper), listed.getD i false = true → l[i]? = some o → ∀ e ∈ o.after, Region.binds .any e = true → listed.getD e.on false = true
set_option maxHeartbeats 1000000 in
theorem wpAnyF_inv {m : Nat} {K : Rho → World → Prop} {Q : Exit → Act → World → Prop} {ps : List (Nat × Option Value)} (hB : anyFB l m (slots ρ) = true) (hEB : effBF l m E D W = true) (hps : ps.length = m) (hXY : ∀ vs w', X vs w' → Y w')
    (hok : ∀ i o p, (l.take m)[i]? = some o → ps[i]? = some p → (o.dst = some p.1 ∨ o.dst = none ∧ p.2 = none) ∧ OpF P n l X Y E D W ρ o i p.1 (dsOf (ps.take i) []) p.2)
    (htail : ∀ vs w', vs.length = E.length → (∀ s : Nat, s < E.length → ∃ v, vs[s]? = some (some v)) → X vs w' → WL P n l (l.drop m) K (effF D vs (List.range E.length) (pureE (dsOf ps []) ρ)) w') (hQ : ∀ a' w' ρ', Fits n a' ρ' → K ρ' w' → Q .normal a' w') :
    ∀ (fuel : Nat) (listed : Array Bool) (a : Act) (w' : World), (listed.toList.filter (!·)).length = fuel → InvF n l m X E D ρ ps listed a w' → wpAny P .any l.toArray Q fuel listed a w' := by
  simp only [anyFB, Bool.and_eq_true, decide_eq_true_eq] at hB
  obtain ⟨⟨⟨hsel, hm⟩, hedge⟩, hseq⟩ := hB
  rw [List.all_eq_true] at hedge
  have hedge' : ∀ i o, l[i]? = some o → (∀ e ∈ o.after, Region.binds .any e = true → e.on < i) ∧
      (i < m → (∀ d, o.dst = some d → mem d (slots ρ) = false ∧ ∀ j d', j < i → (l[j]?).bind (·.dst) = some d' → Nat.beq d d' = false) ∧
        ∀ j d', j < i → (l[j]?).bind (·.dst) = some d' → mem d' (readsOf l o) = true → ∃ e ∈ o.after, Region.binds .any e = true ∧ e.on = j) ∧
      (m ≤ i → ∀ j, j < i → j < m → reachB l 8 i j = true) := by
    intro i o hi
    have hlt : i < l.length := (List.getElem?_eq_some_iff.1 hi).1
    have h := hedge i (by simpa using hlt)
    rw [hi] at h
    simp only [Bool.and_eq_true, List.all_eq_true, Array.mem_toList_iff] at h
    obtain ⟨h1, h2⟩ := h
    refine ⟨fun e he hb => ?_, fun him => ?_, fun him j hj hjm => ?_⟩
    · have := h1 e he; simp [hb] at this; exact this
    · rw [if_pos him] at h2
      simp only [Bool.and_eq_true] at h2
      obtain ⟨h2, h5⟩ := h2
      refine ⟨fun d hd => ?_, fun j d' hj hjd hmem => ?_⟩
      · rw [hd] at h2
        simp only [Bool.and_eq_true, Bool.not_eq_true', List.all_eq_true, List.mem_range] at h2
        refine ⟨h2.1, fun j d' hj hjd => ?_⟩
        have h3 := h2.2 j hj
        rw [hjd] at h3
        simpa using h3
      · simp only [List.all_eq_true, List.mem_range] at h5
        have h3 := h5 j hj
        rw [hjd] at h3
        simp only [Bool.or_eq_true, Bool.and_eq_true, Bool.not_eq_true', List.any_eq_true, Array.mem_toList_iff, beq_iff_eq] at h3
        rcases h3 with h4 | ⟨e, he, hb, ho⟩
        · rw [hmem] at h4; cases h4
        · exact ⟨e, he, hb, ho⟩
    · rw [if_neg (by omega)] at h2
      rw [List.all_eq_true] at h2
      have h3 := h2 j (by simpa using hj)
      simp only [Bool.or_eq_true, decide_eq_true_eq] at h3
      rcases h3 with h3 | h3
      · omega
      · exact h3
  simp only [effBF, Bool.and_eq_true] at hEB
  obtain ⟨hE1, hE3⟩ := hEB
  have hDl : D.length = E.length := by simpa using hE3
  have hE : ∀ (s : Nat) i, E[s]? = some i → i < m ∧ (∃ o, l[i]? = some o ∧ D[s]? = some o.dst) ∧ (∀ s' ∈ W.getD s [], ∃ j, E[s']? = some j ∧ reachB l 8 i j = true) ∧ ∀ (s' : Nat), s' < s → E[s']? ≠ some i := by
    intro s i hs
    have hlt : s < E.length := (List.getElem?_eq_some_iff.1 hs).1
    rw [List.all_eq_true] at hE1
    have h := hE1 s (by simpa using hlt)
    rw [hs] at h
    simp only [Bool.and_eq_true, decide_eq_true_eq] at h
    obtain ⟨⟨⟨h1, h2⟩, h3⟩, h4⟩ := h
    refine ⟨h1, ?_, fun s' hs' => ?_, fun s' hs' he => ?_⟩
    · cases ho : l[i]? with
      | none => rw [ho] at h2; simp at h2
      | some o =>
        rw [ho] at h2
        exact ⟨o, rfl, by simpa using h2⟩
    · rw [List.all_eq_true] at h3
      have := h3 s' hs'
      cases hj : E[s']? with
      | none => rw [hj] at this; cases this
      | some j => rw [hj] at this; exact ⟨j, rfl, this⟩
    · rw [List.all_eq_true] at h4
      have := h4 s' (by simpa using hs')
      rw [he] at this
      simp at this
  have hEu : ∀ (s s' : Nat) i, E[s]? = some i → E[s']? = some i → s = s' := by
    intro s s' i h1 h2
    rcases Nat.lt_trichotomy s s' with h | h | h
    · exact absurd h1 ((hE s' i h2).2.2.2 s h)
    · exact h
    · exact absurd h2 ((hE s i h1).2.2.2 s' h)
  have hget : ∀ (listed : Array Bool) (i : Nat), listed.size = l.length → i < l.length → listed.getD i true = listed.getD i false := by
    intro listed i hs hi
    have : i < listed.size := by omega
    simp [this]
  have hdst : ∀ i p, ps[i]? = some p → ∃ o, l[i]? = some o ∧ (o.dst = some p.1 ∨ o.dst = none ∧ p.2 = none) ∧ OpF P n l X Y E D W ρ o i p.1 (dsOf (ps.take i) []) p.2 := by
    intro i p hp
    have hi : i < ps.length := (List.getElem?_eq_some_iff.1 hp).1
    have hil : i < l.length := by omega
    have := hok i l[i] p (by rw [List.getElem?_take, if_pos (by omega)]; simp [hil]) hp
    exact ⟨l[i], by simp [hil], this.1, this.2⟩
  have huniq : ∀ (i j d : Nat) (o o' : Oper), i < m → j < m → i ≠ j → l[i]? = some o → l[j]? = some o' → o.dst = some d → o'.dst = some d → False := by
    have key : ∀ (i j d : Nat) (o o' : Oper), j < m → i < j → l[i]? = some o → l[j]? = some o' → o.dst = some d → o'.dst = some d → False := by
      intro i j d o o' hj hij h1 h2 h3 h4
      have hdj := (((hedge' j o' h2).2.1 hj).1 d h4).2
      have := hdj i d hij (by rw [h1]; exact h3)
      simp at this
    intro i j d o o' hi hj hij h1 h2 h3 h4
    rcases Nat.lt_or_ge i j with h | h
    · exact key i j d o o' hj h h1 h2 h3 h4
    · exact key j i d o' o hi (by omega) h2 h1 h4 h3
  have hfull' : ∀ (listed : Array Bool) (a : Act) (w' : World), InvF n l m X E D ρ ps listed a w' → (∀ i, i < m → listed.getD i false = true) → ∃ ρ', Fits n a ρ' ∧ WL P n l (l.drop m) K ρ' w' := by
    intro listed a w' inv hall
    obtain ⟨vs, hX, hiff, hval, hle⟩ := inv.effs
    have hdone : ∀ s : Nat, s < E.length → ∃ v, vs[s]? = some (some v) := fun s hs => (hiff s E[s] (by simp [hs])).1 (hall _ (hE s E[s] (by simp [hs])).1)
    refine ⟨_, fits_effF (fits_pureE inv.fits fun p hp => ?_) hval, htail vs w' hle hdone hX⟩
    rcases mem_dsOf hp with h | ⟨j, hj⟩
    · cases h
    · exact inv.vals j p.1 p.2 hj (hall j (by have := (List.getElem?_eq_some_iff.1 hj).1; omega))
  intro fuel
  induction fuel with
  | zero =>
    intro listed a w' hc inv
    have hallT : ∀ i, i < l.length → listed.getD i false = true := by
      intro i hi
      have h0 : listed.toList.filter (!·) = [] := List.eq_nil_of_length_eq_zero hc
      rw [List.filter_eq_nil_iff] at h0
      have hi' : i < listed.size := by rw [inv.size]; exact hi
      have := h0 listed[i] (by simp)
      simp at this
      simp [hi', this]
    have hml : m = l.length := by
      rcases Nat.lt_or_ge m l.length with h | h
      · have h1 := hallT m h
        rw [inv.tail m (Nat.le_refl _)] at h1; cases h1
      · omega
    obtain ⟨ρ', hf, hw⟩ := hfull' listed a w' inv fun i hi => hallT i (by omega)
    rw [hml, List.drop_length] at hw
    refine ⟨?_, ?_⟩
    · apply List.eq_nil_iff_forall_not_mem.2
      intro i hi
      obtain ⟨h1, o, ho, _⟩ := mem_ready.1 hi
      have hlt : i < l.length := by simpa using (Array.getElem?_eq_some_iff.1 ho).1
      rw [hget listed i inv.size hlt, hallT i hlt] at h1; cases h1
    · exact hw a hf Q hQ
  | succ fuel ih =>
    intro listed a w' hc inv
    by_cases hfull : ∀ i, i < m → listed.getD i false = true
    · obtain ⟨ρ', hf, hw⟩ := hfull' listed a w' inv hfull
      have hlisted : listed = ((List.range l.length).map fun i => decide (i < m)).toArray := by
        apply Array.ext
        · simp [inv.size]
        · intro i h1 h2
          simp only [List.size_toArray, List.length_map, List.length_range] at h2
          simp only [List.getElem_toArray, List.getElem_map, List.getElem_range]
          rcases Nat.lt_or_ge i m with h | h
          · have := hfull i h; simp [h1] at this; simp [this, h]
          · have := inv.tail i h; simp [h1] at this; simp [this]; omega
      have hlen : (l.drop m).length = fuel + 1 := by
        rw [← hc, hlisted]
        have : ((List.range l.length).map fun i => decide (i < m)).filter (!·) = (List.replicate (l.length - m) false) := by
          have h1 : List.range l.length = List.range m ++ (List.range (l.length - m)).map (m + ·) := by
            rw [← List.range_add]; congr 1; omega
          rw [h1, List.map_append, List.filter_append]
          have h2 : ((List.range m).map fun i => decide (i < m)).filter (!·) = [] := by
            rw [List.filter_eq_nil_iff]; intro b hb
            obtain ⟨i, hi, rfl⟩ := List.mem_map.1 hb
            have : i < m := by simpa using hi
            simp [this]
          have h3 : (((List.range (l.length - m)).map (m + ·)).map fun i => decide (i < m)) = List.replicate (l.length - m) false := by
            apply List.ext_getElem
            · simp
            · intro i h1 h2; simp
          rw [h2, h3]; simp
        rw [this]; simp
      rw [← hlen]
      refine wpAny_of_seq (l.drop m) m listed a w' (fun j => by simp [List.getElem?_drop]) ?_ (hw a hf Q hQ)
      rw [hlisted, List.length_drop]; exact hseq
    · have hsome : ∃ i, i < m ∧ listed.getD i false = false := by
        apply Classical.byContradiction
        intro hno
        apply hfull
        intro i hi
        cases hb : listed.getD i false with
        | true => rfl
        | false => exact absurd ⟨i, hi, hb⟩ hno
      refine ⟨fun hnil => ?_, fun i hi => ?_⟩
      · exfalso
        obtain ⟨i0, hi0, hf0⟩ := hsome
        have hleast : ∃ i, i < m ∧ listed.getD i false = false ∧ ∀ j, j < i → listed.getD j false = true := by
          clear hnil
          induction i0 using Nat.strongRecOn with
          | _ i0 ihl =>
            by_cases hall : ∀ j, j < i0 → listed.getD j false = true
            · exact ⟨i0, hi0, hf0, hall⟩
            · have : ∃ j, j < i0 ∧ listed.getD j false = false := by
                apply Classical.byContradiction
                intro hno
                apply hall
                intro j hj
                cases hb : listed.getD j false with
                | true => rfl
                | false => exact absurd ⟨j, hj, hb⟩ hno
              obtain ⟨j, hj, hjf⟩ := this
              exact ihl j hj (by omega) hjf
        obtain ⟨i, him, hif, hbefore⟩ := hleast
        have hlt : i < l.length := by omega
        have hmem : i ∈ Region.ready .any l.toArray listed := by
          rw [mem_ready]
          refine ⟨by rw [hget listed i inv.size hlt]; exact hif, l[i], by simp [hlt], fun e he hb => ?_⟩
          have := (hedge' i l[i] (by simp [hlt])).1 e he hb
          exact hbefore e.on this
        rw [hnil] at hmem; cases hmem
      · obtain ⟨hun, o, ho, hafter⟩ := mem_ready.1 hi
        have hol : l[i]? = some o := by simpa using ho
        have hlt : i < l.length := (List.getElem?_eq_some_iff.1 hol).1
        have hunF : listed.getD i false = false := by rw [← hget listed i inv.size hlt]; exact hun
        obtain ⟨hG1, hG2, hG3⟩ := hedge' i o hol
        have him : i < m := by
          rcases Nat.lt_or_ge i m with h | h
          · exact h
          · exfalso
            obtain ⟨j, hj, hjf⟩ := hsome
            have := reach_listed inv.closed 8 i j o hol hafter (hG3 h j (by omega) hj)
            rw [hjf] at this; cases this
        obtain ⟨hdρ, hdj⟩ := hG2 him
        have hpi : i < ps.length := by omega
        obtain ⟨o2, ho2, hdp, hOp⟩ := hdst i ps[i] (by simp [hpi])
        rw [hol] at ho2; cases ho2
        have hfr : Fits n a (relE (readsOf l o) (dsOf (ps.take i) []) ρ) := fits_relE inv.fits fun p hp hmem => by
          rcases mem_dsOf hp with h | ⟨j, hj⟩
          · cases h
          · have hj1 : j < i := by have := (List.getElem?_eq_some_iff.1 hj).1; simp at this; omega
            have hj2 : ps[j]? = some (p.1, some p.2) := by rw [List.getElem?_take, if_pos hj1] at hj; exact hj
            obtain ⟨o3, ho3, hd3, _⟩ := hdst j _ hj2
            have hd3' : o3.dst = some p.1 := by
              rcases hd3 with h | ⟨_, h⟩
              · exact h
              · cases h
            obtain ⟨e, he1, he2, he3⟩ := hdj j p.1 hj1 (by rw [ho3]; exact hd3') hmem
            exact inv.vals j p.1 p.2 hj2 (by rw [← he3]; exact hafter e he1 he2)
        obtain ⟨vs, hX, hiff, hval, hle⟩ := inv.effs
        have hmono : ∀ k, listed.getD k false = true → (listed.setIfInBounds i true).getD k false = true := by
          intro k hk
          by_cases hik : i = k
          · subst hik; rw [hunF] at hk; cases hk
          · rw [getD_set_ne false hik]; exact hk
        have hii : (listed.setIfInBounds i true).getD i false = true := by
          have : i < listed.size := by rw [inv.size]; exact hlt
          simp [this]
        have hrank : ∀ s : Nat, E[s]? = some i → vs[s]? = some none := by
          intro s hs
          have hsl : s < vs.length := by rw [hle]; exact (List.getElem?_eq_some_iff.1 hs).1
          cases hv : vs[s] with
          | none => rw [List.getElem?_eq_getElem hsl, hv]
          | some v =>
            have := (hiff s i hs).2 ⟨v, by rw [List.getElem?_eq_getElem hsl, hv]⟩
            rw [this] at hunF; cases hunF
        have hwait : ∀ s : Nat, E[s]? = some i → ∀ s' ∈ W.getD s [], ∃ v, vs[s']? = some (some v) := by
          intro s hs s' hs'
          obtain ⟨j, hj, hr⟩ := (hE s i hs).2.2.1 s' hs'
          exact (hiff s' j hj).1 (reach_listed inv.closed 8 i j o hol hafter hr)
        let G : Value → World → Prop := fun v w'' => match ps[i].2 with
          | some x => v = x ∧ w'' = w'
          | none => ∃ s : Nat, E[s]? = some i ∧ X (vs.set s (some v)) w''
        have hrun : wpList P l.toArray (fun e a' w'' => match e with
          | .normal => (∃ v, (∀ d, o.dst = some d → a'.tmps[d]? = some v) ∧ G v w'') ∧ a'.defers = [] ∧ a'.tmps.size = n
          | e => Q e a' w'') [o] a w' := by
          cases hy : ps[i].2 with
          | some x =>
            rw [hy] at hOp
            have hdx : o.dst = some ps[i].1 := by
              rcases hdp with h | ⟨_, h⟩
              · exact h
              · rw [hy] at h; cases h
            obtain ⟨_, ns, hns, hpw⟩ := hOp
            have hnone : ∀ s ∈ ns, vs[s]? = some none := by
              intro s hs
              rw [List.all_eq_true] at hns
              have h1 := hns s hs
              cases hj : E[s]? with
              | none => rw [hj] at h1; cases h1
              | some j =>
                rw [hj] at h1
                have hsl : s < vs.length := by rw [hle]; exact (List.getElem?_eq_some_iff.1 hj).1
                cases hv : vs[s] with
                | none => rw [List.getElem?_eq_getElem hsl, hv]
                | some v =>
                  have hlj := (hiff s j hj).2 ⟨v, by rw [List.getElem?_eq_getElem hsl, hv]⟩
                  obtain ⟨_, ⟨oj, hoj, _⟩, _⟩ := hE s j hj
                  have := reach_listed inv.closed 8 j i oj hoj (fun e he hb => inv.closed j oj hlj hoj e he hb) h1
                  rw [hunF] at this; cases this
            refine hpw vs w' hle hnone hX a hfr _ (fun a' w'' ρ'' hf'' h'' => ⟨⟨x, fun d hd => by rw [hdx] at hd; cases hd; exact hf''.at_ _ x h''.2, ?_⟩, hf''.defers, hf''.size⟩)
            show G x w''
            simp only [G, hy]
            first
              | exact ⟨rfl, h''.1⟩
              | exact ⟨trivial, h''.1⟩
          | none =>
            rw [hy] at hOp
            obtain ⟨s, hs, hop⟩ := hOp
            have hfe : Fits n a (effF D vs (W.getD s []) (relE (readsOf l o) (dsOf (ps.take i) []) ρ)) := fits_effF hfr hval
            refine hop vs w' hle (hrank s hs) (hwait s hs) hX a hfe _ (fun a' w'' ρ'' hf'' h'' => ?_)
            obtain ⟨x, hx, hX2⟩ := h''
            refine ⟨⟨x, fun d hd => hf''.at_ d x (hx d hd), ?_⟩, hf''.defers, hf''.size⟩
            show G x w''
            simp only [G, hy]
            exact ⟨s, hs, hX2⟩
        have hmono : ∀ k, listed.getD k false = true → (listed.setIfInBounds i true).getD k false = true := by
          intro k hk
          by_cases hik : i = k
          · subst hik; rw [hunF] at hk; cases hk
          · rw [getD_set_ne false hik]; exact hk
        have hii : (listed.setIfInBounds i true).getD i false = true := by
          have : i < listed.size := by rw [inv.size]; exact hlt
          simp [this]
        have next : ∀ v w'', ((∃ u, (∀ d, o.dst = some d → (a.put o.dst v).tmps[d]? = some u) ∧ G u w'') ∧ (a.put o.dst v).defers = [] ∧ (a.put o.dst v).tmps.size = n) → wpAny P .any l.toArray Q fuel (listed.setIfInBounds i true) (a.put o.dst v) w'' := by
          intro v w'' ⟨⟨u, hu, hG⟩, hdf, hsz⟩
          have hother : ∀ t, o.dst ≠ some t → (a.put o.dst v).tmps[t]? = a.tmps[t]? := fun t ht => by
            cases hd : o.dst with
            | none => rfl
            | some d =>
              have hne : d ≠ t := fun e => ht (by rw [hd, e])
              simp only [Act.put, Array.getElem?_setIfInBounds_ne hne]
          refine ih _ _ _ ?_ ?_
          · have := count_set hun; omega
          · refine ⟨by simp [inv.size], fun j hj => ?_, ⟨hdf, hsz, fun t x ht => ?_⟩, fun j d' x hjp hjl => ?_, ?_, fun j o' hjl hjo e he hb => ?_⟩
            · rw [getD_set_ne false (by omega)]; exact inv.tail j hj
            · have hne : o.dst ≠ some t := by
                intro e
                have := mem_slots ht
                rw [(hdρ t e).1] at this; cases this
              rw [hother t hne]; exact inv.fits.at_ t x ht
            · by_cases hij : i = j
              · subst hij
                have hp : ps[i] = (d', some x) := by rw [List.getElem?_eq_getElem hpi] at hjp; exact Option.some.inj hjp
                have hdd : o.dst = some d' := by
                  rw [hp] at hdp
                  rcases hdp with h | ⟨_, h⟩
                  · exact h
                  · cases h
                have hG' : u = x ∧ w'' = w' := by
                  have : G u w'' := hG
                  simp only [G, hp] at this
                  exact this
                rw [hu d' hdd, hG'.1]
              · have hjl' : listed.getD j false = true := by rw [getD_set_ne false hij] at hjl; exact hjl
                obtain ⟨o3, ho3, hd3, _⟩ := hdst j _ hjp
                have hjm : j < m := by have := (List.getElem?_eq_some_iff.1 hjp).1; omega
                have hd3' : o3.dst = some d' := by
                  rcases hd3 with h | ⟨_, h⟩
                  · exact h
                  · cases h
                have hne : o.dst ≠ some d' := fun e => huniq i j d' o o3 him hjm hij hol ho3 e hd3'
                rw [hother d' hne]; exact inv.vals j d' x hjp hjl'
            · cases hy : ps[i].2 with
              | some x =>
                have hG' : u = x ∧ w'' = w' := by
                  have : G u w'' := hG
                  simp only [G, hy] at this
                  exact this
                obtain ⟨hu2, rfl⟩ := hG'
                rw [hy] at hOp
                refine ⟨vs, hX, fun s k hs => ?_, fun s d' v' hs hv' => ?_, hle⟩
                · have hne : i ≠ k := by
                    intro e; subst e
                    have h1 := hOp.1
                    have : mem i E = true := mem_of_get hs
                    rw [this] at h1; cases h1
                  rw [getD_set_ne false hne]; exact hiff s k hs
                · have hsl : s < E.length := by have := (List.getElem?_eq_some_iff.1 hs).1; omega
                  obtain ⟨hk1, ⟨o4, h41, h43⟩, _⟩ := hE s E[s] (by simp [hsl])
                  rw [hs] at h43
                  have h42 : o4.dst = some d' := (Option.some.inj h43).symm
                  have hne : o.dst ≠ some d' := by
                    intro e
                    have hik : i ≠ E[s] := by
                      intro e2
                      have h1 := hOp.1
                      have : mem i E = true := mem_of_get (i := s) (by simp [hsl, e2])
                      rw [this] at h1; cases h1
                    exact huniq i E[s] d' o o4 him hk1 hik hol h41 e h42
                  rw [hother d' hne]; exact hval s d' v' hs hv'
              | none =>
                have hG' : ∃ s : Nat, E[s]? = some i ∧ X (vs.set s (some u)) w'' := by
                  have : G u w'' := hG
                  simp only [G, hy] at this
                  exact this
                obtain ⟨s0, hs0, hX2⟩ := hG'
                have hs0l : s0 < E.length := (List.getElem?_eq_some_iff.1 hs0).1
                refine ⟨vs.set s0 (some u), hX2, fun s k hs => ?_, fun s d' v' hs hv' => ?_, by simpa using hle⟩
                · by_cases hik : i = k
                  · subst hik
                    have e := hEu s s0 i hs hs0
                    subst e
                    rw [hii]
                    exact ⟨fun _ => ⟨u, by rw [List.getElem?_set_self (by omega)]⟩, fun _ => rfl⟩
                  · have hss : s0 ≠ s := fun e => by subst e; rw [hs0] at hs; cases hs; exact hik rfl
                    rw [getD_set_ne false hik, List.getElem?_set_ne hss]
                    exact hiff s k hs
                · have hsl : s < E.length := by have := (List.getElem?_eq_some_iff.1 hs).1; omega
                  obtain ⟨hk1, ⟨o4, h41, h43⟩, _⟩ := hE s E[s] (by simp [hsl])
                  rw [hs] at h43
                  have h42 : o4.dst = some d' := (Option.some.inj h43).symm
                  by_cases hss : s0 = s
                  · subst hss
                    rw [List.getElem?_set_self (by omega)] at hv'
                    cases hv'
                    have hk : E[s0] = i := by rw [List.getElem?_eq_getElem hsl] at hs0; cases hs0; rfl
                    rw [hk, hol] at h41
                    cases h41
                    exact hu d' h42
                  · rw [List.getElem?_set_ne hss] at hv'
                    have hik : i ≠ E[s] := fun e2 => hss (hEu s0 s i hs0 (by rw [e2]; simp [hsl]))
                    have hne : o.dst ≠ some d' := fun e => huniq i E[s] d' o o4 him hk1 hik hol h41 e h42
                    rw [hother d' hne]; exact hval s d' v' hs hv'
            · by_cases hij : i = j
              · subst hij
                rw [hol] at hjo
                cases hjo
                exact hmono _ (hafter e he hb)
              · rw [getD_set_ne false hij] at hjl
                exact hmono _ (inv.closed j o' hjl hjo e he hb)
        unfold wpOp
        simp only [List.getElem?_toArray, hol]
        unfold wpList at hrun
        split
        · rename_i hw1
          rw [if_pos hw1] at hrun
          rcases hrun with h | ⟨h1, h2⟩
          · refine .inl (oper_wp_put (fun v w'' hn => next v w'' hn) (fun dd v w'' hn => ?_) (fun c w'' hq => hq) (fun hq => hq) h)
            have hn : _ ∧ (Act.put { a with defers := dd :: a.defers } o.dst v).defers = [] ∧ _ := hn
            obtain ⟨_, hdf, _⟩ := hn
            exfalso
            cases hd : o.dst with
            | none => rw [hd] at hdf; simp [Act.put] at hdf
            | some d => rw [hd] at hdf; simp [Act.put] at hdf
          · exact .inr ⟨h1, h2⟩
        · rename_i hw1
          rw [if_neg hw1] at hrun
          exact next undef w' hrun
theorem WP_anyF {id : Nat} {K : Rho → World → Prop} {EE : Exit → Rho → World → Prop} (X : List (Option Value) → World → Prop) (Y : World → Prop) (m : Nat) (us : List Nat) (E : List Nat) (D : List (Option Nat)) (W : List (List Nat)) (hmix : P.follows .mixedOrders = true) (hu : slots ρ = us) (hB : anyFB l m us = true) (hEB : effBF l m E D W = true)
    (hXY : ∀ vs w', X vs w' → Y w') (h0 : ∀ w', Ext w w' → X (List.replicate E.length none) w')
    (h : AnyF P n l X Y E D W ρ (fun ds => ∀ vs w', vs.length = E.length → (∀ s : Nat, s < E.length → ∃ v, vs[s]? = some (some v)) → X vs w' → WL P n l (l.drop m) K (effF D vs (List.range E.length) (pureE ds ρ)) w') (l.take m) 0 []) :
    WP P n (.region id l.toArray true) K EE ρ w := by
  intro a ha
  subst hu
  obtain ⟨ps, hl, ht, hall⟩ := anyF_lists (l.take m) 0 [] rfl h
  have hm : m ≤ l.length := by
    simp only [anyFB, Bool.and_eq_true, decide_eq_true_eq] at hB
    exact hB.1.1.2
  have hpl : ps.length = m := by rw [hl, List.length_take]; omega
  refine wp_region_any hmix ?_
  have hc : ((Array.replicate l.toArray.size false).toList.filter (!·)).length = l.toArray.size := by simp
  refine wpAnyF_inv (K := K) hB hEB hpl hXY (fun i o p h1 h2 => by have := hall i o p h1 h2; simpa using this) (by simpa using ht) (fun a' w' ρ' hf hk => ⟨ρ', hf, hk⟩) _ _ a _ hc
    ⟨by simp, fun i _ => by simp [Array.getElem?_replicate]; split <;> rfl, ha, fun i d x _ h => by simp [Array.getElem?_replicate] at h; split at h <;> simp at h,
      ⟨List.replicate E.length none, h0 _ (Ext.drew _), fun s i _ => by simp [Array.getElem?_replicate, List.getElem?_replicate]; split <;> simp, fun s d v _ h => by simp [List.getElem?_replicate] at h, by simp⟩, fun i o h => by simp [Array.getElem?_replicate] at h; split at h <;> simp at h⟩
variable {tail : List (Nat × Value) → Prop} {o : Oper} {r : List Oper} {i d : Nat} {ds : List (Nat × Value)}
theorem AnyF_val {x : Value} (reads : List Nat) (hXY : ∀ vs w', X vs w' → Y w') (hd : o.dst = some d) (hreads : readsOf l o = reads) (hE : mem i E = false)
    (h : ∀ w', Y w' → WL P n l [o] (fun ρ'' w'' => w'' = w' ∧ look ρ'' d = some x) (relE reads ds ρ) w')
    (hr : AnyF P n l X Y E D W ρ tail r (i + 1) ((d, x) :: ds)) : AnyF P n l X Y E D W ρ tail (o :: r) i ds :=
  ⟨d, some x, .inl hd, ⟨hE, [], rfl, by rw [hreads]; exact fun vs w' _ _ hX => h w' (hXY vs w' hX)⟩, hr⟩
theorem AnyF_valN {x : Value} (ns : List Nat) (reads : List Nat) (hd : o.dst = some d) (hreads : readsOf l o = reads) (hE : mem i E = false) (hns : (ns.all fun s => match E[s]? with | some j => reachB l 8 j i | none => false) = true)
    (h : ∀ vs w', vs.length = E.length → (∀ s ∈ ns, vs[s]? = some none) → X vs w' → WL P n l [o] (fun ρ'' w'' => w'' = w' ∧ look ρ'' d = some x) (relE reads ds ρ) w')
    (hr : AnyF P n l X Y E D W ρ tail r (i + 1) ((d, x) :: ds)) : AnyF P n l X Y E D W ρ tail (o :: r) i ds :=
  ⟨d, some x, .inl hd, ⟨hE, ns, hns, by rw [hreads]; exact h⟩, hr⟩
theorem AnyF_st (s : Nat) (wt : List Nat) (reads : List Nat) (hd : o.dst = none) (hreads : readsOf l o = reads) (hs : E[s]? = some i) (hw : W.getD s [] = wt)
    (h : ∀ vs w', vs.length = E.length → vs[s]? = some none → (∀ s' ∈ wt, ∃ v, vs[s']? = some (some v)) → X vs w' → WL P n l [o] (fun ρ'' w'' => X (vs.set s (some undef)) w'') (effF D vs wt (relE reads ds ρ)) w')
    (hr : AnyF P n l X Y E D W ρ tail r (i + 1) ds) : AnyF P n l X Y E D W ρ tail (o :: r) i ds :=
  ⟨0, none, .inr ⟨hd, rfl⟩, ⟨s, hs, by subst hw; rw [hreads]; exact fun vs w' h1 h2 h3 h4 => WL_post (h vs w' h1 h2 h3 h4) fun ρ'' w'' hx => ⟨undef, (fun d' hd' => by rw [hd] at hd'; cases hd'), hx⟩⟩, hr⟩
theorem AnyF_eff (s : Nat) (wt : List Nat) (reads : List Nat) (hd : o.dst = some d) (hreads : readsOf l o = reads) (hs : E[s]? = some i) (hw : W.getD s [] = wt)
    (h : ∀ vs w', vs.length = E.length → vs[s]? = some none → (∀ s' ∈ wt, ∃ v, vs[s']? = some (some v)) → X vs w' → WL P n l [o] (fun ρ'' w'' => ∃ v, look ρ'' d = some v ∧ X (vs.set s (some v)) w'') (effF D vs wt (relE reads ds ρ)) w')
    (hr : AnyF P n l X Y E D W ρ tail r (i + 1) ds) : AnyF P n l X Y E D W ρ tail (o :: r) i ds :=
  ⟨d, none, .inl hd, ⟨s, hs, by subst hw; rw [hreads]; exact fun vs w' h1 h2 h3 h4 => WL_post (h vs w' h1 h2 h3 h4) fun ρ'' w'' ⟨v, hv, hx⟩ => ⟨v, (fun d' hd' => by rw [hd] at hd'; cases hd'; exact hv), hx⟩⟩, hr⟩
theorem AnyF_nil (h : tail ds) : AnyF P n l X Y E D W ρ tail [] i ds := h
end
/-- Operations that turn memory in one order: those that are done. -/
def Lin (X : List Value → World → Prop) (vs : List (Option Value)) (w : World) : Prop := ∃ us k, vs = us.map some ++ List.replicate k none ∧ X us w
section
variable {X : List Value → World → Prop} {vs : List (Option Value)} {w : World} {s : Nat} {v : Value} {us : List Value} {k : Nat}
theorem Lin.len_le (hn : (us.map some ++ List.replicate k none)[s]? = some none) : us.length ≤ s := by
  rcases Nat.lt_or_ge s us.length with h | h
  · rw [List.getElem?_append_left (by simpa using h)] at hn
    simp [h] at hn
  · exact h
theorem Lin.at_ (h : Lin X vs w) (hn : vs[s]? = some none) (hw : ∀ s' ∈ List.range s, ∃ v, vs[s']? = some (some v)) : ∃ us k, us.length = s ∧ X us w ∧ vs = us.map some ++ List.replicate (k + 1) none := by
  obtain ⟨us, k, rfl, hX⟩ := h
  have h1 := Lin.len_le hn
  have h2 : ¬ us.length < s := by
    intro h
    obtain ⟨v, hv⟩ := hw us.length (by simpa using h)
    rw [List.getElem?_append_right (by simp)] at hv
    rw [List.getElem?_replicate] at hv
    split at hv <;> simp at hv
  have h3 : us.length = s := by omega
  cases k with
  | zero =>
    rw [List.getElem?_append_right (by simp; omega)] at hn
    simp at hn
  | succ k => exact ⟨us, k, h3, hX, rfl⟩
theorem Lin.snoc (hs : us.length = s) (hX : X (us ++ [v]) w) : Lin X ((us.map some ++ List.replicate (k + 1) none).set s (some v)) w := by
  refine ⟨us ++ [v], k, ?_, hX⟩
  rw [List.set_append_right _ _ (by simp; omega)]
  simp [hs, List.replicate_succ]
theorem Lin.full {n : Nat} (h : Lin X vs w) (hl : vs.length = n) (hd : ∀ s : Nat, s < n → ∃ v, vs[s]? = some (some v)) : ∃ us, us.length = n ∧ X us w ∧ vs = us.map some := by
  obtain ⟨us, k, rfl, hX⟩ := h
  cases k with
  | zero => exact ⟨us, by simpa using hl, hX, by simp⟩
  | succ k =>
    obtain ⟨v, hv⟩ := hd us.length (by simp at hl; omega)
    rw [List.getElem?_append_right (by simp)] at hv
    simp [List.replicate_succ] at hv
theorem Lin.before (h : Lin X vs w) (hn : vs[s]? = some none) : ∃ us, us.length ≤ s ∧ X us w := by
  obtain ⟨us, k, rfl, hX⟩ := h
  exact ⟨us, Lin.len_le hn, hX⟩
theorem Lin.start {n : Nat} (hX : X [] w) : Lin X (List.replicate n none) w := ⟨[], n, by simp, hX⟩
theorem Lin.all {Y : World → Prop} (h : ∀ us w', X us w' → Y w') : ∀ vs w', Lin X vs w' → Y w' := fun vs w' ⟨us, _, _, hX⟩ => h us w' hX
end
end Go.Proofs.Ytoccimigjjndpaa
