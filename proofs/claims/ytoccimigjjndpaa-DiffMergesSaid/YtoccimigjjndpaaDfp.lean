/-
  Plain laws of changes: between, applied, inverted, composed; environments merged.
-/
import Derived.Test.YtoccimigjjndpaaW5
import Derived.Test.YtoccimigjjndpaaEachb
set_option linter.unusedVariables false
set_option linter.unusedSimpArgs false
namespace Go.Proofs.Ytoccimigjjndpaa
open Go
noncomputable instance inNm (s : ByteArray) (U : Nm) : Decidable (s ∈ U) := Classical.propDecidable _
/-! ### Reading of sorted lists -/
theorem eget_cons_eq {b : Bd} {E : Env} : eget (b :: E) b.1 = some b.2 := by
  unfold eget; rw [if_neg (by rw [nlt_irrefl]; decide), if_pos rfl]
theorem eget_cons_lt {b : Bd} {E : Env} {s : ByteArray} (h : nlt b.1 s = true) : eget (b :: E) s = eget E s := by
  conv => lhs; unfold eget
  rw [if_pos h]
theorem eget_cons_gt {b : Bd} {E : Env} {s : ByteArray} (h : nlt s b.1 = true) : eget (b :: E) s = none := by
  conv => lhs; unfold eget
  rw [if_neg (by rw [nlt_asymm h]; decide), if_neg (nlt_ne h).symm]
theorem eget_gt {E : Env} {s : ByteArray} (h : ∀ b ∈ E, nlt s b.1 = true) : eget E s = none := by
  cases E with
  | nil => rfl
  | cons b E => exact eget_cons_gt (h b (by simp))
theorem eget_mem : ∀ {E : Env} {s : ByteArray} {v : Int}, eget E s = some v → (s, v) ∈ E
  | [], s, v, h => by cases h
  | b :: E, s, v, h => by
    rcases nlt_tri b.1 s with k | k | k
    · rw [eget_cons_lt k] at h; exact List.mem_cons_of_mem _ (eget_mem h)
    · subst k; rw [eget_cons_eq] at h; cases h; simp
    · rw [eget_cons_gt k] at h; cases h
theorem eget_of_mem : ∀ {E : Env} {b : Bd}, Asc E → b ∈ E → eget E b.1 = some b.2
  | c :: E, b, ha, hb => by
    rcases List.mem_cons.1 hb with rfl | hb
    · exact eget_cons_eq
    · rw [eget_cons_lt (asc_all ha b hb)]; exact eget_of_mem (asc_tail ha) hb
theorem eget_no {E : Env} {s : ByteArray} (h : s ∉ E.map (·.1)) : eget E s = none := by
  cases hg : eget E s with
  | none => rfl
  | some v => exact absurd (List.mem_map.2 ⟨_, eget_mem hg, rfl⟩) h
theorem env_ext : ∀ {E1 E2 : Env}, Asc E1 → Asc E2 → (∀ s, eget E1 s = eget E2 s) → E1 = E2
  | [], [], _, _, _ => rfl
  | [], b :: E2, _, _, h => by have := h b.1; rw [eget_cons_eq] at this; cases this
  | a :: E1, [], _, _, h => by have := h a.1; rw [eget_cons_eq] at this; cases this
  | a :: E1, b :: E2, ha, hb, h => by
    rcases nlt_tri a.1 b.1 with k | k | k
    · have := h a.1; rw [eget_cons_eq, eget_cons_gt k] at this; cases this
    · have h1 := h a.1
      rw [eget_cons_eq, k, eget_cons_eq] at h1
      have hab : a = b := by
        cases a; cases b; simp only at k h1 ⊢; cases h1; rw [k]
      subst hab
      rw [env_ext (asc_tail ha) (asc_tail hb) fun s => ?_]
      rcases nlt_tri a.1 s with q | q | q
      · have := h s; rwa [eget_cons_lt q, eget_cons_lt q] at this
      · subst q; rw [eget_gt (asc_all ha), eget_gt (asc_all hb)]
      · rw [eget_gt fun x hx => nlt_trans q (asc_all ha x hx), eget_gt fun x hx => nlt_trans q (asc_all hb x hx)]
    · have := h b.1; rw [eget_cons_eq, eget_cons_gt k] at this; cases this
theorem eget_eset_ne : ∀ {E : Env} {s k : ByteArray} {n : Int}, Asc E → k ≠ s → eget (eset E s n) k = eget E k
  | [], s, k, n, _, h => by
    show eget [(s, n)] k = none
    rcases nlt_tri s k with q | q | q
    · rw [eget_cons_lt q]; rfl
    · exact absurd q.symm h
    · exact eget_cons_gt q
  | b :: E, s, k, n, ha, h => by
    unfold eset
    split
    · rename_i h1
      rcases nlt_tri b.1 k with q | q | q
      · rw [eget_cons_lt q, eget_cons_lt q]; exact eget_eset_ne (asc_tail ha) h
      · subst q; rw [eget_cons_eq, eget_cons_eq]
      · rw [eget_cons_gt q, eget_cons_gt q]
    · split
      · rename_i h1 h2
        subst h2
        rcases nlt_tri b.1 k with q | q | q
        · rw [eget_cons_lt q, eget_cons_lt (b := (b.1, n)) q]
        · exact absurd q.symm h
        · rw [eget_cons_gt q, eget_cons_gt (b := (b.1, n)) q]
      · rename_i h1 h2
        have h3 : nlt s b.1 = true := by
          rcases nlt_tri b.1 s with q | q | q
          · exact absurd q h1
          · exact absurd q h2
          · exact q
        rcases nlt_tri s k with q | q | q
        · rw [eget_cons_lt q]
        · exact absurd q.symm h
        · rw [eget_cons_gt q, eget_cons_gt (nlt_trans q h3)]
theorem eget_edrop_ne : ∀ {E : Env} {s k : ByteArray}, Asc E → k ≠ s → eget (edrop E s) k = eget E k
  | [], s, k, _, h => rfl
  | b :: E, s, k, ha, h => by
    unfold edrop
    split
    · rcases nlt_tri b.1 k with q | q | q
      · rw [eget_cons_lt q, eget_cons_lt q]; exact eget_edrop_ne (asc_tail ha) h
      · subst q; rw [eget_cons_eq, eget_cons_eq]
      · rw [eget_cons_gt q, eget_cons_gt q]
    · split
      · rename_i h1 h2
        subst h2
        rcases nlt_tri b.1 k with q | q | q
        · rw [eget_cons_lt q]
        · exact absurd q.symm h
        · rw [eget_cons_gt q, eget_gt fun x hx => nlt_trans q (asc_all ha x hx)]
      · rfl
theorem eget_edrop : ∀ {E : Env} {s : ByteArray}, Asc E → eget (edrop E s) s = none
  | [], s, _ => rfl
  | b :: E, s, ha => by
    unfold edrop
    split
    · rename_i h1
      rw [eget_cons_lt h1]; exact eget_edrop (asc_tail ha)
    · split
      · rename_i h1 h2
        subst h2
        exact eget_gt (asc_all ha)
      · rename_i h1 h2
        rcases nlt_tri b.1 s with q | q | q
        · exact absurd q h1
        · exact absurd q h2
        · exact eget_cons_gt q
/-- No value is below nought. -/
def Pos (E : Env) : Prop := ∀ b ∈ E, 0 ≤ b.2
theorem Pos.eset {E : Env} {s : ByteArray} {n : Int} (h : Pos E) (hn : 0 ≤ n) : Pos (eset E s n) := fun b hb => by
  rcases eset_mem hb with rfl | hb
  · exact hn
  · exact h b hb
theorem Pos.edrop {E : Env} {s : ByteArray} (h : Pos E) : Pos (edrop E s) := fun b hb => h b (edrop_mem hb)
theorem Pos.get {E : Env} {s : ByteArray} {v : Int} (h : Pos E) (hg : eget E s = some v) : 0 ≤ v := h _ (eget_mem hg)
theorem nodev_some {E : Env} {s : ByteArray} {v : Int} (h : eget E s = some v) : nodev E s = v := by unfold nodev; rw [h]; rfl
theorem nodev_none {E : Env} {s : ByteArray} (h : eget E s = none) : nodev E s = -1 := by unfold nodev; rw [h]; rfl
theorem nodev_no {E : Env} {s : ByteArray} (h : s ∉ E.map (·.1)) : nodev E s = -1 := nodev_none (eget_no h)
theorem Pos.node {E : Env} (h : Pos E) (s : ByteArray) : eget E s = if nodev E s = -1 then none else some (nodev E s) := by
  cases hg : eget E s with
  | none => rw [nodev_none hg, if_pos rfl]
  | some v => rw [nodev_some hg, if_neg (by have := h.get hg; omega)]
theorem Pos.ge {E : Env} (h : Pos E) (s : ByteArray) : -1 ≤ nodev E s := by
  cases hg : eget E s with
  | none => rw [nodev_none hg]; omega
  | some v => rw [nodev_some hg]; have := h.get hg; omega
theorem Pos.in_ {E : Env} (h : Pos E) (ha : Asc E) {s : ByteArray} (hs : s ∈ E.map (·.1)) : nodev E s ≠ -1 := by
  obtain ⟨b, hb, rfl⟩ := List.mem_map.1 hs
  rw [nodev_some (eget_of_mem ha hb)]
  have := h b hb; omega
theorem pos_ext {E1 E2 : Env} (h1 : Asc E1) (h2 : Asc E2) (p1 : Pos E1) (p2 : Pos E2) (h : ∀ s, nodev E1 s = nodev E2 s) : E1 = E2 :=
  env_ext h1 h2 fun s => by rw [p1.node, p2.node, h]
theorem eset_snoc {E : Env} {s : ByteArray} {n : Int} (h : ∀ a ∈ E, nlt a.1 s = true) : eset E s n = E ++ [(s, n)] := by
  have := eset_less (r := []) (s := s) (n := n) h
  rw [List.append_nil] at this
  rw [this]; rfl
/-! ### Lists of changes -/
abbrev cnms (l : List Ch) : Nm := l.map (·.2.1)
def cget (l : List Ch) (s : ByteArray) : Option Ch := l.find? fun c => decide (c.2.1 = s)
theorem cget_nil (s : ByteArray) : cget [] s = none := rfl
theorem cget_eq {c : Ch} {l : List Ch} {s : ByteArray} (h : c.2.1 = s) : cget (c :: l) s = some c := by
  unfold cget; rw [List.find?_cons_of_pos (by simpa using h)]
theorem cget_ne {c : Ch} {l : List Ch} {s : ByteArray} (h : c.2.1 ≠ s) : cget (c :: l) s = cget l s := by
  unfold cget; rw [List.find?_cons_of_neg (by simpa using h)]
theorem cget_name : ∀ {l : List Ch} {s : ByteArray} {c : Ch}, cget l s = some c → c.2.1 = s ∧ c ∈ l
  | [], s, c, h => by cases h
  | a :: l, s, c, h => by
    by_cases k : a.2.1 = s
    · rw [cget_eq k] at h; cases h; exact ⟨k, by simp⟩
    · rw [cget_ne k] at h; obtain ⟨h1, h2⟩ := cget_name h; exact ⟨h1, List.mem_cons_of_mem _ h2⟩
theorem cget_no {l : List Ch} {s : ByteArray} (h : s ∉ cnms l) : cget l s = none := by
  cases hg : cget l s with
  | none => rfl
  | some c => obtain ⟨h1, h2⟩ := cget_name hg; exact absurd (List.mem_map.2 ⟨c, h2, h1⟩) h
theorem cget_some {l : List Ch} {s : ByteArray} (h : s ∈ cnms l) : ∃ c, cget l s = some c := by
  cases hg : cget l s with
  | some c => exact ⟨c, rfl⟩
  | none =>
    obtain ⟨c, hc, rfl⟩ := List.mem_map.1 h
    unfold cget at hg
    rw [List.find?_eq_none] at hg
    exact absurd (by simp) (hg c hc)
theorem asc_no {a : ByteArray} {l : Nm} (h : AscN (a :: l)) : a ∉ l := fun k => nlt_ne ((List.pairwise_cons.1 h).1 a k) rfl
theorem asc_lt {a s : ByteArray} {l : Nm} (h : AscN (a :: l)) (hs : nlt s a = true) : s ∉ a :: l := fun k => by
  rcases List.mem_cons.1 k with rfl | k
  · exact nlt_ne hs rfl
  · exact nlt_ne (nlt_trans hs ((List.pairwise_cons.1 h).1 s k)) rfl
theorem chl_ext : ∀ {l1 l2 : List Ch}, AscN (cnms l1) → AscN (cnms l2) → (∀ s, cget l1 s = cget l2 s) → l1 = l2
  | [], [], _, _, _ => rfl
  | [], b :: l2, _, _, h => by have := h b.2.1; rw [cget_eq rfl] at this; cases this
  | a :: l1, [], _, _, h => by have := h a.2.1; rw [cget_eq rfl] at this; cases this
  | a :: l1, b :: l2, ha, hb, h => by
    rcases nlt_tri a.2.1 b.2.1 with k | k | k
    · have := h a.2.1; rw [cget_eq rfl, cget_no (asc_lt (a := b.2.1) hb k)] at this; cases this
    · have h1 := h a.2.1
      rw [cget_eq rfl, cget_eq k.symm] at h1
      cases h1
      rw [chl_ext (List.pairwise_cons.1 ha).2 (List.pairwise_cons.1 hb).2 fun s => ?_]
      by_cases q : a.2.1 = s
      · subst q; rw [cget_no (asc_no ha), cget_no (asc_no hb)]
      · have := h s; rwa [cget_ne q, cget_ne q] at this
    · have := h b.2.1; rw [cget_eq rfl, cget_no (asc_lt (a := a.2.1) ha k)] at this; cases this
/-- Changes, one per name at most. -/
theorem fm_names {U : Nm} {f : ByteArray → Option Ch} (hf : ∀ s c, f s = some c → c.2.1 = s) : cnms (U.filterMap f) = U.filter fun s => (f s).isSome := by
  induction U with
  | nil => rfl
  | cons a U ih =>
    cases hfa : f a with
    | none => rw [List.filterMap_cons_none hfa, List.filter_cons_of_neg (by rw [hfa]; decide), ih]
    | some c => rw [List.filterMap_cons_some hfa, List.filter_cons_of_pos (by rw [hfa]; rfl)]; show c.2.1 :: cnms (U.filterMap f) = _; rw [ih, hf a c hfa]
theorem fm_asc {U : Nm} {f : ByteArray → Option Ch} (hf : ∀ s c, f s = some c → c.2.1 = s) (h : AscN U) : AscN (cnms (U.filterMap f)) := by
  rw [fm_names hf]; exact List.Pairwise.filter _ h
theorem fm_get {U : Nm} {f : ByteArray → Option Ch} (hf : ∀ s c, f s = some c → c.2.1 = s) (s : ByteArray) : cget (U.filterMap f) s = if s ∈ U then f s else none := by
  induction U with
  | nil => rw [if_neg (by simp)]; rfl
  | cons a U ih =>
    cases hfa : f a with
    | none =>
      rw [List.filterMap_cons_none hfa, ih]
      by_cases k : s = a
      · subst k; rw [hfa]; split <;> simp
      · simp [List.mem_cons, k]
    | some c =>
      rw [List.filterMap_cons_some hfa]
      by_cases k : s = a
      · subst k; rw [cget_eq (hf _ _ hfa), hfa]; simp
      · rw [cget_ne (by rw [hf _ _ hfa]; exact fun e => k e.symm), ih]; simp [List.mem_cons, k]
theorem fm_getU {U : Nm} {f : ByteArray → Option Ch} (hf : ∀ s c, f s = some c → c.2.1 = s) (hU : ∀ s, s ∉ U → f s = none) (s : ByteArray) : cget (U.filterMap f) s = f s := by
  rw [fm_get hf]
  split
  · rfl
  · rename_i h; exact (hU s h).symm
theorem chOf_name (s : ByteArray) (o n : Int) : (chOf s o n).2.1 = s := rfl
/-- What a change of a name is. -/
def chq (s : ByteArray) (o n : Int) : Option Ch := if o = n then none else some (chOf s o n)
theorem chq_name {s : ByteArray} {o n : Int} {c : Ch} (h : chq s o n = some c) : c.2.1 = s := by
  unfold chq at h; split at h <;> cases h; rfl
def unn (ls : List Nm) : Nm := mergeN ls
theorem in_union {E1 E2 : Env} {s : ByteArray} (h : s ∉ mergeN [E1.map (·.1), E2.map (·.1)]) : s ∉ E1.map (·.1) ∧ s ∉ E2.map (·.1) :=
  ⟨fun k => h (mergeN_mem.2 ⟨_, by simp, k⟩), fun k => h (mergeN_mem.2 ⟨_, by simp, k⟩)⟩
/-- The changes from one environment to another one. -/
def betw (E1 E2 : Env) : List Ch := (mergeN [E1.map (·.1), E2.map (·.1)]).filterMap fun s => chq s (nodev E1 s) (nodev E2 s)
theorem merge2_asc {E1 E2 : Env} (h1 : Asc E1) (h2 : Asc E2) : AscN (mergeN [E1.map (·.1), E2.map (·.1)]) :=
  mergeN_asc fun l hl => by
    simp only [List.mem_cons, List.not_mem_nil, or_false] at hl
    rcases hl with rfl | rfl
    · exact asc_ascN h1
    · exact asc_ascN h2
theorem betw_asc {E1 E2 : Env} (h1 : Asc E1) (h2 : Asc E2) : AscN (cnms (betw E1 E2)) := fm_asc (fun s c h => chq_name h) (merge2_asc h1 h2)
theorem betw_get (E1 E2 : Env) (s : ByteArray) : cget (betw E1 E2) s = chq s (nodev E1 s) (nodev E2 s) :=
  fm_getU (fun s c h => chq_name h) (fun s h => by obtain ⟨k1, k2⟩ := in_union h; rw [nodev_no k1, nodev_no k2]; rfl) s
theorem betw_self (E : Env) : betw E E = [] := by
  unfold betw
  rw [List.filterMap_eq_nil_iff]
  intro s _; exact if_pos rfl
theorem betw_len (E1 E2 : Env) : (betw E1 E2).length ≤ E1.length + E2.length := by
  have h1 := List.length_filterMap_le (fun s => chq s (nodev E1 s) (nodev E2 s)) (mergeN [E1.map (·.1), E2.map (·.1)])
  have h2 := mergeN_len [E1.map (·.1), E2.map (·.1)]
  have h3 : totN [E1.map (·.1), E2.map (·.1)] = E1.length + E2.length := by simp [totN]
  unfold betw; omega
theorem betw_name {E1 E2 : Env} {c : Ch} (h : c ∈ betw E1 E2) : c.2.1 ∈ E1.map (·.1) ∨ c.2.1 ∈ E2.map (·.1) := by
  obtain ⟨s, hs, hc⟩ := List.mem_filterMap.1 h
  rw [chq_name hc]
  obtain ⟨l, hl, k⟩ := mergeN_mem.1 hs
  simp only [List.mem_cons, List.not_mem_nil, or_false] at hl
  rcases hl with rfl | rfl
  · exact .inl k
  · exact .inr k
/-- What the reference makes of a name. -/
def rchg (E1 E2 : Env) (s : ByteArray) : Option Ch := if nodev E2 s = -1 then some (2, s, nodev E1 s, -1) else if nodev E1 s = nodev E2 s then none else some (1, s, nodev E1 s, nodev E2 s)
def rbetw (E1 E2 : Env) : List Ch := (mergeN [E1.map (·.1), E2.map (·.1)]).filterMap (rchg E1 E2)
theorem filterMap_same {α β : Type} {f g : α → Option β} : ∀ {l : List α}, (∀ a ∈ l, f a = g a) → l.filterMap f = l.filterMap g
  | [], _ => rfl
  | a :: l, h => by
    rw [List.filterMap_cons, List.filterMap_cons, h a (by simp), filterMap_same fun b hb => h b (List.mem_cons_of_mem _ hb)]
theorem rbetw_eq {E1 E2 : Env} (h1 : Asc E1) (h2 : Asc E2) (p1 : Pos E1) (p2 : Pos E2) : rbetw E1 E2 = betw E1 E2 := by
  refine filterMap_same fun s hs => ?_
  obtain ⟨l, hl, k⟩ := mergeN_mem.1 hs
  simp only [List.mem_cons, List.not_mem_nil, or_false] at hl
  have hk : nodev E1 s ≠ -1 ∨ nodev E2 s ≠ -1 := by
    rcases hl with rfl | rfl
    · exact .inl (p1.in_ h1 k)
    · exact .inr (p2.in_ h2 k)
  unfold rchg chq chOf
  by_cases q : nodev E2 s = -1
  · rw [if_pos q, if_neg (by omega), if_pos q, q]
  · rw [if_neg q, if_neg q]
/-! ### Validity -/
theorem validB_of {l : List Ch} (h : ∀ c ∈ l, okB c = true) (ha : AscN (cnms l)) : validB l = true := by
  refine validB_T (i := l.length) (fun i hi => ?_) (Nat.le_refl _)
  rw [stepB_at hi, h _ (List.getElem_mem hi)]
  by_cases h0 : i = 0
  · subst h0; rfl
  · rw [show nlt l[i - 1].2.1 l[i].2.1 = true from ?_]
    · simp
    · have := List.pairwise_iff_getElem.1 ha (i - 1) i (by simp; omega) (by simp; omega) (by omega)
      simpa using this
theorem validB_ok {l : List Ch} (h : validB l = true) : (∀ c ∈ l, okB c = true) ∧ AscN (cnms l) := by
  have hs : ∀ i, i < l.length → stepB l i = true := fun i hi => by
    unfold validB at h
    rw [List.all_eq_true] at h
    exact h i (List.mem_range.2 hi)
  have hk : ∀ i (hi : i < l.length), okB l[i] = true ∧ (i = 0 ∨ nlt (l[i - 1]'(by omega)).2.1 l[i].2.1 = true) := fun i hi => by
    have := hs i hi
    rw [stepB_at hi] at this
    simpa using this
  refine ⟨fun c hc => ?_, ?_⟩
  · obtain ⟨i, hi, rfl⟩ := List.getElem_of_mem hc
    exact (hk i hi).1
  · refine List.pairwise_iff_getElem.2 fun i j hi hj hij => ?_
    simp only [List.length_map] at hi hj
    simp only [List.getElem_map]
    obtain ⟨m, rfl⟩ : ∃ m, j = i + 1 + m := ⟨j - i - 1, by omega⟩
    clear hij
    induction m with
    | zero =>
      rcases (hk (i + 1) hj).2 with k | k
      · omega
      · exact k
    | succ m ih =>
      refine nlt_trans (ih (by rw [List.length_map]; omega) (show i + 1 + m < l.length from by omega)) ?_
      rcases (hk (i + 1 + (m + 1)) hj).2 with k | k
      · omega
      · exact k
theorem betw_valid {E1 E2 : Env} (h1 : Asc E1) (h2 : Asc E2) (p1 : Pos E1) (p2 : Pos E2) : validB (betw E1 E2) = true := by
  refine validB_of (fun c hc => ?_) (betw_asc h1 h2)
  obtain ⟨s, hs, hq⟩ := List.mem_filterMap.1 hc
  have g1 := p1.ge s
  have g2 := p2.ge s
  unfold chq at hq
  split at hq
  · cases hq
  · rename_i hne
    cases hq
    unfold okB chOf
    by_cases q : nodev E2 s = -1
    · rw [if_pos q]
      simp only [show ¬ (2 : Int) = 1 from by decide, if_false, if_true, q, decide_true, Bool.not_true, Bool.or_false, Bool.not_eq_true', decide_eq_false_iff_not]
      omega
    · rw [if_neg q]
      simp only [if_true, Bool.not_eq_true', Bool.or_eq_false_iff, decide_eq_false_iff_not]
      omega
/-! ### Changes applied -/
def apE (E : Env) (c : Ch) : Env := if c.1 = 1 then eset E c.2.1 c.2.2.2 else edrop E c.2.1
def apL (E : Env) (l : List Ch) : Env := l.foldl apE E
def chkE (E : Env) (l : List Ch) : Bool := l.all fun c => decide (nodev E c.2.1 = c.2.2.1)
def rapL : Env → List Ch → Option Env
  | E, [] => some E
  | E, c :: l => if nodev E c.2.1 = c.2.2.1 then rapL (apE E c) l else none
theorem apE_asc {E : Env} {c : Ch} (h : Asc E) : Asc (apE E c) := by
  unfold apE; split
  · exact asc_eset h
  · exact asc_edrop h
theorem apE_ne {E : Env} {c : Ch} {s : ByteArray} (h : Asc E) (hs : s ≠ c.2.1) : eget (apE E c) s = eget E s := by
  unfold apE; split
  · exact eget_eset_ne h hs
  · exact eget_edrop_ne h hs
theorem apE_eq {E : Env} {c : Ch} (h : Asc E) : eget (apE E c) c.2.1 = if c.1 = 1 then some c.2.2.2 else none := by
  unfold apE; split
  · exact eget_eset _ _ _
  · exact eget_edrop h
theorem apE_len (E : Env) (c : Ch) : (apE E c).length ≤ E.length + 1 := by
  unfold apE; split
  · exact eset_len _ _ _
  · have := edrop_len_le E c.2.1; omega
theorem apL_asc : ∀ {l : List Ch} {E : Env}, Asc E → Asc (apL E l)
  | [], E, h => h
  | c :: l, E, h => apL_asc (l := l) (apE_asc h)
theorem apL_get : ∀ {l : List Ch} {E : Env} (s : ByteArray), Asc E → AscN (cnms l) → eget (apL E l) s = match cget l s with | some c => if c.1 = 1 then some c.2.2.2 else none | none => eget E s
  | [], E, s, h, _ => rfl
  | c :: l, E, s, h, ha => by
    show eget (apL (apE E c) l) s = _
    rw [apL_get (l := l) s (apE_asc h) (List.pairwise_cons.1 ha).2]
    by_cases k : c.2.1 = s
    · rw [cget_eq k]
      subst k
      rw [cget_no (asc_no ha)]
      exact apE_eq h
    · rw [cget_ne k]
      cases cget l s with
      | some d => rfl
      | none => exact apE_ne h fun e => k e.symm
theorem chkE_step {E : Env} {c : Ch} {l : List Ch} (h : Asc E) (hc : c.2.1 ∉ cnms l) : chkE (apE E c) l = chkE E l := by
  unfold chkE
  rw [Bool.eq_iff_iff, List.all_eq_true, List.all_eq_true]
  have : ∀ d ∈ l, nodev (apE E c) d.2.1 = nodev E d.2.1 := fun d hd => by
    unfold nodev
    rw [apE_ne h fun e => hc (e ▸ List.mem_map.2 ⟨d, hd, rfl⟩)]
  constructor
  · intro k d hd; rw [← this d hd]; exact k d hd
  · intro k d hd; rw [this d hd]; exact k d hd
theorem rapL_eq : ∀ {l : List Ch} {E : Env}, Asc E → AscN (cnms l) → rapL E l = if chkE E l = true then some (apL E l) else none
  | [], E, _, _ => rfl
  | c :: l, E, h, ha => by
    show (if nodev E c.2.1 = c.2.2.1 then rapL (apE E c) l else none) = _
    rw [rapL_eq (l := l) (apE_asc h) (List.pairwise_cons.1 ha).2, chkE_step h (asc_no ha)]
    have e : chkE E (c :: l) = (decide (nodev E c.2.1 = c.2.2.1) && chkE E l) := rfl
    rw [e]
    by_cases k : nodev E c.2.1 = c.2.2.1
    · rw [if_pos k]; simp [k]; rfl
    · rw [if_neg k]; simp [k]
theorem betw_chk (E1 E2 : Env) : chkE E1 (betw E1 E2) = true := by
  unfold chkE
  rw [List.all_eq_true]
  intro c hc
  obtain ⟨s, hs, hq⟩ := List.mem_filterMap.1 hc
  unfold chq at hq
  split at hq
  · cases hq
  · cases hq; simp [chOf]
theorem betw_apply {E1 E2 : Env} (h1 : Asc E1) (h2 : Asc E2) (p1 : Pos E1) (p2 : Pos E2) : apL E1 (betw E1 E2) = E2 := by
  refine env_ext (apL_asc h1) h2 fun s => ?_
  rw [apL_get s h1 (betw_asc h1 h2), betw_get, p2.node s]
  unfold chq
  by_cases k : nodev E1 s = nodev E2 s
  · rw [if_pos k]
    show eget E1 s = _
    rw [p1.node, k]
  · rw [if_neg k]
    unfold chOf
    by_cases q : nodev E2 s = -1
    · simp only [q, if_true]; rfl
    · simp only [q, if_false]; rfl
/-! ### Changes turned round -/
def inv1 (c : Ch) : Ch := chOf c.2.1 c.2.2.2 c.2.2.1
def invL (l : List Ch) : List Ch := l.map inv1
theorem inv_get : ∀ {l : List Ch} (s : ByteArray), cget (invL l) s = (cget l s).map inv1
  | [], s => rfl
  | c :: l, s => by
    show cget (inv1 c :: invL l) s = _
    by_cases k : c.2.1 = s
    · rw [cget_eq k, cget_eq (show (inv1 c).2.1 = s from k)]; rfl
    · rw [cget_ne k, cget_ne (show (inv1 c).2.1 ≠ s from k), inv_get]
theorem inv_names (l : List Ch) : cnms (invL l) = cnms l := by
  unfold cnms invL
  rw [List.map_map]; rfl
theorem betw_inv {E1 E2 : Env} (h1 : Asc E1) (h2 : Asc E2) : invL (betw E1 E2) = betw E2 E1 := by
  refine chl_ext (by rw [inv_names]; exact betw_asc h1 h2) (betw_asc h2 h1) fun s => ?_
  rw [inv_get, betw_get, betw_get]
  unfold chq
  by_cases k : nodev E1 s = nodev E2 s
  · rw [if_pos k, if_pos k.symm]; rfl
  · rw [if_neg k, if_neg fun e => k e.symm]; rfl
/-! ### Changes composed -/
def ch0 : Ch := (0, ByteArray.empty, 0, 0)
/-- A clash at a name. -/
def clash (l1 l2 : List Ch) (s : ByteArray) : Bool := match cget l1 s, cget l2 s with
  | some x, some y => !decide (x.2.2.2 = y.2.2.1)
  | _, _ => false
def cmp1 (l1 l2 : List Ch) (s : ByteArray) : Option Ch := match cget l1 s, cget l2 s with
  | some x, some y => chq s x.2.2.1 y.2.2.2
  | some x, none => chq s x.2.2.1 x.2.2.2
  | none, some y => chq s y.2.2.1 y.2.2.2
  | none, none => none
def cmpU (l1 l2 : List Ch) : Nm := mergeN [cnms l1, cnms l2]
theorem cmp1_name {l1 l2 : List Ch} {s : ByteArray} {c : Ch} (h : cmp1 l1 l2 s = some c) : c.2.1 = s := by
  unfold cmp1 at h
  split at h
  · exact chq_name h
  · exact chq_name h
  · exact chq_name h
  · cases h
theorem cmp1_no {l1 l2 : List Ch} {s : ByteArray} (h : s ∉ cmpU l1 l2) : cmp1 l1 l2 s = none := by
  have k1 : s ∉ cnms l1 := fun k => h (mergeN_mem.2 ⟨_, by simp, k⟩)
  have k2 : s ∉ cnms l2 := fun k => h (mergeN_mem.2 ⟨_, by simp, k⟩)
  unfold cmp1
  rw [cget_no k1, cget_no k2]
theorem cmpU_asc {l1 l2 : List Ch} (h1 : AscN (cnms l1)) (h2 : AscN (cnms l2)) : AscN (cmpU l1 l2) :=
  mergeN_asc fun l hl => by
    simp only [List.mem_cons, List.not_mem_nil, or_false] at hl
    rcases hl with rfl | rfl
    · exact h1
    · exact h2
def cmpL (l1 l2 : List Ch) : List Ch := (cmpU l1 l2).filterMap (cmp1 l1 l2)
theorem cmp_betw {x y z : Env} (hx : Asc x) (hy : Asc y) (hz : Asc z) : cmpL (betw x y) (betw y z) = betw x z := by
  refine chl_ext (fm_asc (fun s c h => cmp1_name h) (cmpU_asc (betw_asc hx hy) (betw_asc hy hz))) (betw_asc hx hz) fun s => ?_
  unfold cmpL
  rw [fm_getU (fun s c h => cmp1_name h) (fun s h => cmp1_no h), betw_get]
  unfold cmp1
  rw [betw_get, betw_get]
  unfold chq
  by_cases k1 : nodev x s = nodev y s <;> by_cases k2 : nodev y s = nodev z s
  · rw [if_pos k1, if_pos k2, if_pos (k1.trans k2)]
  · rw [if_pos k1, if_neg k2, k1, if_neg k2]; exact if_neg k2
  · rw [if_neg k1, if_pos k2, ← k2, if_neg k1]; exact if_neg k1
  · rw [if_neg k1, if_neg k2]; rfl
theorem no_clash (x y z : Env) : (cmpU (betw x y) (betw y z)).all (fun s => !clash (betw x y) (betw y z) s) = true := by
  rw [List.all_eq_true]
  intro s _
  unfold clash
  rw [betw_get, betw_get]
  unfold chq
  by_cases k1 : nodev x s = nodev y s <;> by_cases k2 : nodev y s = nodev z s <;> simp [k1, k2, chOf]
/-- The reference's way. -/
def rcmp1 (l1 l2 : List Ch) (s : ByteArray) : Option Ch := match cget l1 s, cget l2 s with
  | some x, some y => chq s x.2.2.1 y.2.2.2
  | some x, none => some x
  | none, some y => some y
  | none, none => some ch0
theorem rcmp1_eq {x y z w : Env} {s : ByteArray} (h : s ∈ cmpU (betw x y) (betw w z)) : rcmp1 (betw x y) (betw w z) s = cmp1 (betw x y) (betw w z) s := by
  obtain ⟨l, hl, k⟩ := mergeN_mem.1 h
  simp only [List.mem_cons, List.not_mem_nil, or_false] at hl
  have hk : cget (betw x y) s ≠ none ∨ cget (betw w z) s ≠ none := by
    rcases hl with rfl | rfl
    · obtain ⟨c, hc⟩ := cget_some k; exact .inl (by rw [hc]; simp)
    · obtain ⟨c, hc⟩ := cget_some k; exact .inr (by rw [hc]; simp)
  unfold rcmp1 cmp1
  rw [betw_get, betw_get] at *
  unfold chq at *
  by_cases k1 : nodev x s = nodev y s <;> by_cases k2 : nodev w s = nodev z s <;> simp_all [chOf]
/-! ### Merging -/
/-- What a name's value is in the merged environment. -/
def mval (o a b : Env) (s : ByteArray) : Int := if nodev a s = nodev o s then nodev b s else nodev a s
def confl (o a b : Env) (s : ByteArray) : Bool := !decide (nodev a s = nodev o s) && (!decide (nodev b s = nodev o s) && !decide (nodev b s = nodev a s))
def mst (o a b : Env) (E : Env) (s : ByteArray) : Env := if nodev a s = nodev o s then (if nodev b s = -1 then edrop E s else eset E s (nodev b s)) else E
def mU (o a b : Env) : Nm := mergeN [o.map (·.1), a.map (·.1), b.map (·.1)]
def mrgE (o a b : Env) : Env := (mU o a b).foldl (mst o a b) a
theorem mU_asc {o a b : Env} (h1 : Asc o) (h2 : Asc a) (h3 : Asc b) : AscN (mU o a b) :=
  mergeN_asc fun l hl => by
    simp only [List.mem_cons, List.not_mem_nil, or_false] at hl
    rcases hl with rfl | rfl | rfl
    · exact asc_ascN h1
    · exact asc_ascN h2
    · exact asc_ascN h3
theorem mU_no {o a b : Env} {s : ByteArray} (h : s ∉ mU o a b) : nodev o s = -1 ∧ nodev a s = -1 ∧ nodev b s = -1 :=
  ⟨nodev_no fun k => h (mergeN_mem.2 ⟨_, by simp, k⟩), nodev_no fun k => h (mergeN_mem.2 ⟨_, by simp, k⟩), nodev_no fun k => h (mergeN_mem.2 ⟨_, by simp, k⟩)⟩
theorem mst_asc {o a b E : Env} {s : ByteArray} (h : Asc E) : Asc (mst o a b E s) := by
  unfold mst; split
  · split
    · exact asc_edrop h
    · exact asc_eset h
  · exact h
theorem mst_pos {o a b E : Env} {s : ByteArray} (h : Pos E) (hb : Pos b) : Pos (mst o a b E s) := by
  unfold mst; split
  · split
    · exact h.edrop
    · rename_i k
      exact h.eset (by have := hb.ge s; omega)
  · exact h
theorem mst_len (o a b E : Env) (s : ByteArray) : (mst o a b E s).length ≤ E.length + 1 := by
  unfold mst; split
  · split
    · have := edrop_len_le E s; omega
    · exact eset_len _ _ _
  · omega
theorem mst_ne {o a b E : Env} {s k : ByteArray} (h : Asc E) (hk : k ≠ s) : eget (mst o a b E s) k = eget E k := by
  unfold mst; split
  · split
    · exact eget_edrop_ne h hk
    · exact eget_eset_ne h hk
  · rfl
theorem mfold_get {o a b : Env} (ha : Pos a) (hb : Pos b) : ∀ {U : Nm} {E : Env} (s : ByteArray), Asc E → Pos E → AscN U → (∀ t ∈ U, eget E t = eget a t) →
    nodev (U.foldl (mst o a b) E) s = if s ∈ U then mval o a b s else nodev E s
  | [], E, s, _, _, _, _ => by simp
  | t :: U, E, s, h, hp, hU, hE => by
    rw [List.foldl_cons, mfold_get ha hb (U := U) s (mst_asc h) (mst_pos hp hb) (List.pairwise_cons.1 hU).2 fun u hu => by
      rw [mst_ne h fun e => by subst e; exact asc_no hU hu]; exact hE u (List.mem_cons_of_mem _ hu)]
    by_cases hs : s = t
    · subst hs
      rw [if_neg (asc_no hU), if_pos (by simp)]
      have hn : nodev E s = nodev a s := by unfold nodev; rw [hE s (by simp)]
      unfold mst mval
      by_cases k : nodev a s = nodev o s
      · rw [if_pos k, if_pos k]
        by_cases q : nodev b s = -1
        · rw [if_pos q, q]; exact nodev_none (eget_edrop h)
        · rw [if_neg q]; exact nodev_some (eget_eset _ _ _)
      · rw [if_neg k, if_neg k, hn]
    · have : nodev (mst o a b E t) s = nodev E s := by unfold nodev; rw [mst_ne h hs]
      rw [this]
      simp [hs]
theorem mfold_asc {o a b : Env} : ∀ {U : Nm} {E : Env}, Asc E → Asc (U.foldl (mst o a b) E)
  | [], E, h => h
  | t :: U, E, h => mfold_asc (U := U) (mst_asc h)
theorem mfold_pos {o a b : Env} (hb : Pos b) : ∀ {U : Nm} {E : Env}, Pos E → Pos (U.foldl (mst o a b) E)
  | [], E, h => h
  | t :: U, E, h => mfold_pos hb (U := U) (mst_pos h hb)
theorem mrgE_asc {o a b : Env} (ha : Asc a) : Asc (mrgE o a b) := mfold_asc ha
theorem mrgE_pos {o a b : Env} (pa : Pos a) (pb : Pos b) : Pos (mrgE o a b) := mfold_pos pb pa
theorem mrgE_node {o a b : Env} (ho : Asc o) (ha : Asc a) (hb : Asc b) (pa : Pos a) (pb : Pos b) (s : ByteArray) : nodev (mrgE o a b) s = mval o a b s := by
  unfold mrgE
  rw [mfold_get pa pb s ha pa (mU_asc ho ha hb) fun _ _ => rfl]
  split
  · rfl
  · rename_i h
    obtain ⟨h1, h2, h3⟩ := mU_no h
    unfold mval; rw [h1, h2, h3]; rfl
/-- The reference's list. -/
def rmrg (o a b : Env) : Env := (mU o a b).filterMap fun s => if mval o a b s = -1 then none else some (s, mval o a b s)
theorem rm_asc {f : ByteArray → Int} : ∀ {U : Nm}, AscN U → Asc (U.filterMap fun s => if f s = -1 then none else some (s, f s)) ∧ ∀ b ∈ (U.filterMap fun s => if f s = -1 then none else some (s, f s)), b.1 ∈ U ∧ b.2 = f b.1 ∧ b.2 ≠ -1
  | [], _ => ⟨trivial, fun b hb => by cases hb⟩
  | t :: U, h => by
    obtain ⟨h1, h2⟩ := rm_asc (f := f) (List.pairwise_cons.1 h).2
    by_cases k : f t = -1
    · rw [List.filterMap_cons_none (by simp [k])]
      exact ⟨h1, fun b hb => ⟨List.mem_cons_of_mem _ (h2 b hb).1, (h2 b hb).2⟩⟩
    · rw [List.filterMap_cons_some (by rw [if_neg k])]
      refine ⟨asc_cons h1 fun b hb => (List.pairwise_cons.1 h).1 _ (h2 b hb).1, fun b hb => ?_⟩
      rcases List.mem_cons.1 hb with rfl | hb
      · exact ⟨by simp, rfl, k⟩
      · exact ⟨List.mem_cons_of_mem _ (h2 b hb).1, (h2 b hb).2⟩
theorem rm_mem {f : ByteArray → Int} {U : Nm} {s : ByteArray} (hs : s ∈ U) (h : f s ≠ -1) : (s, f s) ∈ U.filterMap fun s => if f s = -1 then none else some (s, f s) :=
  List.mem_filterMap.2 ⟨s, hs, by rw [if_neg h]⟩
theorem mval_ge {o a b : Env} (pa : Pos a) (pb : Pos b) (s : ByteArray) : -1 ≤ mval o a b s := by
  unfold mval; split
  · exact pb.ge s
  · exact pa.ge s
theorem rmrg_eq {o a b : Env} (ho : Asc o) (ha : Asc a) (hb : Asc b) (pa : Pos a) (pb : Pos b) : rmrg o a b = mrgE o a b := by
  obtain ⟨h1, h2⟩ := rm_asc (f := mval o a b) (mU_asc ho ha hb)
  have hp : Pos (rmrg o a b) := fun c hc => by
    obtain ⟨_, k2, k3⟩ := h2 c hc
    have := mval_ge (o := o) pa pb c.1
    omega
  refine pos_ext h1 (mrgE_asc ha) hp (mrgE_pos pa pb) fun s => ?_
  rw [mrgE_node ho ha hb pa pb]
  by_cases k : mval o a b s = -1
  · rw [k]
    refine nodev_no fun hm => ?_
    obtain ⟨c, hc, rfl⟩ := List.mem_map.1 hm
    obtain ⟨_, k2, k3⟩ := h2 c hc
    omega
  · have hs : s ∈ mU o a b := by
      by_cases q : s ∈ mU o a b
      · exact q
      · obtain ⟨q1, q2, q3⟩ := mU_no q
        exact absurd (by unfold mval; rw [q1, q2, q3]; rfl) k
    exact nodev_some (eget_of_mem h1 (rm_mem hs k))
theorem mU_swap {o a b : Env} (ho : Asc o) (ha : Asc a) (hb : Asc b) : mU o b a = mU o a b :=
  ascN_ext (mU_asc ho hb ha) (mU_asc ho ha hb) fun s => by
    unfold mU
    rw [mergeN_mem, mergeN_mem]
    constructor <;> (rintro ⟨l, hl, hs⟩; refine ⟨l, ?_, hs⟩; simp only [List.mem_cons, List.not_mem_nil, or_false] at hl ⊢; rcases hl with rfl | rfl | rfl <;> simp)
theorem confl_swap (o a b : Env) (s : ByteArray) : confl o b a s = confl o a b s := by
  unfold confl
  rw [Bool.eq_iff_iff]
  simp only [Bool.and_eq_true, Bool.not_eq_true', decide_eq_false_iff_not]
  omega
def mbad (o a b : Env) : Nm := (mU o a b).filter (confl o a b)
theorem mbad_swap {o a b : Env} (ho : Asc o) (ha : Asc a) (hb : Asc b) : mbad o b a = mbad o a b := by
  unfold mbad
  rw [mU_swap ho ha hb]
  congr 1
  funext s; exact confl_swap o a b s
theorem mrg_swap {o a b : Env} (ho : Asc o) (ha : Asc a) (hb : Asc b) (pa : Pos a) (pb : Pos b) (h : mbad o a b = []) : mrgE o b a = mrgE o a b := by
  refine pos_ext (mrgE_asc hb) (mrgE_asc ha) (mrgE_pos pb pa) (mrgE_pos pa pb) fun s => ?_
  rw [mrgE_node ho hb ha pb pa, mrgE_node ho ha hb pa pb]
  have hc : confl o a b s = false := by
    by_cases k : s ∈ mU o a b
    · unfold mbad at h
      rw [List.filter_eq_nil_iff] at h
      simpa using h s k
    · obtain ⟨q1, q2, q3⟩ := mU_no k
      unfold confl; rw [q1, q2, q3]; rfl
  unfold confl at hc
  unfold mval
  by_cases k1 : nodev a s = nodev o s <;> by_cases k2 : nodev b s = nodev o s <;> simp_all
theorem mbad_base (o a : Env) : mbad o a o = [] := by
  unfold mbad
  rw [List.filter_eq_nil_iff]
  intro s _; unfold confl; simp
theorem mrg_base {o a : Env} (ho : Asc o) (ha : Asc a) (po : Pos o) (pa : Pos a) : mrgE o a o = a := by
  refine pos_ext (mrgE_asc ha) ha (mrgE_pos pa po) pa fun s => ?_
  rw [mrgE_node ho ha ho pa po]
  unfold mval
  split
  · rename_i h; exact h.symm
  · rfl
end Go.Proofs.Ytoccimigjjndpaa
