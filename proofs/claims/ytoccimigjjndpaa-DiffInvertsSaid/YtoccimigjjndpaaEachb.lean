/-
  Lists of names brought together (plain).
  Lists of lists of names; closures that gather; slices of one-cell elements: the rest, and stores.
-/
import Derived.Test.YtoccimigjjndpaaTree
import Derived.Test.YtoccimigjjndpaaT10
set_option linter.unusedVariables false
set_option linter.unusedSimpArgs false
namespace Go.Proofs.Ytoccimigjjndpaa
open Go
abbrev Nm := List ByteArray
def AscN (l : Nm) : Prop := l.Pairwise fun a b => nlt a b = true
def leastO (cur : Option ByteArray) (l : Nm) : Option ByteArray :=
  match l with
  | [] => cur
  | x :: _ => match cur with
    | none => some x
    | some c => if nlt x c = true then some x else some c
def curN (ls : List Nm) (i : Nat) : Option ByteArray := (ls.take i).foldl leastO none
def leastN (ls : List Nm) : Option ByteArray := ls.foldl leastO none
def dropH (s : ByteArray) (l : Nm) : Nm := if l.head? = some s then l.tail else l
def dropN (s : ByteArray) (ls : List Nm) : List Nm := ls.map (dropH s)
def totN (ls : List Nm) : Nat := (ls.map List.length).sum
def mergeF : Nat → List Nm → Nm
  | 0, _ => []
  | n + 1, ls => match leastN ls with
    | none => []
    | some s => s :: mergeF n (dropN s ls)
/-- The names of some lists, ascending, each once. -/
def mergeN (ls : List Nm) : Nm := mergeF (totN ls) ls
theorem curN_succ {ls : List Nm} {i : Nat} (h : i < ls.length) : curN ls (i + 1) = leastO (curN ls i) ls[i] := by
  unfold curN
  rw [List.take_add_one, List.getElem?_eq_getElem h, List.foldl_append]
  rfl
theorem curN_all {ls : List Nm} {i : Nat} (h : ls.length ≤ i) : curN ls i = leastN ls := by
  unfold curN leastN
  rw [List.take_of_length_le h]
theorem least_none : ∀ {ls : List Nm} {cur : Option ByteArray}, ls.foldl leastO cur = none → cur = none ∧ ∀ l ∈ ls, l = []
  | [], cur, h => ⟨h, by simp⟩
  | l :: ls, cur, h => by
    rw [List.foldl_cons] at h
    obtain ⟨h1, h2⟩ := least_none h
    cases l with
    | nil => exact ⟨h1, fun m hm => by
        rcases List.mem_cons.1 hm with rfl | hm
        · rfl
        · exact h2 m hm⟩
    | cons x t =>
      cases cur with
      | none => cases h1
      | some c =>
        simp only [leastO] at h1
        split at h1 <;> cases h1
theorem least_some : ∀ {ls : List Nm} {cur : Option ByteArray} {s : ByteArray}, ls.foldl leastO cur = some s →
    (cur = some s ∨ ∃ l ∈ ls, l.head? = some s) ∧ (∀ c, cur = some c → nlt c s = false) ∧ ∀ l ∈ ls, ∀ x, l.head? = some x → nlt x s = false
  | [], cur, s, h => ⟨.inl h, fun c hc => by
      rw [List.foldl_nil, hc] at h
      cases h; exact nlt_irrefl _, by simp⟩
  | l :: ls, cur, s, h => by
    rw [List.foldl_cons] at h
    obtain ⟨h1, h2, h3⟩ := least_some h
    cases l with
    | nil => exact ⟨h1.imp id fun ⟨l, hl, e⟩ => ⟨l, List.mem_cons_of_mem _ hl, e⟩, h2, fun m hm x hx => by
        rcases List.mem_cons.1 hm with rfl | hm
        · cases hx
        · exact h3 m hm x hx⟩
    | cons x t =>
      cases cur with
      | none =>
        have hx : nlt x s = false := h2 x rfl
        refine ⟨.inr ?_, fun c hc => (by cases hc), fun m hm y hy => ?_⟩
        · rcases h1 with h1 | ⟨l, hl, e⟩
          · exact ⟨x :: t, List.mem_cons_self, h1⟩
          · exact ⟨l, List.mem_cons_of_mem _ hl, e⟩
        · rcases List.mem_cons.1 hm with rfl | hm
          · cases hy; exact hx
          · exact h3 m hm y hy
      | some c =>
        by_cases hxc : nlt x c = true
        · have e : leastO (some c) (x :: t) = some x := if_pos hxc
          rw [e] at h1 h2
          have hx := h2 x rfl
          refine ⟨.inr ?_, fun c' hc => ?_, fun m hm y hy => ?_⟩
          · rcases h1 with h1 | ⟨l, hl, e⟩
            · exact ⟨x :: t, List.mem_cons_self, h1⟩
            · exact ⟨l, List.mem_cons_of_mem _ hl, e⟩
          · cases hc
            cases h4 : nlt c s with
            | false => rfl
            | true => rw [nlt_trans hxc h4] at hx; cases hx
          · rcases List.mem_cons.1 hm with rfl | hm
            · cases hy; exact hx
            · exact h3 m hm y hy
        · have e : leastO (some c) (x :: t) = some c := if_neg hxc
          rw [e] at h1 h2
          have hc' := h2 c rfl
          refine ⟨?_, h2, fun m hm y hy => ?_⟩
          · rcases h1 with h1 | ⟨l, hl, e⟩
            · exact .inl h1
            · exact .inr ⟨l, List.mem_cons_of_mem _ hl, e⟩
          · rcases List.mem_cons.1 hm with rfl | hm
            · cases hy
              cases h4 : nlt x s with
              | false => rfl
              | true =>
                rcases nlt_tri c x with k | k | k
                · rw [nlt_trans k h4] at hc'; cases hc'
                · subst k; rw [h4] at hc'; cases hc'
                · exact absurd k hxc
            · exact h3 m hm y hy
theorem dropH_le (s : ByteArray) (l : Nm) : (dropH s l).length ≤ l.length := by
  unfold dropH
  split
  · rw [List.length_tail]; omega
  · exact Nat.le_refl _
theorem totN_le (s : ByteArray) : ∀ ls : List Nm, totN (dropN s ls) ≤ totN ls
  | [] => Nat.le_refl _
  | l :: ls => by
    have h1 := totN_le s ls
    have h2 := dropH_le s l
    simp only [totN, dropN, List.map_cons, List.sum_cons] at h1 ⊢
    omega
theorem totN_lt {s : ByteArray} : ∀ {ls : List Nm} {l : Nm}, l ∈ ls → l.head? = some s → totN (dropN s ls) + 1 ≤ totN ls
  | [], l, h, _ => by cases h
  | m :: ls, l, h, hh => by
    have h0 := totN_le s ls
    have h2 := dropH_le s m
    rcases List.mem_cons.1 h with rfl | h
    · have h3 : (dropH s l).length + 1 ≤ l.length := by
        unfold dropH
        rw [if_pos hh, List.length_tail]
        cases l with
        | nil => cases hh
        | cons x t => simp
      simp only [totN, dropN, List.map_cons, List.sum_cons] at h0 ⊢
      omega
    · have h1 := totN_lt h hh
      simp only [totN, dropN, List.map_cons, List.sum_cons] at h1 ⊢
      omega
theorem totN_least {ls : List Nm} {s : ByteArray} (h : leastN ls = some s) : totN (dropN s ls) + 1 ≤ totN ls := by
  rcases (least_some h).1 with h1 | ⟨l, hl, e⟩
  · cases h1
  · exact totN_lt hl e
theorem mergeF_sub : ∀ (n : Nat) (ls : List Nm) (s : ByteArray), s ∈ mergeF n ls → ∃ l ∈ ls, s ∈ l
  | 0, ls, s, h => by cases h
  | n + 1, ls, s, h => by
    unfold mergeF at h
    split at h
    · cases h
    · rename_i m hm
      rcases List.mem_cons.1 h with rfl | h
      · rcases (least_some hm).1 with h1 | ⟨l, hl, e⟩
        · cases h1
        · exact ⟨l, hl, by cases l with
            | nil => cases e
            | cons x t => cases e; simp⟩
      · obtain ⟨l, hl, hs⟩ := mergeF_sub n _ s h
        obtain ⟨l', hl', rfl⟩ := List.mem_map.1 hl
        refine ⟨l', hl', ?_⟩
        unfold dropH at hs
        split at hs
        · exact List.mem_of_mem_tail hs
        · exact hs
theorem mergeF_sup : ∀ (n : Nat) (ls : List Nm), totN ls ≤ n → ∀ l ∈ ls, ∀ s ∈ l, s ∈ mergeF n ls
  | 0, ls, h, l, hl, s, hs => by
    exfalso
    have h1 : ∀ {ls : List Nm} {l : Nm}, l ∈ ls → l.length ≤ totN ls := by
      intro ls
      induction ls with
      | nil => intro l h; cases h
      | cons m ls ih =>
        intro l h
        simp only [totN, List.map_cons, List.sum_cons]
        rcases List.mem_cons.1 h with rfl | h
        · omega
        · have := ih h
          simp only [totN] at this
          omega
    have h2 := h1 hl
    have h3 : 0 < l.length := List.length_pos_of_mem hs
    omega
  | n + 1, ls, h, l, hl, s, hs => by
    unfold mergeF
    split
    · rename_i hm
      rw [(least_none hm).2 l hl] at hs
      cases hs
    · rename_i m hm
      have hlt := totN_least hm
      by_cases e : s = m
      · rw [e]; simp
      · refine List.mem_cons_of_mem _ (mergeF_sup n (dropN m ls) (by omega) (dropH m l) (List.mem_map.2 ⟨l, hl, rfl⟩) s ?_)
        unfold dropH
        split
        · rename_i hh
          cases l with
          | nil => cases hh
          | cons x t =>
            cases hh
            rcases List.mem_cons.1 hs with hs | hs
            · exact absurd hs e
            · exact hs
        · exact hs
theorem mergeF_asc : ∀ (n : Nat) (ls : List Nm), (∀ l ∈ ls, AscN l) → AscN (mergeF n ls)
  | 0, ls, _ => List.Pairwise.nil
  | n + 1, ls, h => by
    unfold mergeF
    split
    · exact List.Pairwise.nil
    · rename_i m hm
      obtain ⟨-, -, h3⟩ := least_some hm
      have hd : ∀ l ∈ dropN m ls, AscN l := by
        intro l hl
        obtain ⟨l', hl', rfl⟩ := List.mem_map.1 hl
        have ha := h l' hl'
        unfold dropH
        split
        · exact ha.tail
        · exact ha
      refine List.pairwise_cons.2 ⟨fun x hx => ?_, mergeF_asc n _ hd⟩
      obtain ⟨l, hl, hxl⟩ := mergeF_sub n _ x hx
      obtain ⟨l', hl', rfl⟩ := List.mem_map.1 hl
      have ha := h l' hl'
      have h4 := h3 l' hl'
      unfold dropH at hxl
      cases l' with
      | nil => simp at hxl
      | cons y t =>
        have h5 := h4 y rfl
        have h6 := List.pairwise_cons.1 ha
        split at hxl
        · rename_i hh
          cases hh
          exact h6.1 x hxl
        · rename_i hh
          have hmy : nlt m y = true := by
            rcases nlt_tri m y with k | k | k
            · exact k
            · exact absurd (by rw [k]; rfl) hh
            · rw [k] at h5; cases h5
          rcases List.mem_cons.1 hxl with rfl | hxl
          · exact hmy
          · exact nlt_trans hmy (h6.1 x hxl)
theorem mergeN_mem {ls : List Nm} {s : ByteArray} : s ∈ mergeN ls ↔ ∃ l ∈ ls, s ∈ l :=
  ⟨mergeF_sub _ _ _, fun ⟨l, hl, hs⟩ => mergeF_sup _ _ (Nat.le_refl _) l hl s hs⟩
theorem mergeN_asc {ls : List Nm} (h : ∀ l ∈ ls, AscN l) : AscN (mergeN ls) := mergeF_asc _ _ h
theorem mergeF_len : ∀ (n : Nat) (ls : List Nm), (mergeF n ls).length ≤ n
  | 0, ls => Nat.le_refl _
  | n + 1, ls => by
    unfold mergeF
    split
    · exact Nat.zero_le _
    · simp only [List.length_cons]
      have := mergeF_len n (dropN ‹_› ls)
      omega
theorem mergeN_len (ls : List Nm) : (mergeN ls).length ≤ totN ls := mergeF_len _ _
theorem ascN_ext : ∀ {a b : Nm}, AscN a → AscN b → (∀ s, s ∈ a ↔ s ∈ b) → a = b
  | [], [], _, _, _ => rfl
  | [], y :: b, _, _, h => by have := (h y).2 (by simp); cases this
  | x :: a, [], _, _, h => by have := (h x).1 (by simp); cases this
  | x :: a, y :: b, h1, h2, h => by
    have k1 := List.pairwise_cons.1 h1
    have k2 := List.pairwise_cons.1 h2
    have hxy : x = y := by
      rcases List.mem_cons.1 ((h x).1 (by simp)) with e | e
      · exact e
      · rcases List.mem_cons.1 ((h y).2 (by simp)) with e' | e'
        · exact e'.symm
        · have h5 := k2.1 x e
          have h6 := nlt_asymm h5
          rw [k1.1 y e'] at h6; cases h6
    subst hxy
    refine congrArg _ (ascN_ext k1.2 k2.2 fun s => ⟨fun hs => ?_, fun hs => ?_⟩)
    · rcases List.mem_cons.1 ((h s).1 (List.mem_cons_of_mem _ hs)) with e | e
      · have h5 := k1.1 s hs
        rw [e, nlt_irrefl] at h5; cases h5
      · exact e
    · rcases List.mem_cons.1 ((h s).2 (List.mem_cons_of_mem _ hs)) with e | e
      · have h5 := k2.1 s hs
        rw [e, nlt_irrefl] at h5; cases h5
      · exact e
/-! ### Sorted, by insertion -/
def sortE (l : Nm) : Env := l.foldl (fun E s => eset E s 0) []
def sortN (l : Nm) : Nm := (sortE l).map (·.1)
theorem asc_ascN : ∀ {E : Env}, Asc E → AscN (E.map (·.1))
  | [], _ => List.Pairwise.nil
  | b :: E, h => by
    refine List.pairwise_cons.2 ⟨fun s hs => ?_, asc_ascN (asc_tail h)⟩
    obtain ⟨c, hc, rfl⟩ := List.mem_map.1 hs
    exact asc_all h c hc
theorem eset_names {s k : ByteArray} {n : Int} : ∀ {E : Env}, k ∈ (eset E s n).map (·.1) ↔ k = s ∨ k ∈ E.map (·.1)
  | [] => by simp [eset]
  | b :: E => by
    unfold eset
    split
    · have ih := @eset_names s k n E
      simp only [List.map_cons, List.mem_cons, ih]
      constructor
      · rintro (h | h | h)
        · exact .inr (.inl h)
        · exact .inl h
        · exact .inr (.inr h)
      · rintro (h | h | h)
        · exact .inr (.inl h)
        · exact .inl h
        · exact .inr (.inr h)
    · split
      · rename_i h2
        simp only [List.map_cons, List.mem_cons, h2]
        constructor
        · rintro (h | h)
          · exact .inl h
          · exact .inr (.inr h)
        · rintro (h | h | h)
          · exact .inl h
          · exact .inl h
          · exact .inr h
      · simp only [List.map_cons, List.mem_cons]
theorem sortE_step (l : Nm) (s : ByteArray) : sortE (l ++ [s]) = eset (sortE l) s 0 := by
  unfold sortE
  rw [List.foldl_append]; rfl
theorem sortF_asc : ∀ (l : Nm) (E : Env), Asc E → Asc (l.foldl (fun E s => eset E s 0) E)
  | [], E, h => h
  | s :: l, E, h => sortF_asc l _ (asc_eset h)
theorem sortF_mem {k : ByteArray} : ∀ (l : Nm) (E : Env), k ∈ (l.foldl (fun E s => eset E s 0) E).map (·.1) ↔ k ∈ l ∨ k ∈ E.map (·.1)
  | [], E => by simp
  | s :: l, E => by
    rw [List.foldl_cons, sortF_mem l, eset_names, List.mem_cons]
    constructor
    · rintro (h | h | h)
      · exact .inl (.inr h)
      · exact .inl (.inl h)
      · exact .inr h
    · rintro ((h | h) | h)
      · exact .inr (.inl h)
      · exact .inl h
      · exact .inr (.inr h)
theorem sortN_asc (l : Nm) : AscN (sortN l) := asc_ascN (sortF_asc l [] trivial)
theorem sortN_mem {k : ByteArray} {l : Nm} : k ∈ sortN l ↔ k ∈ l := by
  unfold sortN sortE
  rw [sortF_mem]; simp
theorem sortN_merge {ls : List Nm} (h : ∀ l ∈ ls, AscN l) : sortN ls.flatten = mergeN ls :=
  ascN_ext (sortN_asc _) (mergeN_asc h) fun s => by
    rw [sortN_mem, mergeN_mem, List.mem_flatten]
end Go.Proofs.Ytoccimigjjndpaa

set_option linter.unusedVariables false
set_option linter.unusedSimpArgs false
namespace Go.Proofs.Ytoccimigjjndpaa
open Go Go.RowKit
section
variable {α : Type} {f : α → Value} {w w' w0 : World} {v : Value} {l : List α} {B : Nat} {e : TypeId} {S : List TypeId}
theorem SlV.toK {vs : List Value} (h : SlV w v vs) : SlK 1 w v (vs.map fun u => [u]) := by
  obtain ⟨a, cap, rfl, h2, h3, h4, h5⟩ := h
  refine ⟨a, cap, by rw [List.length_map], by rw [List.length_map]; exact h2, h3, h4, fun i row hr => ?_⟩
  rw [List.getElem?_map] at hr
  cases hv : vs[i]? with
  | none => rw [hv] at hr; cases hr
  | some u =>
    rw [hv] at hr
    cases hr
    obtain ⟨x, hx, hc⟩ := h5 i u hv
    refine ⟨rfl, x, hx, fun j u' hj => ?_⟩
    cases j with
    | zero => cases hj; simpa using hc
    | succ j => simp at hj
theorem OwM.bk (h : OwM f B e w v l) (hn : l ≠ []) : ∃ cs, Bk w (vblk v) e cs := by
  obtain ⟨_, h2⟩ := h
  rcases h2 with ⟨rfl, h3⟩ | ⟨k, cap, cur, rfl, _, hh, _⟩
  · exact absurd (by simpa using h3) hn
  · exact ⟨cur.toList, by show w.heap[k]? = _; rw [hh]⟩
theorem OwM.keep {cs : List Value} (h : OwM f B e w v l) (h1 : Bk w (vblk v) e cs) (h2 : Bk w' (vblk v) e cs) : OwM f B e w' v l := by
  obtain ⟨k1, k2⟩ := h
  refine ⟨k1, ?_⟩
  rcases k2 with k2 | ⟨k, cap, cur, rfl, k4, hh, r⟩
  · exact .inl k2
  · refine .inr ⟨k, cap, cur, rfl, k4, ?_, r⟩
    have e1 : w.heap[k]? = some (Obj.cells cs.toArray e (0, 0)) := h1
    have e2 : w'.heap[k]? = some (Obj.cells cs.toArray e (0, 0)) := h2
    rw [e2, ← e1]; exact hh
theorem OwM.at_le (h : OwM f B e w v l) (hn : l ≠ []) : B ≤ vblk v ∧ vblk v < w.heap.size := Own.blk h (by simpa using hn)
end
section
variable {α : Type} {f : α → Value} {P : Program} {n : Nat} {K : Rho → World → Prop} {ρ : Rho} {w w0 : World} {ops rest : List Oper}
variable {ty : TypeId} {pos : String} {after : Array Edge} {g : Option (Nat × Bool)} {d : Nat} {t e : TypeId} {z : Value} {bytes : Nat} {l : List α}
theorem M_store {x y : Operand} {B : Nat} {v : Value} {j : Nat} {a : α} (T : ElT P t e z bytes) (hg : gd ops ρ g = some true)
    (hx : ev ρ x = some (.pointer (some (slAt v j)))) (hy : ev ρ y = some (f a)) (h1 : (f a).oneCell' = true) (ho : OwM f B e w v l) (hj : j < l.length)
    (h : ∀ w', OwM f B e w' v (l.set j a) → Chg (vblk v) w w' → B ≤ vblk v → WL P n ops rest K ρ w') :
    WL P n ops (⟨none, .store e x y, ty, pos, after, g⟩ :: rest) K ρ w := by
  obtain ⟨inf, hi, hsz, _⟩ := T.info
  refine O_storeOwn hi hsz hg hx hy h1 ho (by rw [List.length_map]; exact hj) fun w' h2 h3 => h w' ?_ h3 (Own.blk ho (by intro e; simp at e; subst e; simp at hj)).1
  unfold OwM
  rw [List.map_set]
  exact h2
/-- The rest from m on. -/
theorem M_sliceFrom {x y : Operand} {v : Value} {k : IntKind} {i : Int} (T : ElT P t e z bytes) (hg : gd ops ρ g = some true) (hd : Nat.blt d n = true)
    (hx : ev ρ x = some v) (hy : ev ρ y = some (.int k i)) (hs : SlM f w v l) (m : Nat) (hm : i = (m : Int)) (hle : m ≤ l.length)
    (h : WL P n ops rest K ((d, slSubK 1 v m l.length) :: ρ) w) :
    WL P n ops (⟨some d, .slice t x (some y) none none, ty, pos, after, g⟩ :: rest) K ρ w := by
  obtain ⟨inf, hi, hsz, _⟩ := T.info
  obtain ⟨a, cap, rfl, h2, h3, h4, h5⟩ := hs
  subst hm
  rw [List.length_map] at *
  refine WL_val rfl hg hd (fun c hc => ?_) h
  have hb2 : (0 : Int) ≤ (m : Int) ∧ (m : Int) ≤ (l.length : Int) := by omega
  have hb3 : (l.length : Int) ≤ (cap : Int) := by omega
  have hb4 : (0 : Int) ≤ (l.length : Int) := by omega
  simp only [execOp, hc.eval hx, hc.eval hy, Option.map_some, Option.map_none, Instr.sliceAt, Instr.slice, Instr.sliceBounds, Instr.sliceBound, asIntOf, Sem.run_bind, run_underlying T.sl, Result.andThen_ok, Sem.run_pure, if_true, sizeOf, typeInfo, Int.toNat_natCast]
  simp [hi, hsz, slSubK, hb2, hb3, hb4]
/-- The part up to m. -/
theorem M_sliceTo {x u : Operand} {v : Value} {k' : IntKind} {i' : Int} (T : ElT P t e z bytes) (hg : gd ops ρ g = some true) (hd : Nat.blt d n = true)
    (hx : ev ρ x = some v) (hu : ev ρ u = some (.int k' i')) (hs : SlM f w v l) (m : Nat) (hm : i' = (m : Int)) (hle : m ≤ l.length)
    (h : WL P n ops rest K ((d, slTake v m) :: ρ) w) :
    WL P n ops (⟨some d, .slice t x none (some u) none, ty, pos, after, g⟩ :: rest) K ρ w := by
  obtain ⟨inf, hi, hsz, _⟩ := T.info
  obtain ⟨a, cap, rfl, h2, h3, h4, h5⟩ := hs
  subst hm
  rw [List.length_map] at *
  refine WL_val rfl hg hd (fun c hc => ?_) h
  have hb : (0 : Int) ≤ (m : Int) ∧ (m : Int) ≤ (cap : Int) := by omega
  simp only [execOp, hc.eval hx, hc.eval hu, Option.map_some, Option.map_none, Instr.sliceAt, Instr.slice, Instr.sliceBounds, Instr.sliceBound, asIntOf, Sem.run_bind, run_underlying T.sl, Result.andThen_ok, Sem.run_pure, hb, if_true, sizeOf, typeInfo, Int.toNat_natCast]
  simp [hi, slTake, hb]
  cases a <;> simp [Addr.add]
theorem SlM.takeM {v : Value} (h : SlM f w v l) (m : Nat) (hm : m ≤ l.length) : SlM f w (slTake v m) (l.take m) := by
  unfold SlM
  rw [List.map_take]
  have := SlK.take (SlV.toK h) m (by simpa using hm)
  rw [← List.map_take] at this
  exact this.one
theorem SlM.dropM {v : Value} (h : SlM f w v l) (m : Nat) (hm : m ≤ l.length) : SlM f w (slSubK 1 v m l.length) (l.drop m) := by
  unfold SlM
  rw [List.map_drop]
  have := SlK.sub (SlV.toK h) (l := m) (m := l.length) hm (by simp)
  rw [List.take_of_length_le (by simp), ← List.map_drop] at this
  exact this.one
end
/-- A list of names whose row's type is known. -/
def SlS (w : World) (v : Value) (l : Nm) : Prop := SlT 9 1 w v (l.map fun s => [.string s])
section
variable {w w' : World} {v : Value} {l : Nm} {B : Nat} {S : List TypeId}
theorem SlS.extT (h : SlS w v l) (he : ExtT S w w') (hs : 9 ∉ S) : SlS w' v l := SlT.extT h he hs
theorem SlS.sl (h : SlS w v l) : SlM fS w v l := SlK.one (vs := l.map fS) (by rw [List.map_map]; exact h.1)
theorem OwM.toS (h : OwM fS B 9 w v l) : SlS w v l := by
  refine ⟨?_, fun hn => ?_⟩
  · have := SlV.toK h.sl
    rw [List.map_map] at this
    exact this
  · obtain ⟨cs, hb⟩ := h.bk (by intro e; subst e; exact hn rfl)
    exact ⟨cs.toArray, hb⟩
theorem SlS.nilS (w : World) : SlS w (.slice none 0 0) [] := ⟨SlK.nil 1 w, fun h => absurd rfl h⟩
theorem SlS.rest {x : ByteArray} (h : SlS w v (x :: l)) : SlS w (slSubK 1 v 1 (x :: l).length) l := by
  refine ⟨?_, fun hn => ?_⟩
  · have := SlK.sub h.1 (l := 1) (m := (x :: l).length) (by simp) (by simp)
    rw [List.take_of_length_le (by simp)] at this
    exact this
  · rw [slSubK_blk h.1]
    exact h.2 (by simp)
theorem SlS.one (h : SlS w v l) : v.oneCell' = true := by obtain ⟨⟨a, cap, rfl, _⟩, _⟩ := h; rfl
theorem slSub_one (z : Nat) (v : Value) (a b : Nat) (h : v.oneCell' = true) : (slSubK z v a b).oneCell' = true := by
  cases v <;> first | rfl | exact h
end
/-- The values read as the lists of names. -/
def LS (w : World) (vals : List Value) (ls : List Nm) : Prop := vals.length = ls.length ∧ ∀ (k : Nat) (v : Value) (l : Nm), vals[k]? = some v → ls[k]? = some l → SlS w v l
def dropI (s : ByteArray) (i : Nat) (lc : List Nm) : List Nm := dropN s (lc.take i) ++ lc.drop i
theorem dropI_len (s : ByteArray) (i : Nat) (lc : List Nm) : (dropI s i lc).length = lc.length := by
  unfold dropI dropN
  rw [List.length_append, List.length_map, List.length_take, List.length_drop]; omega
theorem dropI_at (s : ByteArray) (i : Nat) (lc : List Nm) (k : Nat) : (dropI s i lc)[k]? = if k < i then (lc[k]?).map (dropH s) else lc[k]? := by
  unfold dropI dropN
  rcases Nat.lt_or_ge k (List.map (dropH s) (List.take i lc)).length with h | h
  · rw [List.getElem?_append_left h]
    simp only [List.length_map, List.length_take] at h
    rw [List.getElem?_map, List.getElem?_take, if_pos (by omega), if_pos (by omega)]
  · rw [List.getElem?_append_right h]
    simp only [List.length_map, List.length_take] at h ⊢
    rw [List.getElem?_drop]
    by_cases hk : k < i
    · rw [if_pos hk, List.getElem?_eq_none (by omega), List.getElem?_eq_none (show lc.length ≤ k by omega)]; rfl
    · rw [if_neg hk]
      rcases Nat.lt_or_ge lc.length i with h1 | h1
      · rw [List.getElem?_eq_none (by omega), List.getElem?_eq_none (show lc.length ≤ k by omega)]
      · congr 1; omega
theorem dropI_zero (s : ByteArray) (lc : List Nm) : dropI s 0 lc = lc := by unfold dropI dropN; simp
theorem dropI_all {s : ByteArray} {i : Nat} {lc : List Nm} (h : lc.length ≤ i) : dropI s i lc = dropN s lc := by
  unfold dropI
  rw [List.take_of_length_le h, List.drop_of_length_le h, List.append_nil]
section
variable {w : World} {vals : List Value} {lc : List Nm} {s : ByteArray} {i : Nat}
theorem LS.at_ {ls : List Nm} (h : LS w vals ls) {k : Nat} (h1 : k < vals.length) (h2 : k < ls.length) : SlS w vals[k] ls[k] :=
  h.2 k _ _ (List.getElem?_eq_getElem h1) (List.getElem?_eq_getElem h2)
theorem LS.atI (h : LS w vals (dropI s i lc)) (h1 : i < vals.length) (h2 : i < lc.length) : SlS w vals[i] lc[i] :=
  h.2 i _ _ (List.getElem?_eq_getElem h1) (by rw [dropI_at, if_neg (Nat.lt_irrefl _)]; exact List.getElem?_eq_getElem h2)
theorem LS.same (h : LS w vals (dropI s i lc)) (h2 : i < lc.length) (hd : dropH s lc[i] = lc[i]) : LS w vals (dropI s (i + 1) lc) := by
  refine ⟨by rw [dropI_len]; have := h.1; rwa [dropI_len] at this, fun k v l hv hl => h.2 k v l hv ?_⟩
  rw [dropI_at] at hl ⊢
  by_cases hk : k < i
  · rw [if_pos hk]; rwa [if_pos (by omega)] at hl
  · rw [if_neg hk]
    by_cases hk2 : k = i
    · subst hk2
      rw [if_pos (by omega), List.getElem?_eq_getElem h2, Option.map_some, hd] at hl
      rw [List.getElem?_eq_getElem h2]; exact hl
    · rwa [if_neg (by omega)] at hl
theorem LS.set_ {v' : Value} (h : LS w vals (dropI s i lc)) (h2 : i < lc.length) (hd : SlS w v' (dropH s lc[i])) : LS w (vals.set i v') (dropI s (i + 1) lc) := by
  have h9 := h.1
  rw [dropI_len] at h9
  refine ⟨by rw [dropI_len, List.length_set]; exact h9, fun k v l hv hl => ?_⟩
  rw [dropI_at] at hl
  by_cases hk2 : i = k
  · subst hk2
    rw [if_pos (by omega), List.getElem?_eq_getElem h2] at hl
    rw [List.getElem?_set_self (by omega)] at hv
    cases hv; cases hl; exact hd
  · rw [List.getElem?_set_ne hk2] at hv
    refine h.2 k v l hv ?_
    rw [dropI_at]
    by_cases hk : k < i
    · rw [if_pos hk]; rwa [if_pos (by omega)] at hl
    · rw [if_neg hk]; rwa [if_neg (by omega)] at hl
end
/-- What a gathering closure makes. -/
def RVis (K' : World → Prop) (b : Nat) (cs : List Value) (w : World) (e : Ending) (w' : World) : Prop :=
  e = .returned (.tuple #[]) ∧ K' w' ∧ w.heap.size ≤ w'.heap.size ∧ Bk w' b 52 cs
theorem O_callEV {P : Program} {n : Nat} {K : Rho → World → Prop} {ρ : Rho} {w : World} {ops rest : List Oper} {ty : TypeId} {pos : String} {after : Array Edge} {gd_ : Option (Nat × Bool)} {d b : Nat} {K' : World → Prop} {cs : List Value}
    {x : Operand} {f : FuncId} {args : List Operand} {at_ : Array TypeId} {vs us : List Value} (hE : Enters P f) (hg : gd ops ρ gd_ = some true) (hd : Nat.blt d n = true) (hx : ev ρ x = some (.func (.func f) #[] us.toArray)) (ha : evs ρ args = some vs)
    (hc : Calls P f (vs ++ us).toArray w (RVis K' b cs w)) (h : ∀ w', K' w' → w.heap.size ≤ w'.heap.size → Bk w' b 52 cs → WL P n ops rest K ((d, .tuple #[]) :: ρ) w') :
    WL P n ops (⟨some d, .call { callee := .value x, args := args.toArray, argTypes := at_ }, ty, pos, after, gd_⟩ :: rest) K ρ w :=
  O_callV hE hg hd hx ha hc fun e w' ⟨he, h1, h2, h3⟩ => ⟨_, he, h w' h1 h2 h3⟩
theorem mergeF_step {n : Nat} {lc : List Nm} {s : ByteArray} (h : leastN lc = some s) : mergeF (n + 1) lc = s :: mergeF n (dropN s lc) := by
  rw [mergeF, h]
theorem mergeF_done {n : Nat} {lc : List Nm} (h : leastN lc = none) : mergeF n lc = [] := by
  cases n with
  | zero => rfl
  | succ n => rw [mergeF, h]
theorem dropH_nil (s : ByteArray) : dropH s [] = [] := rfl
theorem dropH_eq (s : ByteArray) (t : Nm) : dropH s (s :: t) = t := by
  unfold dropH
  exact if_pos (show (s :: t).head? = some s from rfl)
theorem dropH_ne {s x : ByteArray} {t : Nm} (h : ¬ x = s) : dropH s (x :: t) = x :: t := by unfold dropH; rw [if_neg (by intro e; cases e; exact h rfl)]
end Go.Proofs.Ytoccimigjjndpaa

