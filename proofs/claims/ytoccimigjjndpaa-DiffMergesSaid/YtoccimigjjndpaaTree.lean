/-
  Search trees of names, and sorted lists of bindings: plain laws. No program.
-/
import GoSem.Op.String
import Derived.Lib.Strings
set_option linter.unusedVariables false
set_option linter.unusedSimpArgs false
namespace Go.Proofs.Ytoccimigjjndpaa
open Go

/-! ### The order of names -/
theorem bl_irrefl : ∀ a : List UInt8, Op.bytesLess a a = false
  | [] => rfl
  | a :: x => by simp [Op.bytesLess, bl_irrefl x]
theorem bl_trans : ∀ {a b c : List UInt8}, Op.bytesLess a b = true → Op.bytesLess b c = true → Op.bytesLess a c = true
  | [], _ :: _, _ :: _, _, _ => rfl
  | [], [], _, h, _ => by simp [Op.bytesLess] at h
  | _ :: _, [], _, h, _ => by simp [Op.bytesLess] at h
  | _, _ :: _, [], _, h => by simp [Op.bytesLess] at h
  | a :: x, b :: y, c :: z, h1, h2 => by
    simp only [Op.bytesLess, Bool.or_eq_true, decide_eq_true_eq, Bool.and_eq_true, beq_iff_eq] at h1 h2 ⊢
    rcases h1 with h1 | ⟨rfl, h1⟩
    · rcases h2 with h2 | ⟨rfl, h2⟩
      · exact .inl (UInt8.lt_trans h1 h2)
      · exact .inl h1
    · rcases h2 with h2 | ⟨rfl, h2⟩
      · exact .inl h2
      · exact .inr ⟨rfl, bl_trans h1 h2⟩
theorem bl_tri : ∀ (a b : List UInt8), Op.bytesLess a b = true ∨ a = b ∨ Op.bytesLess b a = true
  | [], [] => .inr (.inl rfl)
  | [], _ :: _ => .inl rfl
  | _ :: _, [] => .inr (.inr rfl)
  | a :: x, b :: y => by
    simp only [Op.bytesLess, Bool.or_eq_true, decide_eq_true_eq, Bool.and_eq_true, beq_iff_eq]
    by_cases h : a = b
    · subst h
      rcases bl_tri x y with h | h | h
      · exact .inl (.inr ⟨rfl, h⟩)
      · exact .inr (.inl (by rw [h]))
      · exact .inr (.inr (.inr ⟨rfl, h⟩))
    · rcases UInt8.lt_or_lt_of_ne h with h | h
      · exact .inl (.inl h)
      · exact .inr (.inr (.inl h))
/-- One name is less than another. -/
def nlt (a b : ByteArray) : Bool := Op.bytesLess a.toList b.toList
theorem toList_inj {a b : ByteArray} (h : a.toList = b.toList) : a = b := by
  have key : ∀ c : ByteArray, c.toList = c.data.toList := fun c => by
    exact Lib.toList_data c
  rw [key, key] at h
  cases a; cases b
  congr 1
  exact Array.toList_inj.1 h
theorem nlt_irrefl (a : ByteArray) : nlt a a = false := bl_irrefl _
theorem nlt_trans {a b c : ByteArray} (h1 : nlt a b = true) (h2 : nlt b c = true) : nlt a c = true := bl_trans h1 h2
theorem nlt_tri (a b : ByteArray) : nlt a b = true ∨ a = b ∨ nlt b a = true := by
  rcases bl_tri a.toList b.toList with h | h | h
  · exact .inl h
  · exact .inr (.inl (toList_inj h))
  · exact .inr (.inr h)
theorem nlt_asymm {a b : ByteArray} (h : nlt a b = true) : nlt b a = false := by
  cases h2 : nlt b a with
  | false => rfl
  | true => have := nlt_trans h h2; rw [nlt_irrefl] at this; cases this
theorem nlt_ne {a b : ByteArray} (h : nlt a b = true) : a ≠ b := fun e => by subst e; rw [nlt_irrefl] at h; cases h

/-! ### Sorted lists of bindings -/
abbrev Bd := ByteArray × Int
abbrev Env := List Bd
/-- Ascending. -/
def Asc : Env → Prop
  | [] => True
  | [_] => True
  | a :: b :: l => nlt a.1 b.1 = true ∧ Asc (b :: l)
theorem asc_tail {a : Bd} {l : Env} (h : Asc (a :: l)) : Asc l := by cases l with
  | nil => trivial
  | cons b l => exact h.2
theorem asc_all {a : Bd} : ∀ {l : Env}, Asc (a :: l) → ∀ b ∈ l, nlt a.1 b.1 = true
  | [], _, b, hb => by cases hb
  | c :: l, h, b, hb => by
    rcases List.mem_cons.1 hb with rfl | hb
    · exact h.1
    · exact nlt_trans h.1 (asc_all h.2 b hb)
theorem asc_cons {a : Bd} {l : Env} (h : Asc l) (h2 : ∀ b ∈ l, nlt a.1 b.1 = true) : Asc (a :: l) := by
  cases l with
  | nil => trivial
  | cons b l => exact ⟨h2 b (by simp), h⟩
theorem asc_append : ∀ {l r : Env}, Asc l → Asc r → (∀ a ∈ l, ∀ b ∈ r, nlt a.1 b.1 = true) → Asc (l ++ r)
  | [], r, _, h, _ => h
  | a :: l, r, h1, h2, h3 => asc_cons (asc_append (asc_tail h1) h2 fun x hx => h3 x (List.mem_cons_of_mem _ hx)) fun b hb => by
      rcases List.mem_append.1 hb with hb | hb
      · exact asc_all h1 b hb
      · exact h3 a (by simp) b hb
theorem asc_split : ∀ {l r : Env}, Asc (l ++ r) → Asc l ∧ Asc r ∧ ∀ a ∈ l, ∀ b ∈ r, nlt a.1 b.1 = true
  | [], r, h => ⟨trivial, h, fun a ha => by cases ha⟩
  | a :: l, r, h => by
    obtain ⟨h1, h2, h3⟩ := asc_split (l := l) (asc_tail h)
    have h4 := asc_all h
    refine ⟨asc_cons h1 fun b hb => h4 b (List.mem_append_left _ hb), h2, fun x hx b hb => ?_⟩
    rcases List.mem_cons.1 hx with rfl | hx
    · exact h4 b (List.mem_append_right _ hb)
    · exact h3 x hx b hb
/-- The number of lesser names ahead. -/
def eat (l : Env) (s : ByteArray) : Nat := match l with
  | [] => 0
  | a :: l => if nlt a.1 s = true then eat l s + 1 else 0
/-- Setting, dropping, getting in a sorted list. -/
def eset : Env → ByteArray → Int → Env
  | [], s, n => [(s, n)]
  | a :: l, s, n => if nlt a.1 s = true then a :: eset l s n else if a.1 = s then (s, n) :: l else (s, n) :: a :: l
def edrop : Env → ByteArray → Env
  | [], _ => []
  | a :: l, s => if nlt a.1 s = true then a :: edrop l s else if a.1 = s then l else a :: l
def eget : Env → ByteArray → Option Int
  | [], _ => none
  | a :: l, s => if nlt a.1 s = true then eget l s else if a.1 = s then some a.2 else none
theorem eset_less {l r : Env} {s : ByteArray} {n : Int} (h : ∀ a ∈ l, nlt a.1 s = true) : eset (l ++ r) s n = l ++ eset r s n := by
  induction l with
  | nil => rfl
  | cons a l ih => simp only [List.cons_append, eset, if_pos (h a (by simp))]; rw [ih fun x hx => h x (List.mem_cons_of_mem _ hx)]
theorem edrop_less {l r : Env} {s : ByteArray} (h : ∀ a ∈ l, nlt a.1 s = true) : edrop (l ++ r) s = l ++ edrop r s := by
  induction l with
  | nil => rfl
  | cons a l ih => simp only [List.cons_append, edrop, if_pos (h a (by simp))]; rw [ih fun x hx => h x (List.mem_cons_of_mem _ hx)]
theorem eget_less {l r : Env} {s : ByteArray} (h : ∀ a ∈ l, nlt a.1 s = true) : eget (l ++ r) s = eget r s := by
  induction l with
  | nil => rfl
  | cons a l ih => simp only [List.cons_append, eget, if_pos (h a (by simp))]; rw [ih fun x hx => h x (List.mem_cons_of_mem _ hx)]
theorem eat_less {l r : Env} {s : ByteArray} (h : ∀ a ∈ l, nlt a.1 s = true) : eat (l ++ r) s = l.length + eat r s := by
  induction l with
  | nil => simp
  | cons a l ih => simp only [List.cons_append, eat, if_pos (h a (by simp)), List.length_cons]; rw [ih fun x hx => h x (List.mem_cons_of_mem _ hx)]; omega
/-- A name ahead of a binding: what lies behind plays no part. -/
theorem eset_more {l r : Env} {k s : ByteArray} {v n : Int} (h : nlt s k = true) : eset (l ++ (k, v) :: r) s n = eset l s n ++ (k, v) :: r := by
  induction l with
  | nil =>
    have h1 := nlt_asymm h
    have h2 : k ≠ s := fun e => nlt_ne h e.symm
    simp [eset, h1, h2]
  | cons a l ih =>
    simp only [List.cons_append, eset]
    split
    · rw [ih]; rfl
    · split <;> rfl
theorem edrop_more {l r : Env} {k s : ByteArray} {v : Int} (h : nlt s k = true) : edrop (l ++ (k, v) :: r) s = edrop l s ++ (k, v) :: r := by
  induction l with
  | nil =>
    have h1 := nlt_asymm h
    have h2 : k ≠ s := fun e => nlt_ne h e.symm
    simp [edrop, h1, h2]
  | cons a l ih =>
    simp only [List.cons_append, edrop]
    split
    · rw [ih]; rfl
    · split <;> rfl
theorem eget_more {l r : Env} {k s : ByteArray} {v : Int} (h : nlt s k = true) : eget (l ++ (k, v) :: r) s = eget l s := by
  induction l with
  | nil =>
    have h1 := nlt_asymm h
    have h2 : k ≠ s := fun e => nlt_ne h e.symm
    simp [eget, h1, h2]
  | cons a l ih =>
    simp only [List.cons_append, eget]
    split
    · rw [ih]
    · split <;> rfl
theorem eat_more {l r : Env} {k s : ByteArray} {v : Int} (h : nlt k s = false) : eat (l ++ (k, v) :: r) s = eat l s := by
  induction l with
  | nil => simp [eat, h]
  | cons a l ih =>
    simp only [List.cons_append, eat]
    split
    · rw [ih]
    · rfl
theorem eat_le (l : Env) (s : ByteArray) : eat l s ≤ l.length := by
  induction l with
  | nil => exact Nat.le_refl _
  | cons a l ih => simp only [eat, List.length_cons]; split <;> omega
/-- How the reference says it, by the index. -/
theorem eset_at (l : Env) (s : ByteArray) (n : Int) : eset l s n = l.take (eat l s) ++ (s, n) :: l.drop (eat l s + if (l[eat l s]?).map (·.1) = some s then 1 else 0) := by
  induction l with
  | nil => simp [eset, eat]
  | cons a l ih =>
    simp only [eset, eat]
    split
    · rw [ih]
      simp only [List.take_succ_cons, List.cons_append, List.getElem?_cons_succ]
      rw [show eat l s + 1 + (if (l[eat l s]?).map (·.1) = some s then 1 else 0) = eat l s + (if (l[eat l s]?).map (·.1) = some s then 1 else 0) + 1 from by omega, List.drop_succ_cons]
    · split
      · rename_i h; simp [h]
      · rename_i h; simp [h]
theorem eget_at (l : Env) (s : ByteArray) : eget l s = if (l[eat l s]?).map (·.1) = some s then (l[eat l s]?).map (·.2) else none := by
  induction l with
  | nil => simp [eget, eat]
  | cons a l ih =>
    simp only [eget, eat]
    split
    · rw [ih]; simp only [List.getElem?_cons_succ]
    · split
      · rename_i h; simp [h]
      · rename_i h; simp [h]
theorem edrop_at (l : Env) (s : ByteArray) : edrop l s = l.take (eat l s) ++ l.drop (eat l s + if (l[eat l s]?).map (·.1) = some s then 1 else 0) := by
  induction l with
  | nil => simp [edrop, eat]
  | cons a l ih =>
    simp only [edrop, eat]
    split
    · rw [ih]
      simp only [List.take_succ_cons, List.cons_append, List.getElem?_cons_succ]
      rw [show eat l s + 1 + (if (l[eat l s]?).map (·.1) = some s then 1 else 0) = eat l s + (if (l[eat l s]?).map (·.1) = some s then 1 else 0) + 1 from by omega, List.drop_succ_cons]
    · split
      · rename_i h; simp [h]
      · rename_i h; simp [h]
theorem edrop_none {l : Env} {s : ByteArray} (h : eget l s = none) : edrop l s = l := by
  induction l with
  | nil => rfl
  | cons a l ih =>
    simp only [eget, edrop] at h ⊢
    split
    · rename_i h1; rw [if_pos h1] at h; rw [ih h]
    · rename_i h1
      rw [if_neg h1] at h
      split
      · rename_i h2; rw [if_pos h2] at h; cases h
      · rfl
theorem eset_same {l : Env} {s : ByteArray} {n : Int} (h : eget l s = some n) : eset l s n = l := by
  induction l with
  | nil => cases h
  | cons a l ih =>
    simp only [eget, eset] at h ⊢
    split
    · rename_i h1; rw [if_pos h1] at h; rw [ih h]
    · rename_i h1
      rw [if_neg h1] at h
      split
      · rename_i h2; rw [if_pos h2] at h
        obtain ⟨k, v⟩ := a
        simp only at h2 h ⊢
        subst h2; cases h; rfl
      · rename_i h2; rw [if_neg h2] at h; cases h
theorem eget_eset (l : Env) (s : ByteArray) (n : Int) : eget (eset l s n) s = some n := by
  induction l with
  | nil => simp [eset, eget, nlt_irrefl]
  | cons a l ih =>
    simp only [eset]
    split
    · rename_i h; simp only [eget, if_pos h]; exact ih
    · split <;> simp [eget, nlt_irrefl]
theorem eset_ne {l : Env} {s : ByteArray} {n : Int} (h : eget l s ≠ some n) : eset l s n ≠ l := fun e => h (by rw [← e]; exact eget_eset l s n)
theorem edrop_len {l : Env} {s : ByteArray} {v : Int} (h : eget l s = some v) : (edrop l s).length + 1 = l.length := by
  induction l with
  | nil => cases h
  | cons a l ih =>
    simp only [eget, edrop] at h ⊢
    split
    · rename_i h1; rw [if_pos h1] at h; simp only [List.length_cons]; rw [ih h]
    · rename_i h1
      rw [if_neg h1] at h
      split
      · rfl
      · rename_i h2; rw [if_neg h2] at h; cases h
theorem eset_len (l : Env) (s : ByteArray) (n : Int) : (eset l s n).length ≤ l.length + 1 := by
  induction l with
  | nil => simp [eset]
  | cons a l ih => simp only [eset]; split <;> (try split) <;> simp only [List.length_cons] <;> omega
theorem edrop_len_le (l : Env) (s : ByteArray) : (edrop l s).length ≤ l.length := by
  induction l with
  | nil => simp [edrop]
  | cons a l ih => simp only [edrop]; split <;> (try split) <;> simp only [List.length_cons] <;> omega
theorem eset_mem {l : Env} {s : ByteArray} {n : Int} {b : Bd} (h : b ∈ eset l s n) : b = (s, n) ∨ b ∈ l := by
  induction l with
  | nil => simp [eset] at h; exact .inl h
  | cons a l ih =>
    simp only [eset] at h
    split at h
    · rcases List.mem_cons.1 h with rfl | h
      · exact .inr (by simp)
      · rcases ih h with h | h
        · exact .inl h
        · exact .inr (List.mem_cons_of_mem _ h)
    · split at h
      · rcases List.mem_cons.1 h with rfl | h
        · exact .inl rfl
        · exact .inr (List.mem_cons_of_mem _ h)
      · rcases List.mem_cons.1 h with rfl | h
        · exact .inl rfl
        · exact .inr h
theorem edrop_mem {l : Env} {s : ByteArray} {b : Bd} (h : b ∈ edrop l s) : b ∈ l := by
  induction l with
  | nil => cases h
  | cons a l ih =>
    simp only [edrop] at h
    split at h
    · rcases List.mem_cons.1 h with rfl | h
      · simp
      · exact List.mem_cons_of_mem _ (ih h)
    · split at h
      · exact List.mem_cons_of_mem _ h
      · exact h
theorem asc_eset {l : Env} {s : ByteArray} {n : Int} (h : Asc l) : Asc (eset l s n) := by
  induction l with
  | nil => trivial
  | cons a l ih =>
    simp only [eset]
    split
    · rename_i h1
      refine asc_cons (ih (asc_tail h)) fun b hb => ?_
      rcases eset_mem hb with rfl | hb
      · exact h1
      · exact asc_all h b hb
    · rename_i h1
      have h1' : nlt a.1 s = false := by simpa using h1
      split
      · rename_i h2
        refine asc_cons (asc_tail h) fun b hb => ?_
        have := asc_all h b hb
        rw [h2] at this; exact this
      · rename_i h2
        have h3 : nlt s a.1 = true := by
          rcases nlt_tri a.1 s with k | k | k
          · rw [h1'] at k; cases k
          · exact absurd k h2
          · exact k
        refine asc_cons h fun b hb => ?_
        rcases List.mem_cons.1 hb with rfl | hb
        · exact h3
        · exact nlt_trans h3 (asc_all h b hb)
theorem asc_edrop {l : Env} {s : ByteArray} (h : Asc l) : Asc (edrop l s) := by
  induction l with
  | nil => trivial
  | cons a l ih =>
    simp only [edrop]
    split
    · exact asc_cons (ih (asc_tail h)) fun b hb => asc_all h b (edrop_mem hb)
    · split
      · exact asc_tail h
      · exact h
/-! ### Trees -/
inductive Tr where
  | leaf
  | node (l : Tr) (k : ByteArray) (v : Int) (r : Tr)
namespace Tr
def ht : Tr → Nat
  | leaf => 0
  | node l _ _ r => max l.ht r.ht + 1
def cnt : Tr → Nat
  | leaf => 0
  | node l _ _ r => l.cnt + r.cnt + 1
def env : Tr → Env
  | leaf => []
  | node l k v r => l.env ++ (k, v) :: r.env
def lf : Tr → Tr
  | leaf => leaf
  | node l _ _ _ => l
def rt_ : Tr → Tr
  | leaf => leaf
  | node _ _ _ r => r
def ky : Tr → ByteArray
  | leaf => ByteArray.empty
  | node _ k _ _ => k
def vl : Tr → Int
  | leaf => 0
  | node _ _ v _ => v
/-- A part of two subtrees; it rotates if necessary. -/
def bal (l : Tr) (k : ByteArray) (v : Int) (r : Tr) : Tr :=
  if r.ht + 1 < l.ht then
    if l.rt_.ht ≤ l.lf.ht then node l.lf l.ky l.vl (node l.rt_ k v r)
    else node (node l.lf l.ky l.vl l.rt_.lf) l.rt_.ky l.rt_.vl (node l.rt_.rt_ k v r)
  else if l.ht + 1 < r.ht then
    if r.lf.ht ≤ r.rt_.ht then node (node l k v r.lf) r.ky r.vl r.rt_
    else node (node l k v r.lf.lf) r.lf.ky r.lf.vl (node r.lf.rt_ r.ky r.vl r.rt_)
  else node l k v r
def set (s : ByteArray) (n : Int) : Tr → Tr
  | leaf => node leaf s n leaf
  | node l k v r => if nlt s k = true then bal (set s n l) k v r else if nlt k s = true then bal l k v (set s n r) else node l s n r
/-- The least binding; the given one for an empty tree. -/
def least (k : ByteArray) (v : Int) : Tr → Bd
  | leaf => (k, v)
  | node l k' v' _ => l.least k' v'
def drop (s : ByteArray) : Tr → Tr
  | leaf => leaf
  | node l k v r =>
    if nlt s k = true then bal (drop s l) k v r
    else if nlt k s = true then bal l k v (drop s r)
    else match l, r with
      | leaf, r => r
      | l, leaf => l
      | l, node a k' v' b => bal l (a.least k' v').1 (a.least k' v').2 (dropLeast a k' v' b)
where
  /-- The tree without its least binding, as 'drop' of its name makes it. -/
  dropLeast : Tr → ByteArray → Int → Tr → Tr
  | leaf, _, _, b => b
  | node a k v b, k', v', b' => bal (dropLeast a k v b) k' v' b'
def get (s : ByteArray) : Tr → Option Int
  | leaf => none
  | node l k v r => if nlt s k = true then get s l else if nlt k s = true then get s r else some v

theorem env_length (t : Tr) : t.env.length = t.cnt := by
  induction t with
  | leaf => rfl
  | node l k v r hl hr => simp [env, cnt, hl, hr]; omega
theorem cnt_zero {t : Tr} : t.cnt = 0 ↔ t = leaf := by cases t <;> simp [cnt]
theorem ht_zero {t : Tr} : t.ht = 0 ↔ t = leaf := by cases t <;> simp [ht]
theorem ht_le (t : Tr) : t.ht ≤ t.cnt := by
  induction t with
  | leaf => exact Nat.le_refl _
  | node l k v r hl hr => simp only [ht, cnt]; omega
theorem split_node {t : Tr} (h : 0 < t.ht) : t = node t.lf t.ky t.vl t.rt_ := by cases t with
  | leaf => simp [ht] at h
  | node => rfl
theorem ht_node {t : Tr} (h : 0 < t.ht) : t.ht = max t.lf.ht t.rt_.ht + 1 := by cases t with
  | leaf => simp [ht] at h
  | node => rfl
theorem env_node {t : Tr} (h : 0 < t.ht) : t.env = t.lf.env ++ (t.ky, t.vl) :: t.rt_.env := by cases t with
  | leaf => simp [ht] at h
  | node => rfl
theorem cnt_split (t : Tr) : t.lf.cnt + t.rt_.cnt ≤ t.cnt := by cases t with
  | leaf => exact Nat.le_refl _
  | node => exact Nat.le_succ _
theorem bal_env (l : Tr) (k : ByteArray) (v : Int) (r : Tr) : (bal l k v r).env = l.env ++ (k, v) :: r.env := by
  unfold bal
  split
  · rename_i h
    have e1 := env_node (t := l) (by omega)
    split
    · simp only [env]; rw [e1]; simp
    · rename_i h2
      have e2 := env_node (t := l.rt_) (by omega)
      simp only [env]; rw [e1, e2]; simp
  · split
    · rename_i h
      have e1 := env_node (t := r) (by omega)
      split
      · simp only [env]; rw [e1]; simp
      · rename_i h2
        have e2 := env_node (t := r.lf) (by omega)
        simp only [env]; rw [e1, e2]; simp
    · rfl
theorem bal_cnt (l : Tr) (k : ByteArray) (v : Int) (r : Tr) : (bal l k v r).cnt = l.cnt + r.cnt + 1 := by
  rw [← env_length, bal_env, List.length_append, List.length_cons, env_length, env_length]; omega
/-- In order: the bindings ascend. -/
def Ord (t : Tr) : Prop := Asc t.env
theorem ord_node {l r : Tr} {k : ByteArray} {v : Int} (h : Ord (node l k v r)) : Ord l ∧ Ord r ∧ (∀ a ∈ l.env, nlt a.1 k = true) ∧ (∀ b ∈ r.env, nlt k b.1 = true) := by
  obtain ⟨h1, h2, h3⟩ := asc_split h
  exact ⟨h1, asc_tail h2, fun a ha => h3 a ha (k, v) (by simp), fun b hb => asc_all h2 b hb⟩
theorem set_env {s : ByteArray} {n : Int} : ∀ {t : Tr}, Ord t → (t.set s n).env = eset t.env s n
  | leaf, _ => rfl
  | node l k v r, h => by
    obtain ⟨h1, h2, h3, h4⟩ := ord_node h
    unfold set
    split
    · rename_i hlt
      rw [bal_env, set_env h1]; exact (eset_more hlt).symm
    · split
      · rename_i hlt
        rw [bal_env, set_env h2]
        show _ = eset (l.env ++ (k, v) :: r.env) s n
        rw [eset_less fun a ha => nlt_trans (h3 a ha) hlt]
        simp [eset, hlt]
      · rename_i a b
        obtain rfl : k = s := by
          rcases nlt_tri k s with c | c | c
          · exact absurd c b
          · exact c
          · exact absurd c a
        show _ = eset (l.env ++ (k, v) :: r.env) k n
        rw [eset_less h3]
        simp [eset, nlt_irrefl, env]
theorem set_ord {s : ByteArray} {n : Int} {t : Tr} (h : Ord t) : Ord (t.set s n) := by unfold Ord; rw [set_env h]; exact asc_eset h
theorem get_env {s : ByteArray} : ∀ {t : Tr}, Ord t → t.get s = eget t.env s
  | leaf, _ => rfl
  | node l k v r, h => by
    obtain ⟨h1, h2, h3, h4⟩ := ord_node h
    unfold get
    split
    · rename_i hlt
      rw [get_env h1]; exact (eget_more hlt).symm
    · split
      · rename_i hlt
        rw [get_env h2]
        show _ = eget (l.env ++ (k, v) :: r.env) s
        rw [eget_less fun a ha => nlt_trans (h3 a ha) hlt]
        simp [eget, hlt]
      · rename_i a b
        obtain rfl : k = s := by
          rcases nlt_tri k s with c | c | c
          · exact absurd c b
          · exact c
          · exact absurd c a
        show _ = eget (l.env ++ (k, v) :: r.env) k
        rw [eget_less h3]
        simp [eget, nlt_irrefl]
theorem dropLeast_env : ∀ (a : Tr) (k : ByteArray) (v : Int) (b : Tr), a.least k v :: (drop.dropLeast a k v b).env = a.env ++ (k, v) :: b.env
  | leaf, k, v, b => rfl
  | node a k v b, k', v', b' => by
    have h := dropLeast_env a k v b
    simp only [drop.dropLeast, least, bal_env, env]
    rw [← List.cons_append, h]
theorem drop_env {s : ByteArray} : ∀ {t : Tr}, Ord t → (t.drop s).env = edrop t.env s
  | leaf, _ => rfl
  | node l k v r, h => by
    obtain ⟨h1, h2, h3, h4⟩ := ord_node h
    unfold drop
    split
    · rename_i hlt
      rw [bal_env, drop_env h1]; exact (edrop_more hlt).symm
    · split
      · rename_i hlt
        rw [bal_env, drop_env h2]
        show _ = edrop (l.env ++ (k, v) :: r.env) s
        rw [edrop_less fun a ha => nlt_trans (h3 a ha) hlt]
        simp [edrop, hlt]
      · rename_i a b
        obtain rfl : k = s := by
          rcases nlt_tri k s with c | c | c
          · exact absurd c b
          · exact c
          · exact absurd c a
        show _ = edrop (l.env ++ (k, v) :: r.env) k
        rw [edrop_less h3]
        simp only [edrop, nlt_irrefl, Bool.false_eq_true, if_false, if_true]
        split
        · rfl
        · simp [env]
        · rw [bal_env, dropLeast_env]; rfl
theorem drop_ord {s : ByteArray} {t : Tr} (h : Ord t) : Ord (t.drop s) := by unfold Ord; rw [drop_env h]; exact asc_edrop h

theorem set_cnt (s : ByteArray) (n : Int) : ∀ t : Tr, (t.set s n).cnt ≤ t.cnt + 1
  | leaf => Nat.le_refl _
  | node l k v r => by
    have h1 := set_cnt s n l
    have h2 := set_cnt s n r
    unfold set
    split
    · rw [bal_cnt]; simp only [cnt]; omega
    · split
      · rw [bal_cnt]; simp only [cnt]; omega
      · simp only [cnt]; omega
theorem dropLeast_cnt : ∀ (a : Tr) (k : ByteArray) (v : Int) (b : Tr), (drop.dropLeast a k v b).cnt + 1 = (node a k v b).cnt := by
  intro a k v b
  have h := dropLeast_env a k v b
  have h1 := congrArg List.length h
  rw [List.length_cons, env_length, List.length_append, List.length_cons, env_length, env_length] at h1
  simp only [cnt]; omega
theorem drop_cnt (s : ByteArray) : ∀ t : Tr, (t.drop s).cnt ≤ t.cnt
  | leaf => Nat.le_refl _
  | node l k v r => by
    have h1 := drop_cnt s l
    have h2 := drop_cnt s r
    unfold drop
    split
    · rw [bal_cnt]; simp only [cnt]; omega
    · split
      · rw [bal_cnt]; simp only [cnt]; omega
      · split
        · simp only [cnt] at *; omega
        · simp only [cnt] at *; omega
        · rename_i a k' v' b _
          have h3 := dropLeast_cnt a k' v' b
          rw [bal_cnt]; simp only [cnt] at *; omega
theorem least_mem : ∀ (a : Tr) (k : ByteArray) (v : Int), a.least k v ∈ a.env ∨ a = leaf
  | leaf, _, _ => .inr rfl
  | node l k' v' r, k, v => by
    left
    rcases least_mem l k' v' with h | h
    · exact List.mem_append_left _ h
    · subst h; exact List.mem_cons_self
theorem least_lt {a b : Tr} {k : ByteArray} {v : Int} (h : Ord (node a k v b)) (ha : 0 < a.ht) : nlt (a.least k v).1 k = true := by
  obtain ⟨_, _, h3, _⟩ := ord_node h
  rcases least_mem a k v with h1 | h1
  · exact h3 _ h1
  · subst h1; simp [ht] at ha
theorem get_least : ∀ (a : Tr) (k : ByteArray) (v : Int) (b : Tr), Ord (node a k v b) → (node a k v b).get (a.least k v).1 = some (a.least k v).2
  | leaf, k, v, b, _ => by simp [get, least, nlt_irrefl]
  | node l k' v' r, k, v, b, h => by
    have h1 : nlt (l.least k' v').1 k = true := least_lt h (by simp [ht])
    have h2 := get_least l k' v' r (ord_node h).1
    show (if nlt (l.least k' v').1 k = true then (node l k' v' r).get (l.least k' v').1 else _) = _
    rw [if_pos h1]; exact h2
theorem drop_lt {l r : Tr} {k s : ByteArray} {v : Int} (h : nlt s k = true) : (node l k v r).drop s = bal (l.drop s) k v r := by
  rw [drop.eq_def]
  simp only [h, if_true]
theorem drop_gt {l r : Tr} {k s : ByteArray} {v : Int} (h : ¬ nlt s k = true) (h2 : nlt k s = true) : (node l k v r).drop s = bal l k v (r.drop s) := by
  rw [drop.eq_def]
  simp only [h, h2, if_true, if_false, Bool.false_eq_true]
theorem drop_least : ∀ (a : Tr) (k : ByteArray) (v : Int) (b : Tr), Ord (node a k v b) → (node a k v b).drop (a.least k v).1 = drop.dropLeast a k v b
  | leaf, k, v, b, _ => by unfold drop; simp [least, nlt_irrefl, drop.dropLeast]
  | node l k' v' r, k, v, b, h => by
    have h1 : nlt (l.least k' v').1 k = true := least_lt h (by simp [ht])
    have h2 := drop_least l k' v' r (ord_node h).1
    show drop (l.least k' v').1 (node (node l k' v' r) k v b) = bal (drop.dropLeast l k' v' r) k v b
    rw [← h2]
    exact drop_lt h1
/-- Dropping a name that is bound, told by what remains. -/
theorem drop_both {l r : Tr} {k : ByteArray} {v : Int} {s : ByteArray} (h1 : ¬ nlt s k = true) (h2 : ¬ nlt k s = true) (hl : 0 < l.ht) (hr : 0 < r.ht) (ho : Ord r) :
    (node l k v r).drop s = bal l (r.lf.least r.ky r.vl).1 (r.lf.least r.ky r.vl).2 (r.drop (r.lf.least r.ky r.vl).1) := by
  cases r with
  | leaf => simp [ht] at hr
  | node a k' v' b =>
    cases l with
    | leaf => simp [ht] at hl
    | node =>
      rw [drop.eq_def]
      simp only [h1, h2, if_false, Bool.false_eq_true]
      show bal _ _ _ (drop.dropLeast a k' v' b) = bal _ _ _ ((node a k' v' b).drop (a.least k' v').1)
      rw [drop_least a k' v' b ho]; rfl
theorem set_lt {l r : Tr} {k s : ByteArray} {v n : Int} (h : nlt s k = true) : (node l k v r).set s n = bal (l.set s n) k v r := by
  rw [set.eq_def]; simp only [h, if_true]
theorem set_gt {l r : Tr} {k s : ByteArray} {v n : Int} (h : nlt s k = false) (h2 : nlt k s = true) : (node l k v r).set s n = bal l k v (r.set s n) := by
  rw [set.eq_def]; simp only [h, h2, if_true, if_false, Bool.false_eq_true]
theorem set_eq {l r : Tr} {k s : ByteArray} {v n : Int} (h : nlt s k = false) (h2 : nlt k s = false) : (node l k v r).set s n = node l s n r := by
  rw [set.eq_def]; simp only [h, h2, if_false, Bool.false_eq_true]
theorem get_lt {l r : Tr} {k s : ByteArray} {v : Int} (h : nlt s k = true) : (node l k v r).get s = l.get s := by
  rw [get.eq_def]; simp only [h, if_true]
theorem get_gt {l r : Tr} {k s : ByteArray} {v : Int} (h : nlt s k = false) (h2 : nlt k s = true) : (node l k v r).get s = r.get s := by
  rw [get.eq_def]; simp only [h, h2, if_true, if_false, Bool.false_eq_true]
theorem get_eq {l r : Tr} {k s : ByteArray} {v : Int} (h : nlt s k = false) (h2 : nlt k s = false) : (node l k v r).get s = some v := by
  rw [get.eq_def]; simp only [h, h2, if_false, Bool.false_eq_true]
theorem drop_l {l r : Tr} {k s : ByteArray} {v : Int} (h1 : nlt s k = false) (h2 : nlt k s = false) (hl : l.ht = 0) : (node l k v r).drop s = r := by
  rw [drop.eq_def]
  simp only [h1, h2, if_false, Bool.false_eq_true]
  rw [ht_zero.1 hl]
theorem drop_r {l r : Tr} {k s : ByteArray} {v : Int} (h1 : nlt s k = false) (h2 : nlt k s = false) (hl : r.ht = 0) : (node l k v r).drop s = l := by
  rw [drop.eq_def]
  simp only [h1, h2, if_false, Bool.false_eq_true]
  rw [ht_zero.1 hl]
  cases l <;> rfl
theorem least_step {t : Tr} (h : 0 < t.ht) (k : ByteArray) (v : Int) : t.least k v = t.lf.least t.ky t.vl := by
  cases t with
  | leaf => simp [ht] at h
  | node => rfl
theorem get_least' {t : Tr} (h : 0 < t.ht) (ho : Ord t) : t.get (t.lf.least t.ky t.vl).1 ≠ none := by
  cases t with
  | leaf => simp [ht] at h
  | node a k v b => rw [show (node a k v b).lf.least (node a k v b).ky (node a k v b).vl = a.least k v from rfl, get_least a k v b ho]; simp
theorem get_lt' {t : Tr} {s : ByteArray} (h0 : t.ht ≠ 0) (h : nlt s t.ky = true) : t.get s = t.lf.get s := by
  cases t with
  | leaf => exact absurd rfl h0
  | node l k v r => exact get_lt h
theorem get_gt' {t : Tr} {s : ByteArray} (h0 : t.ht ≠ 0) (h : nlt s t.ky = false) (h2 : nlt t.ky s = true) : t.get s = t.rt_.get s := by
  cases t with
  | leaf => exact absurd rfl h0
  | node l k v r => exact get_gt h h2
theorem get_eq' {t : Tr} {s : ByteArray} (h0 : t.ht ≠ 0) (h : nlt s t.ky = false) (h2 : nlt t.ky s = false) : t.get s = some t.vl := by
  cases t with
  | leaf => exact absurd rfl h0
  | node l k v r => exact get_eq h h2
theorem get_nil {t : Tr} {s : ByteArray} (h0 : t.ht = 0) : t.get s = none := by rw [ht_zero.1 h0]; rfl
theorem env_node' {t : Tr} (h : t.ht ≠ 0) : t.env = t.lf.env ++ (t.ky, t.vl) :: t.rt_.env := env_node (Nat.pos_of_ne_zero h)
theorem ord_lf {t : Tr} (h : Ord t) : Ord t.lf := by cases t with
  | leaf => exact h
  | node => exact (ord_node h).1
theorem ord_rt {t : Tr} (h : Ord t) : Ord t.rt_ := by cases t with
  | leaf => exact h
  | node => exact (ord_node h).2.1
theorem ht_lf {t : Tr} (h : t.ht ≠ 0) : t.lf.ht < t.ht := by have := ht_node (Nat.pos_of_ne_zero h); omega
theorem ht_rt {t : Tr} (h : t.ht ≠ 0) : t.rt_.ht < t.ht := by have := ht_node (Nat.pos_of_ne_zero h); omega
/-- The number of lesser names, down the tree. -/
theorem eat_left {t : Tr} {s : ByteArray} (h0 : t.ht ≠ 0) (h : nlt t.ky s = false) : eat t.env s = eat t.lf.env s := by
  rw [env_node' h0]; exact eat_more h
theorem eat_right {t : Tr} {s : ByteArray} (ho : Ord t) (h0 : t.ht ≠ 0) (h : nlt t.ky s = true) : eat t.env s = t.lf.cnt + 1 + eat t.rt_.env s := by
  cases t with
  | leaf => exact absurd rfl h0
  | node l k v r =>
    obtain ⟨_, _, h3, _⟩ := ord_node ho
    show eat (l.env ++ (k, v) :: r.env) s = _
    rw [eat_less fun a ha => nlt_trans (h3 a ha) h, env_length]
    have h' : nlt k s = true := h
    show l.cnt + (if nlt k s = true then eat r.env s + 1 else 0) = _
    rw [if_pos h']
    show l.cnt + (eat r.env s + 1) = l.cnt + 1 + eat r.env s
    omega
/-- The binding at an index. -/
def nth (l : Env) (i : Int) : Option Bd := if 0 ≤ i then l[i.toNat]? else none
theorem nth_left {t : Tr} {i : Int} (h0 : t.ht ≠ 0) (h : i < t.lf.cnt) : nth t.env i = nth t.lf.env i := by
  unfold nth
  split
  · rw [env_node' h0, List.getElem?_append_left (by rw [env_length]; omega)]
  · rfl
theorem nth_at {t : Tr} (h0 : t.ht ≠ 0) : nth t.env (t.lf.cnt : Nat) = some (t.ky, t.vl) := by
  unfold nth
  rw [if_pos (by omega), Int.toNat_natCast, env_node' h0, List.getElem?_append_right (by rw [env_length]; omega), env_length]
  simp
theorem nth_right {t : Tr} {i : Int} (h0 : t.ht ≠ 0) (h : (t.lf.cnt : Int) < i) : nth t.env i = nth t.rt_.env (i - (t.lf.cnt + 1)) := by
  unfold nth
  rw [if_pos (by omega), if_pos (by omega), env_node' h0, List.getElem?_append_right (by rw [env_length]; omega), env_length, show i.toNat - t.lf.cnt = (i - (t.lf.cnt + 1)).toNat + 1 from by omega]
  rfl
theorem nth_nil {t : Tr} {i : Int} (h0 : t.ht = 0) : nth t.env i = none := by
  rw [ht_zero.1 h0]; unfold nth; split <;> rfl
/-! Balance. -/
def Avl : Tr → Prop
  | leaf => True
  | node l _ _ r => l.Avl ∧ r.Avl ∧ l.ht ≤ r.ht + 1 ∧ r.ht ≤ l.ht + 1
theorem avl_lf {t : Tr} (h : Avl t) : Avl t.lf := by cases t with
  | leaf => trivial
  | node => exact h.1
theorem avl_rt {t : Tr} (h : Avl t) : Avl t.rt_ := by cases t with
  | leaf => trivial
  | node => exact h.2.1
theorem avl_hts {t : Tr} (h : Avl t) : t.lf.ht ≤ t.rt_.ht + 1 ∧ t.rt_.ht ≤ t.lf.ht + 1 := by cases t with
  | leaf => exact ⟨by simp [lf, rt_, ht], by simp [lf, rt_, ht]⟩
  | node => exact h.2.2
theorem bal_avl {l r : Tr} {k : ByteArray} {v : Int} (hl : Avl l) (hr : Avl r) (h1 : l.ht ≤ r.ht + 2) (h2 : r.ht ≤ l.ht + 2) :
    Avl (bal l k v r) ∧ (bal l k v r).ht ≤ max l.ht r.ht + 1 ∧ max l.ht r.ht ≤ (bal l k v r).ht ∧ (l.ht ≤ r.ht + 1 → r.ht ≤ l.ht + 1 → (bal l k v r).ht = max l.ht r.ht + 1) := by
  have a1 := avl_lf hl; have a2 := avl_rt hl; have a3 := avl_hts hl
  have b1 := avl_lf hr; have b2 := avl_rt hr; have b3 := avl_hts hr
  unfold bal
  split
  · have e1 := ht_node (t := l) (by omega)
    split
    · refine ⟨⟨a1, ⟨a2, hr, ?_, ?_⟩, ?_, ?_⟩, ?_, ?_, ?_⟩ <;> (try simp only [ht]) <;> omega
    · have c1 := avl_lf a2; have c2 := avl_rt a2; have c3 := avl_hts a2
      have e2 := ht_node (t := l.rt_) (by omega)
      refine ⟨⟨⟨a1, c1, ?_, ?_⟩, ⟨c2, hr, ?_, ?_⟩, ?_, ?_⟩, ?_, ?_, ?_⟩ <;> (try simp only [ht]) <;> omega
  · split
    · have e1 := ht_node (t := r) (by omega)
      split
      · refine ⟨⟨⟨hl, b1, ?_, ?_⟩, b2, ?_, ?_⟩, ?_, ?_, ?_⟩ <;> (try simp only [ht]) <;> omega
      · have c1 := avl_lf b1; have c2 := avl_rt b1; have c3 := avl_hts b1
        have e2 := ht_node (t := r.lf) (by omega)
        refine ⟨⟨⟨hl, c1, ?_, ?_⟩, ⟨c2, b2, ?_, ?_⟩, ?_, ?_⟩, ?_, ?_, ?_⟩ <;> (try simp only [ht]) <;> omega
    · exact ⟨⟨hl, hr, by omega, by omega⟩, Nat.le_refl _, Nat.le_succ _, fun _ _ => rfl⟩
theorem set_avl {s : ByteArray} {n : Int} : ∀ {t : Tr}, Avl t → Avl (t.set s n) ∧ t.ht ≤ (t.set s n).ht ∧ (t.set s n).ht ≤ t.ht + 1
  | leaf, _ => ⟨⟨trivial, trivial, by simp [ht], by simp [ht]⟩, by simp [set, ht], by simp [set, ht]⟩
  | node l k v r, ⟨hl, hr, h1, h2⟩ => by
    obtain ⟨c1, c2, c3⟩ := set_avl (s := s) (n := n) hl
    obtain ⟨d1, d2, d3⟩ := set_avl (s := s) (n := n) hr
    unfold set
    simp only [ht]
    split
    · have hb := bal_avl (k := k) (v := v) c1 hr (by omega) (by omega)
      refine ⟨hb.1, ?_, ?_⟩ <;> omega
    · split
      · have hb := bal_avl (k := k) (v := v) hl d1 (by omega) (by omega)
        refine ⟨hb.1, ?_, ?_⟩ <;> omega
      · exact ⟨⟨hl, hr, h1, h2⟩, by simp [ht], by simp [ht]⟩
theorem dropLeast_avl : ∀ (a : Tr) (k : ByteArray) (v : Int) (b : Tr), Avl (node a k v b) → Avl (drop.dropLeast a k v b) ∧ (drop.dropLeast a k v b).ht ≤ (node a k v b).ht ∧ (node a k v b).ht ≤ (drop.dropLeast a k v b).ht + 1
  | leaf, k, v, b, ⟨_, hb, h1, h2⟩ => by refine ⟨hb, ?_, ?_⟩ <;> simp only [drop.dropLeast, ht] <;> omega
  | node a k v b, k', v', b', ⟨ha, hb, h1, h2⟩ => by
    obtain ⟨c1, c2, c3⟩ := dropLeast_avl a k v b ha
    have hb' := bal_avl (k := k') (v := v') c1 hb (by omega) (by omega)
    have e : (node (node a k v b) k' v' b').ht = max (node a k v b).ht b'.ht + 1 := rfl
    rw [e]
    unfold drop.dropLeast
    refine ⟨hb'.1, ?_, ?_⟩ <;> omega
theorem drop_avl {s : ByteArray} : ∀ {t : Tr}, Avl t → Avl (t.drop s) ∧ (t.drop s).ht ≤ t.ht ∧ t.ht ≤ (t.drop s).ht + 1
  | leaf, _ => ⟨trivial, by simp [drop, ht], by simp [ht]⟩
  | node l k v r, ⟨hl, hr, h1, h2⟩ => by
    obtain ⟨c1, c2, c3⟩ := drop_avl (s := s) hl
    obtain ⟨d1, d2, d3⟩ := drop_avl (s := s) hr
    unfold drop
    split
    · have hb := bal_avl (k := k) (v := v) c1 hr (by omega) (by omega)
      refine ⟨hb.1, ?_, ?_⟩ <;> simp only [ht] <;> omega
    · split
      · have hb := bal_avl (k := k) (v := v) hl d1 (by omega) (by omega)
        refine ⟨hb.1, ?_, ?_⟩ <;> simp only [ht] <;> omega
      · split
        · refine ⟨hr, ?_, ?_⟩ <;> simp only [ht] at * <;> omega
        · refine ⟨hl, ?_, ?_⟩ <;> simp only [ht] at * <;> omega
        · rename_i l' _ a k' v' b hne
          obtain ⟨e1, e2, e3⟩ := dropLeast_avl a k' v' b hr
          have hb := bal_avl (k := (a.least k' v').1) (v := (a.least k' v').2) hl e1 (by omega) (by omega)
          have e : (node l k v (node a k' v' b)).ht = max l.ht (node a k' v' b).ht + 1 := rfl
          rw [e]
          refine ⟨hb.1, ?_, ?_⟩ <;> omega
/-- The least number of names at a height. -/
def small : Nat → Nat × Nat
  | 0 => (0, 1)
  | h + 1 => ((small h).2, (small h).1 + (small h).2 + 1)
theorem small_mono : ∀ h, (small h).1 ≤ (small h).2 ∧ (small h).1 ≤ (small (h + 1)).1
  | 0 => ⟨by simp [small], by simp [small]⟩
  | h + 1 => by have := small_mono h; simp only [small] at *; omega
theorem small_mono' {a b : Nat} (h : a ≤ b) : (small a).1 ≤ (small b).1 := by
  induction h with
  | refl => exact Nat.le_refl _
  | step h ih => exact Nat.le_trans ih (small_mono _).2
theorem small_add (h : Nat) : (small (h + 2)).1 = (small h).1 + (small (h + 1)).1 + 1 := rfl
theorem small_le : ∀ {t : Tr}, Avl t → (small t.ht).1 ≤ t.cnt
  | leaf, _ => Nat.le_refl _
  | node l k v r, ⟨hl, hr, h1, h2⟩ => by
    have c1 := small_le hl
    have c2 := small_le hr
    simp only [ht, cnt]
    rcases Nat.le_total l.ht r.ht with h | h
    · rw [Nat.max_eq_right h]
      rcases Nat.eq_zero_or_pos r.ht with h0 | h0
      · rw [h0]; simp [small]
      · obtain ⟨m, hm⟩ : ∃ m, r.ht = m + 1 := ⟨r.ht - 1, by omega⟩
        have := small_mono' (a := m) (b := l.ht) (by omega)
        rw [hm] at c2 ⊢
        rw [small_add]; omega
    · rw [Nat.max_eq_left h]
      rcases Nat.eq_zero_or_pos l.ht with h0 | h0
      · rw [h0]; simp [small]
      · obtain ⟨m, hm⟩ : ∃ m, l.ht = m + 1 := ⟨l.ht - 1, by omega⟩
        have := small_mono' (a := m) (b := r.ht) (by omega)
        rw [hm] at c1 ⊢
        rw [small_add]; omega
theorem ht_40 {t : Tr} (h : Avl t) (hc : t.cnt < 1000000) : t.ht ≤ 40 := by
  rcases Nat.lt_or_ge 40 t.ht with h1 | h1
  · have h2 := small_le h
    have h3 := small_mono' (a := 41) (b := t.ht) h1
    have h4 : (small 41).1 = 433494436 := by decide +kernel
    omega
  · exact h1
end Tr
/-! ### Parts in memory -/
structure Part where
  k : ByteArray
  v : Int
  l : Int
  r : Int
  h : Int
  c : Int
/-- Root i of these parts is the root of a tree. -/
def Rep (ps : List Part) : Int → Tr → Prop
  | i, .leaf => i = -1
  | i, .node l k v r => ∃ (j : Nat) (a b : Int), i = (j : Int) ∧ ps[j]? = some ⟨k, v, a, b, ((max l.ht r.ht + 1 : Nat) : Int), ((l.cnt + r.cnt + 1 : Nat) : Int)⟩ ∧ Rep ps a l ∧ Rep ps b r
theorem Rep.more {ps qs : List Part} : ∀ {t : Tr} {i : Int}, Rep ps i t → Rep (ps ++ qs) i t
  | .leaf, i, h => h
  | .node l k v r, i, ⟨j, a, b, h1, h2, h3, h4⟩ => ⟨j, a, b, h1, by rw [List.getElem?_append_left (List.getElem?_eq_some_iff.1 h2).1]; exact h2, h3.more, h4.more⟩
theorem Rep.fun_ {ps : List Part} : ∀ {t u : Tr} {i : Int}, Rep ps i t → Rep ps i u → t = u
  | .leaf, .leaf, _, _, _ => rfl
  | .leaf, .node .., i, h1, ⟨j, _, _, h2, _⟩ => by simp only [Rep] at h1; omega
  | .node .., .leaf, i, ⟨j, _, _, h2, _⟩, h1 => by simp only [Rep] at h1; omega
  | .node l k v r, .node l' k' v' r', i, ⟨j, a, b, h1, h2, h3, h4⟩, ⟨j', a', b', g1, g2, g3, g4⟩ => by
    obtain rfl : j = j' := by omega
    rw [h2] at g2
    simp only [Option.some.injEq, Part.mk.injEq] at g2
    obtain ⟨rfl, rfl, rfl, rfl, _, _⟩ := g2
    rw [h3.fun_ g3, h4.fun_ g4]
theorem Rep.lt {ps : List Part} {t : Tr} {i : Int} (h : Rep ps i t) : -1 ≤ i ∧ i < ps.length := by
  cases t with
  | leaf => simp only [Rep] at h; omega
  | node l k v r =>
    obtain ⟨j, a, b, h1, h2, _⟩ := h
    have := (List.getElem?_eq_some_iff.1 h2).1
    omega
end Go.Proofs.Ytoccimigjjndpaa
