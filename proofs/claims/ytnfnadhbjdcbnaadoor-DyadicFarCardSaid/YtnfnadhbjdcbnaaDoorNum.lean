/-
  Lists of 32-bit digits: numbers, digits, slices that read as them. It says nothing of any program.
-/
import Derived.Test.YtnfnadhbjdcbnaaDoorOps
set_option linter.unusedVariables false
set_option linter.unusedSimpArgs false
namespace Go.Proofs.YtnfnadhbjdcbnaaDoor
open Go Go.RowKit

/-! ### Digits -/
def val : List Nat → Nat
  | [] => 0
  | x :: l => x + 4294967296 * val l
def D (l : List Nat) : Prop := ∀ x ∈ l, x < 4294967296
def dig (n : Nat) : List Nat := if h : n = 0 then [] else n % 4294967296 :: dig (n / 4294967296)
termination_by n
decreasing_by exact Nat.div_lt_self (by omega) (by omega)

theorem dig_zero : dig 0 = [] := by rw [dig]; simp
theorem dig_pos {n : Nat} (h : n ≠ 0) : dig n = n % 4294967296 :: dig (n / 4294967296) := by rw [dig]; simp [h]
theorem val_dig (n : Nat) : val (dig n) = n := by
  induction n using Nat.strongRecOn with
  | _ n ih =>
    by_cases h : n = 0
    · subst h; simp [dig_zero, val]
    · rw [dig_pos h, val, ih _ (Nat.div_lt_self (by omega) (by omega))]; omega
theorem D_dig (n : Nat) : D (dig n) := by
  induction n using Nat.strongRecOn with
  | _ n ih =>
    by_cases h : n = 0
    · subst h; simp [dig_zero, D]
    · rw [dig_pos h]
      intro x hx
      rcases List.mem_cons.1 hx with rfl | hx
      · omega
      · exact ih _ (Nat.div_lt_self (by omega) (by omega)) x hx
theorem D.nil : D [] := by simp [D]
theorem D.tail {x : Nat} {l : List Nat} (h : D (x :: l)) : D l := fun y hy => h y (List.mem_cons_of_mem _ hy)
theorem D.head {x : Nat} {l : List Nat} (h : D (x :: l)) : x < 4294967296 := h x (by simp)
theorem D.cons {x : Nat} {l : List Nat} (hx : x < 4294967296) (h : D l) : D (x :: l) := by
  intro y hy; rcases List.mem_cons.1 hy with rfl | hy
  · exact hx
  · exact h y hy
theorem D.append {l m : List Nat} (h : D l) (k : D m) : D (l ++ m) := by
  intro y hy; rcases List.mem_append.1 hy with hy | hy
  · exact h y hy
  · exact k y hy
theorem D.take {l : List Nat} (h : D l) (n : Nat) : D (l.take n) := fun y hy => h y (List.mem_of_mem_take hy)
theorem D.drop {l : List Nat} (h : D l) (n : Nat) : D (l.drop n) := fun y hy => h y (List.mem_of_mem_drop hy)
theorem D.getD {l : List Nat} (h : D l) (i : Nat) : l.getD i 0 < 4294967296 := by
  by_cases hi : i < l.length
  · rw [List.getD_eq_getElem?_getD, List.getElem?_eq_getElem hi]; exact h _ (List.getElem_mem hi)
  · rw [List.getD_eq_getElem?_getD, List.getElem?_eq_none (by omega)]; simp
theorem D.set {l : List Nat} (h : D l) (i : Nat) {x : Nat} (hx : x < 4294967296) : D (l.set i x) := by
  intro y hy; rcases List.mem_or_eq_of_mem_set hy with hy | rfl
  · exact h y hy
  · exact hx
theorem D.replicate (n : Nat) : D (List.replicate n 0) := by intro y hy; rw [List.eq_of_mem_replicate hy]; omega

theorem val_append (l m : List Nat) : val (l ++ m) = val l + 4294967296 ^ l.length * val m := by
  induction l with
  | nil => simp [val]
  | cons x l ih => simp only [List.cons_append, val, ih, List.length_cons, Nat.pow_succ]; rw [Nat.mul_add, ← Nat.mul_assoc, Nat.mul_comm 4294967296 (4294967296 ^ l.length)]; omega
theorem val_lt {l : List Nat} (h : D l) : val l < 4294967296 ^ l.length := by
  induction l with
  | nil => simp [val]
  | cons x l ih =>
    have h1 := ih h.tail
    have h2 := h.head
    simp only [val, List.length_cons, Nat.pow_succ]
    omega
theorem val_replicate (n : Nat) : val (List.replicate n 0) = 0 := by
  induction n with
  | zero => rfl
  | succ n ih => simp [List.replicate_succ, val, ih]
theorem val_inj {l m : List Nat} (hl : D l) (hm : D m) (hlen : l.length = m.length) (h : val l = val m) : l = m := by
  induction l generalizing m with
  | nil => cases m with
    | nil => rfl
    | cons y m => simp at hlen
  | cons x l ih => cases m with
    | nil => simp at hlen
    | cons y m =>
      simp only [val] at h
      have h1 := hl.head
      have h2 := hm.head
      have e1 : x = y := by omega
      have e2 : val l = val m := by omega
      rw [e1, ih hl.tail hm.tail (by simpa using hlen) e2]
/-- No zero at the top. -/
def Can (l : List Nat) : Prop := l.getLast? ≠ some 0
theorem Can_nil : Can [] := by simp [Can]
theorem Can.tail {x : Nat} {l : List Nat} (h : Can (x :: l)) : Can l := by
  unfold Can at *
  cases l with
  | nil => simp
  | cons y l => simpa [List.getLast?_cons_cons] using h
theorem val_pos {l : List Nat} (h : Can l) (hne : l ≠ []) : 0 < val l := by
  induction l with
  | nil => exact absurd rfl hne
  | cons x l ih =>
    cases l with
    | nil => simp [Can] at h; simp [val]; omega
    | cons y m =>
      have := ih h.tail (by simp)
      simp only [val] at this ⊢; omega
theorem dig_val {l : List Nat} (hd : D l) (hc : Can l) : dig (val l) = l := by
  induction l with
  | nil => simp [val, dig_zero]
  | cons x l ih =>
    have h1 := val_pos hc (by simp)
    have h2 := hd.head
    rw [dig_pos (by omega)]
    have h3 : val (x :: l) % 4294967296 = x := by simp only [val]; omega
    have h4 : val (x :: l) / 4294967296 = val l := by simp only [val]; omega
    rw [h3, h4, ih hd.tail hc.tail]
theorem Can_dig (n : Nat) : Can (dig n) := by
  induction n using Nat.strongRecOn with
  | _ n ih =>
    by_cases h : n = 0
    · subst h; simp [dig_zero, Can]
    · rw [dig_pos h]
      by_cases h2 : n / 4294967296 = 0
      · have h3 : n % 4294967296 = n := by omega
        rw [h2, dig_zero, h3]; simpa [Can] using h
      · have := ih (n / 4294967296) (by omega)
        rw [dig_pos h2] at this ⊢
        unfold Can at *
        rw [List.getLast?_cons_cons]; exact this
/-- How many digits are left when the zeros at the top are struck. -/
def sz (l : List Nat) : Nat := (dig (val l)).length
theorem val_snoc_zero (l : List Nat) : val (l ++ [0]) = val l := by rw [val_append]; simp [val]
theorem sz_snoc_zero (l : List Nat) : sz (l ++ [0]) = sz l := by unfold sz; rw [val_snoc_zero]
theorem sz_can {l : List Nat} (hd : D l) (hc : Can l) : sz l = l.length := by unfold sz; rw [dig_val hd hc]
theorem take_succ_getD (l : List Nat) (k : Nat) (h : k < l.length) : l.take (k + 1) = l.take k ++ [l.getD k 0] := by
  rw [List.take_succ_eq_append_getElem h]; simp [List.getD_eq_getElem?_getD, List.getElem?_eq_getElem h]
theorem sz_take_zero {l : List Nat} {k : Nat} (h : k < l.length) (h0 : l.getD k 0 = 0) : sz (l.take (k + 1)) = sz (l.take k) := by
  rw [take_succ_getD l k h, h0, sz_snoc_zero]
theorem sz_take_pos {l : List Nat} {k : Nat} (hd : D l) (h : k < l.length) (h0 : l.getD k 0 ≠ 0) : sz (l.take (k + 1)) = k + 1 := by
  rw [sz_can (hd.take _)]
  · simp; omega
  · rw [take_succ_getD l k h]; simpa [Can] using h0
theorem val_take_sz {l : List Nat} (hd : D l) : l.take (sz l) = dig (val l) := by
  induction hn : l.length using Nat.strongRecOn generalizing l with
  | _ n ih =>
    by_cases hc : Can l
    · rw [sz_can hd hc, List.take_length, dig_val hd hc]
    · cases hl : l.getLast? with
      | none => rw [List.getLast?_eq_none_iff] at hl; subst hl; simp [sz, val, dig_zero]
      | some x =>
        have hx : x = 0 := by unfold Can at hc; rw [hl] at hc; simpa using hc
        subst hx
        obtain ⟨m, rfl⟩ := List.getLast?_eq_some_iff.1 hl
        rw [sz_snoc_zero, val_snoc_zero]
        have hm : D m := fun y hy => hd y (List.mem_append_left _ hy)
        have h1 := ih m.length (by subst hn; simp) hm rfl
        rw [← h1, List.take_append_of_le_length]
        have h2 := congrArg List.length h1
        simp only [List.length_take] at h2
        unfold sz at *
        omega
theorem sz_le {l : List Nat} (hd : D l) : sz l ≤ l.length := by
  have h := congrArg List.length (val_take_sz hd)
  simp only [List.length_take] at h
  unfold sz at *; omega
theorem dig_len_le {l : List Nat} (hd : D l) : (dig (val l)).length ≤ l.length := sz_le hd

/-! ### Slices of digits -/
def dv (n : Nat) : Value := .int .u32 (n : Int)
/-- The slice reads as these digits. -/
structure Nl (w : World) (v : Value) (l : List Nat) : Prop where
  sl : SlV w v (l.map dv)
  d : D l
theorem Nl.ext {w w' : World} {v : Value} {l : List Nat} (h : Nl w v l) (he : Ext w w') : Nl w' v l := ⟨h.sl.ext he, h.d⟩
theorem Nl.len_le {w : World} {v : Value} {l : List Nat} (h : Nl w v l) : l.length ≤ 9223372036854775807 := by
  have := h.sl.le
  simp only [List.length_map, maxLen] at this; omega
theorem Nl.one {w : World} {v : Value} {l : List Nat} (h : Nl w v l) : v.oneCell' = true := by
  obtain ⟨a, cap, rfl, _⟩ := h.sl; rfl
theorem Nl.cells1 {w : World} {v : Value} {l : List Nat} (h : Nl w v l) : v.cells = #[v] := by
  obtain ⟨a, cap, rfl, _⟩ := h.sl; rfl
theorem Nl.nil (w : World) : Nl w (.slice none 0 0) [] := ⟨SlV.nil w, D.nil⟩
theorem Nl.cell {w : World} {v : Value} {l : List Nat} (h : Nl w v l) {j : Nat} (hj : j < l.length) : w.cell? (slAt v j) = some (.int .u32 (l.getD j 0 : Nat)) := by
  refine h.sl.cell (u := dv (l.getD j 0)) ?_
  simp [hj, dv]
theorem Nl.take {w : World} {v : Value} {l : List Nat} (h : Nl w v l) (m : Nat) (hm : m ≤ l.length) : Nl w (slTake v m) (l.take m) :=
  ⟨by rw [List.map_take]; exact h.sl.take m (by simpa using hm), h.d.take m⟩
theorem Nl.chg {w w' : World} {v : Value} {l : List Nat} {b : Nat} (h : Nl w v l) (hc : Chg b w w') (hb : l ≠ [] → vblk v ≠ b) : Nl w' v l :=
  ⟨h.sl.chg hc (fun hne => hb (by rintro rfl; exact hne rfl)), h.d⟩
/-- .. and is a row of one's own. -/
structure No (B : Nat) (e : TypeId) (w : World) (v : Value) (l : List Nat) : Prop where
  own : Own B e w v (l.map dv)
  d : D l
theorem No.nl {B : Nat} {e : TypeId} {w : World} {v : Value} {l : List Nat} (h : No B e w v l) : Nl w v l := ⟨h.own.sl, h.d⟩
theorem No.ext {B : Nat} {e : TypeId} {w w' : World} {v : Value} {l : List Nat} (h : No B e w v l) (he : Ext w w') : No B e w' v l := ⟨h.own.ext he, h.d⟩
theorem No.mono {B B' : Nat} {e : TypeId} {w : World} {v : Value} {l : List Nat} (h : No B e w v l) (hb : B' ≤ B) : No B' e w v l := ⟨h.own.mono hb, h.d⟩
theorem No.chg {B b : Nat} {e : TypeId} {w w' : World} {v : Value} {l : List Nat} (h : No B e w v l) (hc : Chg b w w') (hb : vblk v ≠ b) : No B e w' v l := ⟨h.own.chg hc hb, h.d⟩
theorem No.take {B : Nat} {e : TypeId} {w : World} {v : Value} {l : List Nat} (h : No B e w v l) (m : Nat) (hm : m ≤ l.length) : No B e w (slTake v m) (l.take m) :=
  ⟨by rw [List.map_take]; exact h.own.take m (by simpa using hm), h.d.take m⟩
theorem No.nil (B : Nat) (e : TypeId) (w : World) : No B e w (.slice none 0 0) [] := ⟨Own.nil B e w, D.nil⟩
theorem No.blk {B : Nat} {e : TypeId} {w : World} {v : Value} {l : List Nat} (h : No B e w v l) (hne : l ≠ []) : B ≤ vblk v ∧ vblk v < w.heap.size :=
  h.own.blk (by simpa using hne)

/-- What is known of a slice type: its elements are one cell each. -/
structure ElT (P : Program) (t e : TypeId) (z : Value) (b : Nat) : Prop where
  sl : P.underlying t = some (.slice e)
  info : ∃ i, P.info? e = some i ∧ i.size = 1 ∧ i.zero = some z ∧ i.bytes = b
theorem ElT.mk' {P : Program} {t e : TypeId} {z : Value} {b : Nat} (h : P.underlying t = some (.slice e)) (k : (P.info? e).map (fun i => (i.zero, i.size, i.bytes)) = some (some z, 1, b)) : ElT P t e z b := by
  refine ⟨h, ?_⟩
  cases hi : P.info? e with
  | none => rw [hi] at k; cases k
  | some i =>
    rw [hi] at k
    simp only [Option.map_some, Option.some.injEq, Prod.mk.injEq] at k
    exact ⟨i, rfl, k.2.1, k.1, k.2.2⟩

section
variable {P : Program} {n : Nat} {K : Rho → World → Prop} {ρ : Rho} {w : World} {ops rest : List Oper}
variable {ty : TypeId} {pos : String} {after : Array Edge} {g : Option (Nat × Bool)} {d : Nat} {t e : TypeId}

theorem N_len {x : Operand} {z : Value} {b : Nat} {v : Value} {l : List Nat} (T : ElT P t e z b) (hg : gd ops ρ g = some true) (hd : Nat.blt d n = true) (hx : ev ρ x = some v) (hs : Nl w v l)
    (h : WL P n ops rest K ((d, .int .i64 (l.length : Nat)) :: ρ) w) :
    WL P n ops (⟨some d, .call { callee := .builtin .len, args := #[x], argTypes := #[t] }, ty, pos, after, g⟩ :: rest) K ρ w :=
  O_len T.sl hg hd hx hs.sl (by simpa using h)
theorem N_index {x ix : Operand} {v : Value} {l : List Nat} {k : IntKind} {i : Int} {z : Value} {b : Nat} (T : ElT P t e z b)
    (hg : gd ops ρ g = some true) (hd : Nat.blt d n = true) (hx : ev ρ x = some v) (hix : ev ρ ix = some (.int k i)) (hs : Nl w v l) (j : Nat) (hj : i = (j : Int)) (hlt : j < l.length)
    (h : WL P n ops rest K ((d, .pointer (some (slAt v j))) :: ρ) w) :
    WL P n ops (⟨some d, .indexAddr t x ix, ty, pos, after, g⟩ :: rest) K ρ w := by
  obtain ⟨inf, h1, h2, _⟩ := T.info
  exact O_index T.sl h1 h2 hg hd hx hix hs.sl j hj (by simpa using hlt) h
theorem N_load {x : Operand} {v : Value} {l : List Nat} {j : Nat} {k : IntKind} (hT : P.underlying t = some (.int k)) (hg : gd ops ρ g = some true) (hd : Nat.blt d n = true)
    (hx : ev ρ x = some (.pointer (some (slAt v j)))) (hs : Nl w v l) (hj : j < l.length) (h : l.getD j 0 < 4294967296 → WL P n ops rest K ((d, .int .u32 (l.getD j 0 : Nat)) :: ρ) w) :
    WL P n ops (⟨some d, .load t x, ty, pos, after, g⟩ :: rest) K ρ w :=
  O_load hT rfl hg hd hx (hs.cell hj) (h (hs.d.getD j))
theorem N_store {x y : Operand} {z : Value} {b : Nat} {B : Nat} {v : Value} {l : List Nat} {j : Nat} {i : Int} (T : ElT P t e z b) (hg : gd ops ρ g = some true)
    (hx : ev ρ x = some (.pointer (some (slAt v j)))) (hy : ev ρ y = some (.int .u32 i)) (ho : No B e w v l) (hj : j < l.length) (u : Nat) (hu : i = (u : Int)) (hlt : u < 4294967296)
    (h : ∀ w', No B e w' v (l.set j u) → Chg (vblk v) w w' → B ≤ vblk v → vblk v < w.heap.size → WL P n ops rest K ρ w') :
    WL P n ops (⟨none, .store e x y, ty, pos, after, g⟩ :: rest) K ρ w := by
  subst hu
  obtain ⟨inf, h1, h2, _⟩ := T.info
  have hb := ho.blk (by rintro rfl; simp at hj)
  refine O_storeOwn (B := B) (vs := l.map dv) h1 h2 hg hx hy rfl ho.own (by simpa using hj) (fun w' ho' hc => h w' ⟨?_, ho.d.set j hlt⟩ hc hb.1 hb.2)
  rw [List.map_set]; exact ho'
theorem N_make {x y : Operand} {k k' : IntKind} {bytes : Nat} (T : ElT P t e (.int .u32 0) bytes) (hby : bytes ≤ 64) (hg : gd ops ρ g = some true) (hd : Nat.blt d n = true) {a b : Int} (hx : ev ρ x = some (.int k a)) (hy : ev ρ y = some (.int k' b)) (m : Nat) (ha : a = (m : Int)) (hb : b = (m : Int)) (hm : m ≤ 1073741824)
    (h : ∀ v w', No w.heap.size e w' v (List.replicate m 0) → Ext w w' → WL P n ops rest K ((d, v) :: ρ) w') :
    WL P n ops (⟨some d, .makeSlice t x y, ty, pos, after, g⟩ :: rest) K ρ w := by
  obtain ⟨inf, h1, h2, h3, h4⟩ := T.info
  have hb1 : m * bytes ≤ 1073741824 * 64 := Nat.mul_le_mul hm hby
  refine O_make T.sl h1 h3 rfl h2 h4 hg hd hx hy ha hb (by omega) (by omega) (fun v w' ho he _ _ _ => h v w' ⟨?_, D.replicate m⟩ he)
  rw [List.map_replicate]; exact ho
theorem N_append {x y : Operand} {B : Nat} {v v2 : Value} {l l2 : List Nat} {z : Value} {bytes : Nat} (T : ElT P t e z bytes) (hzc : z.cells.size = 1) (hbm : bytes ≤ 64) (hg : gd ops ρ g = some true) (hd : Nat.blt d n = true) (hx : ev ρ x = some v) (hy : ev ρ y = some v2)
    (ho : No B e w v l) (h2 : Nl w v2 l2) (hm : l.length + l2.length ≤ 1073741824) (hB : B ≤ w.heap.size)
    (h : ∀ v' w', No B e w' v' (l ++ l2) → w.grownBy w' v.ownBlock → WL P n ops rest K ((d, v') :: ρ) w') :
    WL P n ops (⟨some d, .call { callee := .builtin .append, args := #[x, y], argTypes := #[t, t] }, ty, pos, after, g⟩ :: rest) K ρ w := by
  obtain ⟨inf, h1, h2', h3, h4⟩ := T.info
  refine O_append T.sl h1 h3 hzc h2' h4 hg hd hx hy ho.own h2.sl (fun u hu => ?_) (by simpa using hm) hbm hB (fun v' w' ho' hg' => h v' w' ⟨?_, ho.d.append h2.d⟩ hg')
  · obtain ⟨q, _, rfl⟩ := List.mem_map.1 hu; rfl
  · rw [List.map_append]; exact ho'
theorem N_sliceTo {x y : Operand} {v : Value} {l : List Nat} {k : IntKind} {i : Int} {z : Value} {b : Nat} (T : ElT P t e z b) (hg : gd ops ρ g = some true) (hd : Nat.blt d n = true)
    (hx : ev ρ x = some v) (hy : ev ρ y = some (.int k i)) (hs : Nl w v l) (m : Nat) (hm : i = (m : Int)) (hle : m ≤ l.length) (h : WL P n ops rest K ((d, slTake v m) :: ρ) w) :
    WL P n ops (⟨some d, .slice t x none (some y) none, ty, pos, after, g⟩ :: rest) K ρ w := by
  obtain ⟨inf, h1, _⟩ := T.info
  exact O_sliceTo T.sl h1 hg hd hx hy hs.sl m hm (by simpa using hle) h
theorem V_len {x : Operand} {z : Value} {b : Nat} {v : Value} {vs : List Value} (T : ElT P t e z b) (hg : gd ops ρ g = some true) (hd : Nat.blt d n = true) (hx : ev ρ x = some v) (hs : SlV w v vs)
    (h : WL P n ops rest K ((d, .int .i64 (vs.length : Nat)) :: ρ) w) :
    WL P n ops (⟨some d, .call { callee := .builtin .len, args := #[x], argTypes := #[t] }, ty, pos, after, g⟩ :: rest) K ρ w :=
  O_len T.sl hg hd hx hs h
theorem V_index {x ix : Operand} {v : Value} {vs : List Value} {k : IntKind} {i : Int} {z : Value} {b : Nat} (T : ElT P t e z b)
    (hg : gd ops ρ g = some true) (hd : Nat.blt d n = true) (hx : ev ρ x = some v) (hix : ev ρ ix = some (.int k i)) (hs : SlV w v vs) (j : Nat) (hj : i = (j : Int)) (hlt : j < vs.length)
    (h : WL P n ops rest K ((d, .pointer (some (slAt v j))) :: ρ) w) :
    WL P n ops (⟨some d, .indexAddr t x ix, ty, pos, after, g⟩ :: rest) K ρ w := by
  obtain ⟨inf, h1, h2, _⟩ := T.info
  exact O_index T.sl h1 h2 hg hd hx hix hs j hj hlt h
theorem No.ext_grown {B : Nat} {v : Value} {l : List Nat} {w0 w' : World} (ho : No B e w v l) (h : w.grownBy w' v.ownBlock) (he : Ext w0 w) (hB : w0.heap.size ≤ B) : Ext w0 w' :=
  grown_ext h he (fun k hk => Nat.le_trans hB (ho.own.row k hk))
/-- '[]uint32{..}' of digits. -/
theorem fill_range : ∀ (vs : List Value) (k : Nat) (cells : Array Value), (∀ u ∈ vs, u.cells = #[u]) → k + vs.length = cells.size →
    Instr.fill (fun i => some (i, 1)) cells ((List.range' k vs.length).zip vs) = some (cells.toList.take k ++ vs).toArray
  | [], k, cells, _, h => by
    have hk : k = cells.toList.length := by simpa using h
    have ht : cells.toList.take k = cells.toList := List.take_of_length_le (by omega)
    simp only [List.length_nil, List.range'_zero, List.zip_nil_left, Instr.fill, ht, List.append_nil]
  | v :: vs, k, cells, h1, h => by
    have hv : v.cells = #[v] := h1 v (by simp)
    have hlt : k < cells.size := by simp at h; omega
    have ih := fill_range vs (k + 1) (cells.setIfInBounds k v) (fun u hu => h1 u (List.mem_cons_of_mem _ hu)) (by simp at h ⊢; omega)
    have h9 : ¬ (k + 1 > cells.size) := by omega
    simp only [List.length_cons, List.range'_succ, List.zip_cons_cons, Instr.fill, hv]
    simp only [List.size_toArray, List.length_cons, List.length_nil, Nat.zero_add, ne_eq, not_true, decide_false, Bool.false_or, h9, Bool.false_eq_true, if_false]
    rw [show ((#[v] : Array Value).zipIdx.foldl (fun cs x => match x with | (c, j) => cs.setIfInBounds (k + j) c) cells) = cells.setIfInBounds k v from by simp]
    rw [ih]
    congr 2
    rw [Array.toList_setIfInBounds, List.take_set, List.take_succ_eq_append_getElem (by simpa using hlt)]
    rw [List.set_append_right _ _ (by simp; omega)]
    simp [Nat.min_eq_left (Nat.le_of_lt hlt)]
theorem N_lit {z : Value} {b : Nat} {len : Nat} {parts : List (Nat × Operand)} (T : ElT P t e z b) (hg : gd ops ρ g = some true) (hd : Nat.blt d n = true) (l : List Nat) (hl : D l) (hlen : l.length = len) (hsm : len ≤ 1000) (hp : evs ρ (parts.map (·.2)) = some (l.map dv)) (hi : parts.map (·.1) = List.range len)
    (h : ∀ v w', No w.heap.size e w' v l → Ext w w' → WL P n ops rest K ((d, v) :: ρ) w') :
    WL P n ops (⟨some d, .buildSlice t len parts.toArray, ty, pos, after, g⟩ :: rest) K ρ w := by
  subst hlen
  obtain ⟨inf, h1, h2, h3, h4⟩ := T.info
  have hcell : (l.map dv).toArray.size = l.length := by simp
  have hone : ∀ u ∈ l.map dv, u.cells = #[u] := fun u hu => by obtain ⟨q, _, rfl⟩ := List.mem_map.1 hu; rfl
  refine WL_val rfl hg hd (v := .slice (some ⟨w.heap.size, 0, none⟩) l.length l.length) (w' := w.alloc (.cells (l.map dv).toArray e)) (fun c hc => ?_)
    (h _ _ ⟨⟨by simp, .inr ⟨w.heap.size, l.length, _, by simp, Nat.le_refl _, heap_alloc_new w _, by simp, by simp only [maxLen]; omega, by simp, by rw [List.take_of_length_le (by simp)]⟩⟩, hl⟩ (Ext.alloc w _))
  have hz : (parts.toArray.map fun x => (x.1, c.eval x.2)).toList = (List.range' 0 (l.map dv).length).zip (l.map dv) := by
    have he := hc.evals hp
    have : (parts.toArray.map fun x => (x.1, c.eval x.2)).toList = (parts.map (·.1)).zip ((parts.map (·.2)).map c.eval) := by
      simp [List.zip_map', List.map_map, Function.comp_def]
    rw [this, he, hi, List.range_eq_range']; simp
  have hf := fun (cells : Array Value) (hs : cells.size = l.length) => fill_range (l.map dv) 0 cells hone (by simp [hs])
  have hrange : ∀ x : Array Value, ((Array.range (l.length * 1)).map fun i => x[i % x.size]!).size = l.length := by intro x; simp
  have hsm' : ¬ (l.length > 2 ^ 24) := by omega
  have hm : (parts.toArray.map fun x => match x with | (i, x) => (i, c.eval x)) = (parts.toArray.map fun x => (x.1, c.eval x.2)) := rfl
  by_cases h0 : l.length = 0
  · have hnil : l = [] := List.eq_nil_of_length_eq_zero h0
    subst hnil
    have hp0 : parts = [] := by cases parts with
      | nil => rfl
      | cons x r => simp at hi
    subst hp0
    simp [execOp, Instr.buildSlice, run_underlying T.sl, sizeOf, typeInfo, h1, h2, Instr.fill, newRow, Array.range_zero']
  · have hf1 := hf (((Array.range (l.length * 1)).map fun i => z.cells[i % z.cells.size]!)) (hrange z.cells)
    rw [← hz] at hf1
    simp at hf1
    simp only [execOp, hm, Instr.buildSlice, Sem.run_bind, run_underlying T.sl, Result.andThen_ok, sizeOf, typeInfo, run_program, h1, h2, Sem.run_pure, Nat.mul_one, hsm', h0, if_false, zeroValue, h3, newRow]
    simp [hf1, newRow]
/-- A slice literal without elements. -/
theorem N_lit0 {z : Value} {b : Nat} (T : ElT P t e z b) (hg : gd ops ρ g = some true) (hd : Nat.blt d n = true)
    (h : ∀ v w', No w.heap.size e w' v [] → Ext w w' → WL P n ops rest K ((d, v) :: ρ) w') :
    WL P n ops (⟨some d, .buildSlice t 0 #[], ty, pos, after, g⟩ :: rest) K ρ w := by
  obtain ⟨inf, h1, h2, h3, h4⟩ := T.info
  refine WL_val rfl hg hd (v := .slice (some ⟨w.heap.size, 0, none⟩) 0 0) (w' := w.alloc (.cells #[] e)) (fun c hc => ?_) (h _ _ ⟨⟨rfl, .inr ⟨w.heap.size, 0, #[], rfl, Nat.le_refl _, heap_alloc_new w _, by simp, by simp, by simp, by simp⟩⟩, D.nil⟩ (Ext.alloc w _))
  simp [execOp, Instr.buildSlice, run_underlying T.sl, sizeOf, typeInfo, h1, h2, Instr.fill, newRow, Array.range_zero']
/-- '[]T{x}', '[]T{x, y}' of values of one cell. -/
theorem V_lit1 {z : Value} {b : Nat} {x : Operand} {u : Value} (T : ElT P t e z b) (hg : gd ops ρ g = some true) (hd : Nat.blt d n = true) (hx : ev ρ x = some u) (hu : u.cells = #[u])
    (h : ∀ v w', Own w.heap.size e w' v [u] → Ext w w' → WL P n ops rest K ((d, v) :: ρ) w') :
    WL P n ops (⟨some d, .buildSlice t 1 #[(0, x)], ty, pos, after, g⟩ :: rest) K ρ w := by
  obtain ⟨inf, h1, h2, h3, h4⟩ := T.info
  refine WL_val rfl hg hd (v := .slice (some ⟨w.heap.size, 0, none⟩) 1 1) (w' := w.alloc (.cells #[u] e)) (fun c hc => ?_)
    (h _ _ ⟨by simp, .inr ⟨w.heap.size, 1, #[u], rfl, Nat.le_refl _, heap_alloc_new w _, by simp, by simp [maxLen], by simp, by simp⟩⟩ (Ext.alloc w _))
  have hf := fill_range [u] 0 ((Array.range 1).map fun i => z.cells[i % z.cells.size]!) (by simpa using hu) (by simp)
  simp at hf
  simp [execOp, hc.eval hx, Instr.buildSlice, run_underlying T.sl, sizeOf, typeInfo, h1, h2, zeroValue, h3, newRow, hf]
theorem V_lit2 {z : Value} {b : Nat} {x y : Operand} {u u2 : Value} (T : ElT P t e z b) (hg : gd ops ρ g = some true) (hd : Nat.blt d n = true) (hx : ev ρ x = some u) (hy : ev ρ y = some u2) (hu : u.cells = #[u]) (hu2 : u2.cells = #[u2])
    (h : ∀ v w', Own w.heap.size e w' v [u, u2] → Ext w w' → WL P n ops rest K ((d, v) :: ρ) w') :
    WL P n ops (⟨some d, .buildSlice t 2 #[(0, x), (1, y)], ty, pos, after, g⟩ :: rest) K ρ w := by
  obtain ⟨inf, h1, h2, h3, h4⟩ := T.info
  refine WL_val rfl hg hd (v := .slice (some ⟨w.heap.size, 0, none⟩) 2 2) (w' := w.alloc (.cells #[u, u2] e)) (fun c hc => ?_)
    (h _ _ ⟨by simp, .inr ⟨w.heap.size, 2, #[u, u2], rfl, Nat.le_refl _, heap_alloc_new w _, by simp, by simp [maxLen], by simp, by simp⟩⟩ (Ext.alloc w _))
  have hf := fill_range [u, u2] 0 ((Array.range 2).map fun i => z.cells[i % z.cells.size]!) (by simp [hu, hu2]) (by simp)
  simp [List.range'_succ] at hf
  simp [execOp, hc.eval hx, hc.eval hy, Instr.buildSlice, run_underlying T.sl, sizeOf, typeInfo, h1, h2, zeroValue, h3, newRow, hf]
theorem V_append {x y : Operand} {B : Nat} {v v2 : Value} {vs vs2 : List Value} {z : Value} {bytes : Nat} (T : ElT P t e z bytes) (hzc : z.cells.size = 1) (hbm : bytes ≤ 64) (hg : gd ops ρ g = some true) (hd : Nat.blt d n = true) (hx : ev ρ x = some v) (hy : ev ρ y = some v2)
    (ho : Own B e w v vs) (h2 : SlV w v2 vs2) (h1 : ∀ u ∈ vs2, u.oneCell' = true) (hm : vs.length + vs2.length ≤ 1073741824) (hB : B ≤ w.heap.size)
    (h : ∀ v' w', Own B e w' v' (vs ++ vs2) → w.grownBy w' v.ownBlock → WL P n ops rest K ((d, v') :: ρ) w') :
    WL P n ops (⟨some d, .call { callee := .builtin .append, args := #[x, y], argTypes := #[t, t] }, ty, pos, after, g⟩ :: rest) K ρ w := by
  obtain ⟨inf, h1', h2', h3, h4⟩ := T.info
  exact O_append T.sl h1' h3 hzc h2' h4 hg hd hx hy ho h2 h1 hm hbm hB h
/-- Rows of other elements are not touched by an append. -/
theorem Own.grownOther {B B' : Nat} {e e' : TypeId} {u v : Value} {us vs : List Value} {w' : World} (hne : e ≠ e') (h : Own B e w u us) (hv : Own B' e' w v vs) (hg : w.grownBy w' v.ownBlock) : Own B e w' u us := by
  obtain ⟨h1, h2⟩ := h
  refine ⟨h1, ?_⟩
  rcases h2 with h2 | ⟨g, cap, cur, rfl, hb, hh, r⟩
  · exact .inl h2
  · refine .inr ⟨g, cap, cur, rfl, hb, ?_, r⟩
    have hlt : g < w.heap.size := by
      rcases Nat.lt_or_ge g w.heap.size with k | k
      · exact k
      · simp [Array.getElem?_eq_none k] at hh
    rw [hg.block g hlt ?_]; exact hh
    intro heq
    obtain ⟨_, h0 | ⟨g', cap', cur', rfl, _, hh', _⟩⟩ := hv
    · rw [h0.1] at heq; simp [Value.ownBlock] at heq
    · simp [Value.ownBlock] at heq
      subst heq
      rw [hh] at hh'
      simp at hh'
      exact hne hh'.2
theorem No.grownOther {B B' : Nat} {e e' : TypeId} {u v : Value} {l : List Nat} {vs : List Value} {w' : World} (hne : e ≠ e') (h : No B e w u l) (hv : Own B' e' w v vs) (hg : w.grownBy w' v.ownBlock) : No B e w' u l := ⟨h.own.grownOther hne hv hg, h.d⟩
end

/-! ### A slice against nil -/
def vnil : Value → Bool
  | .slice none _ _ => true
  | _ => false
theorem Nl.nilL {w : World} {v : Value} {l : List Nat} (h : Nl w v l) (hv : vnil v = true) : l = [] := by
  obtain ⟨a, cap, rfl, h2, _, h4, _⟩ := h.sl
  cases a with
  | none => have := h4 rfl; subst this; exact List.eq_nil_of_length_eq_zero (by simpa using h2)
  | some x => simp [vnil] at hv
section
variable {P : Program} {n : Nat} {K : Rho → World → Prop} {ρ : Rho} {w : World} {ops rest : List Oper}
variable {ty : TypeId} {pos : String} {after : Array Edge} {g : Option (Nat × Bool)} {d : Nat} {t e : TypeId}
theorem run_equalIn_slnil (dd : Nat) (t e : TypeId) (a : Option Addr) (l c : Nat) (h : P.underlying t = some (.slice e)) :
    (Op.equalIn (dd + 1) t (.slice a l c) (.slice none 0 0)).run P w = .ok a.isNone w := by
  cases a <;> simp [Op.equalIn, run_underlying h]
theorem run_equal_slnil (t e : TypeId) (a : Option Addr) (l c : Nat) (h : P.underlying t = some (.slice e)) :
    (Op.equal t (.slice a l c) (.slice none 0 0)).run P w = .ok a.isNone w := run_equalIn_slnil 9999 t e a l c h
theorem N_isNil {x : Operand} {yt : TypeId} {v : Value} {l : List Nat} {z : Value} {b : Nat} (T : ElT P t e z b) (hg : gd ops ρ g = some true) (hd : Nat.blt d n = true)
    (hx : ev ρ x = some v) (hs : Nl w v l) (h : WL P n ops rest K ((d, .bool (vnil v)) :: ρ) w) :
    WL P n ops (⟨some d, .binOp .eql t x (.const (.slice none 0 0)) yt, ty, pos, after, g⟩ :: rest) K ρ w := by
  obtain ⟨a, cap, rfl, _⟩ := hs.sl
  refine WL_val rfl hg hd (fun c hc => ?_) h
  have hr : (binOp .eql t (.slice a (l.map dv).length cap) (.slice none 0 0)).run P w = .ok (.bool a.isNone) w := by
    simp only [binOp, Sem.run_bind, run_equal_slnil t e a _ cap T.sl, Result.andThen_ok, Sem.run_pure]
  have hg' : (eqGuard .eql t x (.const (.slice none 0 0)) (.slice a (l.map dv).length cap) (.slice none 0 0)).run P w = .ok () w := by simp [eqGuard]
  have hv : vnil (.slice a (l.map dv).length cap) = a.isNone := by cases a <;> rfl
  have hk : c.eval (.const (.slice none 0 0)) = .slice none 0 0 := rfl
  simp only [execOp, hc.eval hx, hk, Sem.run_bind, hg', hr, Result.andThen_ok, Sem.run_pure, hv]
end

/-! ### int's and uint64's arithmetic -/
theorem wrap_i64_id {x : Int} (h0 : -9223372036854775808 ≤ x) (h1 : x ≤ 9223372036854775807) : IntKind.i64.wrap x = x := by rw [IntKind.wrap_i64]; omega
theorem wrap_u64 (x : Int) : IntKind.u64.wrap x = x % 18446744073709551616 := by simp [IntKind.wrap, IntKind.bits, IntKind.signed]
theorem wrap_u32 (x : Int) : IntKind.u32.wrap x = x % 4294967296 := by simp [IntKind.wrap, IntKind.bits, IntKind.signed]
theorem wrap_u8 (x : Int) : IntKind.u8.wrap x = x % 256 := by simp [IntKind.wrap, IntKind.bits, IntKind.signed]
theorem wrap_u64_id {x : Int} (h0 : 0 ≤ x) (h1 : x < 18446744073709551616) : IntKind.u64.wrap x = x := by rw [wrap_u64]; omega
theorem wrap_u32_id {x : Int} (h0 : 0 ≤ x) (h1 : x < 4294967296) : IntKind.u32.wrap x = x := by rw [wrap_u32]; omega
/-- What lengths are, for 'simp'. -/
theorem lens : (∀ n, val (dig n) = n) ∧ (∀ (i : Nat) (l : List Nat), (l.take i).length = min i l.length) ∧ (([] : List Nat).length = 0) ∧ (∀ (a : Nat) (l : List Nat), (a :: l).length = l.length + 1) ∧ (∀ (l m : List Nat), (l ++ m).length = l.length + m.length) ∧
    (∀ (n a : Nat), (List.replicate n a).length = n) ∧ (∀ (l : List Nat) (i a : Nat), (l.set i a).length = l.length) ∧ (∀ (i : Nat) (l : List Nat), (l.drop i).length = l.length - i) :=
  ⟨val_dig, fun _ _ => List.length_take, rfl, fun _ _ => rfl, fun _ _ => List.length_append, fun _ _ => List.length_replicate, fun _ _ _ => List.length_set, fun _ _ => List.length_drop⟩
end Go.Proofs.YtnfnadhbjdcbnaaDoor
