/-
  Slices of elements of several cells, and worlds in which some blocks may turn. It says nothing of any program.
-/
import Derived.Test.YtoccimigjjndpaaBox
import Derived.Maps.AppendAt
set_option linter.unusedVariables false
set_option linter.unusedSimpArgs false
namespace Go.Proofs.Ytoccimigjjndpaa
open Go Go.RowKit

/-! ### Some blocks may turn -/
structure ExtP (M : Nat → Prop) (w w' : World) : Prop where
  os : w'.os = w.os
  tape : w'.tape = w.tape
  output : w'.output = w.output
  size : w.heap.size ≤ w'.heap.size
  block : ∀ k, k < w.heap.size → ¬ M k → w'.heap[k]? = w.heap[k]?
section
variable {M N : Nat → Prop} {w0 w w' w'' : World}
theorem ExtP.refl (M : Nat → Prop) (w : World) : ExtP M w w := ⟨rfl, rfl, rfl, Nat.le_refl _, fun _ _ _ => rfl⟩
theorem ExtP.trans' (h : ExtP M w w') (k : ExtP N w' w'') (hs : ∀ j, j < w.heap.size → N j → M j) : ExtP M w w'' :=
  ⟨k.os.trans h.os, k.tape.trans h.tape, k.output.trans h.output, Nat.le_trans h.size k.size, fun j hj hb =>
    (k.block j (Nat.lt_of_lt_of_le hj h.size) (fun hn => hb (hs j hj hn))).trans (h.block j hj hb)⟩
theorem ExtP.mono (h : ExtP M w w') (hs : ∀ j, j < w.heap.size → M j → N j) : ExtP N w w' := ⟨h.os, h.tape, h.output, h.size, fun j hj hb => h.block j hj (fun hm => hb (hs j hj hm))⟩
theorem Ext.toP (h : Ext w w') : ExtP M w w' := ⟨Below.os h, Below.tape h, Below.output h, h.size, fun k hk _ => Below.block h k hk⟩
theorem Chg.toP {b : Nat} (h : Chg b w w') (hb : M b) : ExtP M w w' := ⟨h.os, h.tape, h.output, Nat.le_of_eq h.size.symm, fun k _ hn => h.block k (fun e => hn (by rw [e]; exact hb))⟩
theorem ExtP.ext (h : ExtP M w w') (he : Ext w0 w) (hb : ∀ k, M k → w0.heap.size ≤ k) : Ext w0 w' :=
  ⟨h.os.trans (Below.os he), h.tape.trans (Below.tape he), h.output.trans (Below.output he), Nat.le_trans he.size h.size,
    fun k hk => (h.block k (Nat.lt_of_lt_of_le hk he.size) (fun hm => by have := hb k hm; omega)).trans (Below.block he k hk)⟩
theorem ExtP.toExt (h : ExtP M w w') (hb : ∀ k, M k → w.heap.size ≤ k) : Ext w w' := h.ext (Ext.refl _) hb
theorem World.grownBy.toP {row : Option Nat} (h : w.grownBy w' row) (hb : ∀ k, row = some k → M k) : ExtP M w w' :=
  ⟨h.os, h.tape, h.output, h.size, fun k hk hn => h.block k hk (fun e => hn (hb k e.symm))⟩
theorem Bk.extP {g : Nat} {t : TypeId} {cs : List Value} (h : Bk w g t cs) (hc : ExtP M w w') (hne : ¬ M g) : Bk w' g t cs := (hc.block g h.lt hne).trans h
end
/-- What a call makes that may turn some blocks. -/
def RetP (M : Nat → Prop) (w : World) (Φ : Value → World → Prop) (e : Ending) (w' : World) : Prop := ∃ v, e = .returned v ∧ ExtP M w w' ∧ Φ v w'

/-! ### Slices of rows -/
/-- The slice v reads as these elements, of z cells each. -/
def SlK (z : Nat) (w : World) (v : Value) (rows : List (List Value)) : Prop :=
  ∃ a cap, v = .slice a rows.length cap ∧ rows.length ≤ cap ∧ cap ≤ maxLen ∧ (a = none → cap = 0) ∧
    ∀ i row, rows[i]? = some row → row.length = z ∧ ∃ x, a = some x ∧ ∀ j u, row[j]? = some u → w.cell? (x.add (i * z + j)) = some u
/-- The cells at an address. -/
def CellsAt (w : World) (p : Addr) (cs : List Value) : Prop := ∀ j u, cs[j]? = some u → w.cell? (p.add j) = some u
section
variable {z : Nat} {w w' : World} {v : Value} {rows : List (List Value)} {M : Nat → Prop}
theorem SlK.nil (z : Nat) (w : World) : SlK z w (.slice none 0 0) [] := ⟨none, 0, rfl, by simp, by simp, fun _ => rfl, fun i row h => by simp at h⟩
theorem SlK.ext (h : SlK z w v rows) (he : Ext w w') : SlK z w' v rows := by
  obtain ⟨a, cap, h1, h2, h3, h4, h5⟩ := h
  refine ⟨a, cap, h1, h2, h3, h4, fun i row hr => ?_⟩
  obtain ⟨k1, x, k2, k3⟩ := h5 i row hr
  exact ⟨k1, x, k2, fun j u hu => he.cell (k3 j u hu)⟩
theorem CellsAt.ext {p : Addr} {cs : List Value} (h : CellsAt w p cs) (he : Ext w w') : CellsAt w' p cs := fun j u hu => he.cell (h j u hu)
theorem CellsAt.extP {p : Addr} {cs : List Value} (h : CellsAt w p cs) (he : ExtP M w w') (hb : ¬ M p.block) : CellsAt w' p cs := fun j u hu => by
  have hbl : (p.add j).block = p.block := by unfold Addr.add; split <;> rfl
  exact (World.cell?_of_block (he.block _ (block_lt_of_cell (h j u hu)) (by rw [hbl]; exact hb))).trans (h j u hu)
theorem SlK.extP (h : SlK z w v rows) (he : ExtP M w w') (hb : rows ≠ [] → ¬ M (vblk v)) : SlK z w' v rows := by
  obtain ⟨a, cap, rfl, h2, h3, h4, h5⟩ := h
  refine ⟨a, cap, rfl, h2, h3, h4, fun i row hr => ?_⟩
  obtain ⟨k1, x, rfl, k3⟩ := h5 i row hr
  refine ⟨k1, x, rfl, fun j u hu => ?_⟩
  have hbl : (x.add (i * z + j)).block = x.block := by unfold Addr.add; split <;> rfl
  have hne : rows ≠ [] := by rintro rfl; simp at hr
  exact (World.cell?_of_block (he.block _ (block_lt_of_cell (k3 j u hu)) (by rw [hbl]; exact hb hne))).trans (k3 j u hu)
theorem SlK.le (h : SlK z w v rows) : rows.length ≤ maxLen := by obtain ⟨a, cap, _, h2, h3, _⟩ := h; omega
theorem SlK.at_ (h : SlK z w v rows) {i : Nat} {row : List Value} (hr : rows[i]? = some row) : row.length = z ∧ CellsAt w (slAt v (i * z)) row := by
  obtain ⟨a, cap, rfl, _, _, _, h5⟩ := h
  obtain ⟨k1, x, rfl, k3⟩ := h5 i row hr
  exact ⟨k1, fun j u hu => by rw [show slAt (.slice (some x) rows.length cap) (i * z) = x.add (i * z) from rfl, add_add]; exact k3 j u hu⟩
theorem SlK.blk_lt (h : SlK z w v rows) (hz : 0 < z) (hne : rows ≠ []) : vblk v < w.heap.size := by
  obtain ⟨a, cap, rfl, _, _, _, h5⟩ := h
  cases rows with
  | nil => exact absurd rfl hne
  | cons row rows =>
    obtain ⟨k1, x, rfl, k3⟩ := h5 0 row rfl
    cases row with
    | nil => simp at k1; omega
    | cons u row =>
      have h6 := block_lt_of_cell (k3 0 u rfl)
      have hbl : (x.add (0 * z + 0)).block = x.block := by unfold Addr.add; split <;> rfl
      rw [hbl] at h6; exact h6
/-- Rows of one cell. -/
theorem SlK.one {vs : List Value} (h : SlK 1 w v (vs.map fun u => [u])) : SlV w v vs := by
  obtain ⟨a, cap, rfl, h2, h3, h4, h5⟩ := h
  simp only [List.length_map] at *
  refine ⟨a, cap, rfl, h2, h3, h4, fun i u hu => ?_⟩
  obtain ⟨k1, x, rfl, k3⟩ := h5 i [u] (by simp [hu])
  exact ⟨x, rfl, by simpa using k3 0 u rfl⟩
/-- The part from l up to m. -/
def slSubK (z : Nat) : Value → Nat → Nat → Value
  | .slice a _ c, l, h => .slice (if c = l then a else a.map (·.add (l * z))) (h - l) (c - l)
  | v, _, _ => v
theorem SlK.sub (h : SlK z w v rows) {l m : Nat} (hl : l ≤ m) (hm : m ≤ rows.length) : SlK z w (slSubK z v l m) ((rows.take m).drop l) := by
  obtain ⟨a, cap, rfl, h2, h3, h4, h5⟩ := h
  refine ⟨if cap = l then a else a.map (·.add (l * z)), cap - l, by simp [slSubK, Nat.min_eq_left hm], by simp; omega, by omega, fun ha => ?_, fun i row hu => ?_⟩
  · by_cases hc : cap = l
    · omega
    · rw [if_neg hc] at ha
      have := h4 (by simpa using ha)
      omega
  · rw [List.getElem?_drop, List.getElem?_take] at hu
    split at hu
    · rename_i hlt
      obtain ⟨k1, x, rfl, k3⟩ := h5 (l + i) row hu
      refine ⟨k1, x.add (l * z), ?_, fun j u hj => ?_⟩
      · rw [if_neg (by omega)]; rfl
      · rw [add_add, show l * z + (i * z + j) = (l + i) * z + j from by rw [Nat.add_mul]; omega]; exact k3 j u hj
    · cases hu
theorem slSubK_blk (h : SlK z w v rows) (l m : Nat) : vblk (slSubK z v l m) = vblk v := by
  obtain ⟨a, cap, rfl, h2, h3, h4, h5⟩ := h
  cases a with
  | none => simp [slSubK, vblk]
  | some x =>
    by_cases hc : cap = l
    · simp [slSubK, hc, vblk]
    · have : (x.add (l * z)).block = x.block := by unfold Addr.add; split <;> rfl
      simp [slSubK, hc, vblk, this]
end
/-- A row of one's own, of elements of z cells. -/
def OwnK (z : Nat) (B : Nat) (e : TypeId) (w : World) (v : Value) (rows : List (List Value)) : Prop := w.ownsRow B e z v rows.length rows.flatten ∧ ∀ r ∈ rows, r.length = z
section
variable {z B : Nat} {e : TypeId} {w w' : World} {v : Value} {rows : List (List Value)} {M : Nat → Prop}
theorem OwnK.nil (z B : Nat) (e : TypeId) (w : World) : OwnK z B e w (.slice none 0 0) [] := ⟨World.ownsRow_nil w B e z, fun _ h => by cases h⟩
theorem OwnK.ext (h : OwnK z B e w v rows) (he : Ext w w') : OwnK z B e w' v rows := by
  obtain ⟨⟨h1, h2⟩, h0⟩ := h
  refine ⟨⟨h1, ?_⟩, h0⟩
  rcases h2 with h2 | ⟨g, cap, cur, h3, h4, hh, r⟩
  · exact .inl h2
  · exact .inr ⟨g, cap, cur, h3, h4, he.heap hh, r⟩
theorem OwnK.mono {B' : Nat} (h : OwnK z B e w v rows) (hb : B' ≤ B) : OwnK z B' e w v rows := by
  obtain ⟨⟨h1, h2⟩, h0⟩ := h
  refine ⟨⟨h1, ?_⟩, h0⟩
  rcases h2 with h2 | ⟨g, cap, cur, h3, h4, hh, r⟩
  · exact .inl h2
  · exact .inr ⟨g, cap, cur, h3, Nat.le_trans hb h4, hh, r⟩
theorem OwnK.extP (h : OwnK z B e w v rows) (he : ExtP M w w') (hb : ∀ k, v.ownBlock = some k → ¬ M k) : OwnK z B e w' v rows := by
  obtain ⟨⟨h1, h2⟩, h0⟩ := h
  refine ⟨⟨h1, ?_⟩, h0⟩
  rcases h2 with h2 | ⟨g, cap, cur, rfl, h4, hh, r⟩
  · exact .inl h2
  · have hlt : g < w.heap.size := (Array.getElem?_eq_some_iff.1 hh).1
    exact .inr ⟨g, cap, cur, rfl, h4, (he.block g hlt (hb g rfl)).trans hh, r⟩
theorem flat_at {z : Nat} : ∀ {rows : List (List Value)}, (∀ r ∈ rows, r.length = z) → ∀ i row, rows[i]? = some row → ∀ j u, row[j]? = some u → rows.flatten[i * z + j]? = some u
  | [], _, i, row, hr, _, _, _ => by simp at hr
  | r :: rows, h, 0, row, hr, j, u, hu => by
    simp at hr; subst hr
    rw [List.flatten_cons, Nat.zero_mul, Nat.zero_add, List.getElem?_append_left (List.getElem?_eq_some_iff.1 hu).1]; exact hu
  | r :: rows, h, i + 1, row, hr, j, u, hu => by
    simp at hr
    have h1 := h r (by simp)
    rw [List.flatten_cons, List.getElem?_append_right (by rw [h1, Nat.add_mul]; omega), h1, show (i + 1) * z + j - z = i * z + j from by rw [Nat.add_mul]; omega]
    exact flat_at (fun r hr => h r (List.mem_cons_of_mem _ hr)) i row hr j u hu
theorem OwnK.sl (h : OwnK z B e w v rows) : SlK z w v rows := by
  obtain ⟨⟨h1, h2⟩, h0⟩ := h
  rcases h2 with ⟨rfl, hn⟩ | ⟨g, cap, cur, rfl, hb, hh, hn, hm, hs, ht⟩
  · obtain rfl : rows = [] := List.eq_nil_of_length_eq_zero hn
    exact SlK.nil z w
  · refine ⟨_, cap, rfl, hn, hm, by simp, fun i row hr => ⟨h0 row (List.mem_of_getElem? hr), _, rfl, fun j u hu => ?_⟩⟩
    have h5 : cur[i * z + j]? = some u := by
      have := take_getElem? ht (flat_at h0 i row hr j u hu)
      simpa using this
    have : (⟨g, 0, none⟩ : Addr).add (i * z + j) = ⟨g, i * z + j, none⟩ := by unfold Addr.add; split <;> simp_all
    rw [this, cell_of_row w g _ cur e (0, 0) hh]; exact h5
theorem OwnK.lt (h : OwnK z B e w v rows) : ∀ k, v.ownBlock = some k → B ≤ k ∧ k < w.heap.size := World.ownsRow.lt h.1
end
/-- What is known of a slice type whose elements have z cells. -/
structure EkT (P : Program) (t e : TypeId) (z : Nat) (zs : List Value) (bytes : Nat) : Prop where
  sl : P.underlying t = some (.slice e)
  info : ∃ i, P.info? e = some i ∧ i.size = z ∧ i.zero = some (.agg zs.toArray) ∧ i.bytes = bytes ∧ zs.length = z
def ekB (P : Program) (t : TypeId) : Option (TypeId × Nat × Option Value × Nat) :=
  match P.underlying t with
  | some (.slice e) => (P.info? e).map fun i => (e, i.size, i.zero, i.bytes)
  | _ => none
theorem EkT.mk' {P : Program} {t e : TypeId} {z : Nat} {zs : List Value} {bytes : Nat} (h : ekB P t = some (e, z, some (.agg zs.toArray), bytes)) (hl : Nat.beq zs.length z = true) : EkT P t e z zs bytes := by
  unfold ekB at h
  split at h
  · rename_i e' he
    cases hi : P.info? e' with
    | none => rw [hi] at h; cases h
    | some i =>
      rw [hi] at h
      simp only [Option.map_some, Option.some.injEq, Prod.mk.injEq] at h
      obtain ⟨rfl, h2, h3, h4⟩ := h
      exact ⟨he, i, hi, h2, h3, h4, by simpa using hl⟩
  · cases h
section
variable {P : Program} {n : Nat} {K : Rho → World → Prop} {ρ : Rho} {w : World} {ops rest : List Oper}
variable {ty : TypeId} {pos : String} {after : Array Edge} {g : Option (Nat × Bool)} {d : Nat} {t e : TypeId} {z : Nat} {zs : List Value} {bytes : Nat}
theorem K_len {x : Operand} {v : Value} {rows : List (List Value)} (T : EkT P t e z zs bytes) (hg : gd ops ρ g = some true) (hd : Nat.blt d n = true) (hx : ev ρ x = some v) (hs : SlK z w v rows)
    (h : WL P n ops rest K ((d, .int .i64 rows.length) :: ρ) w) :
    WL P n ops (⟨some d, .call { callee := .builtin .len, args := #[x], argTypes := #[t] }, ty, pos, after, g⟩ :: rest) K ρ w := by
  obtain ⟨a, cap, rfl, _⟩ := hs
  exact WL_val rfl hg hd (fun c hc => by simp [execOp, resolve, invoke, builtin, hc.eval hx, Builtin.len_, run_underlying T.sl, goInt]) h
theorem K_index {x ix : Operand} {v : Value} {rows : List (List Value)} {k : IntKind} {i : Int} (T : EkT P t e z zs bytes)
    (hg : gd ops ρ g = some true) (hd : Nat.blt d n = true) (hx : ev ρ x = some v) (hix : ev ρ ix = some (.int k i)) (hs : SlK z w v rows) (j : Nat) (hj : i = (j : Int)) (hlt : j < rows.length)
    (h : ∀ p, p = slAt v (j * z) → CellsAt w p rows[j] → WL P n ops rest K ((d, .pointer (some p)) :: ρ) w) :
    WL P n ops (⟨some d, .indexAddr t x ix, ty, pos, after, g⟩ :: rest) K ρ w := by
  obtain ⟨inf, hi, hsz, _⟩ := T.info
  have hat := (hs.at_ (i := j) (row := rows[j]) (by simp [hlt])).2
  obtain ⟨a, cap, rfl, _, _, _, h5⟩ := hs
  subst hj
  obtain ⟨_, p, rfl, _⟩ := h5 j rows[j] (by simp [hlt])
  refine WL_val rfl hg hd (v := .pointer (some (slAt (.slice (some p) rows.length cap) (j * z)))) (fun c hc => ?_) (h _ rfl hat)
  have h0 : (0 : Int) ≤ (j : Int) ∧ (j : Int) < (rows.length : Int) := by omega
  have h9 : ¬ rows.length ≤ j := by omega
  simp [execOp, hc.eval hx, hc.eval hix, Instr.indexAt, asIntOf, run_underlying T.sl, sizeOf, typeInfo, hi, hsz, h0, slAt, h9]
theorem K_slice {x y u : Operand} {v : Value} {rows : List (List Value)} {k k' : IntKind} {i i' : Int} (T : EkT P t e z zs bytes) (hz : 0 < z) (hg : gd ops ρ g = some true) (hd : Nat.blt d n = true)
    (hx : ev ρ x = some v) (hy : ev ρ y = some (.int k i)) (hu : ev ρ u = some (.int k' i')) (hs : SlK z w v rows) (l m : Nat) (hl : i = (l : Int)) (hm : i' = (m : Int)) (hlm : l ≤ m) (hle : m ≤ rows.length)
    (h : WL P n ops rest K ((d, slSubK z v l m) :: ρ) w) :
    WL P n ops (⟨some d, .slice t x (some y) (some u) none, ty, pos, after, g⟩ :: rest) K ρ w := by
  obtain ⟨inf, hi, hsz, _⟩ := T.info
  obtain ⟨a, cap, rfl, h2, h3, h4, h5⟩ := hs
  subst hl; subst hm
  refine WL_val rfl hg hd (fun c hc => ?_) h
  have hb : (0 : Int) ≤ (m : Int) ∧ (m : Int) ≤ (cap : Int) := by omega
  have hb2 : (0 : Int) ≤ (l : Int) ∧ (l : Int) ≤ (m : Int) := by omega
  simp only [execOp, hc.eval hx, hc.eval hy, hc.eval hu, Option.map_some, Option.map_none, Instr.sliceAt, Instr.slice, Instr.sliceBounds, Instr.sliceBound, asIntOf, Sem.run_bind, run_underlying T.sl, Result.andThen_ok, Sem.run_pure, hb, if_true, sizeOf, typeInfo, Int.toNat_natCast]
  simp [hi, hsz, slSubK, hb, hb2]
  intro h9; omega
theorem K_sliceTo {x u : Operand} {v : Value} {rows : List (List Value)} {k' : IntKind} {i' : Int} (T : EkT P t e z zs bytes) (hg : gd ops ρ g = some true) (hd : Nat.blt d n = true)
    (hx : ev ρ x = some v) (hu : ev ρ u = some (.int k' i')) (hs : SlK z w v rows) (m : Nat) (hm : i' = (m : Int)) (hle : m ≤ rows.length)
    (h : WL P n ops rest K ((d, slTake v m) :: ρ) w) :
    WL P n ops (⟨some d, .slice t x none (some u) none, ty, pos, after, g⟩ :: rest) K ρ w := by
  obtain ⟨inf, hi, hsz, _⟩ := T.info
  obtain ⟨a, cap, rfl, h2, h3, h4, h5⟩ := hs
  subst hm
  refine WL_val rfl hg hd (fun c hc => ?_) h
  have hb : (0 : Int) ≤ (m : Int) ∧ (m : Int) ≤ (cap : Int) := by omega
  simp only [execOp, hc.eval hx, hc.eval hu, Option.map_some, Option.map_none, Instr.sliceAt, Instr.slice, Instr.sliceBounds, Instr.sliceBound, asIntOf, Sem.run_bind, run_underlying T.sl, Result.andThen_ok, Sem.run_pure, hb, if_true, sizeOf, typeInfo, Int.toNat_natCast]
  simp [hi, slTake, hb]
  cases a <;> simp [Addr.add]
theorem SlK.take {v : Value} {rows : List (List Value)} (h : SlK z w v rows) (m : Nat) (hm : m ≤ rows.length) : SlK z w (slTake v m) (rows.take m) := by
  obtain ⟨a, cap, rfl, h2, h3, h4, h5⟩ := h
  refine ⟨a, cap, by simp [slTake, Nat.min_eq_left hm], by simp; omega, h3, h4, fun i row hu => h5 i row ?_⟩
  rw [List.getElem?_take] at hu
  split at hu
  · exact hu
  · cases hu
/-- The rest from l on. -/
theorem K_sliceFrom {x y : Operand} {v : Value} {rows : List (List Value)} {k : IntKind} {i : Int} (T : EkT P t e z zs bytes) (hz : 0 < z) (hg : gd ops ρ g = some true) (hd : Nat.blt d n = true)
    (hx : ev ρ x = some v) (hy : ev ρ y = some (.int k i)) (hs : SlK z w v rows) (l : Nat) (hl : i = (l : Int)) (hle : l ≤ rows.length)
    (h : ∀ v', SlK z w v' (rows.drop l) → vblk v' = vblk v → WL P n ops rest K ((d, v') :: ρ) w) :
    WL P n ops (⟨some d, .slice t x (some y) none none, ty, pos, after, g⟩ :: rest) K ρ w := by
  obtain ⟨inf, hi, hsz, _⟩ := T.info
  have hsub := hs.sub hle (Nat.le_refl _)
  rw [List.take_length] at hsub
  have hbl := slSubK_blk hs l rows.length
  obtain ⟨a, cap, rfl, h2, h3, h4, h5⟩ := hs
  subst hl
  refine WL_val rfl hg hd (fun c hc => ?_) (h _ hsub hbl)
  have hb2 : (0 : Int) ≤ (l : Int) ∧ (l : Int) ≤ (rows.length : Int) := by omega
  have hb3 : (rows.length : Int) ≤ (cap : Int) := by omega
  have hb4 : (0 : Int) ≤ (rows.length : Int) := by omega
  simp only [execOp, hc.eval hx, hc.eval hy, Option.map_some, Option.map_none, Instr.sliceAt, Instr.slice, Instr.sliceBounds, Instr.sliceBound, asIntOf, Sem.run_bind, run_underlying T.sl, Result.andThen_ok, Sem.run_pure, if_true, sizeOf, typeInfo, Int.toNat_natCast]
  simp [hi, hsz, slSubK, hb2, hb3, hb4]
/-- A load of a whole struct through any pointer. -/
theorem K_load {x : Operand} {p : Addr} {zs' cs : List Value} (S : StT P t z zs') (hg : gd ops ρ g = some true) (hd : Nat.blt d n = true)
    (hx : ev ρ x = some (.pointer (some p))) (hc : CellsAt w p cs) (hl : cs.length = z) (h : WL P n ops rest K ((d, .agg cs.toArray) :: ρ) w) :
    WL P n ops (⟨some d, .load t x, ty, pos, after, g⟩ :: rest) K ρ w := by
  obtain ⟨fs, hfs⟩ := S.st
  obtain ⟨i, h1, h2, h3⟩ := S.info
  refine WL_val rfl hg hd (fun c hcc => ?_) h
  have hr : (loadCells p cs.length).run P w = .ok cs.toArray w := run_loadCells_list (P := P) w p cs hc
  rw [hl] at hr
  simp [execOp, hcc.eval hx, Instr.loadAt, Instr.sureAddr, loadVar, isAgg, run_underlying hfs, sizeOf, typeInfo, h1, h2, hr]
/-- The address of a field, through any pointer. -/
theorem K_field {x : Operand} {f off : Nat} {p : Addr} (F : FdT P t f off) (hg : gd ops ρ g = some true) (hd : Nat.blt d n = true) (hx : ev ρ x = some (.pointer (some p)))
    (h : WL P n ops rest K ((d, .pointer (some (p.add off))) :: ρ) w) :
    WL P n ops (⟨some d, .fieldAddr t x f, ty, pos, after, g⟩ :: rest) K ρ w := by
  obtain ⟨fs, fd, i, h1, h2, h3, h4, h5⟩ := F
  refine WL_val rfl hg hd (fun c hc => ?_) h
  simp [execOp, hc.eval hx, Instr.fieldAt, run_underlying h1, h2, Instr.sureAddr, fieldPlace, sizeOf, typeInfo, h4, h5, h3]
/-- 'append' of m elements to a row of one's own. -/
theorem K_append {x y : Operand} {B : Nat} {v v2 : Value} {rows rows2 : List (List Value)} (T : EkT P t e z zs bytes) (hz : Nat.blt 0 z = true) (hg : gd ops ρ g = some true) (hd : Nat.blt d n = true)
    (hx : ev ρ x = some v) (hy : ev ρ y = some v2) (ho : OwnK z B e w v rows) (h2 : SlK z w v2 rows2) (h1 : ∀ r ∈ rows2, ∀ u ∈ r, u.oneCell' = true)
    (hm : rows.length + rows2.length ≤ 1073741824) (hbm : Nat.ble bytes 1024 = true) (hB : B ≤ w.heap.size)
    (h : ∀ v' w', OwnK z B e w' v' (rows ++ rows2) → w.grownBy w' v.ownBlock → (v'.ownBlock = v.ownBlock ∨ v'.ownBlock = some w.heap.size) → WL P n ops rest K ((d, v') :: ρ) w') :
    WL P n ops (⟨some d, .call { callee := .builtin .append, args := #[x, y], argTypes := #[t, t] }, ty, pos, after, g⟩ :: rest) K ρ w := by
  obtain ⟨inf, hi, hsz, hzz, hby, hzl⟩ := T.info
  have hz' : 0 < z := by simpa [Nat.blt_eq] using hz
  have hbm' : bytes ≤ 1024 := by simpa using hbm
  obtain ⟨a, cap, rfl, hle, hcm, hnone, hcells⟩ := h2
  have hb1 : (rows.length + rows2.length) * bytes ≤ 1073741824 * 1024 := Nat.mul_le_mul hm hbm'
  have hr2 : ∀ r ∈ rows2, r.length = z := fun r hr => by
    obtain ⟨i, hi⟩ := List.mem_iff_getElem?.1 hr
    exact (hcells i r hi).1
  have hfl : rows2.flatten.length = rows2.length * z := by
    clear h hm hb1 hcells h1 hle hy
    induction rows2 with
    | nil => simp
    | cons r rows2 ih => rw [List.flatten_cons, List.length_append, hr2 r (by simp), ih fun r hr => hr2 r (List.mem_cons_of_mem _ hr), List.length_cons, Nat.add_mul]; omega
  have key : ∃ v' w', (Builtin.append_ #[t, t] ty #[v, .slice a rows2.length cap]).run P w = .ok v' w' ∧ w'.ownsRow B e z v' (rows.length + rows2.length) (rows.flatten ++ rows2.flatten) ∧ w.grownBy w' v.ownBlock ∧ (v'.ownBlock = v.ownBlock ∨ v'.ownBlock = some w.heap.size) := by
    cases a with
    | some ad =>
      obtain ⟨v', w', h1', h2', h3', _, h5'⟩ := run_append_own_at (P := P) w B t ty e inf (.agg zs.toArray) z bytes T.sl hi hzz hsz hby (by simpa [Value.cells] using hzl) hz' v rows.length rows.flatten ho.1 ad rows2.length cap rows2.flatten hfl
        (fun j u hu => by
          have hj : j < rows2.length * z := by rw [← hfl]; exact (List.getElem?_eq_some_iff.1 hu).1
          have hq : j / z < rows2.length := Nat.div_lt_of_lt_mul (by rw [Nat.mul_comm]; exact hj)
          obtain ⟨k1, x, hx, k3⟩ := hcells (j / z) rows2[j / z] (by simp [hq])
          cases hx
          have hjj : j / z * z + j % z = j := by rw [Nat.mul_comm]; exact Nat.div_add_mod j z
          have hmod : j % z < rows2[j / z].length := by rw [k1]; exact Nat.mod_lt _ hz'
          have h7 := flat_at hr2 (j / z) rows2[j / z] (by simp [hq]) (j % z) (rows2[j / z][j % z]) (by simp [hmod])
          rw [hjj, hu] at h7
          cases h7
          have h8 := k3 (j % z) (rows2[j / z][j % z]) (by simp [hmod])
          rw [hjj] at h8
          exact h8)
        (fun u hu => by
          obtain ⟨r, hr, hur⟩ := List.mem_flatten.1 hu
          exact h1 r hr u hur) (by simp only [maxLen]; omega) (by omega) hB
      exact ⟨v', w', h1', h2', h3', h5'⟩
    | none =>
      have hc0 : cap = 0 := hnone rfl
      have hv0 : rows2 = [] := List.eq_nil_of_length_eq_zero (by omega)
      subst hv0; subst hc0
      refine ⟨v, w, ?_, (by simpa using ho.1), ⟨rfl, rfl, rfl, Nat.le_refl _, fun _ _ _ => rfl⟩, .inl rfl⟩
      have ho' := ho.1
      obtain ⟨_, h0 | ⟨g', cap', cur', rfl, _, _, hn', _⟩⟩ := ho'
      · obtain ⟨rfl, _⟩ := h0
        simp [Builtin.append_, run_underlying T.sl, sizeOf, typeInfo, hi, Builtin.lenOf, Builtin.firstCells]
      · simp [Builtin.append_, run_underlying T.sl, sizeOf, typeInfo, hi, Builtin.lenOf, Builtin.firstCells, hn', storeCells]
  obtain ⟨v', w', hr, hown, hgr, hbk⟩ := key
  refine WL_val rfl hg hd (fun c hc => by simp [execOp, resolve, invoke, builtin, hc.eval hx, hc.eval hy, hr]) (h v' w' ⟨?_, ?_⟩ hgr hbk)
  · rw [List.length_append, List.flatten_append]; exact hown
  · intro r hr
    rcases List.mem_append.1 hr with hr | hr
    · exact ho.2 r hr
    · exact hr2 r hr
/-- A call that may turn some blocks. -/
theorem O_callP {f : FuncId} {args : List Operand} {at_ : Array TypeId} {vs : List Value} {M : Nat → Prop} {Φ : Value → World → Prop} (hE : Enters P f) (hg : gd ops ρ g = some true) (hd : Nat.blt d n = true) (ha : evs ρ args = some vs)
    (hc : Calls P f vs.toArray w (RetP M w Φ)) (h : ∀ v w', ExtP M w w' → Φ v w' → WL P n ops rest K ((d, v) :: ρ) w') :
    WL P n ops (⟨some d, .call { callee := .value (.func f), args := args.toArray, argTypes := at_ }, ty, pos, after, g⟩ :: rest) K ρ w :=
  O_callR hE hg hd ha hc fun e w' ⟨v, he, hx, hv⟩ => ⟨v, he, h v w' hx hv⟩
/-- A closure. -/
theorem O_makeFunc {fn : FuncId} {captured : List Operand} {us : List Value} (hg : gd ops ρ g = some true) (hd : Nat.blt d n = true) (ha : evs ρ captured = some us)
    (h : WL P n ops rest K ((d, .func (.func fn) #[] us.toArray) :: ρ) w) :
    WL P n ops (⟨some d, .makeFunc (.func fn) #[] captured.toArray, ty, pos, after, g⟩ :: rest) K ρ w := by
  refine WL_val rfl hg hd (fun c hc => ?_) h
  have := hc.evals ha
  simp [execOp, Instr.makeFunc, ← this]
theorem O_callV {x : Operand} {f : FuncId} {args : List Operand} {at_ : Array TypeId} {vs us : List Value} {R : Ending → World → Prop} (hE : Enters P f) (hg : gd ops ρ g = some true) (hd : Nat.blt d n = true) (hx : ev ρ x = some (.func (.func f) #[] us.toArray)) (ha : evs ρ args = some vs)
    (hc : Calls P f (vs ++ us).toArray w R) (h : ∀ e w', R e w' → ∃ v, e = .returned v ∧ WL P n ops rest K ((d, v) :: ρ) w') :
    WL P n ops (⟨some d, .call { callee := .value x, args := args.toArray, argTypes := at_ }, ty, pos, after, g⟩ :: rest) K ρ w := by
  obtain ⟨fn, hf, hn, hb⟩ := hE
  intro a hfit Q hQ
  unfold wpList
  rw [if_pos (gd_wanted hg hfit)]
  refine .inl ?_
  unfold Oper.wp
  have hargs := hfit.evals ha
  have hrun : (execOp a.eval ⟨some d, .call { callee := .value x, args := args.toArray, argTypes := at_ }, ty, pos, after, g⟩).run P w = .ok (.enter f (vs ++ us).toArray) w := by
    have hm : (args.toArray.map a.eval) = vs.toArray := by rw [← hargs]; simp
    simp only [execOp, resolve, hm, hfit.eval hx, Deferred.ofValue, invoke, callFunc, Sem.run_bind, Sem.run_pure, Result.andThen_ok, Array.empty_append, Array.append_empty, run_program, hf, hn, hb, Bool.false_eq_true, if_false, List.append_toArray]
    try simp
  rw [hrun]
  refine Calls.mono hc fun e w' hR => ?_
  obtain ⟨v, rfl, hw⟩ := h e w' hR
  exact hw _ (hfit.put hd v) Q hQ
theorem O_callC {x : Operand} {f : FuncId} {args : List Operand} {at_ : Array TypeId} {vs us : List Value} {Φ : Value → World → Prop} (hE : Enters P f) (hg : gd ops ρ g = some true) (hd : Nat.blt d n = true) (hx : ev ρ x = some (.func (.func f) #[] us.toArray)) (ha : evs ρ args = some vs)
    (hc : Calls P f (vs ++ us).toArray w (Ret w Φ)) (h : ∀ v w', Ext w w' → Φ v w' → WL P n ops rest K ((d, v) :: ρ) w') :
    WL P n ops (⟨some d, .call { callee := .value x, args := args.toArray, argTypes := at_ }, ty, pos, after, g⟩ :: rest) K ρ w :=
  O_callV hE hg hd hx ha hc fun e w' ⟨v, he, hx, hv⟩ => ⟨v, he, h v w' hx hv⟩
end
end Go.Proofs.Ytoccimigjjndpaa
