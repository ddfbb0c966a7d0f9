/-
  Parts of slices, and calls that write into a row that is handed to them.
-/
import Derived.Test.YtnfnadhbjdcbnaaDoorAny
set_option linter.unusedVariables false
set_option linter.unusedSimpArgs false
namespace Go.Proofs.YtnfnadhbjdcbnaaDoor
open Go Go.RowKit

/-- The world goes on; block b may have turned. -/
structure ExtB (b : Nat) (w w' : World) : Prop where
  os : w'.os = w.os
  tape : w'.tape = w.tape
  output : w'.output = w.output
  size : w.heap.size ≤ w'.heap.size
  block : ∀ k, k < w.heap.size → k ≠ b → w'.heap[k]? = w.heap[k]?
theorem ExtB.refl (b : Nat) (w : World) : ExtB b w w := ⟨rfl, rfl, rfl, Nat.le_refl _, fun _ _ _ => rfl⟩
theorem ExtB.trans {b : Nat} {w1 w2 w3 : World} (h : ExtB b w1 w2) (k : ExtB b w2 w3) : ExtB b w1 w3 :=
  ⟨k.os.trans h.os, k.tape.trans h.tape, k.output.trans h.output, Nat.le_trans h.size k.size, fun j hj hb => (k.block j (Nat.lt_of_lt_of_le hj h.size) hb).trans (h.block j hj hb)⟩
theorem Chg.toB {b : Nat} {w w' : World} (h : Chg b w w') : ExtB b w w' := ⟨h.os, h.tape, h.output, by rw [h.size]; exact Nat.le_refl _, fun k _ hb => h.block k hb⟩
theorem Ext.toB {b : Nat} {w w' : World} (h : Ext w w') : ExtB b w w' := ⟨Below.os h, Below.tape h, Below.output h, h.size, fun k hk _ => Below.block h k hk⟩
theorem Ext.extB {b : Nat} {w0 w w' : World} (he : Ext w0 w) (h : ExtB b w w') (hb : w0.heap.size ≤ b) : Ext w0 w' :=
  ⟨h.os.trans (Below.os he), h.tape.trans (Below.tape he), h.output.trans (Below.output he), Nat.le_trans he.size h.size,
    fun k hk => (h.block k (Nat.lt_of_lt_of_le hk he.size) (by omega)).trans (Below.block he k hk)⟩
theorem SlV.extB {w w' : World} {v : Value} {vs : List Value} {b : Nat} (h : SlV w v vs) (hc : ExtB b w w') (hb : vs ≠ [] → vblk v ≠ b) : SlV w' v vs := by
  obtain ⟨a, cap, rfl, h2, h3, h4, h5⟩ := h
  refine ⟨a, cap, rfl, h2, h3, h4, fun i u hu => ?_⟩
  obtain ⟨x, rfl, hx⟩ := h5 i u hu
  have hne : vs ≠ [] := by rintro rfl; simp at hu
  have hb' : x.block ≠ b := hb hne
  refine ⟨x, rfl, ?_⟩
  have hbl : (x.add i).block = x.block := by unfold Addr.add; split <;> rfl
  have hlt : x.block < w.heap.size := by
    rcases Nat.lt_or_ge x.block w.heap.size with k | k
    · exact k
    · exfalso
      unfold World.cell? at hx
      rw [hbl, Array.getElem?_eq_none k] at hx
      simp at hx
  exact (World.cell?_of_block (by rw [hbl]; exact hc.block _ hlt hb')).trans hx
theorem Own.extB {B b : Nat} {e : TypeId} {w w' : World} {v : Value} {vs : List Value} (h : Own B e w v vs) (hc : ExtB b w w') (hb : vblk v ≠ b) : Own B e w' v vs := by
  obtain ⟨h1, h2⟩ := h
  refine ⟨h1, ?_⟩
  rcases h2 with h2 | ⟨g, cap, cur, rfl, h4, hh, r⟩
  · exact .inl h2
  · have hlt : g < w.heap.size := by
      rcases Nat.lt_or_ge g w.heap.size with k | k
      · exact k
      · simp [Array.getElem?_eq_none k] at hh
    exact .inr ⟨g, cap, cur, rfl, h4, (hc.block g hlt hb).trans hh, r⟩
theorem Nl.extB {w w' : World} {v : Value} {l : List Nat} {b : Nat} (h : Nl w v l) (hc : ExtB b w w') (hb : l ≠ [] → vblk v ≠ b) : Nl w' v l :=
  ⟨h.sl.extB hc (fun hne => hb (by rintro rfl; exact hne rfl)), h.d⟩
theorem No.extB {B b : Nat} {e : TypeId} {w w' : World} {v : Value} {l : List Nat} (h : No B e w v l) (hc : ExtB b w w') (hb : vblk v ≠ b) : No B e w' v l := ⟨h.own.extB hc hb, h.d⟩

/-- What a call that writes into block b makes. -/
def RetB (b : Nat) (w : World) (Φ : Value → World → Prop) (e : Ending) (w' : World) : Prop := ∃ v, e = .returned v ∧ ExtB b w w' ∧ Φ v w'

/-- The part of a slice from l up to h. -/
def slSub : Value → Nat → Nat → Value
  | .slice a _ c, l, h => .slice (if c = l then a else a.map (·.add l)) (h - l) (c - l)
  | v, _, _ => v
theorem add_add (a : Addr) (l i : Nat) : (a.add l).add i = a.add (l + i) := by
  unfold Addr.add
  by_cases h1 : l = 0
  · subst h1; simp
  · by_cases h2 : i = 0
    · subst h2; simp [h1]
    · simp [h1, h2]; omega
theorem SlV.sub {w : World} {v : Value} {vs : List Value} (h : SlV w v vs) {l m : Nat} (hl : l ≤ m) (hm : m ≤ vs.length) : SlV w (slSub v l m) ((vs.take m).drop l) := by
  obtain ⟨a, cap, rfl, h2, h3, h4, h5⟩ := h
  refine ⟨if cap = l then a else a.map (·.add l), cap - l, by simp [slSub, Nat.min_eq_left hm], by simp; omega, by omega, fun ha => ?_, fun i u hu => ?_⟩
  · by_cases hc : cap = l
    · omega
    · rw [if_neg hc] at ha
      have := h4 (by simpa using ha)
      omega
  · rw [List.getElem?_drop, List.getElem?_take] at hu
    split at hu
    · rename_i hlt
      obtain ⟨x, rfl, hx⟩ := h5 (l + i) u hu
      refine ⟨x.add l, ?_, by rw [add_add]; exact hx⟩
      rw [if_neg (by omega)]; rfl
    · cases hu
theorem Nl.sub {w : World} {v : Value} {d : List Nat} (h : Nl w v d) {l m : Nat} (hl : l ≤ m) (hm : m ≤ d.length) : Nl w (slSub v l m) ((d.take m).drop l) :=
  ⟨by have := h.sl.sub hl (m := m) (by simpa using hm); rwa [← List.map_take, ← List.map_drop] at this, (h.d.take m).drop l⟩
theorem slAt_sub {w : World} {v : Value} {vs : List Value} (h : SlV w v vs) {l m j : Nat} (hm : m ≤ vs.length) (hj : l + j < m) : slAt (slSub v l m) j = slAt v (l + j) := by
  obtain ⟨a, cap, rfl, h2, h3, h4, h5⟩ := h
  have hlt : l + j < vs.length := by omega
  obtain ⟨x, rfl, hx⟩ := h5 (l + j) vs[l + j] (by simp [hlt])
  have hc : ¬ cap = l := by omega
  simp [slSub, hc, slAt, add_add]
theorem vblk_sub {w : World} {v : Value} {vs : List Value} (h : SlV w v vs) (l m : Nat) : vblk (slSub v l m) = vblk v := by
  obtain ⟨a, cap, rfl, h2, h3, h4, h5⟩ := h
  cases a with
  | none => simp [slSub, vblk]
  | some x =>
    by_cases hc : cap = l
    · simp [slSub, hc, vblk]
    · have : (x.add l).block = x.block := by unfold Addr.add; split <;> rfl
      simp [slSub, hc, vblk, this]

section
variable {P : Program} {n : Nat} {K : Rho → World → Prop} {ρ : Rho} {w : World} {ops rest : List Oper}
variable {ty : TypeId} {pos : String} {after : Array Edge} {g : Option (Nat × Bool)} {d : Nat} {t e : TypeId}
theorem O_callB {f : FuncId} {args : List Operand} {at_ : Array TypeId} {vs : List Value} {Φ : Value → World → Prop} {b : Nat} (hE : Enters P f) (hg : gd ops ρ g = some true) (hd : Nat.blt d n = true) (ha : evs ρ args = some vs)
    (hc : Calls P f vs.toArray w (RetB b w Φ)) (h : ∀ v w', ExtB b w w' → Φ v w' → WL P n ops rest K ((d, v) :: ρ) w') :
    WL P n ops (⟨some d, .call { callee := .value (.func f), args := args.toArray, argTypes := at_ }, ty, pos, after, g⟩ :: rest) K ρ w :=
  O_callR hE hg hd ha hc fun e w' ⟨v, he, hx, hv⟩ => ⟨v, he, h v w' hx hv⟩
/-- 'v[l:m]'. -/
theorem O_slice {x y z : Operand} {v : Value} {vs : List Value} {k k' : IntKind} {i i' : Int} {inf : TypeInfo} (hT : P.underlying t = some (.slice e)) (hi : P.info? e = some inf) (hsz : inf.size = 1) (hg : gd ops ρ g = some true) (hd : Nat.blt d n = true)
    (hx : ev ρ x = some v) (hy : ev ρ y = some (.int k i)) (hz : ev ρ z = some (.int k' i')) (hs : SlV w v vs) (l m : Nat) (hl : i = (l : Int)) (hm : i' = (m : Int)) (hlm : l ≤ m) (hle : m ≤ vs.length)
    (h : WL P n ops rest K ((d, slSub v l m) :: ρ) w) :
    WL P n ops (⟨some d, .slice t x (some y) (some z) none, ty, pos, after, g⟩ :: rest) K ρ w := by
  obtain ⟨a, cap, rfl, h2, h3, h4, h5⟩ := hs
  subst hl; subst hm
  refine WL_val rfl hg hd (fun c hc => ?_) h
  have hb : (0 : Int) ≤ (m : Int) ∧ (m : Int) ≤ (cap : Int) := by omega
  have hb2 : (0 : Int) ≤ (l : Int) ∧ (l : Int) ≤ (m : Int) := by omega
  simp only [execOp, hc.eval hx, hc.eval hy, hc.eval hz, Option.map_some, Option.map_none, Instr.sliceAt, Instr.slice, Instr.sliceBounds, Instr.sliceBound, asIntOf, Sem.run_bind, run_underlying hT, Result.andThen_ok, Sem.run_pure, hb, if_true, sizeOf, typeInfo, Int.toNat_natCast]
  simp [hi, hsz, slSub, hb, hb2]
  intro h9; omega
theorem N_slice {x y z : Operand} {v : Value} {dl : List Nat} {k k' : IntKind} {i i' : Int} {zv : Value} {b : Nat} (T : ElT P t e zv b) (hg : gd ops ρ g = some true) (hd : Nat.blt d n = true)
    (hx : ev ρ x = some v) (hy : ev ρ y = some (.int k i)) (hz : ev ρ z = some (.int k' i')) (hs : Nl w v dl) (l m : Nat) (hl : i = (l : Int)) (hm : i' = (m : Int)) (hlm : l ≤ m) (hle : m ≤ dl.length)
    (h : WL P n ops rest K ((d, slSub v l m) :: ρ) w) :
    WL P n ops (⟨some d, .slice t x (some y) (some z) none, ty, pos, after, g⟩ :: rest) K ρ w := by
  obtain ⟨inf, h1, h2, _⟩ := T.info
  exact O_slice T.sl h1 h2 hg hd hx hy hz hs.sl l m hl hm hlm (by simpa using hle) h
/-- An element of a part: the pointer leads into the whole row. -/
theorem N_indexV {x ix : Operand} {v : Value} {dl : List Nat} {k : IntKind} {i : Int} {zv : Value} {b : Nat} (T : ElT P t e zv b) (l m : Nat)
    (hg : gd ops ρ g = some true) (hd : Nat.blt d n = true) (hx : ev ρ x = some (slSub v l m)) (hix : ev ρ ix = some (.int k i)) (hs : Nl w v dl) (hlm : l ≤ m) (hm : m ≤ dl.length) (j : Nat) (hj : i = (j : Int)) (hlt : l + j < m)
    (h : WL P n ops rest K ((d, .pointer (some (slAt v (l + j)))) :: ρ) w) :
    WL P n ops (⟨some d, .indexAddr t x ix, ty, pos, after, g⟩ :: rest) K ρ w := by
  refine N_index T hg hd hx hix (hs.sub hlm hm) j hj (by simp; omega) ?_
  rw [slAt_sub hs.sl (by simpa using hm) hlt]; exact h
end
theorem grown_extB {w w' : World} {v : Value} (h : w.grownBy w' v.ownBlock) : ExtB (vblk v) w w' := by
  refine ⟨h.os, h.tape, h.output, h.size, fun k hk hne => h.block k hk ?_⟩
  intro e
  unfold Value.ownBlock at e
  split at e
  · rename_i a l c
    simp at e
    exact hne (by first | exact e | exact e.symm)
  · cases e
/-! 'append' to a row without room: nothing that was there turns. -/
theorem run_append_zero {P : Program} {w : World} {t ty e : TypeId} {inf : TypeInfo} {a : Addr} {b : Option Addr} {n c : Nat} (hT : P.underlying t = some (.slice e)) (hi : P.info? e = some inf) (hn : 0 < n) (hbm : n * inf.bytes ≤ 281474976710656) (hby : inf.bytes ≠ 0) :
    (Builtin.append_ #[t, t] ty #[.slice (some a) 0 0, .slice b n c]).run P w = (Builtin.append_ #[t, t] ty #[.slice none 0 0, .slice b n c]).run P w := by
  have hl : ∀ w, (Builtin.firstCells inf.size 0 (.slice (some a) 0 0)).run P w = .ok #[] w := by intro w; simp [Builtin.firstCells, loadCells, loadCellsFrom]
  have hl2 : ∀ w, (Builtin.firstCells inf.size 0 (.slice none 0 0)).run P w = .ok #[] w := by intro w; simp [Builtin.firstCells]
  have hb2 : ¬ (281474976710656 < Builtin.nextslicecap n 0 * inf.bytes) := by
    have : Builtin.nextslicecap n 0 = n := by unfold Builtin.nextslicecap; rw [if_pos (by omega)]
    rw [this]; omega
  have hn2 : ¬ n = 0 := by omega
  simp [Builtin.append_, run_underlying hT, sizeOf, typeInfo, hi, Builtin.lenOf, hn2, hby, hb2, hl, hl2]
section
variable {P : Program} {n : Nat} {K : Rho → World → Prop} {ρ : Rho} {w : World} {ops rest : List Oper}
variable {ty : TypeId} {pos : String} {after : Array Edge} {g : Option (Nat × Bool)} {d : Nat} {t e : TypeId}
theorem O_append0 {x y : Operand} {B : Nat} {v v2 : Value} {vs2 : List Value} {z : Value} {bytes : Nat} {inf : TypeInfo} (hT : P.underlying t = some (.slice e)) (hi : P.info? e = some inf) (hz : inf.zero = some z) (hzc : z.cells.size = 1) (hsz : inf.size = 1) (hby : inf.bytes = bytes) (hby0 : bytes ≠ 0)
    (hg : gd ops ρ g = some true) (hd : Nat.blt d n = true) (hx : ev ρ x = some v) (hy : ev ρ y = some v2) (ho : Own B e w v []) (hv0 : ∃ a, v = .slice a 0 0) (h2 : SlV w v2 vs2) (h1 : ∀ u ∈ vs2, u.oneCell' = true)
    (hm : vs2.length ≤ 1073741824) (hbm : bytes ≤ 64) (hB : B ≤ w.heap.size)
    (h : ∀ v' w', Own B e w' v' vs2 → Ext w w' → WL P n ops rest K ((d, v') :: ρ) w') :
    WL P n ops (⟨some d, .call { callee := .builtin .append, args := #[x, y], argTypes := #[t, t] }, ty, pos, after, g⟩ :: rest) K ρ w := by
  obtain ⟨a, cap, rfl, hle, hcm, hnone, hcells⟩ := h2
  obtain ⟨a0, rfl⟩ := hv0
  have hb1 : vs2.length * bytes ≤ 1073741824 * 64 := Nat.mul_le_mul hm hbm
  rcases Nat.eq_zero_or_pos vs2.length with h0 | h0
  · have hnil : vs2 = [] := List.eq_nil_of_length_eq_zero h0
    subst hnil
    have hr : (Builtin.append_ #[t, t] ty #[.slice a0 0 0, .slice a 0 cap]).run P w = .ok (.slice a0 0 0) w := by
      cases a0 <;> cases a <;> simp [Builtin.append_, run_underlying hT, sizeOf, typeInfo, hi, Builtin.lenOf, Builtin.firstCells, storeCells, loadCells, loadCellsFrom]
    exact WL_val rfl hg hd (fun c hc => by simp [execOp, resolve, invoke, builtin, hc.eval hx, hc.eval hy, hr]) (h _ _ ho (Ext.refl _))
  · have hrun : (Builtin.append_ #[t, t] ty #[.slice a0 0 0, .slice a vs2.length cap]).run P w = (Builtin.append_ #[t, t] ty #[.slice none 0 0, .slice a vs2.length cap]).run P w := by
      cases a0 with
      | none => rfl
      | some a0 => exact run_append_zero hT hi h0 (by rw [hby]; omega) (by rw [hby]; exact hby0)
    cases a with
    | none => have := hnone rfl; omega
    | some ad =>
      obtain ⟨v', w', h1', h2', h3', _⟩ := run_append_own (P := P) w B t ty e inf z 1 bytes hT hi hz hsz hby hzc (by omega) (.slice none 0 0) 0 [] (by simpa [Own] using Own.nil B e w) ad vs2.length cap vs2 (by simp)
        (fun j u hu => by obtain ⟨x, hx, hc⟩ := hcells j u hu; cases hx; exact hc) h1 (by simp only [maxLen]; omega) (by rw [Nat.zero_add]; omega) hB
      rw [h1'] at hrun
      refine WL_val rfl hg hd (fun c hc => by simp [execOp, resolve, invoke, builtin, hc.eval hx, hc.eval hy, hrun]) (h v' w' (by simpa [Own] using h2') ?_)
      exact grown_ext h3' (Ext.refl _) (fun k hk => by simp [Value.ownBlock] at hk)
/-- An own empty row without room. -/
def NoZ (E : TypeId) : Nat → Nat → Value → World → Prop := fun a _ v w => No a E w v [] ∧ ∃ x, v = .slice x 0 0
theorem NoZ.mono {E : TypeId} : (Kn.rel (NoZ E)).Mono := fun _ _ _ _ _ he h => ⟨h.1.ext he, h.2⟩
/-- An own row, from block B on. -/
def NoB (B : Nat) (E : TypeId) (l : List Nat) : Nat → Nat → Value → World → Prop := fun _ _ v w => No B E w v l
theorem NoB.mono {B : Nat} {E : TypeId} {l : List Nat} : (Kn.rel (NoB B E l)).Mono := fun _ _ _ _ _ he h => No.ext h he
theorem N_append0 {x y : Operand} {B : Nat} {v v2 : Value} {l2 : List Nat} {z : Value} {bytes : Nat} (T : ElT P t e z bytes) (hzc : z.cells.size = 1) (hbm : bytes ≤ 64) (hby0 : bytes ≠ 0) (hg : gd ops ρ g = some true) (hd : Nat.blt d n = true) (hx : ev ρ x = some v) (hy : ev ρ y = some v2)
    (ho : No B e w v []) (hv0 : ∃ a, v = .slice a 0 0) (h2 : Nl w v2 l2) (hm : l2.length ≤ 1073741824) (hB : B ≤ w.heap.size)
    (h : ∀ v' w', No B e w' v' l2 → Ext w w' → WL P n ops rest K ((d, v') :: ρ) w') :
    WL P n ops (⟨some d, .call { callee := .builtin .append, args := #[x, y], argTypes := #[t, t] }, ty, pos, after, g⟩ :: rest) K ρ w := by
  obtain ⟨inf, h1, h2', h3, h4⟩ := T.info
  exact O_append0 T.sl h1 h3 hzc h2' h4 hby0 hg hd hx hy ho.own hv0 h2.sl (fun u hu => by obtain ⟨q, _, rfl⟩ := List.mem_map.1 hu; rfl) (by simpa using hm) hbm hB (fun v' w' ho' he => h v' w' ⟨ho', h2.d⟩ he)
theorem N_litZ {z : Value} {b : Nat} (T : ElT P t e z b) (hg : gd ops ρ g = some true) (hd : Nat.blt d n = true)
    (h : ∀ v w', No w.heap.size e w' v [] → (∃ a, v = .slice a 0 0) → Ext w w' → WL P n ops rest K ((d, v) :: ρ) w') :
    WL P n ops (⟨some d, .buildSlice t 0 #[], ty, pos, after, g⟩ :: rest) K ρ w := by
  obtain ⟨inf, h1, h2, h3, h4⟩ := T.info
  refine WL_val rfl hg hd (v := .slice (some ⟨w.heap.size, 0, none⟩) 0 0) (w' := w.alloc (.cells #[] e)) (fun c hc => ?_) (h _ _ ⟨⟨rfl, .inr ⟨w.heap.size, 0, #[], rfl, Nat.le_refl _, heap_alloc_new w _, by simp, by simp, by simp, by simp⟩⟩, D.nil⟩ ⟨_, rfl⟩ (Ext.alloc w _))
  simp [execOp, Instr.buildSlice, run_underlying T.sl, sizeOf, typeInfo, h1, h2, Instr.fill, newRow, Array.range_zero']
/-- An operation whose guard was passed over itself. -/
theorem O_skipU {op : Op} {j t : Nat} {want : Bool} (hj : (ops[j]?).bind (·.dst) = some t) (hl : look ρ t = some undef) (hd : Nat.blt d n = true) (h : WL P n ops rest K ((d, undef) :: ρ) w) :
    WL P n ops (⟨some d, op, ty, pos, after, some (j, want)⟩ :: rest) K ρ w := by
  intro a ha Q hQ
  unfold wpList
  have hw : Region.wanted ⟨some d, op, ty, pos, after, some (j, want)⟩ (yielded ops.toArray a.tmps) = false := by
    have hv := ha.at_ t undef hl
    simp [Region.wanted, yielded, hj, hv, undef]
  rw [if_neg (by rw [hw]; simp)]
  exact h _ (ha.put hd undef) Q hQ
end
/-- A pointer to a cell with this value. -/
def PtR (u : Value) : Nat → Nat → Value → World → Prop := fun _ _ v w => ∃ p, v = .pointer (some p) ∧ w.cell? p = some u
theorem PtR.mono {u : Value} : (Kn.rel (PtR u)).Mono := fun _ _ _ _ _ he ⟨p, h1, h2⟩ => ⟨p, h1, he.cell h2⟩
end Go.Proofs.YtnfnadhbjdcbnaaDoor
