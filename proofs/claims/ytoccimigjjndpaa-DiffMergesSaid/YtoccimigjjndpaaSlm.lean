/-
  Slices of one-cell elements of any kind; bytes to texts.
-/
import Derived.Test.YtoccimigjjndpaaGrow
import Derived.Laws.BytesArg
set_option linter.unusedVariables false
set_option linter.unusedSimpArgs false
namespace Go.Proofs.Ytoccimigjjndpaa
open Go Go.RowKit
abbrev fI : Int → Value := fun i => .int .i64 i
abbrev fB : Int → Value := fun i => .int .u8 i
abbrev fV : Value → Value := fun v => v
abbrev fS : ByteArray → Value := fun s => .string s
section
variable {α : Type} {f : α → Value} {w w' w0 : World} {v : Value} {l l2 : List α} {B B' : Nat} {e : TypeId} {S : List TypeId}
/-- The slice v reads as these. -/
def SlM (f : α → Value) (w : World) (v : Value) (l : List α) : Prop := SlV w v (l.map f)
/-- A row of one's own, of these. -/
def OwM (f : α → Value) (B : Nat) (e : TypeId) (w : World) (v : Value) (l : List α) : Prop := Own B e w v (l.map f)
theorem ExtT.chgNew {b : Nat} (h : ExtT S w0 w) (hc : Chg b w w') (hb : w0.heap.size ≤ b) : ExtT S w0 w' :=
  ⟨Nat.le_trans h.size (Nat.le_of_eq hc.size.symm), fun k cs e hk he => by
    have hlt : k < w0.heap.size := by
      rcases Nat.lt_or_ge k w0.heap.size with j | j
      · exact j
      · rw [Array.getElem?_eq_none j] at hk; cases hk
    exact (hc.block k (by omega)).trans (h.block k cs e hk he)⟩
theorem SlM.nil (w : World) : SlM f w (.slice none 0 0) [] := SlV.nil w
theorem SlM.ext (h : SlM f w v l) (he : Ext w w') : SlM f w' v l := SlV.ext h he
theorem SlM.cell (h : SlM f w v l) {j : Nat} (hj : j < l.length) : w.cell? (slAt v j) = some (f l[j]) := SlV.cell h (by simp [hj])
theorem OwM.nil (B : Nat) (e : TypeId) (w : World) : OwM f B e w (.slice none 0 0) [] := Own.nil B e w
theorem OwM.ext (h : OwM f B e w v l) (he : Ext w w') : OwM f B e w' v l := Own.ext h he
theorem OwM.extT (h : OwM f B e w v l) (he : ExtT S w w') (hs : e ∉ S) : OwM f B e w' v l := Own.extT h he hs
theorem OwM.mono (h : OwM f B e w v l) (hb : B' ≤ B) : OwM f B' e w v l := Own.mono h hb
theorem OwM.sl (h : OwM f B e w v l) : SlM f w v l := Own.sl h
theorem OwM.one (h : OwM f B e w v l) : v.oneCell' = true := by
  obtain ⟨_, h2⟩ := h
  rcases h2 with ⟨rfl, _⟩ | ⟨g, cap, cur, rfl, _⟩ <;> rfl
theorem SlM.one (h : SlM f w v l) : v.oneCell' = true := by obtain ⟨a, cap, rfl, _⟩ := h; rfl
theorem OwM.cells1 (h : OwM f B e w v l) : v.cells = #[v] := cells1_of_one h.one
theorem SlM.cells1 (h : SlM f w v l) : v.cells = #[v] := cells1_of_one h.one
theorem OwM.grownT (h : OwM f B e w v l) (hg : w.grownBy w' v.ownBlock) : ExtT [e] w w' := Own.grownT h hg
theorem OwM.ext_grown (h : OwM f B e w v l) (hg : w.grownBy w' v.ownBlock) (he : Ext w0 w) (hB : w0.heap.size ≤ B) : Ext w0 w' :=
  grown_ext hg he (fun k hk => Nat.le_trans hB (Own.row h k hk))
theorem OwM.chg {b : Nat} (h : OwM f B e w v l) {T : TypeId} {cs : List Value} (hc : Chg b w w') (hb : Bk w b T cs) (hne : e ∉ [T]) : OwM f B e w' v l := h.extT (hc.toT hb) hne
end
section
variable {α : Type} {f : α → Value}
variable {P : Program} {n : Nat} {K : Rho → World → Prop} {ρ : Rho} {w : World} {ops rest : List Oper}
variable {ty : TypeId} {pos : String} {after : Array Edge} {g : Option (Nat × Bool)} {d : Nat} {t e : TypeId} {z : Value} {bytes : Nat} {l l2 : List α}
theorem M_len {x : Operand} {v : Value} (T : ElT P t e z bytes) (hg : gd ops ρ g = some true) (hd : Nat.blt d n = true) (hx : ev ρ x = some v) (hs : SlM f w v l)
    (h : WL P n ops rest K ((d, .int .i64 (l.length : Nat)) :: ρ) w) :
    WL P n ops (⟨some d, .call { callee := .builtin .len, args := #[x], argTypes := #[t] }, ty, pos, after, g⟩ :: rest) K ρ w :=
  V_len T hg hd hx hs (by rw [List.length_map]; exact h)
theorem M_index {x ix : Operand} {v : Value} {k : IntKind} {i : Int} (T : ElT P t e z bytes)
    (hg : gd ops ρ g = some true) (hd : Nat.blt d n = true) (hx : ev ρ x = some v) (hix : ev ρ ix = some (.int k i)) (hs : SlM f w v l) (j : Nat) (hj : i = (j : Int)) (hlt : j < l.length)
    (h : WL P n ops rest K ((d, .pointer (some (slAt v j))) :: ρ) w) :
    WL P n ops (⟨some d, .indexAddr t x ix, ty, pos, after, g⟩ :: rest) K ρ w :=
  V_index T hg hd hx hix hs j hj (by rw [List.length_map]; exact hlt) h
theorem M_indexAt {w1 : World} {x ix : Operand} {v : Value} {k : IntKind} {i : Int} (T : ElT P t e z bytes)
    (hg : gd ops ρ g = some true) (hd : Nat.blt d n = true) (hx : ev ρ x = some v) (hix : ev ρ ix = some (.int k i)) (hs : SlM f w1 v l) (j : Nat) (hj : i = (j : Int)) (hlt : j < l.length)
    (h : WL P n ops rest K ((d, .pointer (some (slAt v j))) :: ρ) w) :
    WL P n ops (⟨some d, .indexAddr t x ix, ty, pos, after, g⟩ :: rest) K ρ w := by
  obtain ⟨inf, hi, hsz, _⟩ := T.info
  obtain ⟨a, cap, rfl, h2, h3, h4, h5⟩ := hs
  have hlt' : j < (l.map f).length := by rw [List.length_map]; exact hlt
  obtain ⟨p, rfl, _⟩ := h5 j (l.map f)[j] (by simp [hlt])
  subst hj
  refine WL_val rfl hg hd (fun c hc => ?_) h
  have h0 : (0 : Int) ≤ (j : Int) ∧ (j : Int) < ((l.map f).length : Int) := by omega
  have h9 : ¬ (l.map f).length ≤ j := by omega
  simp only [List.length_map] at h0 h9
  simp [execOp, hc.eval hx, hc.eval hix, Instr.indexAt, asIntOf, run_underlying T.sl, sizeOf, typeInfo, hi, hsz, h0, slAt, h9]
theorem M_load {x : Operand} {v : Value} {j : Nat} {ds : TypeDesc} (hT : P.underlying t = some ds) (hna : (match ds with | .struct _ | .array _ _ => false | _ => true) = true) (hg : gd ops ρ g = some true) (hd : Nat.blt d n = true)
    (hx : ev ρ x = some (.pointer (some (slAt v j)))) (hs : SlM f w v l) (hj : j < l.length) (h : WL P n ops rest K ((d, f l[j]) :: ρ) w) :
    WL P n ops (⟨some d, .load t x, ty, pos, after, g⟩ :: rest) K ρ w :=
  O_load hT hna hg hd hx (hs.cell hj) h
theorem M_lit {len : Nat} {parts : List (Nat × Operand)} (T : ElT P t e z bytes) (hg : gd ops ρ g = some true) (hd : Nat.blt d n = true) (f : α → Value) (l : List α) (hone : ∀ a ∈ l, (f a).oneCell' = true) (hlen : l.length = len) (hsm : Nat.ble len 1000 = true) (hpos : Nat.blt 0 len = true)
    (hp : evs ρ (parts.map (·.2)) = some (l.map f)) (hi : parts.map (·.1) = List.range len)
    (h : ∀ v w', OwM f w.heap.size e w' v l → Ext w w' → WL P n ops rest K ((d, v) :: ρ) w') :
    WL P n ops (⟨some d, .buildSlice t len parts.toArray, ty, pos, after, g⟩ :: rest) K ρ w := by
  subst hlen
  have hsm1 : l.length ≤ 1000 := by simpa using hsm
  have hpos1 : 0 < l.length := by simpa [Nat.blt_eq] using hpos
  obtain ⟨inf, h1, h2, h3, h4⟩ := T.info
  have hone' : ∀ u ∈ l.map f, u.cells = #[u] := fun u hu => by obtain ⟨q, hq, rfl⟩ := List.mem_map.1 hu; exact cells1_of_one (hone q hq)
  refine WL_val rfl hg hd (v := .slice (some ⟨w.heap.size, 0, none⟩) l.length l.length) (w' := w.alloc (.cells (l.map f).toArray e)) (fun c hc => ?_)
    (h _ _ ⟨by simp, .inr ⟨w.heap.size, l.length, _, by simp, Nat.le_refl _, heap_alloc_new w _, by simp, by simp only [maxLen]; omega, by simp, by rw [List.take_of_length_le (by simp)]⟩⟩ (Ext.alloc w _))
  have hz : (parts.toArray.map fun x => (x.1, c.eval x.2)).toList = (List.range' 0 (l.map f).length).zip (l.map f) := by
    have he := hc.evals hp
    have : (parts.toArray.map fun x => (x.1, c.eval x.2)).toList = (parts.map (·.1)).zip ((parts.map (·.2)).map c.eval) := by
      simp [List.zip_map', List.map_map, Function.comp_def]
    rw [this, he, hi, List.range_eq_range']; simp
  have hf := fun (cells : Array Value) (hs : cells.size = l.length) => fill_range (l.map f) 0 cells hone' (by simp [hs])
  have hrange : ∀ x : Array Value, ((Array.range (l.length * 1)).map fun i => x[i % x.size]!).size = l.length := by intro x; simp
  have hsm' : ¬ (l.length > 2 ^ 24) := by omega
  have hm : (parts.toArray.map fun x => match x with | (i, x) => (i, c.eval x)) = (parts.toArray.map fun x => (x.1, c.eval x.2)) := rfl
  have h0 : ¬ l.length = 0 := by omega
  have hf1 := hf (((Array.range (l.length * 1)).map fun i => z.cells[i % z.cells.size]!)) (hrange z.cells)
  rw [← hz] at hf1
  simp at hf1
  simp only [execOp, hm, Instr.buildSlice, Sem.run_bind, run_underlying T.sl, Result.andThen_ok, sizeOf, typeInfo, run_program, h1, h2, Sem.run_pure, Nat.mul_one, hsm', h0, if_false, zeroValue, h3, newRow]
  simp [hf1, newRow]
theorem M_append {x y : Operand} {B : Nat} {v v2 : Value} (T : ElT P t e z bytes) (hzc : Nat.beq z.cells.size 1 = true)
    (hg : gd ops ρ g = some true) (hd : Nat.blt d n = true) (hx : ev ρ x = some v) (hy : ev ρ y = some v2) (ho : OwM f B e w v l) (h2 : SlM f w v2 l2) (hne : l2 ≠ []) (h1 : ∀ a ∈ l2, (f a).oneCell' = true)
    (hm : l.length + l2.length ≤ 1073741824) (hbm : Nat.ble bytes 64 = true) (hB : B ≤ w.heap.size)
    (h : ∀ v' w', OwM f B e w' v' (l ++ l2) → w.grownBy w' v.ownBlock → SlM f w' v l → WL P n ops rest K ((d, v') :: ρ) w') :
    WL P n ops (⟨some d, .call { callee := .builtin .append, args := #[x, y], argTypes := #[t, t] }, ty, pos, after, g⟩ :: rest) K ρ w :=
  O_appendOld T hzc hg hd hx hy ho h2 (by simpa using hne) (fun u hu => by obtain ⟨a, ha, rfl⟩ := List.mem_map.1 hu; exact h1 a ha) (by rw [List.length_map, List.length_map]; exact hm) hbm hB
    fun v' w' a b c => h v' w' (by unfold OwM; rw [List.map_append]; exact a) b c
/-- Bytes to a text. -/
theorem M_toStr {x : Operand} {v : Value} {e : TypeId} {yt : TypeId} {l : List Int} (hs : P.underlying t = some (.slice e)) (he : P.underlying e = some (.int .u8)) (hd' : P.underlying yt = some .string) (hg : gd ops ρ g = some true) (hd : Nat.blt d n = true) (hx : ev ρ x = some v) (hl : SlM fB w v l)
    (h : WL P n ops rest K ((d, .string ⟨(l.map fun n => UInt8.ofNat n.toNat).toArray⟩) :: ρ) w) :
    WL P n ops (⟨some d, .convert t yt x, ty, pos, after, g⟩ :: rest) K ρ w := by
  obtain ⟨a, cap, rfl, h2, h3, h4, h5⟩ := hl
  rw [List.length_map] at *
  refine WL_val rfl hg hd (fun c hc => ?_) h
  cases a with
  | none =>
    have h0 := h4 rfl
    have : l = [] := List.eq_nil_of_length_eq_zero (by omega)
    subst this
    simp [execOp, hc.eval hx, run_convert_bytes_nil w t e hs he _ _ yt hd']
    rfl
  | some ad =>
    have hc' : ∀ j u, (l.map fB)[j]? = some u → w.cell? (ad.add j) = some u := fun j u hu => by obtain ⟨x, hx, hc⟩ := h5 j u hu; cases hx; exact hc
    have hl := run_loadCells_list (P := P) w ad (l.map (Value.int .u8)) hc'
    rw [List.length_map] at hl
    have hr : (convert t yt (.slice (some ad) l.length cap)).run P w = .ok (.string ⟨(l.map fun n => UInt8.ofNat n.toNat).toArray⟩) w := by
      rw [run_convert_bytes_string w t yt e _ l.length cap hs he hd', run_bytesToString w ad l.length cap l hl, foldl_push_bytes]
      simp [ByteArray.empty, ByteArray.emptyWithCapacity]
      rfl
    simp [execOp, hc.eval hx, hr]
theorem M_toStrX {x : Operand} {v : Value} {e : TypeId} {yt : TypeId} {l : List Int} (hs : P.underlying t = some (.slice e)) (he : P.underlying e = some (.int .u8)) (hd' : P.underlying yt = some .string) (hg : gd ops ρ g = some true) (hd : Nat.blt d n = true) (hx : ev ρ x = some v) (hl : SlM fB w v l)
    (h : ∀ s : ByteArray, s.size = l.length → WL P n ops rest K ((d, .string s) :: ρ) w) :
    WL P n ops (⟨some d, .convert t yt x, ty, pos, after, g⟩ :: rest) K ρ w := M_toStr hs he hd' hg hd hx hl (h _ (by simp [ByteArray.size]))
end
end Go.Proofs.Ytoccimigjjndpaa
