/-
  Slices of bindings; equality of bindings.
-/
import Derived.Test.YtoccimigjjndpaaForest
set_option linter.unusedVariables false
set_option linter.unusedSimpArgs false
namespace Go.Proofs.Ytoccimigjjndpaa
open Go Go.RowKit
def bcells (b : Bd) : List Value := [.string b.1, .int .i64 b.2]
/-- The slice v reads as these bindings. -/
def SlB (w : World) (v : Value) (l : Env) : Prop := SlK 2 w v (l.map bcells)
/-- A row of one's own, of these bindings. -/
def OwB (B : Nat) (w : World) (v : Value) (l : Env) : Prop := OwnK 2 B 54 w v (l.map bcells)
theorem bcells_one {l : Env} : ∀ r ∈ l.map bcells, ∀ u ∈ r, u.oneCell' = true := by
  intro r hr u hu
  obtain ⟨b, _, rfl⟩ := List.mem_map.1 hr
  simp only [bcells, List.mem_cons, List.not_mem_nil, or_false] at hu
  rcases hu with rfl | rfl <;> rfl
section
variable {w w' w0 : World} {v : Value} {l l' : Env} {B B' : Nat} {M : Nat → Prop}
theorem SlB.nil (w : World) : SlB w (.slice none 0 0) [] := SlK.nil 2 w
theorem SlB.ext (h : SlB w v l) (he : Ext w w') : SlB w' v l := SlK.ext h he
theorem SlB.extP (h : SlB w v l) (he : ExtP M w w') (hb : l ≠ [] → ¬ M (vblk v)) : SlB w' v l := SlK.extP h he fun hn => hb fun e => hn (by rw [e]; rfl)
theorem OwB.nil (B : Nat) (w : World) : OwB B w (.slice none 0 0) [] := OwnK.nil 2 B _ w
theorem OwB.ext (h : OwB B w v l) (he : Ext w w') : OwB B w' v l := OwnK.ext h he
theorem OwB.extP (h : OwB B w v l) (he : ExtP M w w') (hb : ∀ k, v.ownBlock = some k → ¬ M k) : OwB B w' v l := OwnK.extP h he hb
theorem OwB.mono (h : OwB B w v l) (hb : B' ≤ B) : OwB B' w v l := OwnK.mono h hb
theorem OwB.sl (h : OwB B w v l) : SlB w v l := OwnK.sl h
theorem OwB.lt (h : OwB B w v l) : ∀ k, v.ownBlock = some k → B ≤ k ∧ k < w.heap.size := OwnK.lt h
theorem OwB.one (h : OwB B w v l) : v.oneCell' = true := OwnK.one h
theorem cells1_of_one {v : Value} (h : v.oneCell' = true) : v.cells = #[v] := by cases v <;> first | rfl | cases h
theorem OwB.cells1 (h : OwB B w v l) : v.cells = #[v] := cells1_of_one h.one
theorem SlB.one (h : SlB w v l) : v.oneCell' = true := by obtain ⟨a, cap, rfl, _⟩ := h; rfl
theorem SlB.cells1 (h : SlB w v l) : v.cells = #[v] := cells1_of_one h.one
theorem SlB.le (h : SlB w v l) : l.length ≤ maxLen := by have := SlK.le h; rwa [List.length_map] at this
theorem OwB.ext_grown (h : OwB B w v l) (hg : w.grownBy w' v.ownBlock) (he : Ext w0 w) (hB : w0.heap.size ≤ B) : Ext w0 w' :=
  (World.grownBy.toP (M := fun k => v.ownBlock = some k) hg fun k hk => hk).ext he fun k hk => Nat.le_trans hB (h.lt k hk).1
end
section
variable {P : Program} {n : Nat} {K : Rho → World → Prop} {ρ : Rho} {w : World} {ops rest : List Oper}
variable {ty : TypeId} {pos : String} {after : Array Edge} {g : Option (Nat × Bool)} {d : Nat} {t : TypeId} {zs : List Value} {bytes : Nat} {l l2 : Env}
theorem B_len {x : Operand} {v : Value} {e : TypeId} (T : EkT P t e 2 zs bytes) (hg : gd ops ρ g = some true) (hd : Nat.blt d n = true) (hx : ev ρ x = some v) (hs : SlB w v l)
    (h : WL P n ops rest K ((d, .int .i64 (l.length : Nat)) :: ρ) w) :
    WL P n ops (⟨some d, .call { callee := .builtin .len, args := #[x], argTypes := #[t] }, ty, pos, after, g⟩ :: rest) K ρ w :=
  K_len T hg hd hx hs (by rw [List.length_map]; exact h)
theorem B_index {x ix : Operand} {v : Value} {k : IntKind} {i : Int} {e : TypeId} (T : EkT P t e 2 zs bytes)
    (hg : gd ops ρ g = some true) (hd : Nat.blt d n = true) (hx : ev ρ x = some v) (hix : ev ρ ix = some (.int k i)) (hs : SlB w v l) (j : Nat) (hj : i = (j : Int)) (hlt : j < l.length)
    (h : CellsAt w (slAt v (j * 2)) (bcells l[j]) → WL P n ops rest K ((d, .pointer (some (slAt v (j * 2)))) :: ρ) w) :
    WL P n ops (⟨some d, .indexAddr t x ix, ty, pos, after, g⟩ :: rest) K ρ w :=
  K_index T hg hd hx hix hs j hj (by rw [List.length_map]; exact hlt) fun p hp hc => by subst hp; rw [List.getElem_map] at hc; exact h hc
/-- A load of one cell at an address. -/
theorem B_cell {x : Operand} {p : Addr} {off : Nat} {cs : List Value} {u : Value} {ds : TypeDesc} (hu : P.underlying t = some ds) (ha : (match ds with | .struct _ | .array _ _ => false | _ => true) = true) (hg : gd ops ρ g = some true) (hd : Nat.blt d n = true) (hx : ev ρ x = some (.pointer (some (p.add off))))
    (hc : CellsAt w p cs) (hcs : cs[off]? = some u) (h : WL P n ops rest K ((d, u) :: ρ) w) : WL P n ops (⟨some d, .load t x, ty, pos, after, g⟩ :: rest) K ρ w :=
  O_load hu ha hg hd hx (hc off u hcs) h
theorem B_append {x y : Operand} {B : Nat} {v v2 : Value} {t0 : TypeId} (T : EkT P t0 54 2 zs bytes) (hg : gd ops ρ g = some true) (hd : Nat.blt d n = true)
    (hx : ev ρ x = some v) (hy : ev ρ y = some v2) (ho : OwB B w v l) (h2 : SlB w v2 l2) (hm : l.length + l2.length ≤ 1073741824) (hbm : Nat.ble bytes 1024 = true) (hB : B ≤ w.heap.size)
    (h : ∀ v' w', OwB B w' v' (l ++ l2) → w.grownBy w' v.ownBlock → (v'.ownBlock = v.ownBlock ∨ v'.ownBlock = some w.heap.size) → WL P n ops rest K ((d, v') :: ρ) w') :
    WL P n ops (⟨some d, .call { callee := .builtin .append, args := #[x, y], argTypes := #[t0, t0] }, ty, pos, after, g⟩ :: rest) K ρ w :=
  K_append T rfl hg hd hx hy ho h2 bcells_one (by rw [List.length_map, List.length_map]; exact hm) hbm hB fun v' w' h1 h3 h4 => h v' w' (by unfold OwB; rw [List.map_append]; exact h1) h3 h4
theorem B_lit1 {x : Operand} {b : Bd} {t0 : TypeId} (T : EkT P t0 54 2 zs bytes) (hg : gd ops ρ g = some true) (hd : Nat.blt d n = true) (hx : ev ρ x = some (.agg (bcells b).toArray))
    (h : ∀ v w', OwB w.heap.size w' v [b] → Ext w w' → WL P n ops rest K ((d, v) :: ρ) w') :
    WL P n ops (⟨some d, .buildSlice t0 1 #[(0, x)], ty, pos, after, g⟩ :: rest) K ρ w :=
  K_lit1 T rfl rfl hg hd hx rfl fun v w' _ h2 _ _ h5 => h v w' h5 h2
theorem B_lit0 {t0 : TypeId} (T : EkT P t0 54 2 zs bytes) (hg : gd ops ρ g = some true) (hd : Nat.blt d n = true)
    (h : ∀ v w', OwB w.heap.size w' v [] → Ext w w' → WL P n ops rest K ((d, v) :: ρ) w') :
    WL P n ops (⟨some d, .buildSlice t0 0 #[], ty, pos, after, g⟩ :: rest) K ρ w := by
  obtain ⟨inf, h1, h2, h3, h4, h5⟩ := T.info
  refine WL_val rfl hg hd (v := .slice (some ⟨w.heap.size, 0, none⟩) 0 0) (w' := w.alloc (.cells #[] _)) (fun c hc => ?_) (h _ _ ⟨⟨by simp, .inr ⟨w.heap.size, 0, #[], rfl, Nat.le_refl _, heap_alloc_new w _, by simp, by simp, by simp, by simp⟩⟩, fun r hr => by cases hr⟩ (Ext.alloc w _))
  simp [execOp, Instr.buildSlice, run_underlying T.sl, sizeOf, typeInfo, h1, h2, h3, zeroValue, Value.cells, Instr.fill, newRow, Array.range_zero']
theorem B_sliceTo {x u : Operand} {v : Value} {k' : IntKind} {i' : Int} {e : TypeId} (T : EkT P t e 2 zs bytes) (hg : gd ops ρ g = some true) (hd : Nat.blt d n = true)
    (hx : ev ρ x = some v) (hu : ev ρ u = some (.int k' i')) (hs : SlB w v l) (m : Nat) (hm : i' = (m : Int)) (hle : m ≤ l.length)
    (h : ∀ v', SlB w v' (l.take m) → vblk v' = vblk v → WL P n ops rest K ((d, v') :: ρ) w) :
    WL P n ops (⟨some d, .slice t x none (some u) none, ty, pos, after, g⟩ :: rest) K ρ w :=
  K_sliceTo T hg hd hx hu hs m hm (by rw [List.length_map]; exact hle) (h _ (by unfold SlB; rw [List.map_take]; exact SlK.take hs m (by rw [List.length_map]; exact hle)) (by obtain ⟨a, cap, rfl, _⟩ := hs; cases a <;> rfl))
theorem B_sliceFrom {x y : Operand} {v : Value} {k : IntKind} {i : Int} {e : TypeId} (T : EkT P t e 2 zs bytes) (hg : gd ops ρ g = some true) (hd : Nat.blt d n = true)
    (hx : ev ρ x = some v) (hy : ev ρ y = some (.int k i)) (hs : SlB w v l) (m : Nat) (hm : i = (m : Int)) (hle : m ≤ l.length)
    (h : ∀ v', SlB w v' (l.drop m) → vblk v' = vblk v → WL P n ops rest K ((d, v') :: ρ) w) :
    WL P n ops (⟨some d, .slice t x (some y) none none, ty, pos, after, g⟩ :: rest) K ρ w :=
  K_sliceFrom T (by decide) hg hd hx hy hs m hm (by rw [List.length_map]; exact hle) fun v' h1 h2 => h v' (by unfold SlB; rw [List.map_drop]; exact h1) h2
end

/-! ### Equality of bindings -/
structure EqT2 (P : Program) (t : TypeId) : Prop where
  st : ∃ f0 f1 k i0 i1, P.underlying t = some (.struct #[f0, f1]) ∧ f0.name ≠ "_" ∧ f1.name ≠ "_" ∧ P.underlying f0.type = some .string ∧ P.underlying f1.type = some (.int k) ∧ f0.offset = 0 ∧ f1.offset = 1 ∧ P.info? f0.type = some i0 ∧ P.info? f1.type = some i1
  held : P.stoodInHeld t = false
  gt : P.eqGuardType P.depth t = false
def eqB2 (P : Program) (t : TypeId) : Bool :=
  match P.underlying t with
  | some (.struct fs) => match fs.toList with
    | [f0, f1] => f0.name != "_" && f1.name != "_" && (match P.underlying f0.type with | some .string => true | _ => false) && (match P.underlying f1.type with | some (.int _) => true | _ => false) && f0.offset == 0 && f1.offset == 1 && (P.info? f0.type).isSome && (P.info? f1.type).isSome && !P.stoodInHeld t && !P.eqGuardType P.depth t
    | _ => false
  | _ => false
theorem EqT2.mk' {P : Program} {t : TypeId} (h : eqB2 P t = true) : EqT2 P t := by
  unfold eqB2 at h
  split at h
  · rename_i fs hfs
    split at h
    · rename_i f0 f1 hl
      simp only [Bool.and_eq_true, bne_iff_ne, ne_eq, beq_iff_eq, Bool.not_eq_true', Option.isSome_iff_exists] at h
      obtain ⟨⟨⟨⟨⟨⟨⟨⟨⟨h1, h2⟩, h3⟩, h4⟩, h5⟩, h6⟩, ⟨i0, h7⟩⟩, ⟨i1, h8⟩⟩, h9⟩, h10⟩ := h
      have hfs' : fs = #[f0, f1] := by rw [← hl]
      subst hfs'
      split at h3
      · rename_i h3'
        split at h4
        · rename_i k h4'
          exact ⟨⟨f0, f1, k, i0, i1, hfs, h1, h2, h3', h4', h5, h6, h7, h8⟩, h9, h10⟩
        · cases h4
      · cases h3
    · cases h
  · cases h
theorem ba_beq (a b : ByteArray) : (a == b) = decide (a = b) := by
  cases a with | mk a => cases b with | mk b =>
  rw [Bool.eq_iff_iff]
  simp only [decide_eq_true_eq, ByteArray.mk.injEq]
  exact beq_iff_eq (a := a) (b := b)
theorem run_equalIn_str {P : Program} {w : World} (dd : Nat) {t : TypeId} (h : P.underlying t = some .string) (a b : ByteArray) : (Op.equalIn (dd + 1) t (.string a) (.string b)).run P w = .ok (a == b) w := by
  simp [Op.equalIn, run_underlying h]
theorem run_equalIn_int {P : Program} {w : World} (dd : Nat) {t : TypeId} {k : IntKind} (h : P.underlying t = some (.int k)) (k' : IntKind) (a b : Int) : (Op.equalIn (dd + 1) t (.int k' a) (.int k' b)).run P w = .ok (a == b) w := by
  simp [Op.equalIn, run_underlying h]
theorem run_equalIn_bind {P : Program} {w : World} {t : TypeId} (E : EqT2 P t) (dd : Nat) (a b : Bd) : (Op.equalIn (dd + 1 + 1) t (.agg (bcells a).toArray) (.agg (bcells b).toArray)).run P w = .ok (decide (a = b)) w := by
  obtain ⟨⟨f0, f1, k, i0, i1, h1, h2, h3, h4, h5, h6, h7, h8, h9⟩, h10, h11⟩ := E
  obtain ⟨a1, a2⟩ := a
  obtain ⟨b1, b2⟩ := b
  have e : decide ((a1, a2) = (b1, b2)) = (a1 == b1 && a2 == b2) := by rw [Bool.eq_iff_iff, ba_beq]; simp
  rw [e]
  have q1 := fun w => run_equalIn_str (P := P) (w := w) dd h4 a1 b1
  have q2 := fun w => run_equalIn_int (P := P) (w := w) dd h5 .i64 a2 b2
  rw [Op.equalIn]
  generalize Op.equalIn (dd + 1) = F at q1 q2 ⊢
  simp [run_underlying h1, run_underlying h4, run_underlying h5, h10, h2, h3, part, isAgg, h6, h7, bcells, run_program, q1, q2]
  cases h12 : a1 == b1 <;> cases h13 : a2 == b2 <;> simp_all
theorem run_equal_bind {P : Program} {w : World} {t : TypeId} (E : EqT2 P t) (a b : Bd) : (Op.equal t (.agg (bcells a).toArray) (.agg (bcells b).toArray)).run P w = .ok (decide (a = b)) w := run_equalIn_bind E 9998 a b
section
variable {P : Program} {n : Nat} {K : Rho → World → Prop} {ρ : Rho} {w : World} {ops rest : List Oper}
variable {ty : TypeId} {pos : String} {after : Array Edge} {g : Option (Nat × Bool)} {d : Nat} {t yt : TypeId} {a b : Bd} {x y : Operand}
theorem run_guard_bind (E : EqT2 P t) (op : BinOp) : (eqGuard op t x y (.agg (bcells a).toArray) (.agg (bcells b).toArray)).run P w = .ok () w := by
  unfold eqGuard
  cases op <;> simp [E.gt, run_program]
theorem B_neq (E : EqT2 P t) (hg : gd ops ρ g = some true) (hd : Nat.blt d n = true) (hx : ev ρ x = some (.agg (bcells a).toArray)) (hy : ev ρ y = some (.agg (bcells b).toArray)) (h : WL P n ops rest K ((d, .bool (!decide (a = b))) :: ρ) w) :
    WL P n ops (⟨some d, .binOp .neq t x y yt, ty, pos, after, g⟩ :: rest) K ρ w := by
  refine WL_val rfl hg hd (fun c hc => ?_) h
  have hr : (binOp .neq t (.agg (bcells a).toArray) (.agg (bcells b).toArray)).run P w = .ok (.bool (!decide (a = b))) w := by
    simp only [binOp, Sem.run_bind, run_equal_bind E, Result.andThen_ok, Sem.run_pure]
  simp only [execOp, hc.eval hx, hc.eval hy, Sem.run_bind, run_guard_bind E, hr, Result.andThen_ok, Sem.run_pure]
end
theorem SlB.row {w : World} {v : Value} {l : Env} (h : SlB w v l) {j : Nat} (hlt : j < l.length) : CellsAt w (slAt v (j * 2)) (bcells l[j]) := by
  have := (SlK.at_ (i := j) (row := bcells l[j]) h (by simp [hlt])).2
  exact this
section
variable {P : Program} {n : Nat} {K : Rho → World → Prop} {ρ : Rho} {w : World} {ops rest : List Oper}
variable {ty : TypeId} {pos : String} {after : Array Edge} {g : Option (Nat × Bool)} {d : Nat} {xt yt : TypeId} {x y : Operand} {a b : ByteArray} {t : Bool}
theorem O_seqlB (hg : gd ops ρ g = some true) (hd : Nat.blt d n = true) (hx : ev ρ x = some (.string a)) (hy : ev ρ y = some (.string b)) (ht : decide (a = b) = t) (h : WL P n ops rest K ((d, .bool t) :: ρ) w) :
    WL P n ops (⟨some d, .binOp .eql xt x y yt, ty, pos, after, g⟩ :: rest) K ρ w := O_seql hg hd hx hy (by rw [ht]; exact h)
end
/-- The name is there. -/
def egot (l : Env) (s : ByteArray) : Prop := (l[eat l s]?).map (·.1) = some s
instance (l : Env) (s : ByteArray) : Decidable (egot l s) := by unfold egot; exact inferInstance
theorem egot_lt {l : Env} {s : ByteArray} (h : egot l s) : eat l s < l.length := by
  unfold egot at h
  cases hq : l[eat l s]? with
  | none => rw [hq] at h; cases h
  | some b => exact (List.getElem?_eq_some_iff.1 hq).1
theorem eat_step {s : ByteArray} : ∀ {l : Env} {i : Nat}, i ≤ eat l s → (h : i < l.length) → nlt l[i].1 s = true → i + 1 ≤ eat l s
  | a :: l, 0, _, _, h => by simp only [List.getElem_cons_zero] at h; simp only [eat, if_pos h]; omega
  | a :: l, i + 1, h1, h2, h3 => by
    simp only [List.getElem_cons_succ] at h3
    simp only [eat] at h1 ⊢
    split at h1
    · rename_i h4
      have := eat_step (l := l) (i := i) (by omega) (by simpa using h2) h3
      rw [if_pos h4]; omega
    · omega
theorem eat_stop {s : ByteArray} : ∀ {l : Env} {i : Nat}, i ≤ eat l s → (h : i < l.length) → nlt l[i].1 s = false → i = eat l s
  | a :: l, 0, _, _, h => by simp only [List.getElem_cons_zero] at h; simp [eat, h]
  | a :: l, i + 1, h1, h2, h3 => by
    simp only [List.getElem_cons_succ] at h3
    simp only [eat] at h1 ⊢
    split at h1
    · rename_i h4
      have := eat_stop (l := l) (i := i) (by omega) (by simpa using h2) h3
      rw [if_pos h4]; omega
    · omega
theorem eat_end {l : Env} {s : ByteArray} {i : Nat} (h : i ≤ eat l s) (h2 : ¬ i < l.length) : i = eat l s := by have := eat_le l s; omega
theorem egot_of {l : Env} {s : ByteArray} {i : Nat} (h : i = eat l s) (hlt : i < l.length) (hq : l[i].1 = s) : egot l s := by
  subst h; unfold egot; rw [List.getElem?_eq_getElem hlt]; simp [hq]
theorem egot_not {l : Env} {s : ByteArray} {i : Nat} (h : i = eat l s) (hlt : i < l.length) (hq : ¬ l[i].1 = s) : ¬ egot l s := by
  subst h; unfold egot; rw [List.getElem?_eq_getElem hlt]; simp [hq]
theorem egot_get {l : Env} {s : ByteArray} (h : egot l s) : eget l s = some (l[eat l s]'(egot_lt h)).2 := by
  rw [eget_at, if_pos (show (l[eat l s]?).map (·.1) = some s from h), List.getElem?_eq_getElem (egot_lt h)]; rfl
theorem egot_none {l : Env} {s : ByteArray} (h : ¬ egot l s) : eget l s = none := by rw [eget_at, if_neg (show ¬ (l[eat l s]?).map (·.1) = some s from h)]
theorem egot_iff {l : Env} {s : ByteArray} : egot l s ↔ eget l s ≠ none := ⟨fun h => by rw [egot_get h]; simp, fun h => by
  by_cases hq : egot l s
  · exact hq
  · exact absurd (egot_none hq) h⟩
theorem egot_eset {l : Env} {s : ByteArray} {n : Int} (h : egot l s) : eset l s n = l.take (eat l s) ++ [(s, n)] ++ l.drop (eat l s + 1) := by
  rw [eset_at, if_pos (show (l[eat l s]?).map (·.1) = some s from h)]; simp
theorem egot_eset' {l : Env} {s : ByteArray} {n : Int} (h : ¬ egot l s) : eset l s n = l.take (eat l s) ++ [(s, n)] ++ l.drop (eat l s) := by
  rw [eset_at, if_neg (show ¬ (l[eat l s]?).map (·.1) = some s from h)]; simp
theorem egot_edrop {l : Env} {s : ByteArray} (h : egot l s) : edrop l s = [] ++ l.take (eat l s) ++ l.drop (eat l s + 1) := by
  rw [edrop_at, if_pos (show (l[eat l s]?).map (·.1) = some s from h)]; simp
theorem same_step {l1 l2 : Env} {i : Nat} (h : l1.take i = l2.take i) (h1 : i < l1.length) (h2 : i < l2.length) (he : l1[i] = l2[i]) : l1.take (i + 1) = l2.take (i + 1) := by
  rw [List.take_add_one, List.take_add_one, h, List.getElem?_eq_getElem h1, List.getElem?_eq_getElem h2, he]
theorem same_end {l1 l2 : Env} {i : Nat} (h : l1.take i = l2.take i) (h1 : ¬ (i : Int) < (l1.length : Nat)) (hi : i ≤ l1.length) : decide (((l1.length : Nat) : Int) = (l2.length : Nat)) = decide (l1 = l2) := by
  have e : i = l1.length := by omega
  subst e
  rw [decide_eq_decide]
  constructor
  · intro hl
    have hl' : l1.length = l2.length := by omega
    rw [List.take_length, hl', List.take_length] at h
    exact h
  · rintro rfl; rfl
/-- Rows made one out of the other in a region. -/
def XB (w : World) (l1 l2 l3 : Env) : List Value → World → Prop
  | [], w' => Ext w w'
  | [v], w' => Ext w w' ∧ OwB w.heap.size w' v l1
  | [_, v], w' => Ext w w' ∧ OwB w.heap.size w' v l2
  | [_, _, v], w' => Ext w w' ∧ OwB w.heap.size w' v l3
  | _, _ => False
theorem XB.ext {w : World} {l1 l2 l3 : Env} : ∀ vs w', XB w l1 l2 l3 vs w' → Ext w w'
  | [], _, h => h
  | [_], _, h => h.1
  | [_, _], _, h => h.1
  | [_, _, _], _, h => h.1
  | _ :: _ :: _ :: _ :: _, _, h => h.elim
theorem len3 {vs : List Value} (h : vs.length = 3) : ∃ v u x, vs = [v, u, x] := by
  cases vs with
  | nil => simp at h
  | cons v vs =>
    obtain ⟨u, x, rfl⟩ := len2 (vs := vs) (by simpa using h)
    exact ⟨v, u, x, rfl⟩
theorem SlK.takeB {w : World} {v : Value} {l : Env} (h : SlB w v l) (m : Nat) (hm : m ≤ l.length) : SlB w (slTake v m) (l.take m) := by
  unfold SlB; rw [List.map_take]; exact SlK.take h m (by rw [List.length_map]; exact hm)
theorem SlK.dropB {w : World} {v : Value} {l : Env} (h : SlB w v l) (m : Nat) (hm : m ≤ l.length) : SlB w (slSubK 2 v m l.length) (l.drop m) := by
  have := SlK.sub (z := 2) h (l := m) (m := l.length) hm (by rw [List.length_map]; exact Nat.le_refl _)
  unfold SlB; rw [List.map_drop]; rw [show (l.map bcells).take l.length = l.map bcells from by rw [← List.length_map (f := bcells), List.take_length]] at this; exact this
section
variable {P : Program} {n : Nat} {K : Rho → World → Prop} {ρ : Rho} {w : World} {ops rest : List Oper}
variable {ty : TypeId} {pos : String} {after : Array Edge} {g : Option (Nat × Bool)} {d : Nat} {t : TypeId} {zs : List Value} {bytes : Nat} {l : Env}
theorem B_sliceToV {x u : Operand} {v : Value} {k' : IntKind} {i' : Int} {e : TypeId} (T : EkT P t e 2 zs bytes) (hg : gd ops ρ g = some true) (hd : Nat.blt d n = true)
    (hx : ev ρ x = some v) (hu : ev ρ u = some (.int k' i')) (hs : SlB w v l) (m : Nat) (hm : i' = (m : Int)) (hle : m ≤ l.length)
    (h : WL P n ops rest K ((d, slTake v m) :: ρ) w) :
    WL P n ops (⟨some d, .slice t x none (some u) none, ty, pos, after, g⟩ :: rest) K ρ w :=
  K_sliceTo T hg hd hx hu hs m hm (by rw [List.length_map]; exact hle) h
theorem B_sliceFromV {x y : Operand} {v : Value} {k : IntKind} {i : Int} {e : TypeId} (T : EkT P t e 2 zs bytes) (hg : gd ops ρ g = some true) (hd : Nat.blt d n = true)
    (hx : ev ρ x = some v) (hy : ev ρ y = some (.int k i)) (hs : SlB w v l) (m : Nat) (hm : i = (m : Int)) (hle : m ≤ l.length)
    (h : WL P n ops rest K ((d, slSubK 2 v m l.length) :: ρ) w) :
    WL P n ops (⟨some d, .slice t x (some y) none none, ty, pos, after, g⟩ :: rest) K ρ w := by
  obtain ⟨inf, hi, hsz, _⟩ := T.info
  obtain ⟨a, cap, rfl, h2, h3, h4, h5⟩ := hs
  subst hm
  rw [List.length_map] at *
  refine WL_val rfl hg hd (fun c hc => ?_) h
  have hb2 : (0 : Int) ≤ (m : Int) ∧ (m : Int) ≤ (l.length : Int) := by omega
  have hb3 : (l.length : Int) ≤ (cap : Int) := by omega
  have hb4 : (0 : Int) ≤ (l.length : Int) := by omega
  simp only [execOp, hc.eval hx, hc.eval hy, Option.map_some, Option.map_none, Instr.sliceAt, Instr.slice, Instr.sliceBounds, Instr.sliceBound, asIntOf, Sem.run_bind, run_underlying T.sl, Result.andThen_ok, Sem.run_pure, if_true, sizeOf, typeInfo, Int.toNat_natCast]
  simp [hi, hsz, slSubK, hb2, hb3, hb4]
theorem B_neqB {a b : Bd} {x y : Operand} {yt : TypeId} {tb : Bool} (E : EqT2 P t) (hg : gd ops ρ g = some true) (hd : Nat.blt d n = true) (hx : ev ρ x = some (.agg (bcells a).toArray)) (hy : ev ρ y = some (.agg (bcells b).toArray)) (ht : (!decide (a = b)) = tb) (h : WL P n ops rest K ((d, .bool tb) :: ρ) w) :
    WL P n ops (⟨some d, .binOp .neq t x y yt, ty, pos, after, g⟩ :: rest) K ρ w := B_neq E hg hd hx hy (by rw [ht]; exact h)
end
theorem Qbind : EqT2 Try.prog 54 := EqT2.mk' (by kernel_rfl)
end Go.Proofs.Ytoccimigjjndpaa
