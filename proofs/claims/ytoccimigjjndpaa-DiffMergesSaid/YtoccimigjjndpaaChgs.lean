/-
  Slices of changes (rows of four cells); equality of changes.
-/
import Derived.Test.YtoccimigjjndpaaEnvs
set_option linter.unusedVariables false
set_option linter.unusedSimpArgs false
namespace Go.Proofs.Ytoccimigjjndpaa
open Go Go.RowKit
abbrev Ch := Int × ByteArray × Int × Int
def ccells (b : Ch) : List Value := [.int .i64 b.1, .string b.2.1, .int .i64 b.2.2.1, .int .i64 b.2.2.2]
/-- The slice v reads as these changes. -/
def SlC (w : World) (v : Value) (l : List Ch) : Prop := SlK 4 w v (l.map ccells)
/-- A row of one's own, of these changes. -/
def OwC (B : Nat) (w : World) (v : Value) (l : List Ch) : Prop := OwnK 4 B 74 w v (l.map ccells)
theorem ccells_one {l : List Ch} : ∀ r ∈ l.map ccells, ∀ u ∈ r, u.oneCell' = true := by
  intro r hr u hu
  obtain ⟨b, _, rfl⟩ := List.mem_map.1 hr
  simp only [ccells, List.mem_cons, List.not_mem_nil, or_false] at hu
  rcases hu with rfl | rfl | rfl | rfl <;> rfl
section
variable {w w' w0 : World} {v : Value} {l l' : List Ch} {B B' : Nat} {M : Nat → Prop}
theorem SlC.nil (w : World) : SlC w (.slice none 0 0) [] := SlK.nil 4 w
theorem SlC.ext (h : SlC w v l) (he : Ext w w') : SlC w' v l := SlK.ext h he
theorem SlC.extP (h : SlC w v l) (he : ExtP M w w') (hb : l ≠ [] → ¬ M (vblk v)) : SlC w' v l := SlK.extP h he fun hn => hb fun e => hn (by rw [e]; rfl)
theorem OwC.nil (B : Nat) (w : World) : OwC B w (.slice none 0 0) [] := OwnK.nil 4 B _ w
theorem OwC.ext (h : OwC B w v l) (he : Ext w w') : OwC B w' v l := OwnK.ext h he
theorem OwC.extP (h : OwC B w v l) (he : ExtP M w w') (hb : ∀ k, v.ownBlock = some k → ¬ M k) : OwC B w' v l := OwnK.extP h he hb
theorem OwC.mono (h : OwC B w v l) (hb : B' ≤ B) : OwC B' w v l := OwnK.mono h hb
theorem OwC.sl (h : OwC B w v l) : SlC w v l := OwnK.sl h
theorem OwC.lt (h : OwC B w v l) : ∀ k, v.ownBlock = some k → B ≤ k ∧ k < w.heap.size := OwnK.lt h
theorem OwC.one (h : OwC B w v l) : v.oneCell' = true := OwnK.one h
theorem OwC.cells1 (h : OwC B w v l) : v.cells = #[v] := cells1_of_one h.one
theorem SlC.one (h : SlC w v l) : v.oneCell' = true := by obtain ⟨a, cap, rfl, _⟩ := h; rfl
theorem SlC.cells1 (h : SlC w v l) : v.cells = #[v] := cells1_of_one h.one
theorem SlC.le (h : SlC w v l) : l.length ≤ maxLen := by have := SlK.le h; rwa [List.length_map] at this
theorem OwC.ext_grown (h : OwC B w v l) (hg : w.grownBy w' v.ownBlock) (he : Ext w0 w) (hB : w0.heap.size ≤ B) : Ext w0 w' :=
  (World.grownBy.toP (M := fun k => v.ownBlock = some k) hg fun k hk => hk).ext he fun k hk => Nat.le_trans hB (h.lt k hk).1
end
section
variable {P : Program} {n : Nat} {K : Rho → World → Prop} {ρ : Rho} {w : World} {ops rest : List Oper}
variable {ty : TypeId} {pos : String} {after : Array Edge} {g : Option (Nat × Bool)} {d : Nat} {t : TypeId} {zs : List Value} {bytes : Nat} {l l2 : List Ch}
theorem C_len {x : Operand} {v : Value} {e : TypeId} (T : EkT P t e 4 zs bytes) (hg : gd ops ρ g = some true) (hd : Nat.blt d n = true) (hx : ev ρ x = some v) (hs : SlC w v l)
    (h : WL P n ops rest K ((d, .int .i64 (l.length : Nat)) :: ρ) w) :
    WL P n ops (⟨some d, .call { callee := .builtin .len, args := #[x], argTypes := #[t] }, ty, pos, after, g⟩ :: rest) K ρ w :=
  K_len T hg hd hx hs (by rw [List.length_map]; exact h)
theorem C_index {x ix : Operand} {v : Value} {k : IntKind} {i : Int} {e : TypeId} (T : EkT P t e 4 zs bytes)
    (hg : gd ops ρ g = some true) (hd : Nat.blt d n = true) (hx : ev ρ x = some v) (hix : ev ρ ix = some (.int k i)) (hs : SlC w v l) (j : Nat) (hj : i = (j : Int)) (hlt : j < l.length)
    (h : CellsAt w (slAt v (j * 4)) (ccells l[j]) → WL P n ops rest K ((d, .pointer (some (slAt v (j * 4)))) :: ρ) w) :
    WL P n ops (⟨some d, .indexAddr t x ix, ty, pos, after, g⟩ :: rest) K ρ w :=
  K_index T hg hd hx hix hs j hj (by rw [List.length_map]; exact hlt) fun p hp hc => by subst hp; rw [List.getElem_map] at hc; exact h hc
theorem C_append {x y : Operand} {B : Nat} {v v2 : Value} {t0 : TypeId} (T : EkT P t0 74 4 zs bytes) (hg : gd ops ρ g = some true) (hd : Nat.blt d n = true)
    (hx : ev ρ x = some v) (hy : ev ρ y = some v2) (ho : OwC B w v l) (h2 : SlC w v2 l2) (hm : l.length + l2.length ≤ 1073741824) (hbm : Nat.ble bytes 1024 = true) (hB : B ≤ w.heap.size)
    (h : ∀ v' w', OwC B w' v' (l ++ l2) → w.grownBy w' v.ownBlock → (v'.ownBlock = v.ownBlock ∨ v'.ownBlock = some w.heap.size) → WL P n ops rest K ((d, v') :: ρ) w') :
    WL P n ops (⟨some d, .call { callee := .builtin .append, args := #[x, y], argTypes := #[t0, t0] }, ty, pos, after, g⟩ :: rest) K ρ w :=
  K_append T rfl hg hd hx hy ho h2 ccells_one (by rw [List.length_map, List.length_map]; exact hm) hbm hB fun v' w' h1 h3 h4 => h v' w' (by unfold OwC; rw [List.map_append]; exact h1) h3 h4
theorem C_lit1 {x : Operand} {b   : Ch} {t0 : TypeId} (T : EkT P t0 74 4 zs bytes) (hg : gd ops ρ g = some true) (hd : Nat.blt d n = true) (hx : ev ρ x = some (.agg (ccells b).toArray))
    (h : ∀ v w', OwC w.heap.size w' v [b] → Ext w w' → WL P n ops rest K ((d, v) :: ρ) w') :
    WL P n ops (⟨some d, .buildSlice t0 1 #[(0, x)], ty, pos, after, g⟩ :: rest) K ρ w :=
  K_lit1 T rfl rfl hg hd hx rfl fun v w' _ h2 _ _ h5 => h v w' h5 h2
theorem C_lit0 {t0 : TypeId} (T : EkT P t0 74 4 zs bytes) (hg : gd ops ρ g = some true) (hd : Nat.blt d n = true)
    (h : ∀ v w', OwC w.heap.size w' v [] → Ext w w' → WL P n ops rest K ((d, v) :: ρ) w') :
    WL P n ops (⟨some d, .buildSlice t0 0 #[], ty, pos, after, g⟩ :: rest) K ρ w := by
  obtain ⟨inf, h1, h2, h3, h4, h5⟩ := T.info
  refine WL_val rfl hg hd (v := .slice (some ⟨w.heap.size, 0, none⟩) 0 0) (w' := w.alloc (.cells #[] _)) (fun c hc => ?_) (h _ _ ⟨⟨by simp, .inr ⟨w.heap.size, 0, #[], rfl, Nat.le_refl _, heap_alloc_new w _, by simp, by simp, by simp, by simp⟩⟩, fun r hr => by cases hr⟩ (Ext.alloc w _))
  simp [execOp, Instr.buildSlice, run_underlying T.sl, sizeOf, typeInfo, h1, h2, h3, zeroValue, Value.cells, Instr.fill, newRow, Array.range_zero']
theorem C_sliceTo {x u : Operand} {v : Value} {k' : IntKind} {i' : Int} {e : TypeId} (T : EkT P t e 4 zs bytes) (hg : gd ops ρ g = some true) (hd : Nat.blt d n = true)
    (hx : ev ρ x = some v) (hu : ev ρ u = some (.int k' i')) (hs : SlC w v l) (m : Nat) (hm : i' = (m : Int)) (hle : m ≤ l.length)
    (h : ∀ v', SlC w v' (l.take m) → vblk v' = vblk v → WL P n ops rest K ((d, v') :: ρ) w) :
    WL P n ops (⟨some d, .slice t x none (some u) none, ty, pos, after, g⟩ :: rest) K ρ w :=
  K_sliceTo T hg hd hx hu hs m hm (by rw [List.length_map]; exact hle) (h _ (by unfold SlC; rw [List.map_take]; exact SlK.take hs m (by rw [List.length_map]; exact hle)) (by obtain ⟨a, cap, rfl, _⟩ := hs; cases a <;> rfl))
theorem C_sliceFrom {x y : Operand} {v : Value} {k : IntKind} {i : Int} {e : TypeId} (T : EkT P t e 4 zs bytes) (hg : gd ops ρ g = some true) (hd : Nat.blt d n = true)
    (hx : ev ρ x = some v) (hy : ev ρ y = some (.int k i)) (hs : SlC w v l) (m : Nat) (hm : i = (m : Int)) (hle : m ≤ l.length)
    (h : ∀ v', SlC w v' (l.drop m) → vblk v' = vblk v → WL P n ops rest K ((d, v') :: ρ) w) :
    WL P n ops (⟨some d, .slice t x (some y) none none, ty, pos, after, g⟩ :: rest) K ρ w :=
  K_sliceFrom T (by decide) hg hd hx hy hs m hm (by rw [List.length_map]; exact hle) fun v' h1 h2 => h v' (by unfold SlC; rw [List.map_drop]; exact h1) h2
end

theorem SlC.row {w : World} {v : Value} {l : List Ch} (h : SlC w v l) {j : Nat} (hlt : j < l.length) : CellsAt w (slAt v (j * 4)) (ccells l[j]) := by
  have := (SlK.at_ (i := j) (row := ccells l[j]) h (by simp [hlt])).2
  exact this
theorem Echange : EkT Try.prog 66 74 4 [.int .i64 0, .string ByteArray.empty, .int .i64 0, .int .i64 0] 40 := EkT.mk' (by kernel_rfl) rfl
/-! ### Equality of changes -/
structure EqT4 (P : Program) (t : TypeId) : Prop where
  st : ∃ f0 f1 f2 f3 k0 k2 k3 i0 i1 i2 i3, P.underlying t = some (.struct #[f0, f1, f2, f3]) ∧ (f0.name ≠ "_" ∧ f1.name ≠ "_" ∧ f2.name ≠ "_" ∧ f3.name ≠ "_") ∧ (P.underlying f0.type = some (.int k0) ∧ P.underlying f1.type = some .string ∧ P.underlying f2.type = some (.int k2) ∧ P.underlying f3.type = some (.int k3)) ∧
    (f0.offset = 0 ∧ f1.offset = 1 ∧ f2.offset = 2 ∧ f3.offset = 3) ∧ P.info? f0.type = some i0 ∧ P.info? f1.type = some i1 ∧ P.info? f2.type = some i2 ∧ P.info? f3.type = some i3
  held : P.stoodInHeld t = false
  gt : P.eqGuardType P.depth t = false
def isIntT (P : Program) (t : TypeId) : Bool := match P.underlying t with | some (.int _) => true | _ => false
theorem isIntT.of {P : Program} {t : TypeId} (h : isIntT P t = true) : ∃ k, P.underlying t = some (.int k) := by
  unfold isIntT at h; split at h
  · rename_i k hk; exact ⟨k, hk⟩
  · cases h
def isStrT (P : Program) (t : TypeId) : Bool := match P.underlying t with | some .string => true | _ => false
theorem isStrT.of {P : Program} {t : TypeId} (h : isStrT P t = true) : P.underlying t = some .string := by
  unfold isStrT at h; split at h
  · rename_i hk; exact hk
  · cases h
def eqC4 (P : Program) (t : TypeId) : Bool :=
  match P.underlying t with
  | some (.struct fs) => match fs.toList with
    | [f0, f1, f2, f3] => ((f0.name != "_" && f1.name != "_" && f2.name != "_" && f3.name != "_") && (isIntT P f0.type && isStrT P f1.type && isIntT P f2.type && isIntT P f3.type)) &&
      ((f0.offset == 0 && f1.offset == 1 && f2.offset == 2 && f3.offset == 3) && ((P.info? f0.type).isSome && (P.info? f1.type).isSome && (P.info? f2.type).isSome && (P.info? f3.type).isSome)) && (!P.stoodInHeld t && !P.eqGuardType P.depth t)
    | _ => false
  | _ => false
theorem EqT4.mk' {P : Program} {t : TypeId} (h : eqC4 P t = true) : EqT4 P t := by
  unfold eqC4 at h
  split at h
  · rename_i fs hfs
    split at h
    · rename_i f0 f1 f2 f3 hl
      simp only [Bool.and_eq_true, bne_iff_ne, ne_eq, beq_iff_eq, Bool.not_eq_true', Option.isSome_iff_exists] at h
      obtain ⟨⟨⟨⟨⟨⟨a0, a1⟩, a2⟩, a3⟩, ⟨⟨b0, b1⟩, b2⟩, b3⟩, ⟨⟨⟨c0, c1⟩, c2⟩, c3⟩, ⟨⟨⟨i0, d0⟩, ⟨i1, d1⟩⟩, ⟨i2, d2⟩⟩, ⟨i3, d3⟩⟩, h9, h10⟩ := h
      have hfs' : fs = #[f0, f1, f2, f3] := by rw [← hl]
      subst hfs'
      obtain ⟨k0, e0⟩ := isIntT.of b0
      obtain ⟨k2, e2⟩ := isIntT.of b2
      obtain ⟨k3, e3⟩ := isIntT.of b3
      exact ⟨⟨f0, f1, f2, f3, k0, k2, k3, i0, i1, i2, i3, hfs, ⟨a0, a1, a2, a3⟩, ⟨e0, isStrT.of b1, e2, e3⟩, ⟨c0, c1, c2, c3⟩, d0, d1, d2, d3⟩, h9, h10⟩
    · cases h
  · cases h
theorem run_equalIn_chg {P : Program} {w : World} {t : TypeId} (E : EqT4 P t) (dd : Nat) (a b : Ch) : (Op.equalIn (dd + 1 + 1) t (.agg (ccells a).toArray) (.agg (ccells b).toArray)).run P w = .ok (decide (a = b)) w := by
  obtain ⟨⟨f0, f1, f2, f3, k0, k2, k3, i0, i1, i2, i3, h1, ⟨n0, n1, n2, n3⟩, ⟨u0, u1, u2, u3⟩, ⟨o0, o1, o2, o3⟩, j0, j1, j2, j3⟩, h10, h11⟩ := E
  obtain ⟨a0, a1, a2, a3⟩ := a
  obtain ⟨b0, b1, b2, b3⟩ := b
  have e : decide ((a0, a1, a2, a3) = (b0, b1, b2, b3)) = (a0 == b0 && (a1 == b1 && (a2 == b2 && a3 == b3))) := by rw [Bool.eq_iff_iff, ba_beq]; simp
  rw [e]
  have q0 := fun w => run_equalIn_int (P := P) (w := w) dd u0 .i64 a0 b0
  have q1 := fun w => run_equalIn_str (P := P) (w := w) dd u1 a1 b1
  have q2 := fun w => run_equalIn_int (P := P) (w := w) dd u2 .i64 a2 b2
  have q3 := fun w => run_equalIn_int (P := P) (w := w) dd u3 .i64 a3 b3
  rw [Op.equalIn]
  generalize Op.equalIn (dd + 1) = F at q0 q1 q2 q3 ⊢
  simp [run_underlying h1, run_underlying u0, run_underlying u1, run_underlying u2, run_underlying u3, h10, n0, n1, n2, n3, o0, o1, o2, o3, part, isAgg, j0, j1, j2, j3, ccells, run_program, q0, q1, q2, q3]
  cases h12 : a0 == b0 <;> cases h13 : a1 == b1 <;> cases h14 : a2 == b2 <;> cases h15 : a3 == b3 <;> simp_all
theorem run_equal_chg {P : Program} {w : World} {t : TypeId} (E : EqT4 P t) (a b : Ch) : (Op.equal t (.agg (ccells a).toArray) (.agg (ccells b).toArray)).run P w = .ok (decide (a = b)) w := run_equalIn_chg E 9998 a b
section
variable {P : Program} {n : Nat} {K : Rho → World → Prop} {ρ : Rho} {w : World} {ops rest : List Oper}
variable {ty : TypeId} {pos : String} {after : Array Edge} {g : Option (Nat × Bool)} {d : Nat} {t yt : TypeId} {a b : Ch} {x y : Operand}
theorem run_guard_chg (E : EqT4 P t) (op : BinOp) : (eqGuard op t x y (.agg (ccells a).toArray) (.agg (ccells b).toArray)).run P w = .ok () w := by
  unfold eqGuard
  cases op <;> simp [E.gt, run_program]
theorem C_neq {tb : Bool} (E : EqT4 P t) (hg : gd ops ρ g = some true) (hd : Nat.blt d n = true) (hx : ev ρ x = some (.agg (ccells a).toArray)) (hy : ev ρ y = some (.agg (ccells b).toArray)) (ht : (!decide (a = b)) = tb) (h : WL P n ops rest K ((d, .bool tb) :: ρ) w) :
    WL P n ops (⟨some d, .binOp .neq t x y yt, ty, pos, after, g⟩ :: rest) K ρ w := by
  subst ht
  refine WL_val rfl hg hd (fun c hc => ?_) h
  have hr : (binOp .neq t (.agg (ccells a).toArray) (.agg (ccells b).toArray)).run P w = .ok (.bool (!decide (a = b))) w := by
    simp only [binOp, Sem.run_bind, run_equal_chg E, Result.andThen_ok, Sem.run_pure]
  simp only [execOp, hc.eval hx, hc.eval hy, Sem.run_bind, run_guard_chg E, hr, Result.andThen_ok, Sem.run_pure]
end
theorem Qchange : EqT4 Try.prog 74 := EqT4.mk' (by kernel_rfl)
end Go.Proofs.Ytoccimigjjndpaa
