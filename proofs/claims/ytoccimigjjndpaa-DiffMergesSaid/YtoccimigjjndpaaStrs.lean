/-
  Operations on strings, fields of struct values, nil checks, boxes of one cell.
-/
import Derived.Test.YtoccimigjjndpaaAnyE
import Derived.Test.YtoccimigjjndpaaTree
set_option linter.unusedVariables false
set_option linter.unusedSimpArgs false
namespace Go.Proofs.Ytoccimigjjndpaa
open Go Go.RowKit
theorem bl_leq (a b : List UInt8) : (Op.bytesLess a b || a == b) = !Op.bytesLess b a := by
  rcases bl_tri a b with h | h | h
  · have h2 : Op.bytesLess b a = false := by
      cases h3 : Op.bytesLess b a with
      | false => rfl
      | true => have := bl_trans h h3; rw [bl_irrefl] at this; cases this
    rw [h, h2]; rfl
  · subst h; simp [bl_irrefl]
  · have h2 : Op.bytesLess a b = false := by
      cases h3 : Op.bytesLess a b with
      | false => rfl
      | true => have := bl_trans h h3; rw [bl_irrefl] at this; cases this
    have h4 : (a == b) = false := by
      cases h3 : a == b with
      | false => rfl
      | true => rw [beq_iff_eq] at h3; subst h3; rw [bl_irrefl] at h; cases h
    rw [h, h2, h4]; rfl
/-- A field of one cell: its place. -/
def FvT (P : Program) (t : TypeId) (f off : Nat) : Prop := ∃ fs fd ds, P.underlying t = some (.struct fs) ∧ fs[f]? = some fd ∧ fd.offset = off ∧ P.underlying fd.type = some ds ∧ (match ds with | .struct _ | .array _ _ => false | _ => true) = true
def fvB (P : Program) (t : TypeId) (f : Nat) : Option (Nat × Bool) :=
  match P.underlying t with
  | some (.struct fs) => match fs[f]? with
    | some fd => match P.underlying fd.type with
      | some ds => some (fd.offset, match ds with | .struct _ | .array _ _ => false | _ => true)
      | none => none
    | none => none
  | _ => none
theorem FvT.mk' {P : Program} {t : TypeId} {f off : Nat} (h : fvB P t f = some (off, true)) : FvT P t f off := by
  unfold fvB at h
  split at h
  · rename_i fs hfs
    split at h
    · rename_i fd hfd
      split at h
      · rename_i ds hds
        simp only [Option.some.injEq, Prod.mk.injEq] at h
        exact ⟨fs, fd, ds, hfs, hfd, h.1, hds, h.2⟩
      · cases h
    · cases h
  · cases h
section
variable {P : Program} {n : Nat} {K : Rho → World → Prop} {ρ : Rho} {w : World} {ops rest : List Oper}
variable {ty : TypeId} {pos : String} {after : Array Edge} {g : Option (Nat × Bool)} {d : Nat} {xt yt : TypeId} {x y : Operand} {a b : ByteArray}
theorem O_slss (hg : gd ops ρ g = some true) (hd : Nat.blt d n = true) (hx : ev ρ x = some (.string a)) (hy : ev ρ y = some (.string b)) (h : WL P n ops rest K ((d, .bool (nlt a b)) :: ρ) w) :
    WL P n ops (⟨some d, .binOp .lss xt x y yt, ty, pos, after, g⟩ :: rest) K ρ w :=
  WL_val rfl hg hd (fun c hc => by simp [execOp, hc.eval hx, hc.eval hy, eqGuard, binOp, Op.stringOp, nlt]) h
theorem O_sgtr (hg : gd ops ρ g = some true) (hd : Nat.blt d n = true) (hx : ev ρ x = some (.string a)) (hy : ev ρ y = some (.string b)) (h : WL P n ops rest K ((d, .bool (nlt b a)) :: ρ) w) :
    WL P n ops (⟨some d, .binOp .gtr xt x y yt, ty, pos, after, g⟩ :: rest) K ρ w :=
  WL_val rfl hg hd (fun c hc => by
    have e : nlt b a = !(Op.bytesLess a.toList b.toList || a.toList == b.toList) := by rw [bl_leq]; simp [nlt]
    rw [e]
    simp [execOp, hc.eval hx, hc.eval hy, eqGuard, binOp, Op.stringOp]) h
theorem O_sleq (hg : gd ops ρ g = some true) (hd : Nat.blt d n = true) (hx : ev ρ x = some (.string a)) (hy : ev ρ y = some (.string b)) (h : WL P n ops rest K ((d, .bool (!nlt b a)) :: ρ) w) :
    WL P n ops (⟨some d, .binOp .leq xt x y yt, ty, pos, after, g⟩ :: rest) K ρ w :=
  WL_val rfl hg hd (fun c hc => by
    have e : (!nlt b a) = (Op.bytesLess a.toList b.toList || a.toList == b.toList) := by rw [bl_leq]; rfl
    rw [e]
    simp [execOp, hc.eval hx, hc.eval hy, eqGuard, binOp, Op.stringOp]) h
theorem O_sgeq (hg : gd ops ρ g = some true) (hd : Nat.blt d n = true) (hx : ev ρ x = some (.string a)) (hy : ev ρ y = some (.string b)) (h : WL P n ops rest K ((d, .bool (!nlt a b)) :: ρ) w) :
    WL P n ops (⟨some d, .binOp .geq xt x y yt, ty, pos, after, g⟩ :: rest) K ρ w :=
  WL_val rfl hg hd (fun c hc => by simp [execOp, hc.eval hx, hc.eval hy, eqGuard, binOp, Op.stringOp, nlt]) h
theorem toList_beq (a b : ByteArray) : (a.toList == b.toList) = decide (a = b) := by
  by_cases h : a = b
  · subst h; simp
  · have : ¬ a.toList = b.toList := fun e => h (toList_inj e)
    rw [decide_eq_false h]
    cases hb : a.toList == b.toList with
    | false => rfl
    | true => rw [beq_iff_eq] at hb; exact absurd hb this
theorem O_seql (hg : gd ops ρ g = some true) (hd : Nat.blt d n = true) (hx : ev ρ x = some (.string a)) (hy : ev ρ y = some (.string b)) (h : WL P n ops rest K ((d, .bool (decide (a = b))) :: ρ) w) :
    WL P n ops (⟨some d, .binOp .eql xt x y yt, ty, pos, after, g⟩ :: rest) K ρ w :=
  WL_val rfl hg hd (fun c hc => by rw [← toList_beq]; simp [execOp, hc.eval hx, hc.eval hy, eqGuard, binOp, Op.stringOp]) h
theorem O_sneq (hg : gd ops ρ g = some true) (hd : Nat.blt d n = true) (hx : ev ρ x = some (.string a)) (hy : ev ρ y = some (.string b)) (h : WL P n ops rest K ((d, .bool (!decide (a = b))) :: ρ) w) :
    WL P n ops (⟨some d, .binOp .neq xt x y yt, ty, pos, after, g⟩ :: rest) K ρ w :=
  WL_val rfl hg hd (fun c hc => by rw [← toList_beq]; simp [execOp, hc.eval hx, hc.eval hy, eqGuard, binOp, Op.stringOp, bne]) h
theorem O_nilCheck {p : Addr} (hg : gd ops ρ g = some true) (hd : Nat.blt d n = true) (hx : ev ρ x = some (.pointer (some p))) (h : WL P n ops rest K ((d, .pointer (some p)) :: ρ) w) :
    WL P n ops (⟨some d, .nilCheck x, ty, pos, after, g⟩ :: rest) K ρ w :=
  WL_val rfl hg hd (fun c hc => by simp [execOp, hc.eval hx]) h
/-- A field of one cell of a struct value. -/
theorem O_fieldV {f off : Nat} {cs : List Value} {u : Value} {t : TypeId} (F : FvT P t f off) (hg : gd ops ρ g = some true) (hd : Nat.blt d n = true) (hx : ev ρ x = some (.agg cs.toArray)) (hu : cs[off]? = some u)
    (h : WL P n ops rest K ((d, u) :: ρ) w) : WL P n ops (⟨some d, .field t x f, ty, pos, after, g⟩ :: rest) K ρ w := by
  obtain ⟨fs, fd, ds, h1, h2, h3, h4, h5⟩ := F
  refine WL_val rfl hg hd (fun c hc => ?_) h
  cases ds <;> simp at h5 <;> simp [execOp, hc.eval hx, Instr.field, run_underlying h1, h2, asAgg, part, isAgg, run_underlying h4, h3, hu]
end
end Go.Proofs.Ytoccimigjjndpaa
