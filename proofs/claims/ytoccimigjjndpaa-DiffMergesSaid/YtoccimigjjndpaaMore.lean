/-
  Lengths and sums of texts, pointers beside nil, rows of parts.
-/
import Derived.Test.YtoccimigjjndpaaGrow
set_option linter.unusedVariables false
set_option linter.unusedSimpArgs false
namespace Go.Proofs.Ytoccimigjjndpaa
open Go Go.RowKit
section
variable {P : Program} {n : Nat} {K : Rho → World → Prop} {ρ : Rho} {w : World} {ops rest : List Oper}
variable {ty : TypeId} {pos : String} {after : Array Edge} {gd_ : Option (Nat × Bool)} {d : Nat} {t : TypeId}
theorem O_lenS {x : Operand} {s : ByteArray} (hT : P.underlying t = some .string) (hg : gd ops ρ gd_ = some true) (hd : Nat.blt d n = true) (hx : ev ρ x = some (.string s))
    (h : WL P n ops rest K ((d, .int .i64 (s.size : Nat)) :: ρ) w) :
    WL P n ops (⟨some d, .call { callee := .builtin .len, args := #[x], argTypes := #[t] }, ty, pos, after, gd_⟩ :: rest) K ρ w :=
  WL_val rfl hg hd (fun c hc => by simp [execOp, resolve, invoke, builtin, hc.eval hx, Builtin.len_, run_underlying hT, goInt]) h
theorem O_saddX {x y : Operand} {yt : TypeId} {a b : ByteArray} (hg : gd ops ρ gd_ = some true) (hd : Nat.blt d n = true) (hx : ev ρ x = some (.string a)) (hy : ev ρ y = some (.string b)) (hs : a.size + b.size ≤ 9223372036854775807) (h : WL P n ops rest K ((d, .string (a ++ b)) :: ρ) w) :
    WL P n ops (⟨some d, .binOp .add t x y yt, ty, pos, after, gd_⟩ :: rest) K ρ w :=
  WL_val rfl hg hd (fun c hc => by
    have h9 : ¬ (((a.size + b.size : Nat) : Int) > IntKind.i64.max) := by simp [IntKind.max, IntKind.bits, IntKind.signed]; omega
    simp [execOp, hc.eval hx, hc.eval hy, eqGuard, binOp, Op.stringOp] at h9 ⊢
    simp [h9]) h
theorem run_equalIn_ptr {e : TypeId} {a : Addr} (dd : Nat) (h : P.underlying t = some (.pointer e)) : (Op.equalIn (dd + 1) t (.pointer (some a)) (.pointer none)).run P w = .ok false w := by
  simp [Op.equalIn, run_underlying h]
theorem O_ptrnil {e : TypeId} {x : Operand} {yt : TypeId} {a : Addr} (hT : P.underlying t = some (.pointer e)) (hg : gd ops ρ gd_ = some true) (hd : Nat.blt d n = true) (hx : ev ρ x = some (.pointer (some a)))
    (h : WL P n ops rest K ((d, .bool false) :: ρ) w) :
    WL P n ops (⟨some d, .binOp .eql t x (.const (.pointer none)) yt, ty, pos, after, gd_⟩ :: rest) K ρ w := by
  refine WL_val rfl hg hd (fun c hc => ?_) h
  have hr : (Op.equal t (.pointer (some a)) (.pointer none)).run P w = .ok false w := run_equalIn_ptr 9999 hT
  have he : c.eval (.const (.pointer none)) = .pointer none := rfl
  simp [execOp, hc.eval hx, he, eqGuard, binOp, hr]
theorem K_lit0 {t0 e : TypeId} {z bytes : Nat} {zs : List Value} (T : EkT P t0 e z zs bytes) (hg : gd ops ρ gd_ = some true) (hd : Nat.blt d n = true)
    (h : ∀ v w', OwnK z w.heap.size e w' v [] → Ext w w' → WL P n ops rest K ((d, v) :: ρ) w') :
    WL P n ops (⟨some d, .buildSlice t0 0 #[], ty, pos, after, gd_⟩ :: rest) K ρ w := by
  obtain ⟨inf, h1, h2, h3, h4, h5⟩ := T.info
  refine WL_val rfl hg hd (v := .slice (some ⟨w.heap.size, 0, none⟩) 0 0) (w' := w.alloc (.cells #[] _)) (fun c hc => ?_) (h _ _ ⟨⟨by simp, .inr ⟨w.heap.size, 0, #[], rfl, Nat.le_refl _, heap_alloc_new w _, by simp, by simp, by simp, by simp⟩⟩, fun r hr => by cases hr⟩ (Ext.alloc w _))
  simp [execOp, Instr.buildSlice, run_underlying T.sl, sizeOf, typeInfo, h1, h2, h3, zeroValue, Value.cells, Instr.fill, newRow, Array.range_zero']
end
theorem pcells_one {ps : List Part} : ∀ r ∈ ps.map pcells, ∀ u ∈ r, u.oneCell' = true := by
  intro r hr u hu
  obtain ⟨b, _, rfl⟩ := List.mem_map.1 hr
  simp only [pcells, List.mem_cons, List.not_mem_nil, or_false] at hu
  rcases hu with rfl | rfl | rfl | rfl | rfl | rfl <;> rfl
theorem OwnK.cells1 {z B : Nat} {e : TypeId} {w : World} {v : Value} {rows : List (List Value)} (h : OwnK z B e w v rows) : v.cells = #[v] := cells1_of_one h.one
theorem SlB.take_blk {w : World} {v : Value} {l : Env} (h : SlB w v l) (m : Nat) : vblk (slTake v m) = vblk v := by obtain ⟨a, cap, rfl, _⟩ := h; cases a <;> rfl
theorem SlB.drop_blk {w : World} {v : Value} {l : Env} (h : SlB w v l) (a b : Nat) : vblk (slSubK 2 v a b) = vblk v := slSubK_blk h a b
theorem SlB.blk_lt {w : World} {v : Value} {l : Env} (h : SlB w v l) (hn : l ≠ []) : vblk v < w.heap.size := SlK.blk_lt h (by decide) (by simpa using hn)
/-- Ascending, looked at one by one. -/
theorem asc_of : ∀ {l : Env}, (∀ i (h : i + 1 < l.length), nlt l[i].1 (l[i + 1]'h).1 = true) → Asc l
  | [], _ => trivial
  | [a], _ => trivial
  | a :: b :: l, h => ⟨h 0 (by simp), asc_of (l := b :: l) fun i hi => h (i + 1) (by simpa using hi)⟩
end Go.Proofs.Ytoccimigjjndpaa
