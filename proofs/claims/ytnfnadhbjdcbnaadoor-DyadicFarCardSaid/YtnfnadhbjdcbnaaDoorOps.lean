/-
  Operations, one lemma each, over 'XBase': integers, bools, slices, calls. It says nothing of any program.
-/
import Derived.Test.YtnfnadhbjdcbnaaDoorBase
import Derived.Laws.Tables
import Derived.Laws.Rows
import Derived.Laws.Small
import Derived.Laws.Slices
import Derived.Laws.Cells
set_option linter.unusedVariables false
set_option linter.unusedSimpArgs false
namespace Go.Proofs.YtnfnadhbjdcbnaaDoor
open Go Go.RowKit

/-! ### Worlds that go on -/
/-- Of what was there nothing has turned. -/
def Ext (w w' : World) : Prop := Below w.heap.size w w'
theorem Ext.refl (w : World) : Ext w w := Below.refl _ _
theorem Ext.trans {a b c : World} (h : Ext a b) (k : Ext b c) : Ext a c := Below.trans h (k.mono h.size)
theorem Ext.size {a b : World} (h : Ext a b) : a.heap.size ≤ b.heap.size := Below.size h
theorem Ext.alloc (w : World) (o : Obj) : Ext w (w.alloc o) := (Below.refl _ _).alloc (Nat.le_refl _) o
theorem Ext.drew (w : World) : Ext w { w with drawn := w.drawn + 1 } := ⟨rfl, rfl, rfl, Nat.le_refl _, fun _ _ => rfl⟩
theorem Ext.cell {w w' : World} (h : Ext w w') {a : Addr} {v : Value} (hc : w.cell? a = some v) : w'.cell? a = some v :=
  (Below.cell h (block_lt_of_cell hc)).trans hc
theorem Ext.heap {w w' : World} (h : Ext w w') {b : Nat} {o : Obj} (hb : w.heap[b]? = some o) : w'.heap[b]? = some o := by
  have hlt : b < w.heap.size := by
    rcases Nat.lt_or_ge b w.heap.size with k | k
    · exact k
    · simp [Array.getElem?_eq_none k] at hb
  rw [Below.block h b hlt]; exact hb

/-- Block 'b' alone has turned. -/
structure Chg (b : Nat) (w w' : World) : Prop where
  os : w'.os = w.os
  tape : w'.tape = w.tape
  output : w'.output = w.output
  size : w'.heap.size = w.heap.size
  block : ∀ k, k ≠ b → w'.heap[k]? = w.heap[k]?
theorem Chg.ext {b : Nat} {w0 w w' : World} (h : Chg b w w') (he : Ext w0 w) (hb : w0.heap.size ≤ b) : Ext w0 w' :=
  ⟨h.os.trans he.os, h.tape.trans he.tape, h.output.trans he.output, by rw [h.size]; exact he.size, fun k hk => (h.block k (by omega)).trans (Below.block he k hk)⟩
theorem Chg.setCell (w : World) (p : Addr) (u : Value) : Chg p.block w (w.setCell p u) :=
  ⟨rfl, rfl, rfl, by simp [World.setCell], fun k hk => heap_setCell_other w p k u hk⟩
theorem Chg.setRow (w : World) (g : Nat) (cs : Array Value) : Chg g w (w.setRow g cs) :=
  ⟨rfl, rfl, rfl, by simp, fun k hk => setRow_other w g k cs hk⟩

/-! ### Slices -/
def slAt : Value → Nat → Addr
  | .slice (some a) _ _, i => a.add i
  | _, _ => default
/-- The slice v reads as these values. -/
def SlV (w : World) (v : Value) (vs : List Value) : Prop :=
  ∃ a cap, v = .slice a vs.length cap ∧ vs.length ≤ cap ∧ cap ≤ maxLen ∧ (a = none → cap = 0) ∧ ∀ i u, vs[i]? = some u → ∃ x, a = some x ∧ w.cell? (x.add i) = some u

theorem SlV.nil (w : World) : SlV w (.slice none 0 0) [] := ⟨none, 0, rfl, by simp, by simp, fun _ => rfl, by simp⟩
theorem SlV.ext {w w' : World} {v : Value} {vs : List Value} (h : SlV w v vs) (he : Ext w w') : SlV w' v vs := by
  obtain ⟨a, cap, h1, h2, h3, h4, h5⟩ := h
  exact ⟨a, cap, h1, h2, h3, h4, fun i u hu => let ⟨x, hx, hc⟩ := h5 i u hu; ⟨x, hx, he.cell hc⟩⟩
theorem SlV.cell {w : World} {v : Value} {vs : List Value} (h : SlV w v vs) {i : Nat} {u : Value} (hu : vs[i]? = some u) : w.cell? (slAt v i) = some u := by
  obtain ⟨a, cap, rfl, _, _, _, h5⟩ := h
  obtain ⟨x, rfl, hc⟩ := h5 i u hu
  exact hc
theorem SlV.le {w : World} {v : Value} {vs : List Value} (h : SlV w v vs) : vs.length ≤ maxLen := by
  obtain ⟨a, cap, _, h2, h3, _⟩ := h; omega
/-- The block that a slice leads to. -/
def vblk : Value → Nat
  | .slice (some a) _ _ => a.block
  | .pointer (some a) => a.block
  | _ => 0
theorem SlV.chg {w w' : World} {v : Value} {vs : List Value} {b : Nat} (h : SlV w v vs) (hc : Chg b w w') (hb : vs ≠ [] → vblk v ≠ b) : SlV w' v vs := by
  obtain ⟨a, cap, rfl, h2, h3, h4, h5⟩ := h
  refine ⟨a, cap, rfl, h2, h3, h4, fun i u hu => ?_⟩
  obtain ⟨x, rfl, hx⟩ := h5 i u hu
  have hne : vs ≠ [] := by rintro rfl; simp at hu
  have hb' : x.block ≠ b := hb hne
  refine ⟨x, rfl, ?_⟩
  have hbl : (x.add i).block = x.block := by unfold Addr.add; split <;> rfl
  exact (World.cell?_of_block (by rw [hbl]; exact hc.block _ hb')).trans hx

/-- The slice v is a row of one's own from block 'B' on, with these values; one cell each. -/
def Own (B : Nat) (e : TypeId) (w : World) (v : Value) (vs : List Value) : Prop := w.ownsRow B e 1 v vs.length vs
theorem Own.nil (B : Nat) (e : TypeId) (w : World) : Own B e w (.slice none 0 0) [] := World.ownsRow_nil w B e 1
theorem Own.mono {B B' : Nat} {e : TypeId} {w : World} {v : Value} {vs : List Value} (h : Own B e w v vs) (hb : B' ≤ B) : Own B' e w v vs := by
  obtain ⟨h1, h2⟩ := h
  refine ⟨h1, ?_⟩
  rcases h2 with h2 | ⟨g, cap, cur, h3, h4, r⟩
  · exact .inl h2
  · exact .inr ⟨g, cap, cur, h3, Nat.le_trans hb h4, r⟩
theorem take_getElem? {α : Type} {l : List α} {n i : Nat} {xs : List α} (h : l.take n = xs) {u : α} (hu : xs[i]? = some u) : l[i]? = some u := by
  subst h
  rw [List.getElem?_take] at hu
  split at hu
  · exact hu
  · cases hu
theorem Own.sl {B : Nat} {e : TypeId} {w : World} {v : Value} {vs : List Value} (h : Own B e w v vs) : SlV w v vs := by
  obtain ⟨h1, h2⟩ := h
  rcases h2 with ⟨rfl, h0⟩ | ⟨g, cap, cur, rfl, hb, hh, hn, hm, hs, ht⟩
  · have : vs = [] := List.eq_nil_of_length_eq_zero h0
    subst this; exact SlV.nil w
  · refine ⟨_, cap, rfl, hn, hm, by simp, fun i u hu => ⟨_, rfl, ?_⟩⟩
    have hlt : i < vs.length := by
      rcases Nat.lt_or_ge i vs.length with k | k
      · exact k
      · simp [List.getElem?_eq_none k] at hu
    have h5 : cur[i]? = some u := by
      have := take_getElem? ht hu
      simpa using this
    have : (⟨g, 0, none⟩ : Addr).add i = ⟨g, i, none⟩ := by unfold Addr.add; split <;> simp_all
    rw [this, cell_of_row w g i cur e (0, 0) hh]; exact h5
theorem Own.ext {B : Nat} {e : TypeId} {w w' : World} {v : Value} {vs : List Value} (h : Own B e w v vs) (he : Ext w w') : Own B e w' v vs := by
  obtain ⟨h1, h2⟩ := h
  refine ⟨h1, ?_⟩
  rcases h2 with h2 | ⟨g, cap, cur, h3, h4, hh, r⟩
  · exact .inl h2
  · exact .inr ⟨g, cap, cur, h3, h4, he.heap hh, r⟩
theorem Own.chg {B b : Nat} {e : TypeId} {w w' : World} {v : Value} {vs : List Value} (h : Own B e w v vs) (hc : Chg b w w') (hb : vblk v ≠ b) : Own B e w' v vs := by
  obtain ⟨h1, h2⟩ := h
  refine ⟨h1, ?_⟩
  rcases h2 with h2 | ⟨g, cap, cur, rfl, h4, hh, r⟩
  · exact .inl h2
  · exact .inr ⟨g, cap, cur, rfl, h4, (hc.block g hb).trans hh, r⟩
theorem Own.blk {B : Nat} {e : TypeId} {w : World} {v : Value} {vs : List Value} (h : Own B e w v vs) (hne : vs ≠ []) : B ≤ vblk v ∧ vblk v < w.heap.size := by
  obtain ⟨h1, h2⟩ := h
  rcases h2 with ⟨rfl, h0⟩ | ⟨g, cap, cur, rfl, h4, hh, r⟩
  · exact absurd (List.eq_nil_of_length_eq_zero h0) hne
  · refine ⟨h4, ?_⟩
    rcases Nat.lt_or_ge g w.heap.size with k | k
    · exact k
    · simp [Array.getElem?_eq_none k] at hh

/-! ### Operations -/
section
variable {P : Program} {n : Nat} {K : Rho → World → Prop} {ρ : Rho} {w : World} {ops rest : List Oper}
variable {ty : TypeId} {pos : String} {after : Array Edge} {g : Option (Nat × Bool)} {d : Nat}

theorem O_move {x : Operand} {v : Value} (hg : gd ops ρ g = some true) (hd : Nat.blt d n = true) (hx : ev ρ x = some v) (h : WL P n ops rest K ((d, v) :: ρ) w) :
    WL P n ops (⟨some d, .move x, ty, pos, after, g⟩ :: rest) K ρ w := WL_val rfl hg hd (fun a ha => by simp [execOp, ha.eval hx]) h
theorem O_assign {x : Operand} {v : Value} (hg : gd ops ρ g = some true) (hd : Nat.blt d n = true) (hx : ev ρ x = some v) (h : WL P n ops rest K ((d, v) :: ρ) w) :
    WL P n ops (⟨some d, .assign x, ty, pos, after, g⟩ :: rest) K ρ w := WL_val rfl hg hd (fun a ha => by simp [execOp, ha.eval hx]) h
theorem O_skip {op : Op} (hg : gd ops ρ g = some false) (hd : Nat.blt d n = true) (h : WL P n ops rest K ((d, undef) :: ρ) w) :
    WL P n ops (⟨some d, op, ty, pos, after, g⟩ :: rest) K ρ w := WL_skip rfl hg hd h
theorem O_pickT {c x y : Operand} {v : Value} (hg : gd ops ρ g = some true) (hd : Nat.blt d n = true) (hc : ev ρ c = some (.bool true)) (hx : ev ρ x = some v) (h : WL P n ops rest K ((d, v) :: ρ) w) :
    WL P n ops (⟨some d, .pick c x y, ty, pos, after, g⟩ :: rest) K ρ w := WL_val rfl hg hd (fun a ha => by simp [execOp, ha.eval hc, ha.eval hx, asBool]) h
theorem O_pickF {c x y : Operand} {v : Value} (hg : gd ops ρ g = some true) (hd : Nat.blt d n = true) (hc : ev ρ c = some (.bool false)) (hy : ev ρ y = some v) (h : WL P n ops rest K ((d, v) :: ρ) w) :
    WL P n ops (⟨some d, .pick c x y, ty, pos, after, g⟩ :: rest) K ρ w := WL_val rfl hg hd (fun a ha => by simp [execOp, ha.eval hc, ha.eval hy, asBool]) h

section bin
variable {xt yt : TypeId} {x y : Operand} {k yk : IntKind} {a b r : Int}
theorem O_add (hg : gd ops ρ g = some true) (hd : Nat.blt d n = true) (hx : ev ρ x = some (.int k a)) (hy : ev ρ y = some (.int k b)) (hr : k.wrap (a + b) = r) (h : WL P n ops rest K ((d, .int k r) :: ρ) w) :
    WL P n ops (⟨some d, .binOp .add xt x y yt, ty, pos, after, g⟩ :: rest) K ρ w :=
  WL_val rfl hg hd (fun c hc => by simp [execOp, hc.eval hx, hc.eval hy, eqGuard, binOp, Op.intArith, hr]) h
theorem O_sub (hg : gd ops ρ g = some true) (hd : Nat.blt d n = true) (hx : ev ρ x = some (.int k a)) (hy : ev ρ y = some (.int k b)) (hr : k.wrap (a - b) = r) (h : WL P n ops rest K ((d, .int k r) :: ρ) w) :
    WL P n ops (⟨some d, .binOp .sub xt x y yt, ty, pos, after, g⟩ :: rest) K ρ w :=
  WL_val rfl hg hd (fun c hc => by simp [execOp, hc.eval hx, hc.eval hy, eqGuard, binOp, Op.intArith, hr]) h
theorem O_mul (hg : gd ops ρ g = some true) (hd : Nat.blt d n = true) (hx : ev ρ x = some (.int k a)) (hy : ev ρ y = some (.int k b)) (hr : k.wrap (a * b) = r) (h : WL P n ops rest K ((d, .int k r) :: ρ) w) :
    WL P n ops (⟨some d, .binOp .mul xt x y yt, ty, pos, after, g⟩ :: rest) K ρ w :=
  WL_val rfl hg hd (fun c hc => by simp [execOp, hc.eval hx, hc.eval hy, eqGuard, binOp, Op.intArith, hr]) h
theorem O_quo (hg : gd ops ρ g = some true) (hd : Nat.blt d n = true) (hx : ev ρ x = some (.int k a)) (hy : ev ρ y = some (.int k b)) (hb : b ≠ 0) (hr : k.wrap (a.tdiv b) = r) (h : WL P n ops rest K ((d, .int k r) :: ρ) w) :
    WL P n ops (⟨some d, .binOp .quo xt x y yt, ty, pos, after, g⟩ :: rest) K ρ w :=
  WL_val rfl hg hd (fun c hc => by simp [execOp, hc.eval hx, hc.eval hy, eqGuard, binOp, Op.intDiv, hb, hr]) h
theorem O_rem (hg : gd ops ρ g = some true) (hd : Nat.blt d n = true) (hx : ev ρ x = some (.int k a)) (hy : ev ρ y = some (.int k b)) (hb : b ≠ 0) (hr : a.tmod b = r) (h : WL P n ops rest K ((d, .int k r) :: ρ) w) :
    WL P n ops (⟨some d, .binOp .rem xt x y yt, ty, pos, after, g⟩ :: rest) K ρ w :=
  WL_val rfl hg hd (fun c hc => by simp [execOp, hc.eval hx, hc.eval hy, eqGuard, binOp, Op.intDiv, hb, hr]) h
theorem O_and (hg : gd ops ρ g = some true) (hd : Nat.blt d n = true) (hx : ev ρ x = some (.int k a)) (hy : ev ρ y = some (.int k b)) (hr : k.wrap ((BitVec.ofInt k.bits a &&& BitVec.ofInt k.bits b).toNat : Int) = r) (h : WL P n ops rest K ((d, .int k r) :: ρ) w) :
    WL P n ops (⟨some d, .binOp .and xt x y yt, ty, pos, after, g⟩ :: rest) K ρ w :=
  WL_val rfl hg hd (fun c hc => by subst hr; simp [execOp, hc.eval hx, hc.eval hy, eqGuard, binOp, Op.intBits]) h
theorem O_or (hg : gd ops ρ g = some true) (hd : Nat.blt d n = true) (hx : ev ρ x = some (.int k a)) (hy : ev ρ y = some (.int k b)) (hr : k.wrap ((BitVec.ofInt k.bits a ||| BitVec.ofInt k.bits b).toNat : Int) = r) (h : WL P n ops rest K ((d, .int k r) :: ρ) w) :
    WL P n ops (⟨some d, .binOp .or xt x y yt, ty, pos, after, g⟩ :: rest) K ρ w :=
  WL_val rfl hg hd (fun c hc => by subst hr; simp [execOp, hc.eval hx, hc.eval hy, eqGuard, binOp, Op.intBits]) h
theorem O_shl (hg : gd ops ρ g = some true) (hd : Nat.blt d n = true) (hx : ev ρ x = some (.int k a)) (hy : ev ρ y = some (.int yk b)) (hb : 0 ≤ b) (hr : k.wrap (a * 2 ^ (min b.toNat k.bits)) = r) (h : WL P n ops rest K ((d, .int k r) :: ρ) w) :
    WL P n ops (⟨some d, .binOp .shl xt x y yt, ty, pos, after, g⟩ :: rest) K ρ w :=
  WL_val rfl hg hd (fun c hc => by subst hr; simp [execOp, hc.eval hx, hc.eval hy, eqGuard, binOp, Op.shift, Int.not_lt.2 hb]) h
theorem O_shr (hg : gd ops ρ g = some true) (hd : Nat.blt d n = true) (hx : ev ρ x = some (.int k a)) (hy : ev ρ y = some (.int yk b)) (hb : 0 ≤ b) (hr : a.fdiv (2 ^ (min b.toNat k.bits)) = r) (h : WL P n ops rest K ((d, .int k r) :: ρ) w) :
    WL P n ops (⟨some d, .binOp .shr xt x y yt, ty, pos, after, g⟩ :: rest) K ρ w :=
  WL_val rfl hg hd (fun c hc => by subst hr; simp [execOp, hc.eval hx, hc.eval hy, eqGuard, binOp, Op.shift, Int.not_lt.2 hb]) h
variable {t : Bool}
theorem O_lss (hg : gd ops ρ g = some true) (hd : Nat.blt d n = true) (hx : ev ρ x = some (.int k a)) (hy : ev ρ y = some (.int k b)) (hr : decide (a < b) = t) (h : WL P n ops rest K ((d, .bool t) :: ρ) w) :
    WL P n ops (⟨some d, .binOp .lss xt x y yt, ty, pos, after, g⟩ :: rest) K ρ w :=
  WL_val rfl hg hd (fun c hc => by subst hr; simp [execOp, hc.eval hx, hc.eval hy, eqGuard, binOp, Op.intCmp]) h
theorem O_leq (hg : gd ops ρ g = some true) (hd : Nat.blt d n = true) (hx : ev ρ x = some (.int k a)) (hy : ev ρ y = some (.int k b)) (hr : decide (a ≤ b) = t) (h : WL P n ops rest K ((d, .bool t) :: ρ) w) :
    WL P n ops (⟨some d, .binOp .leq xt x y yt, ty, pos, after, g⟩ :: rest) K ρ w :=
  WL_val rfl hg hd (fun c hc => by subst hr; simp [execOp, hc.eval hx, hc.eval hy, eqGuard, binOp, Op.intCmp]) h
theorem O_gtr (hg : gd ops ρ g = some true) (hd : Nat.blt d n = true) (hx : ev ρ x = some (.int k a)) (hy : ev ρ y = some (.int k b)) (hr : decide (b < a) = t) (h : WL P n ops rest K ((d, .bool t) :: ρ) w) :
    WL P n ops (⟨some d, .binOp .gtr xt x y yt, ty, pos, after, g⟩ :: rest) K ρ w :=
  WL_val rfl hg hd (fun c hc => by subst hr; simp [execOp, hc.eval hx, hc.eval hy, eqGuard, binOp, Op.intCmp]) h
theorem O_geq (hg : gd ops ρ g = some true) (hd : Nat.blt d n = true) (hx : ev ρ x = some (.int k a)) (hy : ev ρ y = some (.int k b)) (hr : decide (b ≤ a) = t) (h : WL P n ops rest K ((d, .bool t) :: ρ) w) :
    WL P n ops (⟨some d, .binOp .geq xt x y yt, ty, pos, after, g⟩ :: rest) K ρ w :=
  WL_val rfl hg hd (fun c hc => by subst hr; simp [execOp, hc.eval hx, hc.eval hy, eqGuard, binOp, Op.intCmp]) h
theorem O_eql (hg : gd ops ρ g = some true) (hd : Nat.blt d n = true) (hx : ev ρ x = some (.int k a)) (hy : ev ρ y = some (.int k b)) (hr : decide (a = b) = t) (h : WL P n ops rest K ((d, .bool t) :: ρ) w) :
    WL P n ops (⟨some d, .binOp .eql xt x y yt, ty, pos, after, g⟩ :: rest) K ρ w :=
  WL_val rfl hg hd (fun c hc => by
    have e : (a == b) = t := by rw [← hr]; by_cases q : a = b <;> simp [q]
    simp [execOp, hc.eval hx, hc.eval hy, eqGuard, binOp, Op.intCmp, e]) h
theorem O_neq (hg : gd ops ρ g = some true) (hd : Nat.blt d n = true) (hx : ev ρ x = some (.int k a)) (hy : ev ρ y = some (.int k b)) (hr : decide (a ≠ b) = t) (h : WL P n ops rest K ((d, .bool t) :: ρ) w) :
    WL P n ops (⟨some d, .binOp .neq xt x y yt, ty, pos, after, g⟩ :: rest) K ρ w :=
  WL_val rfl hg hd (fun c hc => by
    have e : (a != b) = t := by rw [← hr]; by_cases q : a = b <;> simp [q]
    simp [execOp, hc.eval hx, hc.eval hy, eqGuard, binOp, Op.intCmp, e]) h
variable {p q : Bool}
theorem O_beql (hT : P.underlying xt = some .bool) (hg : gd ops ρ g = some true) (hd : Nat.blt d n = true) (hx : ev ρ x = some (.bool p)) (hy : ev ρ y = some (.bool q)) (hr : (p == q) = t) (h : WL P n ops rest K ((d, .bool t) :: ρ) w) :
    WL P n ops (⟨some d, .binOp .eql xt x y yt, ty, pos, after, g⟩ :: rest) K ρ w :=
  WL_val rfl hg hd (fun c hc => by simp [execOp, hc.eval hx, hc.eval hy, eqGuard, run_eql_bool w xt p q hT, hr]) h
theorem O_bneq (hT : P.underlying xt = some .bool) (hg : gd ops ρ g = some true) (hd : Nat.blt d n = true) (hx : ev ρ x = some (.bool p)) (hy : ev ρ y = some (.bool q)) (hr : (!(p == q)) = t) (h : WL P n ops rest K ((d, .bool t) :: ρ) w) :
    WL P n ops (⟨some d, .binOp .neq xt x y yt, ty, pos, after, g⟩ :: rest) K ρ w :=
  WL_val rfl hg hd (fun c hc => by subst hr; simp [execOp, hc.eval hx, hc.eval hy, eqGuard, run_neq_bool w xt p q hT]) h
theorem O_not (hg : gd ops ρ g = some true) (hd : Nat.blt d n = true) (hx : ev ρ x = some (.bool p)) (hr : (!p) = t) (h : WL P n ops rest K ((d, .bool t) :: ρ) w) :
    WL P n ops (⟨some d, .unOp .not xt x, ty, pos, after, g⟩ :: rest) K ρ w :=
  WL_val rfl hg hd (fun c hc => by subst hr; simp [execOp, hc.eval hx, Op.unary]) h
theorem O_neg (hg : gd ops ρ g = some true) (hd : Nat.blt d n = true) (hx : ev ρ x = some (.int k a)) (hr : k.wrap (0 - a) = r) (h : WL P n ops rest K ((d, .int k r) :: ρ) w) :
    WL P n ops (⟨some d, .unOp .neg xt x, ty, pos, after, g⟩ :: rest) K ρ w :=
  WL_val rfl hg hd (fun c hc => by subst hr; simp [execOp, hc.eval hx, Op.unary, Op.intArith]) h
theorem O_conv {ds : TypeDesc} {k' : IntKind} (hs : P.underlying xt = some ds) (ht : P.underlying yt = some (.int k)) (hg : gd ops ρ g = some true) (hd : Nat.blt d n = true) (hx : ev ρ x = some (.int k' a)) (hr : k.wrap a = r) (h : WL P n ops rest K ((d, .int k r) :: ρ) w) :
    WL P n ops (⟨some d, .convert xt yt x, ty, pos, after, g⟩ :: rest) K ρ w :=
  WL_val rfl hg hd (fun c hc => by subst hr; simp [execOp, hc.eval hx, convert, run_underlying hs, run_underlying ht, Conv.intToInt]) h
end bin

theorem O_extract {x : Operand} {i : Nat} {vs : Array Value} {v : Value} (hg : gd ops ρ g = some true) (hd : Nat.blt d n = true) (hx : ev ρ x = some (.tuple vs)) (hv : vs[i]? = some v) (h : WL P n ops rest K ((d, v) :: ρ) w) :
    WL P n ops (⟨some d, .extract x i, ty, pos, after, g⟩ :: rest) K ρ w := WL_val rfl hg hd (fun a ha => by simp [execOp, ha.eval hx, Instr.extract, hv]) h

theorem O_max {x y : Operand} {at_ : Array TypeId} {k k' : IntKind} {a b r : Int} (hg : gd ops ρ g = some true) (hd : Nat.blt d n = true) (hx : ev ρ x = some (.int k a)) (hy : ev ρ y = some (.int k' b)) (hr : max a b = r) (h : WL P n ops rest K ((d, .int k r) :: ρ) w) :
    WL P n ops (⟨some d, .call { callee := .builtin .max, args := #[x, y], argTypes := at_ }, ty, pos, after, g⟩ :: rest) K ρ w :=
  WL_val rfl hg hd (fun c hc => by
    have e : (if b > a then b else a) = r := by rw [← hr]; omega
    simp [execOp, resolve, invoke, builtin, hc.eval hx, hc.eval hy, run_max_int2, e]) h
theorem O_min {x y : Operand} {at_ : Array TypeId} {k k' : IntKind} {a b r : Int} (hg : gd ops ρ g = some true) (hd : Nat.blt d n = true) (hx : ev ρ x = some (.int k a)) (hy : ev ρ y = some (.int k' b)) (hr : min a b = r) (h : WL P n ops rest K ((d, .int k r) :: ρ) w) :
    WL P n ops (⟨some d, .call { callee := .builtin .min, args := #[x, y], argTypes := at_ }, ty, pos, after, g⟩ :: rest) K ρ w :=
  WL_val rfl hg hd (fun c hc => by
    have e : (if b < a then b else a) = r := by rw [← hr]; omega
    simp [execOp, resolve, invoke, builtin, hc.eval hx, hc.eval hy, run_min_int2, e]) h

theorem O_len {x : Operand} {t e : TypeId} {v : Value} {vs : List Value} (hT : P.underlying t = some (.slice e)) (hg : gd ops ρ g = some true) (hd : Nat.blt d n = true) (hx : ev ρ x = some v) (hs : SlV w v vs)
    (h : WL P n ops rest K ((d, .int .i64 vs.length) :: ρ) w) :
    WL P n ops (⟨some d, .call { callee := .builtin .len, args := #[x], argTypes := #[t] }, ty, pos, after, g⟩ :: rest) K ρ w := by
  obtain ⟨a, cap, rfl, _⟩ := hs
  exact WL_val rfl hg hd (fun c hc => by simp [execOp, resolve, invoke, builtin, hc.eval hx, Builtin.len_, run_underlying hT, goInt]) h

theorem O_index {x ix : Operand} {t e : TypeId} {v : Value} {vs : List Value} {k : IntKind} {i : Int} {inf : TypeInfo} (hT : P.underlying t = some (.slice e)) (hi : P.info? e = some inf) (hsz : inf.size = 1)
    (hg : gd ops ρ g = some true) (hd : Nat.blt d n = true) (hx : ev ρ x = some v) (hix : ev ρ ix = some (.int k i)) (hs : SlV w v vs) (j : Nat) (hj : i = (j : Int)) (hlt : j < vs.length)
    (h : WL P n ops rest K ((d, .pointer (some (slAt v j))) :: ρ) w) :
    WL P n ops (⟨some d, .indexAddr t x ix, ty, pos, after, g⟩ :: rest) K ρ w := by
  obtain ⟨a, cap, rfl, _, _, _, h5⟩ := hs
  subst hj
  obtain ⟨p, rfl, _⟩ := h5 j vs[j] (by simp [hlt])
  refine WL_val rfl hg hd (fun c hc => ?_) h
  have h0 : (0 : Int) ≤ (j : Int) ∧ (j : Int) < (vs.length : Int) := by omega
  have h9 : ¬ vs.length ≤ j := by omega
  simp [execOp, hc.eval hx, hc.eval hix, Instr.indexAt, asIntOf, run_underlying hT, sizeOf, typeInfo, hi, hsz, h0, slAt, h9]

theorem O_load {x : Operand} {t : TypeId} {p : Addr} {u : Value} {ds : TypeDesc} (hT : P.underlying t = some ds) (hna : (match ds with | .struct _ | .array _ _ => false | _ => true) = true) (hg : gd ops ρ g = some true) (hd : Nat.blt d n = true)
    (hx : ev ρ x = some (.pointer (some p))) (hc : w.cell? p = some u) (h : WL P n ops rest K ((d, u) :: ρ) w) :
    WL P n ops (⟨some d, .load t x, ty, pos, after, g⟩ :: rest) K ρ w := by
  refine WL_val rfl hg hd (fun c hcc => ?_) h
  cases ds <;> simp at hna <;> simp [execOp, hcc.eval hx, Instr.loadAt, Instr.sureAddr, loadVar, isAgg, run_underlying hT, load, Sem.run, hc]

/-- A store of one cell. -/
theorem O_store {x y : Operand} {t : TypeId} {p : Addr} {u u0 : Value} {inf : TypeInfo} (hi : P.info? t = some inf) (hsz : inf.size = 1) (hg : gd ops ρ g = some true)
    (hx : ev ρ x = some (.pointer (some p))) (hy : ev ρ y = some u) (h1 : u.oneCell' = true) (hc : w.cell? p = some u0) (hf : w.frozen? p = false) (h : WL P n ops rest K ρ (w.setCell p u)) :
    WL P n ops (⟨none, .store t x y, ty, pos, after, g⟩ :: rest) K ρ w := by
  refine WL_eff rfl hg (fun c hcc => ?_) h
  have ha : p.add 0 = p := by simp [Addr.add]
  cases u <;> simp [Value.oneCell'] at h1 <;>
    simp [execOp, hcc.eval hx, hcc.eval hy, Instr.storeAt, Instr.sureAddr, storeVar, sizeOf, typeInfo, hi, hsz, Value.cells, storeCells, store, Sem.run, hc, hf, ha]

theorem Own.at_ {B : Nat} {e : TypeId} {v : Value} {vs : List Value} (h : Own B e w v vs) {j : Nat} (hj : j < vs.length) :
    ∃ g cap cur, v = .slice (some ⟨g, 0, none⟩) vs.length cap ∧ B ≤ g ∧ w.heap[g]? = some (.cells cur e (0, 0)) ∧ vs.length ≤ cap ∧ cap ≤ maxLen ∧ cur.size = cap ∧ cur.toList.take vs.length = vs := by
  obtain ⟨h1, h2⟩ := h
  rcases h2 with ⟨rfl, h0⟩ | ⟨g, cap, cur, rfl, hb, hh, hn, hm, hs, ht⟩
  · omega
  · exact ⟨g, cap, cur, rfl, hb, hh, hn, hm, by simpa using hs, by simpa using ht⟩

/-- A store into a row of one's own. -/
theorem O_storeOwn {x y : Operand} {t e : TypeId} {B : Nat} {v u : Value} {vs : List Value} {j : Nat} {inf : TypeInfo} (hi : P.info? t = some inf) (hsz : inf.size = 1) (hg : gd ops ρ g = some true)
    (hx : ev ρ x = some (.pointer (some (slAt v j)))) (hy : ev ρ y = some u) (h1 : u.oneCell' = true) (ho : Own B e w v vs) (hj : j < vs.length)
    (h : ∀ w', Own B e w' v (vs.set j u) → Chg (vblk v) w w' → WL P n ops rest K ρ w') :
    WL P n ops (⟨none, .store t x y, ty, pos, after, g⟩ :: rest) K ρ w := by
  obtain ⟨gb, cap, cur, rfl, hb, hh, hn, hm, hs, ht⟩ := ho.at_ hj
  have ha : slAt (.slice (some ⟨gb, 0, none⟩) vs.length cap) j = ⟨gb, j, none⟩ := by simp [slAt, Addr.add]; omega
  rw [ha] at hx
  have hcell : w.cell? ⟨gb, j, none⟩ = some vs[j] := by
    rw [cell_of_row w gb j cur e (0, 0) hh]
    have := take_getElem? (u := vs[j]) (i := j) ht (by simp [hj])
    simpa using this
  refine O_store hi hsz hg hx hy h1 hcell (frozen_of_row w gb j cur e hh) (h _ ?_ (Chg.setCell w ⟨gb, j, none⟩ u))
  refine ⟨by simp, .inr ⟨gb, cap, cur.setIfInBounds j u, by simp, hb, heap_setCell_same w gb j cur e u hh, by simpa using hn, hm, by simpa using hs, ?_⟩⟩
  rw [Array.toList_setIfInBounds, Nat.mul_one, List.length_set]
  rw [List.take_set, ht]

theorem O_indexStr {x ix : Operand} {t : TypeId} {s : ByteArray} {k : IntKind} {i : Int} {b : UInt8} (hT : P.underlying t = some .string) (hg : gd ops ρ g = some true) (hd : Nat.blt d n = true)
    (hx : ev ρ x = some (.string s)) (hix : ev ρ ix = some (.int k i)) (j : Nat) (hj : i = (j : Int)) (hb : s[j]? = some b) (h : WL P n ops rest K ((d, .int .u8 (b.toNat : Int)) :: ρ) w) :
    WL P n ops (⟨some d, .index t x ix, ty, pos, after, g⟩ :: rest) K ρ w := by
  subst hj
  refine WL_val rfl hg hd (fun c hc => ?_) h
  have h0 : (0 : Int) ≤ (j : Int) := by omega
  simp [execOp, hc.eval hx, hc.eval hix, Instr.index, asIntOf, run_underlying hT, h0, hb]

/-! Calls -/
def Enters (P : Program) (f : FuncId) : Prop := ∃ fn, P.funcs[f]? = some fn ∧ (fn.name == "runtime.NumGoroutine") = false ∧ fn.body.isNone = false
def evs (ρ : Rho) : List Operand → Option (List Value)
  | [] => some []
  | x :: r => match ev ρ x, evs ρ r with
    | some v, some vs => some (v :: vs)
    | _, _ => none
theorem Fits.evals {n : Nat} {a : Act} {ρ : Rho} (h : Fits n a ρ) : ∀ {l : List Operand} {vs : List Value}, evs ρ l = some vs → l.map a.eval = vs
  | [], vs, e => by simpa [evs] using e
  | x :: r, vs, e => by
    simp only [evs] at e
    split at e
    · rename_i v us h1 h2
      cases e
      simp [h.eval h1, h.evals h2]
    · cases e

/-- What a call hands back: a value with Φ, in a world that goes on. -/
def Ret (w : World) (Φ : Value → World → Prop) (e : Ending) (w' : World) : Prop := ∃ v, e = .returned v ∧ Ext w w' ∧ Φ v w'

theorem O_callR {f : FuncId} {args : List Operand} {at_ : Array TypeId} {vs : List Value} {R : Ending → World → Prop} (hE : Enters P f) (hg : gd ops ρ g = some true) (hd : Nat.blt d n = true) (ha : evs ρ args = some vs)
    (hc : Calls P f vs.toArray w R) (h : ∀ e w', R e w' → ∃ v, e = .returned v ∧ WL P n ops rest K ((d, v) :: ρ) w') :
    WL P n ops (⟨some d, .call { callee := .value (.func f), args := args.toArray, argTypes := at_ }, ty, pos, after, g⟩ :: rest) K ρ w := by
  obtain ⟨fn, hf, hn, hb⟩ := hE
  intro a hfit Q hQ
  unfold wpList
  rw [if_pos (gd_wanted hg hfit)]
  refine .inl ?_
  unfold Oper.wp
  have hargs := hfit.evals ha
  have hrun : (execOp a.eval ⟨some d, .call { callee := .value (.func f), args := args.toArray, argTypes := at_ }, ty, pos, after, g⟩).run P w = .ok (.enter f vs.toArray) w := by
    have hm : (args.toArray.map a.eval) = vs.toArray := by rw [← hargs]; simp
    simp only [execOp, resolve, hm, Act.eval, Deferred.ofValue, invoke, callFunc, Sem.run_bind, Sem.run_pure, Result.andThen_ok, Array.empty_append, Array.append_empty, run_program, hf, hn, hb, Bool.false_eq_true, if_false]
  rw [hrun]
  refine Calls.mono hc fun e w' hR => ?_
  obtain ⟨v, rfl, hw⟩ := h e w' hR
  exact hw _ (hfit.put hd v) Q hQ

theorem O_call {f : FuncId} {args : List Operand} {at_ : Array TypeId} {vs : List Value} {Φ : Value → World → Prop} (hE : Enters P f) (hg : gd ops ρ g = some true) (hd : Nat.blt d n = true) (ha : evs ρ args = some vs)
    (hc : Calls P f vs.toArray w (Ret w Φ)) (h : ∀ v w', Ext w w' → Φ v w' → WL P n ops rest K ((d, v) :: ρ) w') :
    WL P n ops (⟨some d, .call { callee := .value (.func f), args := args.toArray, argTypes := at_ }, ty, pos, after, g⟩ :: rest) K ρ w :=
  O_callR hE hg hd ha hc fun e w' ⟨v, he, hx, hv⟩ => ⟨v, he, h v w' hx hv⟩

/-! Making memory -/
theorem madeCells_one (z : Value) (m : Nat) : madeCells #[z] m = (List.replicate m z).toArray := by
  unfold madeCells
  apply Array.ext
  · simp
  · intro i h1 h2
    simp [Nat.mod_one]

theorem O_make {x y : Operand} {t e : TypeId} {k k' : IntKind} {m : Nat} {z : Value} {bytes : Nat} {inf : TypeInfo} (hT : P.underlying t = some (.slice e)) (hi : P.info? e = some inf) (hz : inf.zero = some z) (hzc : z.cells = #[z]) (hsz : inf.size = 1) (hby : inf.bytes = bytes)
    (hg : gd ops ρ g = some true) (hd : Nat.blt d n = true) {a b : Int} (hx : ev ρ x = some (.int k a)) (hy : ev ρ y = some (.int k' b)) (ha : a = (m : Int)) (hb : b = (m : Int)) (hm : m * bytes ≤ 281474976710656) (hm' : m ≤ 35184372088832)
    (h : ∀ v w', Own w.heap.size e w' v (List.replicate m z) → Ext w w' → vblk v = w.heap.size → w'.heap.size = w.heap.size + 1 → v = .slice (some ⟨w.heap.size, 0, none⟩) m m → WL P n ops rest K ((d, v) :: ρ) w') :
    WL P n ops (⟨some d, .makeSlice t x y, ty, pos, after, g⟩ :: rest) K ρ w := by
  subst ha; subst hb
  have hmax : m ≤ maxLen := by simp only [maxLen]; omega
  have hmi : (m : Int) * (bytes : Int) ≤ 281474976710656 := by
    have h9 : ((m * bytes : Nat) : Int) ≤ 281474976710656 := by omega
    rwa [Int.natCast_mul] at h9
  have hr := run_make (P := P) w t e inf z hT hi hz k k' (m : Int) (m : Int) (by omega) (Int.le_refl _) (by rw [hby, Int.mul_comm]; exact hmi) (by omega)
  simp only [Int.toNat_natCast] at hr
  refine WL_val rfl hg hd (v := .slice (some ⟨w.heap.size, 0, none⟩) m m) (w' := w.alloc (.cells (madeCells z.cells (m * inf.size)) e)) (fun c hc => by simp only [execOp, hc.eval hx, hc.eval hy, Sem.run_bind, hr, Result.andThen_ok, Sem.run_pure]) ?_
  refine h _ _ ?_ (Ext.alloc w _) rfl (by simp) rfl
  refine ⟨by simp, .inr ⟨w.heap.size, m, _, by simp, Nat.le_refl _, heap_alloc_new w _, by simp, hmax, by simp [size_madeCells, hsz], ?_⟩⟩
  rw [hzc, hsz, Nat.mul_one, madeCells_one]
  simp

/-- 'append' to a row of one's own. -/
theorem O_append {x y : Operand} {t e : TypeId} {B : Nat} {v v2 : Value} {vs vs2 : List Value} {z : Value} {bytes : Nat} {inf : TypeInfo} (hT : P.underlying t = some (.slice e)) (hi : P.info? e = some inf) (hz : inf.zero = some z) (hzc : z.cells.size = 1) (hsz : inf.size = 1) (hby : inf.bytes = bytes)
    (hg : gd ops ρ g = some true) (hd : Nat.blt d n = true) (hx : ev ρ x = some v) (hy : ev ρ y = some v2) (ho : Own B e w v vs) (h2 : SlV w v2 vs2) (h1 : ∀ u ∈ vs2, u.oneCell' = true)
    (hm : vs.length + vs2.length ≤ 1073741824) (hbm : bytes ≤ 64) (hB : B ≤ w.heap.size)
    (h : ∀ v' w', Own B e w' v' (vs ++ vs2) → w.grownBy w' v.ownBlock → WL P n ops rest K ((d, v') :: ρ) w') :
    WL P n ops (⟨some d, .call { callee := .builtin .append, args := #[x, y], argTypes := #[t, t] }, ty, pos, after, g⟩ :: rest) K ρ w := by
  obtain ⟨a, cap, rfl, hle, hcm, hnone, hcells⟩ := h2
  have hb1 : (vs.length + vs2.length) * bytes ≤ 1073741824 * 64 := Nat.mul_le_mul hm hbm
  have key : ∃ v' w', (Builtin.append_ #[t, t] ty #[v, .slice a vs2.length cap]).run P w = .ok v' w' ∧ w'.ownsRow B e 1 v' (vs.length + vs2.length) (vs ++ vs2) ∧ w.grownBy w' v.ownBlock := by
    cases a with
    | some ad =>
      obtain ⟨v', w', h1', h2', h3', _⟩ := run_append_own (P := P) w B t ty e inf z 1 bytes hT hi hz hsz hby hzc (by omega) v vs.length vs ho ad vs2.length cap vs2 (by simp)
        (fun j u hu => by obtain ⟨x, hx, hc⟩ := hcells j u hu; cases hx; exact hc) h1 (by simp only [maxLen]; omega) (by omega) hB
      exact ⟨v', w', h1', h2', h3'⟩
    | none =>
      have hc0 : cap = 0 := hnone rfl
      have hv0 : vs2 = [] := List.eq_nil_of_length_eq_zero (by omega)
      subst hv0; subst hc0
      refine ⟨v, w, ?_, (by simpa [Own] using ho), ⟨rfl, rfl, rfl, Nat.le_refl _, fun _ _ _ => rfl⟩⟩
      have ho' := ho
      obtain ⟨_, h0 | ⟨g', cap', cur', rfl, _, _, hn', _⟩⟩ := ho'
      · obtain ⟨rfl, _⟩ := h0
        simp [Builtin.append_, run_underlying hT, sizeOf, typeInfo, hi, Builtin.lenOf, Builtin.firstCells]
      · simp [Builtin.append_, run_underlying hT, sizeOf, typeInfo, hi, Builtin.lenOf, Builtin.firstCells, hn', storeCells]
  obtain ⟨v', w', hr, hown, hgr⟩ := key
  refine WL_val rfl hg hd (fun c hc => by simp [execOp, resolve, invoke, builtin, hc.eval hx, hc.eval hy, hr]) (h v' w' ?_ hgr)
  unfold Own
  rw [List.length_append]; exact hown

theorem grown_ext {w0 w' : World} {row : Option Nat} (h : w.grownBy w' row) (he : Ext w0 w) (hr : ∀ k, row = some k → w0.heap.size ≤ k) : Ext w0 w' :=
  Below.grown he h he.size hr
theorem Own.row {B : Nat} {e : TypeId} {v : Value} {vs : List Value} (h : Own B e w v vs) : ∀ k, v.ownBlock = some k → B ≤ k := fun k hk => (World.ownsRow.lt h k hk).1

/-- v[:h]. -/
def slTake : Value → Nat → Value
  | .slice a _ c, h => .slice a h c
  | v, _ => v
theorem SlV.take {v : Value} {vs : List Value} (h : SlV w v vs) (m : Nat) (hm : m ≤ vs.length) : SlV w (slTake v m) (vs.take m) := by
  obtain ⟨a, cap, rfl, h2, h3, h4, h5⟩ := h
  refine ⟨a, cap, by simp [slTake, Nat.min_eq_left hm], by simp; omega, h3, h4, fun i u hu => h5 i u ?_⟩
  rw [List.getElem?_take] at hu
  split at hu
  · exact hu
  · cases hu
theorem Own.take {B : Nat} {e : TypeId} {v : Value} {vs : List Value} (h : Own B e w v vs) (m : Nat) (hm : m ≤ vs.length) : Own B e w (slTake v m) (vs.take m) := by
  obtain ⟨h1, h2⟩ := h
  have hl : (vs.take m).length = m := by simp; omega
  refine ⟨by simp, ?_⟩
  rw [hl]
  rcases h2 with ⟨rfl, h0⟩ | ⟨g, cap, cur, rfl, hb, hh, hn, hmx, hs, ht⟩
  · left; exact ⟨by simp [slTake]; omega, by omega⟩
  · right
    refine ⟨g, cap, cur, rfl, hb, hh, by omega, hmx, hs, ?_⟩
    rw [← ht, List.take_take]; congr 1; omega
theorem O_sliceTo {x y : Operand} {t e : TypeId} {v : Value} {vs : List Value} {k : IntKind} {i : Int} {inf : TypeInfo} (hT : P.underlying t = some (.slice e)) (hi : P.info? e = some inf) (hg : gd ops ρ g = some true) (hd : Nat.blt d n = true)
    (hx : ev ρ x = some v) (hy : ev ρ y = some (.int k i)) (hs : SlV w v vs) (m : Nat) (hm : i = (m : Int)) (hle : m ≤ vs.length) (h : WL P n ops rest K ((d, slTake v m) :: ρ) w) :
    WL P n ops (⟨some d, .slice t x none (some y) none, ty, pos, after, g⟩ :: rest) K ρ w := by
  obtain ⟨a, cap, rfl, h2, h3, h4, h5⟩ := hs
  subst hm
  refine WL_val rfl hg hd (fun c hc => ?_) h
  have hb : (0 : Int) ≤ (m : Int) ∧ (m : Int) ≤ (cap : Int) := by omega
  simp only [execOp, hc.eval hx, hc.eval hy, Option.map_some, Option.map_none, Instr.sliceAt, Instr.slice, Instr.sliceBounds, Instr.sliceBound, asIntOf, Sem.run_bind, run_underlying hT, Result.andThen_ok, Sem.run_pure, hb, if_true, sizeOf, typeInfo, Int.toNat_natCast]
  simp [hi, slTake, hb]
  cases a <;> simp [Addr.add]
end
end Go.Proofs.YtnfnadhbjdcbnaaDoor
