/-
  What stands while a forest with roots and lists grows by one.
-/
import Derived.Test.YtoccimigjjndpaaGs
set_option linter.unusedVariables false
set_option linter.unusedSimpArgs false
namespace Go.Proofs.Ytoccimigjjndpaa
open Go Go.RowKit
abbrev ETY : List TypeId := [32, 103, 97, 3, 34]
theorem FRetU.pre {mk : Int → Value} {B g : Nat} {ps : List Part} {i0 : Int} {E0 E : Env} {N : Nat} {w w1 w' : World} {e : Ending} (he : Ext w1 w) (h : FRetU mk B g ps i0 E0 E N w e w') : FRetU mk B g ps i0 E0 E N w1 e w' := by
  obtain ⟨qs, i, u, h0, h1, h2, h3⟩ := h
  exact ⟨qs, i, u, h0, he.toT.trans h1, fun w0 k1 k2 => h2 w0 (k1.trans he) k2, h3⟩
/-- One call in a region. -/
def XU (Φ : Ending → World → Prop) (W : World) : List Value → World → Prop
  | [], w' => Ext W w'
  | [u], w' => Φ (.returned u) w'
  | _, _ => False
theorem XU.toT {mk : Int → Value} {B g : Nat} {ps : List Part} {i0 : Int} {E0 E : Env} {N : Nat} {W : World} : ∀ vs w', XU (FRetU mk B g ps i0 E0 E N W) W vs w' → ExtT TFP W w'
  | [], _, h => Ext.toT h
  | [_], _, h => by obtain ⟨qs, i, u, _, h1, _⟩ := h; exact h1
  | _ :: _ :: _, _, h => h.elim
/-- The tree of a new root. -/
def TS (B g : Nat) (ps : List Part) (N : Nat) (E : Env) (w : World) (i : Int) : Prop := ∃ qs t, FG B w g (ps ++ qs) ∧ qs.length ≤ N ∧ Rep (ps ++ qs) i t ∧ Tr.Ord t ∧ Tr.Avl t ∧ t.env = E
structure YG (B : Nat) (W : World) (vl : Value) (lv : List Value) (w : World) : Prop where
  t : ExtT ETY W w
  base : ∀ w0, Ext w0 W → w0.heap.size ≤ B → Ext w0 w
  sl : SlM fV w vl lv
def GB (gx g : Nat) (vr vl : Value) (w : World) : Prop := Bk w gx 32 [.pointer (some ⟨g, 0, none⟩), vr, vl]
structure XP where
  B : Nat
  W : World
  gx : Nat
  g : Nat
  ps : List Part
  N : Nat
  E : Env
  vr : Value
  vl : Value
  rs : List Int
  lv : List Value
def XG (p : XP) : List Value → World → Prop
  | [], w => YG p.B p.W p.vl p.lv w ∧ GB p.gx p.g p.vr p.vl w ∧ FG p.B w p.g p.ps ∧ OwM fI p.B 3 w p.vr p.rs ∧ OwM fV p.B 34 w p.vl p.lv
  | [u], w => YG p.B p.W p.vl p.lv w ∧ GB p.gx p.g p.vr p.vl w ∧ ∃ i, u = .int .i64 i ∧ TS p.B p.g p.ps p.N p.E w i ∧ OwM fI p.B 3 w p.vr p.rs ∧ OwM fV p.B 34 w p.vl p.lv
  | [u, a], w => YG p.B p.W p.vl p.lv w ∧ GB p.gx p.g p.vr p.vl w ∧ ∃ i, u = .int .i64 i ∧ TS p.B p.g p.ps p.N p.E w i ∧ OwM fI p.B 3 w p.vr p.rs ∧ OwM fV p.B 34 w p.vl p.lv ∧ SlM fI w a [i]
  | [u, _, b], w => YG p.B p.W p.vl p.lv w ∧ GB p.gx p.g p.vr p.vl w ∧ ∃ i, u = .int .i64 i ∧ TS p.B p.g p.ps p.N p.E w i ∧ OwM fI p.B 3 w b (p.rs ++ [i]) ∧ OwM fV p.B 34 w p.vl p.lv
  | [u, _, b, e], w => YG p.B p.W p.vl p.lv w ∧ GB p.gx p.g p.vr p.vl w ∧ ∃ i, u = .int .i64 i ∧ TS p.B p.g p.ps p.N p.E w i ∧ OwM fI p.B 3 w b (p.rs ++ [i]) ∧ OwM fV p.B 34 w p.vl p.lv ∧ OwB p.B w e p.E
  | [u, _, b, e, c], w => YG p.B p.W p.vl p.lv w ∧ GB p.gx p.g p.vr p.vl w ∧ ∃ i, u = .int .i64 i ∧ TS p.B p.g p.ps p.N p.E w i ∧ OwM fI p.B 3 w b (p.rs ++ [i]) ∧ OwM fV p.B 34 w p.vl p.lv ∧ OwB p.B w e p.E ∧ SlM fV w c [e]
  | [u, _, b, e, _, d], w => YG p.B p.W p.vl p.lv w ∧ GB p.gx p.g p.vr p.vl w ∧ ∃ i, u = .int .i64 i ∧ TS p.B p.g p.ps p.N p.E w i ∧ OwM fI p.B 3 w b (p.rs ++ [i]) ∧ OwM fV p.B 34 w d (p.lv ++ [e]) ∧ OwB p.B w e p.E
  | [u, _, b, e, _, d, _], w => YG p.B p.W p.vl p.lv w ∧ GB p.gx p.g b p.vl w ∧ ∃ i, u = .int .i64 i ∧ TS p.B p.g p.ps p.N p.E w i ∧ OwM fI p.B 3 w b (p.rs ++ [i]) ∧ OwM fV p.B 34 w d (p.lv ++ [e]) ∧ OwB p.B w e p.E
  | _, _ => False
section
variable {B g N gx : Nat} {W w w' : World} {ps : List Part} {E : Env} {vr vl u a b c d e x : Value} {rs : List Int} {lv : List Value} {i : Int} {S : List TypeId} {p : XP}
theorem TS.ext (h : TS B g ps N E w i) (he : Ext w w') : TS B g ps N E w' i := by obtain ⟨qs, t, h1, h2⟩ := h; exact ⟨qs, t, h1.ext he, h2⟩
theorem TS.extT (h : TS B g ps N E w i) (he : ExtT S w w') (hs : 103 ∉ S ∧ 97 ∉ S) : TS B g ps N E w' i := by obtain ⟨qs, t, h1, h2⟩ := h; exact ⟨qs, t, h1.extT' he hs, h2⟩
theorem YG.ext (h : YG B W vl lv w) (he : Ext w w') : YG B W vl lv w' := ⟨h.t.trans he.toT, fun w0 k1 k2 => (h.base w0 k1 k2).trans he, h.sl.ext he⟩
theorem GB.ext (h : GB gx g vr vl w) (he : Ext w w') : GB gx g vr vl w' := Bk.ext h he
theorem GB.extT (h : GB gx g vr vl w) (he : ExtT S w w') (hs : 32 ∉ S) : GB gx g vr vl w' := Bk.extT h he hs
theorem XG.toY : ∀ vs w', XG p vs w' → YG p.B p.W p.vl p.lv w'
  | [], _, h => h.1
  | [_], _, h => h.1
  | [_, _], _, h => h.1
  | [_, _, _], _, h => h.1
  | [_, _, _, _], _, h => h.1
  | [_, _, _, _, _], _, h => h.1
  | [_, _, _, _, _, _], _, h => h.1
  | [_, _, _, _, _, _, _], _, h => h.1
  | _ :: _ :: _ :: _ :: _ :: _ :: _ :: _ :: _, _, h => h.elim
theorem XG.toB : ∀ vs w', vs.length ≤ 6 → XG p vs w' → GB p.gx p.g p.vr p.vl w'
  | [], _, _, h => h.2.1
  | [_], _, _, h => h.2.1
  | [_, _], _, _, h => h.2.1
  | [_, _, _], _, _, h => h.2.1
  | [_, _, _, _], _, _, h => h.2.1
  | [_, _, _, _, _], _, _, h => h.2.1
  | [_, _, _, _, _, _], _, _, h => h.2.1
  | _ :: _ :: _ :: _ :: _ :: _ :: _ :: _, _, hl, h => by simp at hl
theorem XG.start (hb : GB p.gx p.g p.vr p.vl p.W) (hF : FG p.B p.W p.g p.ps) (hr : OwM fI p.B 3 p.W p.vr p.rs) (hv : OwM fV p.B 34 p.W p.vl p.lv) (he : Ext p.W w) : XG p [] w :=
  ⟨⟨he.toT, fun w0 k1 _ => k1.trans he, (hv.ext he).sl⟩, hb.ext he, hF.ext he, hr.ext he, hv.ext he⟩
theorem XG.st0 {i0 : Int} {E0 : Env} {en : Ending} (hX : XG p [] w) (h : FRetU (fun i => .int .i64 i) p.B p.g p.ps i0 E0 p.E p.N w en w') : ∃ u, en = .returned u ∧ XG p [u] w' := by
  obtain ⟨hY, hb, hF, hr, hv⟩ := hX
  obtain ⟨qs, i, t, he, h1, h2, h3, h4, h5, h6, h7, h8, h9⟩ := h
  have k1 := hr.extT h1 (by decide)
  have k2 := hv.extT h1 (by decide)
  exact ⟨_, he, ⟨hY.t.trans (h1.mono (by decide)), fun w0 a1 a2 => h2 w0 (hY.base w0 a1 a2) a2, k2.sl⟩, hb.extT h1 (by decide), i, rfl, ⟨qs, t, h3, h4, h5, h6, h7, h8⟩, k1, k2⟩
theorem XG.mk1 (hb : GB p.gx p.g p.vr p.vl p.W) (hT : TS p.B p.g p.ps p.N p.E p.W i) (hr : OwM fI p.B 3 p.W p.vr p.rs) (hv : OwM fV p.B 34 p.W p.vl p.lv) (he : Ext p.W w) : XG p [.int .i64 i] w :=
  ⟨⟨he.toT, fun w0 k1 _ => k1.trans he, (hv.ext he).sl⟩, hb.ext he, i, rfl, hT.ext he, hr.ext he, hv.ext he⟩
theorem XG.st1 (hX : XG p [u] w) (he : Ext w w') (ha : ∀ i, u = .int .i64 i → SlM fI w' a [i]) : XG p [u, a] w' := by
  obtain ⟨hY, hb, i, rfl, hT, hr, hv⟩ := hX
  exact ⟨hY.ext he, hb.ext he, i, rfl, hT.ext he, hr.ext he, hv.ext he, ha i rfl⟩
theorem XG.st2 (hX : XG p [u, a] w) (hb : ∀ i, u = .int .i64 i → OwM fI p.B 3 w' b (p.rs ++ [i])) (hr : w.grownBy w' p.vr.ownBlock) : XG p [u, a, b] w' := by
  obtain ⟨hY, hgb, i, rfl, hT, ho, hv, ha⟩ := hX
  have hx := ho.grownT hr
  have hv' := hv.extT hx (by decide)
  exact ⟨⟨hY.t.trans (hx.mono (by decide)), fun w0 k1 k2 => ho.ext_grown hr (hY.base w0 k1 k2) k2, hv'.sl⟩, hgb.extT hx (by decide), i, rfl, hT.extT hx (by decide), hb i rfl, hv'⟩
theorem XG.st3 (hX : XG p [u, a, b] w) (he : Ext w w') (h : OwB p.B w' e p.E) : XG p [u, a, b, e] w' := by
  obtain ⟨hY, hgb, i, rfl, hT, hr, hv⟩ := hX
  exact ⟨hY.ext he, hgb.ext he, i, rfl, hT.ext he, hr.ext he, hv.ext he, h⟩
theorem XG.st4 (hX : XG p [u, a, b, e] w) (he : Ext w w') (h : SlM fV w' c [e]) : XG p [u, a, b, e, c] w' := by
  obtain ⟨hY, hgb, i, rfl, hT, hr, hv, h1⟩ := hX
  exact ⟨hY.ext he, hgb.ext he, i, rfl, hT.ext he, hr.ext he, hv.ext he, h1.ext he, h⟩
theorem XG.st5 (hX : XG p [u, a, b, e, c] w) (hd : OwM fV p.B 34 w' d (p.lv ++ [e])) (hr : w.grownBy w' p.vl.ownBlock) (hs : SlM fV w' p.vl p.lv) : XG p [u, a, b, e, c, d] w' := by
  obtain ⟨hY, hgb, i, rfl, hT, ho, hv, h1, h2⟩ := hX
  have hx := hv.grownT hr
  exact ⟨⟨hY.t.trans (hx.mono (by decide)), fun w0 k1 k2 => hv.ext_grown hr (hY.base w0 k1 k2) k2, hs⟩, hgb.extT hx (by decide), i, rfl, hT.extT hx (by decide), ho.extT hx (by decide), hd, h1.extT hx (by decide)⟩
theorem SlM.chgB {α : Type} {f : α → Value} {l : List α} {cs : List Value} {T : TypeId} (h : SlM f w vl l) (hc : Chg gx w w') (hb : l ≠ [] → vblk vl ≠ gx) : SlM f w' vl l := SlV.chg h hc fun hn => hb fun e => hn (by rw [e]; rfl)
theorem XG.st6 (hX : XG p [u, a, b, e, c, d] w) (hgx : p.B ≤ p.gx) (hc : Chg p.gx w w') (hk : GB p.gx p.g b p.vl w') (hne : p.lv ≠ [] → vblk p.vl ≠ p.gx) : XG p [u, a, b, e, c, d, x] w' := by
  obtain ⟨hY, hgb, i, rfl, hT, ho, hv, h1⟩ := hX
  have hx := Chg.toT hc hgb
  exact ⟨⟨hY.t.trans (hx.mono (by decide)), fun w0 k1 k2 => hc.ext (hY.base w0 k1 k2) (by omega), hY.sl.chgB (cs := []) (T := 0) hc hne⟩, hk, i, rfl, hT.extT hx (by decide), ho.extT hx (by decide), hv.extT hx (by decide), h1.extT hx (by decide)⟩
end
/-- The same behind a load of the root. -/
def XGl (p : XP) (x0 : Value) : List Value → World → Prop
  | [], w => XG p [] w
  | x :: r, w => x = x0 ∧ XG p r w
theorem XGl.toY {p : XP} {x0 : Value} : ∀ vs w', XGl p x0 vs w' → YG p.B p.W p.vl p.lv w'
  | [], w', h => XG.toY [] w' h
  | _ :: r, w', h => XG.toY r w' h.2
theorem XGl.toB {p : XP} {x0 : Value} : ∀ vs w', vs.length ≤ 7 → XGl p x0 vs w' → GB p.gx p.g p.vr p.vl w'
  | [], w', hl, h => XG.toB [] w' (by simp) h
  | _ :: r, w', hl, h => XG.toB r w' (by simpa using hl) h.2
/-- Two appends in a region, of a root and of a list; then the root's is stored. -/
def XA (p : XP) (i : Int) (e : Value) : List (Option Value) → World → Prop
  | [v0, v1, v2, v3, v4], w => ExtT ETY p.W w ∧ (∀ w0, Ext w0 p.W → w0.heap.size ≤ p.B → Ext w0 w) ∧ (v1 = none → OwM fI p.B 3 w p.vr p.rs) ∧ (v3 = none → OwM fV p.B 34 w p.vl p.lv) ∧
    (∀ a, v0 = some a → v1 = none → OwM fI 0 3 w a [i]) ∧ (∀ b, v1 = some b → OwM fI p.B 3 w b (p.rs ++ [i])) ∧ (∀ c, v2 = some c → v3 = none → OwM fV 0 34 w c [e]) ∧ (∀ d, v3 = some d → OwM fV p.B 34 w d (p.lv ++ [e])) ∧
    (v4 = none → GB p.gx p.g p.vr p.vl w) ∧ (∀ x b, v4 = some x → v1 = some b → GB p.gx p.g b p.vl w) ∧ FG p.B w p.g p.ps ∧ OwB p.B w e p.E ∧ (v1 = none → v4 = none)
  | _, _ => False
section
variable {w w' : World} {i : Int} {e : Value} {v0 v1 v2 v3 v4 : Option Value} {a b c d x : Value} {p : XP}
theorem XA.toT : ∀ vs w', XA p i e vs w' → ExtT ETY p.W w'
  | [_, _, _, _, _], _, h => h.1
  | [], _, h => h.elim
  | [_], _, h => h.elim
  | [_, _], _, h => h.elim
  | [_, _, _], _, h => h.elim
  | [_, _, _, _], _, h => h.elim
  | _ :: _ :: _ :: _ :: _ :: _ :: _, _, h => h.elim
theorem XA.start (hb : GB p.gx p.g p.vr p.vl p.W) (hF : FG p.B p.W p.g p.ps) (hr : OwM fI p.B 3 p.W p.vr p.rs) (hv : OwM fV p.B 34 p.W p.vl p.lv) (hE : OwB p.B p.W e p.E) (he : Ext p.W w) : XA p i e [none, none, none, none, none] w :=
  ⟨he.toT, fun w0 k1 _ => k1.trans he, fun _ => hr.ext he, fun _ => hv.ext he, fun _ h => (by cases h), fun _ h => (by cases h), fun _ h => (by cases h), fun _ h => (by cases h), fun _ => hb.ext he, fun _ _ h => (by cases h), hF.ext he, hE.ext he, fun _ => rfl⟩
theorem XA.s0 (h : XA p i e [none, v1, v2, v3, v4] w) (he : Ext w w') (ha : OwM fI 0 3 w' a [i]) : XA p i e [some a, v1, v2, v3, v4] w' := by
  obtain ⟨h1, h2, h3, h4, h5, h6, h7, h8, h9, h10, h11, h12, h13⟩ := h
  exact ⟨h1.trans he.toT, fun w0 k1 k2 => (h2 w0 k1 k2).trans he, fun k => (h3 k).ext he, fun k => (h4 k).ext he, fun x k _ => by cases k; exact ha, fun x k => (h6 x k).ext he, fun x k k' => (h7 x k k').ext he, fun x k => (h8 x k).ext he, fun k => (h9 k).ext he, fun x b k k' => (h10 x b k k').ext he, h11.ext he, h12.ext he, h13⟩
theorem XA.s2 (h : XA p i e [v0, v1, none, v3, v4] w) (he : Ext w w') (ha : OwM fV 0 34 w' c [e]) : XA p i e [v0, v1, some c, v3, v4] w' := by
  obtain ⟨h1, h2, h3, h4, h5, h6, h7, h8, h9, h10, h11, h12, h13⟩ := h
  exact ⟨h1.trans he.toT, fun w0 k1 k2 => (h2 w0 k1 k2).trans he, fun k => (h3 k).ext he, fun k => (h4 k).ext he, fun x k k' => (h5 x k k').ext he, fun x k => (h6 x k).ext he, fun x k _ => by cases k; exact ha, fun x k => (h8 x k).ext he, fun k => (h9 k).ext he, fun x b k k' => (h10 x b k k').ext he, h11.ext he, h12.ext he, h13⟩
theorem XA.s1 (h : XA p i e [v0, none, v2, v3, none] w) (hr : w.grownBy w' p.vr.ownBlock) (hb : OwM fI p.B 3 w' b (p.rs ++ [i])) : XA p i e [v0, some b, v2, v3, none] w' := by
  obtain ⟨h1, h2, h3, h4, h5, h6, h7, h8, h9, h10, h11, h12, h13⟩ := h
  have hx := (h3 rfl).grownT hr
  exact ⟨h1.trans (hx.mono (by decide)), fun w0 k1 k2 => (h3 rfl).ext_grown hr (h2 w0 k1 k2) k2, fun k => (by cases k), fun k => (h4 k).extT hx (by decide), fun x k k' => (by cases k'), fun x k => by cases k; exact hb, fun x k k' => (h7 x k k').extT hx (by decide), fun x k => (h8 x k).extT hx (by decide), fun k => (h9 k).extT hx (by decide), fun x b k _ => (by cases k), h11.extT' hx (by decide), h12.extT hx (by decide), fun k => (by cases k)⟩
theorem XA.s3 (h : XA p i e [v0, v1, v2, none, v4] w) (hr : w.grownBy w' p.vl.ownBlock) (hb : OwM fV p.B 34 w' d (p.lv ++ [e])) : XA p i e [v0, v1, v2, some d, v4] w' := by
  obtain ⟨h1, h2, h3, h4, h5, h6, h7, h8, h9, h10, h11, h12, h13⟩ := h
  have hx := (h4 rfl).grownT hr
  exact ⟨h1.trans (hx.mono (by decide)), fun w0 k1 k2 => (h4 rfl).ext_grown hr (h2 w0 k1 k2) k2, fun k => (h3 k).extT hx (by decide), fun k => (by cases k), fun x k k' => (h5 x k k').extT hx (by decide), fun x k => (h6 x k).extT hx (by decide), fun x k k' => (by cases k'), fun x k => by cases k; exact hb, fun k => (h9 k).extT hx (by decide), fun x b k k' => (h10 x b k k').extT hx (by decide), h11.extT' hx (by decide), h12.extT hx (by decide), h13⟩
theorem XA.s4 (h : XA p i e [v0, some b, v2, some d, none] w) (hgx : p.B ≤ p.gx) (hc : Chg p.gx w w') (hk : GB p.gx p.g b p.vl w') : XA p i e [v0, some b, v2, some d, some x] w' := by
  obtain ⟨h1, h2, h3, h4, h5, h6, h7, h8, h9, h10, h11, h12, h13⟩ := h
  have hx := Chg.toT hc (h9 rfl)
  exact ⟨h1.trans (hx.mono (by decide)), fun w0 k1 k2 => hc.ext (h2 w0 k1 k2) (by omega), fun k => (by cases k), fun k => (by cases k), fun x k k' => (by cases k'), fun x k => (h6 x k).extT hx (by decide), fun x k k' => (by cases k'), fun x k => (h8 x k).extT hx (by decide), fun k => (by cases k), fun y b' _ k' => (by cases k'; exact hk), h11.extT' hx (by decide), h12.extT hx (by decide), fun k => (by cases k)⟩
end
/-- One call whose results are taken apart. -/
def XD (Φ : Ending → World → Prop) (W : World) : List (Option Value) → World → Prop
  | [v0, v1, v2, v3, v4], w => (v0 = none → Ext W w) ∧ (∀ u, v0 = some u → Φ (.returned u) w) ∧ (∀ x, v1 = some x → v0 = some x) ∧ (∀ x, v2 = some x → ∃ a, v1 = some (.tuple a) ∧ a[0]? = some x) ∧ (∀ x, v3 = some x → ∃ a, v1 = some (.tuple a) ∧ a[1]? = some x) ∧ (∀ x, v4 = some x → v2 = some x)
  | _, _ => False
theorem XD.start {Φ : Ending → World → Prop} {W w : World} (he : Ext W w) : XD Φ W [none, none, none, none, none] w :=
  ⟨fun _ => he, fun _ h => (by cases h), fun _ h => (by cases h), fun _ h => (by cases h), fun _ h => (by cases h), fun _ h => (by cases h)⟩
theorem XD.toT {mk : Int → Value} {B g : Nat} {ps : List Part} {i0 : Int} {E0 E : Env} {N : Nat} {W : World} : ∀ vs w', XD (FRetU mk B g ps i0 E0 E N W) W vs w' → ExtT TFP W w'
  | [none, _, _, _, _], _, h => (h.1 rfl).toT
  | [some u, _, _, _, _], _, h => by obtain ⟨qs, i, u, _, h1, _⟩ := h.2.1 u rfl; exact h1
  | [], _, h => h.elim
  | [_], _, h => h.elim
  | [_, _], _, h => h.elim
  | [_, _, _], _, h => h.elim
  | [_, _, _, _], _, h => h.elim
  | _ :: _ :: _ :: _ :: _ :: _ :: _, _, h => h.elim
section
variable {Φ : Ending → World → Prop} {W w w' : World} {v0 v1 v2 v3 v4 : Option Value} {u x : Value} {a : Array Value}
theorem XD.s0 (h : XD Φ W [none, v1, v2, v3, v4] w) (hu : Φ (.returned u) w') : XD Φ W [some u, v1, v2, v3, v4] w' := by
  obtain ⟨h1, h2, h3, h4, h5, h6⟩ := h
  exact ⟨fun k => (by cases k), fun x k => (by cases k; exact hu), fun x k => (by have := h3 x k; cases this), fun x k => (by obtain ⟨a, ha, _⟩ := h4 x k; have := h3 _ ha; cases this), fun x k => (by obtain ⟨a, ha, _⟩ := h5 x k; have := h3 _ ha; cases this), h6⟩
theorem XD.s1 (h : XD Φ W [some u, none, v2, v3, v4] w) : XD Φ W [some u, some u, v2, v3, v4] w := by
  obtain ⟨h1, h2, h3, h4, h5, h6⟩ := h
  exact ⟨h1, h2, fun x k => k, fun x k => (by obtain ⟨a, ha, _⟩ := h4 x k; cases ha), fun x k => (by obtain ⟨a, ha, _⟩ := h5 x k; cases ha), h6⟩
theorem XD.s2 (h : XD Φ W [v0, some (.tuple a), none, v3, v4] w) (hx : a[0]? = some x) : XD Φ W [v0, some (.tuple a), some x, v3, v4] w := by
  obtain ⟨h1, h2, h3, h4, h5, h6⟩ := h
  exact ⟨h1, h2, h3, fun y k => (by cases k; exact ⟨a, rfl, hx⟩), h5, fun y k => (by have := h6 y k; cases this)⟩
theorem XD.s3 (h : XD Φ W [v0, some (.tuple a), v2, none, v4] w) (hx : a[1]? = some x) : XD Φ W [v0, some (.tuple a), v2, some x, v4] w := by
  obtain ⟨h1, h2, h3, h4, h5, h6⟩ := h
  exact ⟨h1, h2, h3, h4, fun y k => (by cases k; exact ⟨a, rfl, hx⟩), h6⟩
theorem XD.s4 (h : XD Φ W [v0, v1, some x, v3, none] w) : XD Φ W [v0, v1, some x, v3, some x] w := by
  obtain ⟨h1, h2, h3, h4, h5, h6⟩ := h
  exact ⟨h1, h2, h3, h4, h5, fun y k => k⟩
end
theorem len4' {α : Type} {vs : List α} (h : vs.length = 4) : ∃ a b c d, vs = [a, b, c, d] := by
  match vs, h with
  | [a, b, c, d], _ => exact ⟨a, b, c, d, rfl⟩
theorem len5' {α : Type} {vs : List α} (h : vs.length = 5) : ∃ a b c d e, vs = [a, b, c, d, e] := by
  match vs, h with
  | [a, b, c, d, e], _ => exact ⟨a, b, c, d, e, rfl⟩
theorem len6' {α : Type} {vs : List α} (h : vs.length = 6) : ∃ a b c d e f, vs = [a, b, c, d, e, f] := by
  match vs, h with
  | [a, b, c, d, e, f], _ => exact ⟨a, b, c, d, e, f, rfl⟩
theorem len8' {α : Type} {vs : List α} (h : vs.length = 8) : ∃ a b c d e f g k, vs = [a, b, c, d, e, f, g, k] := by
  match vs, h with
  | [a, b, c, d, e, f, g, k], _ => exact ⟨a, b, c, d, e, f, g, k, rfl⟩
theorem OwM.apart {α : Type} {f : α → Value} {B : Nat} {e T : TypeId} {w : World} {v : Value} {l : List α} {gx : Nat} {cs : List Value} (h : OwM f B e w v l) (hn : l ≠ []) (hb : Bk w gx T cs) (hne : e ≠ T) : vblk v ≠ gx := by
  obtain ⟨h0, h2⟩ := h
  rcases h2 with ⟨rfl, h3⟩ | ⟨g, cap, cur, rfl, _, hh, _⟩
  · exact absurd (by simpa using h3) hn
  · intro e'
    have e2 : g = gx := e'
    subst e2
    rw [show w.heap[g]? = some (Obj.cells cs.toArray T (0, 0)) from hb] at hh
    simp only [Option.some.injEq, Obj.cells.injEq] at hh
    exact hne hh.2.1.symm
theorem len7' {α : Type} {vs : List α} (h : vs.length = 7) : ∃ a b c d e f g, vs = [a, b, c, d, e, f, g] := by
  match vs, h with
  | [a, b, c, d, e, f, g], _ => exact ⟨a, b, c, d, e, f, g, rfl⟩
end Go.Proofs.Ytoccimigjjndpaa
