/-
  The closures of differences: what they gather.
-/
import Derived.Test.YtoccimigjjndpaaW10
import Derived.Test.YtoccimigjjndpaaW9
import Derived.Test.YtoccimigjjndpaaW5
import Derived.Test.YtoccimigjjndpaaDfp
set_option linter.unusedVariables false
set_option linter.unusedSimpArgs false
namespace Go.Proofs.Ytoccimigjjndpaa
open Go Go.RowKit
section
variable {w w' w1 w0 : World} {v : Value} {l : List Ch} {B b k : Nat} {S : List TypeId} {T T' : TypeId} {cs cs' : List Value}
theorem OwC.extT (h : OwC B w v l) (he : ExtT S w w') (hs : 74 ∉ S) : OwC B w' v l := OwnK.extT h he hs
theorem OwC.grownT (h : OwC B w v l) (hg : w.grownBy w' v.ownBlock) : ExtT [74] w w' := grown_toT hg fun k hk => OwnK.heap h hk
theorem Bk.chgN (h : Bk w b T cs) (h2 : Bk w k T' cs') (hne : T ≠ T') (hc : Chg k w w') : Bk w' b T cs := h.extT (hc.toT h2) (by simpa using hne)
theorem Bk.neT (h : Bk w b T cs) (h2 : Bk w k T' cs') (hne : T ≠ T') : b ≠ k := fun e => by
  subst e
  have h3 := Option.some.inj (Eq.trans (Eq.symm (show w.heap[b]? = _ from h)) (show w.heap[b]? = _ from h2))
  injection h3 with _ h4 _
  exact hne h4
theorem SlS.ext {m : Nm} (h : SlS w v m) (he : Ext w w') : SlS w' v m := h.extT (S := []) he.toT (by simp)
end
abbrev SNB : List TypeId := [66, 74, 52]
/-- What Between's closure keeps. -/
def KB (w0 wE : World) (g b1 b2 b3 b4 : Nat) (i1 i2 : Int) (h : ByteArray → Option Ch) (vs : Nm) (w : World) : Prop :=
  Ext w0 w ∧ ExtT SNB wE w ∧ (Bk w b1 29 [.pointer (some ⟨g, 0, none⟩)] ∧ Bk w b2 3 [.int .i64 i1] ∧ Bk w b3 3 [.int .i64 i2]) ∧
    ∃ v, Bk w b4 66 [v] ∧ OwC w0.heap.size w v (vs.filterMap h)
theorem KB.chg {w0 wE w w1 : World} {g b1 b2 b3 b4 b : Nat} {i1 i2 : Int} {h : ByteArray → Option Ch} {vs : Nm} {cs : List Value} (hK : KB w0 wE g b1 b2 b3 b4 i1 i2 h vs w) (hB : w0.heap.size ≤ b)
    (hb : Bk w b 52 cs) (hc : Chg b w w1) : KB w0 wE g b1 b2 b3 b4 i1 i2 h vs w1 := by
  obtain ⟨h1, h2, ⟨h3, h4, h5⟩, v, h6, h7⟩ := hK
  have hT := hc.toT hb
  exact ⟨hc.ext h1 hB, h2.trans (hT.mono (by decide)), ⟨h3.extT hT (by decide), h4.extT hT (by decide), h5.extT hT (by decide)⟩, v, h6.extT hT (by decide), h7.extT hT (by decide)⟩
theorem fm_snoc {α β : Type} {f : α → Option β} {l : List α} {a : α} {b : β} (h : f a = some b) : (l ++ [a]).filterMap f = l.filterMap f ++ [b] := by
  rw [List.filterMap_append, List.filterMap_cons_some h]; rfl
theorem fm_skip {α β : Type} {f : α → Option β} {l : List α} {a : α} (h : f a = none) : (l ++ [a]).filterMap f = l.filterMap f := by
  rw [List.filterMap_append, List.filterMap_cons_none h]; simp
def SlSR (l : Nm) : Nat → Nat → Value → World → Prop := fun _ _ v w => SlS w v l
theorem SlSR.mono {l : Nm} : (Kn.rel (SlSR l)).Mono := fun _ _ _ _ _ he h => SlS.ext h he
def LSR (B : Nat) (l1 l2 : Nm) : Nat → Nat → Value → World → Prop := fun _ _ v w => ∃ a b, OwM fV B 52 w v [a, b] ∧ SlS w a l1 ∧ SlS w b l2
theorem LSR.mono {B : Nat} {l1 l2 : Nm} : (Kn.rel (LSR B l1 l2)).Mono := fun _ _ _ _ _ he ⟨a, b, h1, h2, h3⟩ => ⟨a, b, h1.ext he, h2.ext he, h3.ext he⟩
def LSR3 (B : Nat) (l1 l2 l3 : Nm) : Nat → Nat → Value → World → Prop := fun _ _ v w => ∃ a b c, OwM fV B 52 w v [a, b, c] ∧ SlS w a l1 ∧ SlS w b l2 ∧ SlS w c l3
theorem LSR3.mono {B : Nat} {l1 l2 l3 : Nm} : (Kn.rel (LSR3 B l1 l2 l3)).Mono := fun _ _ _ _ _ he ⟨a, b, c, h1, h2, h3, h4⟩ => ⟨a, b, c, h1.ext he, h2.ext he, h3.ext he, h4.ext he⟩
theorem LS.two {w : World} {a b : Value} {l1 l2 : Nm} (h1 : SlS w a l1) (h2 : SlS w b l2) : LS w [a, b] [l1, l2] :=
  ⟨rfl, fun k v l hv hl => by
    match k, hv, hl with
    | 0, hv, hl => cases hv; cases hl; exact h1
    | 1, hv, hl => cases hv; cases hl; exact h2⟩
theorem LS.three {w : World} {a b c : Value} {l1 l2 l3 : Nm} (h1 : SlS w a l1) (h2 : SlS w b l2) (h3 : SlS w c l3) : LS w [a, b, c] [l1, l2, l3] :=
  ⟨rfl, fun k v l hv hl => by
    match k, hv, hl with
    | 0, hv, hl => cases hv; cases hl; exact h1
    | 1, hv, hl => cases hv; cases hl; exact h2
    | 2, hv, hl => cases hv; cases hl; exact h3⟩
theorem chq_ne {s : ByteArray} {o n : Int} (h : o ≠ n) : chq s o n = some (chOf s o n) := if_neg h
theorem chq_eq {s : ByteArray} {o n : Int} (h : ¬ o ≠ n) : chq s o n = none := if_pos (Decidable.not_not.1 h)
theorem before_len {ls : List Nm} {vs r : Nm} {s : ByteArray} (h : mergeN ls = vs ++ s :: r) : vs.length ≤ totN ls := by
  have h1 := mergeN_len ls
  rw [h, List.length_append] at h1
  omega
end Go.Proofs.Ytoccimigjjndpaa
