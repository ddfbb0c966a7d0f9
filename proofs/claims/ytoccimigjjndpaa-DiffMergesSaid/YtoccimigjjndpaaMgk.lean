/-
  What Merge's closure keeps.
-/
import Derived.Test.YtoccimigjjndpaaV5
set_option linter.unusedVariables false
set_option linter.unusedSimpArgs false
namespace Go.Proofs.Ytoccimigjjndpaa
open Go Go.RowKit
theorem ExtT.grownNew {α : Type} {f : α → Value} {S : List TypeId} {w0 w w' : World} {B : Nat} {e : TypeId} {v : Value} {l : List α} (h : ExtT S w0 w) (ho : OwM f B e w v l) (hB : w0.heap.size ≤ B) (hg : w.grownBy w' v.ownBlock) : ExtT S w0 w' :=
  ⟨Nat.le_trans h.size hg.size, fun k cs e' hk he => by
    have hlt : k < w0.heap.size := by
      rcases Nat.lt_or_ge k w0.heap.size with j | j
      · exact j
      · rw [Array.getElem?_eq_none j] at hk; cases hk
    have hsz := h.size
    exact (hg.block k (by omega) fun hq => by have := (ho.blkK hq.symm).1; omega).trans (h.block k cs e' hk he)⟩
abbrev SX : List TypeId := [103, 97, 3, 52]
def KMg (w0 wM wE : World) (g b1 b2 b3 b4 b5 b6 : Nat) (io ia ib : Int) (eo ea eb : Env) (ps : List Part) (vs : Nm) (w : World) : Prop :=
  (Ext w0 w ∧ ExtT TFP wM w ∧ ExtT SX wE w) ∧ (Bk w b1 29 [.pointer (some ⟨g, 0, none⟩)] ∧ Bk w b2 3 [.int .i64 io] ∧ Bk w b3 3 [.int .i64 ia] ∧ Bk w b4 3 [.int .i64 ib]) ∧
    ∃ qs i u cv, (FG w0.heap.size w g (ps ++ qs) ∧ qs.length ≤ 130 * vs.length) ∧ (Rep (ps ++ qs) i u ∧ Tr.Ord u ∧ Tr.Avl u ∧ u.env = vs.foldl (mst eo ea eb) ea) ∧ Bk w b5 3 [.int .i64 i] ∧ Bk w b6 52 [cv] ∧
      OwM fS wE.heap.size 9 w cv (vs.filter (confl eo ea eb))
theorem KMg.chg {w0 wM wE w w1 : World} {g b1 b2 b3 b4 b5 b6 b : Nat} {io ia ib : Int} {eo ea eb : Env} {ps : List Part} {vs : Nm} {cs : List Value} (hK : KMg w0 wM wE g b1 b2 b3 b4 b5 b6 io ia ib eo ea eb ps vs w) (h0 : w0.heap.size ≤ wM.heap.size) (hB : wM.heap.size ≤ b) (hn : b ≠ b6)
    (hb : Bk w b 52 cs) (hc : Chg b w w1) : KMg w0 wM wE g b1 b2 b3 b4 b5 b6 io ia ib eo ea eb ps vs w1 := by
  obtain ⟨⟨h1, h2, h3⟩, ⟨k1, k2, k3, k4⟩, qs, i, u, cv, ⟨hF, hq⟩, hR, k5, k6, hC⟩ := hK
  have hT := hc.toT hb
  exact ⟨⟨hc.ext h1 (by omega), h2.chgNew hc hB, h3.trans (hT.mono (by decide))⟩, ⟨k1.extT hT (by decide), k2.extT hT (by decide), k3.extT hT (by decide), k4.extT hT (by decide)⟩, qs, i, u, cv, ⟨hF.extT' hT (by decide), hq⟩, hR, k5.extT hT (by decide), k6.chg hc (by omega), hC.extT hT (by decide)⟩
section
variable {o a b E : Env} {s : ByteArray} {vs : Nm}
theorem mst_A (h1 : nodev a s = nodev o s) (h2 : nodev b s = -1) : (vs ++ [s]).foldl (mst o a b) E = edrop (vs.foldl (mst o a b) E) s := by
  rw [List.foldl_append]
  show mst o a b _ s = _
  unfold mst
  rw [if_pos h1, if_pos h2]
theorem mst_C (h1 : nodev a s = nodev o s) (h2 : ¬ nodev b s = -1) : (vs ++ [s]).foldl (mst o a b) E = eset (vs.foldl (mst o a b) E) s (nodev b s) := by
  rw [List.foldl_append]
  show mst o a b _ s = _
  unfold mst
  rw [if_pos h1, if_neg h2]
theorem mst_E (h1 : ¬ nodev a s = nodev o s) : (vs ++ [s]).foldl (mst o a b) E = vs.foldl (mst o a b) E := by
  rw [List.foldl_append]
  show mst o a b _ s = _
  unfold mst
  rw [if_neg h1]
theorem mfold_len (o a b : Env) : ∀ (vs : Nm) (E : Env), (vs.foldl (mst o a b) E).length ≤ E.length + vs.length
  | [], E => Nat.le_refl _
  | s :: r, E => by
    have h1 := mfold_len o a b r (mst o a b E s)
    have h2 := mst_len o a b E s
    rw [List.foldl_cons, List.length_cons]
    omega
theorem flt_snoc {f : ByteArray → Bool} (h : f s = true) : (vs ++ [s]).filter f = vs.filter f ++ [s] := by simp [h]
theorem flt_skip {f : ByteArray → Bool} (h : f s = false) : (vs ++ [s]).filter f = vs.filter f := by simp [h]
theorem cf_1 (h : nodev a s = nodev o s) : confl o a b s = false := by unfold confl; rw [decide_eq_true h]; rfl
theorem cf_2 (h1 : ¬ nodev a s = nodev o s) (h : nodev b s = nodev o s) : confl o a b s = false := by unfold confl; rw [decide_eq_true h, decide_eq_false h1]; rfl
theorem cf_3 (h1 : ¬ nodev a s = nodev o s) (h2 : ¬ nodev b s = nodev o s) (h : nodev b s = nodev a s) : confl o a b s = false := by unfold confl; rw [decide_eq_true h, decide_eq_false h1, decide_eq_false h2]; rfl
theorem cf_T (h1 : ¬ nodev a s = nodev o s) (h2 : ¬ nodev b s = nodev o s) (h : ¬ nodev b s = nodev a s) : confl o a b s = true := by unfold confl; rw [decide_eq_false h, decide_eq_false h1, decide_eq_false h2]; rfl
end
/-- What Merge makes. -/
def RMg (w0 w : World) (g : Nat) (ps : List Part) (E : Env) (cl : Nm) (e : Ending) (w' : World) : Prop :=
  ∃ qs i u cv, e = .returned (.tuple #[.int .i64 i, cv]) ∧ ExtT TFP w w' ∧ Ext w0 w' ∧ FG w0.heap.size w' g (ps ++ qs) ∧ qs.length ≤ 20000 ∧ (Rep (ps ++ qs) i u ∧ Tr.Ord u ∧ Tr.Avl u ∧ u.env = E) ∧ OwM fS w.heap.size 9 w' cv cl
end Go.Proofs.Ytoccimigjjndpaa
