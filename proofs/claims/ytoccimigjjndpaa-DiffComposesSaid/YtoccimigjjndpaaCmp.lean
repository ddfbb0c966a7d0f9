/-
  What Compose's closure keeps.
-/
import Derived.Test.YtoccimigjjndpaaV5
set_option linter.unusedVariables false
set_option linter.unusedSimpArgs false
set_option maxRecDepth 100000
namespace Go.Proofs.Ytoccimigjjndpaa
open Go Go.RowKit
theorem one61 : (Try.prog.info? 61).map (·.size) = some 1 := by kernel_rfl
theorem Z61 : (Try.prog.info? 61).bind (·.zero) = some (.int .i64 0) := by kernel_rfl
abbrev SNC : List TypeId := [66, 74, 52, 61]
def KC (w0 wE : World) (b1 b2 b3 b4 : Nat) (va vb : Value) (l1 l2 : List Ch) (vs : Nm) (w : World) : Prop :=
  Ext w0 w ∧ ExtT SNC wE w ∧ (Bk w b1 66 [va] ∧ Bk w b2 66 [vb] ∧ Bk w b3 61 [.int .i64 (if vs.any (clash l1 l2) = true then 1 else 0)]) ∧
    ∃ v, Bk w b4 66 [v] ∧ OwC w0.heap.size w v (vs.filterMap (cmp1 l1 l2))
theorem KC.chg {w0 wE w w1 : World} {b1 b2 b3 b4 b : Nat} {va vb : Value} {l1 l2 : List Ch} {vs : Nm} {cs : List Value} (hK : KC w0 wE b1 b2 b3 b4 va vb l1 l2 vs w) (hB : w0.heap.size ≤ b)
    (hb : Bk w b 52 cs) (hc : Chg b w w1) : KC w0 wE b1 b2 b3 b4 va vb l1 l2 vs w1 := by
  obtain ⟨h1, h2, ⟨h3, h4, h5⟩, v, h6, h7⟩ := hK
  have hT := hc.toT hb
  exact ⟨hc.ext h1 hB, h2.trans (hT.mono (by decide)), ⟨h3.extT hT (by decide), h4.extT hT (by decide), h5.extT hT (by decide)⟩, v, h6.extT hT (by decide), h7.extT hT (by decide)⟩
theorem any_skip {f : ByteArray → Bool} {vs : Nm} {s : ByteArray} (h : f s = false) : (vs ++ [s]).any f = vs.any f := by simp [h]
theorem any_hit {f : ByteArray → Bool} {vs : Nm} {s : ByteArray} (h : f s = true) : (vs ++ [s]).any f = true := by simp [h]
theorem clash_N1 {l1 l2 : List Ch} {s : ByteArray} (h : cget l1 s = none) : clash l1 l2 s = false := by unfold clash; rw [h]
theorem clash_N2 {l1 l2 : List Ch} {s : ByteArray} (h : cget l2 s = none) : clash l1 l2 s = false := by unfold clash; rw [h]; cases cget l1 s <;> rfl
theorem clash_T {l1 l2 : List Ch} {s : ByteArray} {x y : Ch} (h1 : cget l1 s = some x) (h2 : cget l2 s = some y) (h : ¬ x.2.2.2 = y.2.2.1) : clash l1 l2 s = true := by unfold clash; rw [h1, h2]; simp [h]
theorem clash_F {l1 l2 : List Ch} {s : ByteArray} {x y : Ch} (h1 : cget l1 s = some x) (h2 : cget l2 s = some y) (h : x.2.2.2 = y.2.2.1) : clash l1 l2 s = false := by unfold clash; rw [h1, h2]; simp [h]
theorem cmp1_B {l1 l2 : List Ch} {s : ByteArray} {x y : Ch} (h1 : cget l1 s = some x) (h2 : cget l2 s = some y) : cmp1 l1 l2 s = chq s x.2.2.1 y.2.2.2 := by unfold cmp1; rw [h1, h2]
theorem cmp1_X {l1 l2 : List Ch} {s : ByteArray} {x : Ch} (h1 : cget l1 s = some x) (h2 : cget l2 s = none) : cmp1 l1 l2 s = chq s x.2.2.1 x.2.2.2 := by unfold cmp1; rw [h1, h2]
theorem cmp1_Y {l1 l2 : List Ch} {s : ByteArray} {y : Ch} (h1 : cget l1 s = none) (h2 : cget l2 s = some y) : cmp1 l1 l2 s = chq s y.2.2.1 y.2.2.2 := by unfold cmp1; rw [h1, h2]
theorem cmp1_O {l1 l2 : List Ch} {s : ByteArray} (h1 : cget l1 s = none) (h2 : cget l2 s = none) : cmp1 l1 l2 s = chq s 0 0 := by unfold cmp1 chq; rw [h1, h2]; rfl
theorem rcmp1_B {l1 l2 : List Ch} {s : ByteArray} {x y : Ch} (h1 : cget l1 s = some x) (h2 : cget l2 s = some y) : rcmp1 l1 l2 s = chq s x.2.2.1 y.2.2.2 := by unfold rcmp1; rw [h1, h2]
theorem rcmp1_X {l1 l2 : List Ch} {s : ByteArray} {x : Ch} (h1 : cget l1 s = some x) (h2 : cget l2 s = none) : rcmp1 l1 l2 s = some x := by unfold rcmp1; rw [h1, h2]
theorem rcmp1_Y {l1 l2 : List Ch} {s : ByteArray} {y : Ch} (h1 : cget l1 s = none) (h2 : cget l2 s = some y) : rcmp1 l1 l2 s = some y := by unfold rcmp1; rw [h1, h2]
theorem find_S {w : World} {v : Value} {l : List Ch} {s : ByteArray} {x : Ch} (hs : SlC w v l) (hl : l.length ≤ 1000000000) (h : cget l s = some x) : Calls Try.prog 81 #[v, .string s] w (Ret w fun r _ => r = .tuple #[.agg (ccells x).toArray, .bool true]) :=
  (find_c hs hl).mono fun _ w' ⟨r, he, hx', hr⟩ => ⟨r, he, hx', by rw [hr, h]; rfl⟩
theorem find_N {w : World} {v : Value} {l : List Ch} {s : ByteArray} (hs : SlC w v l) (hl : l.length ≤ 1000000000) (h : cget l s = none) : Calls Try.prog 81 #[v, .string s] w (Ret w fun r _ => r = .tuple #[.agg (ccells ch0).toArray, .bool false]) :=
  (find_c hs hl).mono fun _ w' ⟨r, he, hx', hr⟩ => ⟨r, he, hx', by rw [hr, h]; rfl⟩
theorem rfind_S {w : World} {v : Value} {l : List Ch} {s : ByteArray} {x : Ch} (hs : SlC w v l) (hl : l.length ≤ 1000000000) (h : cget l s = some x) : Calls Try.prog 84 #[v, .string s] w (Ret w fun r _ => r = .tuple #[.agg (ccells x).toArray, .bool true]) :=
  (rfind_c hs hl).mono fun _ w' ⟨r, he, hx', hr⟩ => ⟨r, he, hx', by rw [hr, h]; rfl⟩
theorem rfind_N {w : World} {v : Value} {l : List Ch} {s : ByteArray} (hs : SlC w v l) (hl : l.length ≤ 1000000000) (h : cget l s = none) : Calls Try.prog 84 #[v, .string s] w (Ret w fun r _ => r = .tuple #[.agg (ccells ch0).toArray, .bool false]) :=
  (rfind_c hs hl).mono fun _ w' ⟨r, he, hx', hr⟩ => ⟨r, he, hx', by rw [hr, h]; rfl⟩
theorem cmp_cases {l1 l2 : List Ch} {s : ByteArray} (h : s ∈ cmpU l1 l2) : (∃ x y, cget l1 s = some x ∧ cget l2 s = some y) ∨ (∃ x, cget l1 s = some x ∧ cget l2 s = none) ∨ (∃ y, cget l1 s = none ∧ cget l2 s = some y) := by
  obtain ⟨l, hl, k⟩ := mergeN_mem.1 h
  simp only [List.mem_cons, List.not_mem_nil, or_false] at hl
  cases hx : cget l1 s with
  | some x => cases hy : cget l2 s with
    | some y => exact .inl ⟨x, y, rfl, rfl⟩
    | none => exact .inr (.inl ⟨x, rfl, rfl⟩)
  | none => cases hy : cget l2 s with
    | some y => exact .inr (.inr ⟨y, rfl, rfl⟩)
    | none =>
      rcases hl with rfl | rfl
      · obtain ⟨c, hc⟩ := cget_some k; rw [hx] at hc; cases hc
      · obtain ⟨c, hc⟩ := cget_some k; rw [hy] at hc; cases hc
theorem cmp_sort {l1 l2 : List Ch} (h1 : AscN (cnms l1)) (h2 : AscN (cnms l2)) : sortN ((l1 ++ l2).map (·.2.1)) = cmpU l1 l2 := by
  have := sortN_merge (ls := [cnms l1, cnms l2]) fun l hl => by
    simp only [List.mem_cons, List.not_mem_nil, or_false] at hl
    rcases hl with rfl | rfl
    · exact h1
    · exact h2
  unfold cmpU
  rw [← this, List.map_append]
  congr 1
  simp [cnms]
theorem anyt_skip {f : ByteArray → Bool} {U : Nm} {i : Nat} (hi : i < U.length) (h : (U.take i).any f = false) (h2 : f U[i] = false) : (U.take (i + 1)).any f = false := by
  rw [List.take_add_one, List.getElem?_eq_getElem hi, Option.toList_some, any_skip h2]; exact h
theorem any_at {f : ByteArray → Bool} {U : Nm} {i : Nat} (hi : i < U.length) (h : f U[i] = true) : U.any f = true := by
  rw [List.any_eq_true]; exact ⟨_, List.getElem_mem hi, h⟩
end Go.Proofs.Ytoccimigjjndpaa
