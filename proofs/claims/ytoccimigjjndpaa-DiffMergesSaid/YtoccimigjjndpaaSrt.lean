/-
  Rows of texts put together out of parts in a drawn region; small additions.
-/
import Derived.Test.YtoccimigjjndpaaClo
set_option linter.unusedVariables false
set_option linter.unusedSimpArgs false
namespace Go.Proofs.Ytoccimigjjndpaa
open Go Go.RowKit
section
variable {P : Program} {n : Nat} {K : Rho → World → Prop} {ρ : Rho} {w : World} {ops rest : List Oper}
variable {ty : TypeId} {pos : String} {after : Array Edge} {g : Option (Nat × Bool)} {d : Nat} {t e : TypeId} {α : Type} {f : α → Value} {l l2 : List α}
theorem V_appendK {x y : Operand} {B : Nat} {v v2 : Value} {vs vs2 : List Value} {z : Value} {bytes : Nat} (T : ElT P t e z bytes) (hzc : z.cells.size = 1) (hbm : bytes ≤ 64) (hg : gd ops ρ g = some true) (hd : Nat.blt d n = true) (hx : ev ρ x = some v) (hy : ev ρ y = some v2)
    (ho : Own B e w v vs) (h2 : SlV w v2 vs2) (h1 : ∀ u ∈ vs2, u.oneCell' = true) (hm : vs.length + vs2.length ≤ 1073741824) (hB : B ≤ w.heap.size)
    (h : ∀ v' w', Own B e w' v' (vs ++ vs2) → w.grownBy w' v.ownBlock → (v'.ownBlock = v.ownBlock ∨ v'.ownBlock = some w.heap.size) → WL P n ops rest K ((d, v') :: ρ) w') :
    WL P n ops (⟨some d, .call { callee := .builtin .append, args := #[x, y], argTypes := #[t, t] }, ty, pos, after, g⟩ :: rest) K ρ w := by
  obtain ⟨inf, hi, hsz, hzz, hby⟩ := T.info
  obtain ⟨a, cap, rfl, hle, hcm, hnone, hcells⟩ := h2
  have hb1 : (vs.length + vs2.length) * bytes ≤ 1073741824 * 64 := Nat.mul_le_mul hm hbm
  have key : ∃ v' w', (Builtin.append_ #[t, t] ty #[v, .slice a vs2.length cap]).run P w = .ok v' w' ∧ w'.ownsRow B e 1 v' (vs.length + vs2.length) (vs ++ vs2) ∧ w.grownBy w' v.ownBlock ∧ (v'.ownBlock = v.ownBlock ∨ v'.ownBlock = some w.heap.size) := by
    cases a with
    | some ad =>
      obtain ⟨v', w', h1', h2', h3', _, h5'⟩ := run_append_own_at (P := P) w B t ty e inf z 1 bytes T.sl hi hzz hsz hby hzc (by decide) v vs.length vs ho ad vs2.length cap vs2 (by omega)
        (fun j u hu => by obtain ⟨x, hx, hc⟩ := hcells j u hu; cases hx; exact hc) h1 (by simp only [maxLen]; omega) (by omega) hB
      exact ⟨v', w', h1', h2', h3', h5'⟩
    | none =>
      have hc0 : cap = 0 := hnone rfl
      have hv0 : vs2 = [] := List.eq_nil_of_length_eq_zero (by omega)
      subst hv0; subst hc0
      refine ⟨v, w, ?_, (by rw [List.append_nil, List.length_nil, Nat.add_zero]; exact ho), ⟨rfl, rfl, rfl, Nat.le_refl _, fun _ _ _ => rfl⟩, .inl rfl⟩
      obtain ⟨_, h0 | ⟨g', cap', cur', rfl, _, _, hn', _⟩⟩ := ho
      · obtain ⟨rfl, _⟩ := h0
        simp [Builtin.append_, run_underlying T.sl, sizeOf, typeInfo, hi, Builtin.lenOf, Builtin.firstCells]
      · simp [Builtin.append_, run_underlying T.sl, sizeOf, typeInfo, hi, Builtin.lenOf, Builtin.firstCells, hn', storeCells]
  obtain ⟨v', w', hr, hown, hgr, hbk⟩ := key
  refine WL_val rfl hg hd (fun c hc => by simp [execOp, resolve, invoke, builtin, hc.eval hx, hc.eval hy, hr]) (h v' w' ?_ hgr hbk)
  unfold Own
  rw [List.length_append]; exact hown
theorem M_appendK {x y : Operand} {B : Nat} {v v2 : Value} {z : Value} {bytes : Nat} (T : ElT P t e z bytes) (hzc : z.cells.size = 1) (hbm : bytes ≤ 64) (hg : gd ops ρ g = some true) (hd : Nat.blt d n = true) (hx : ev ρ x = some v) (hy : ev ρ y = some v2)
    (ho : OwM f B e w v l) (h2 : SlM f w v2 l2) (h1 : ∀ a ∈ l2, (f a).oneCell' = true) (hm : l.length + l2.length ≤ 1073741824) (hB : B ≤ w.heap.size)
    (h : ∀ v' w', OwM f B e w' v' (l ++ l2) → w.grownBy w' v.ownBlock → (v'.ownBlock = v.ownBlock ∨ v'.ownBlock = some w.heap.size) → WL P n ops rest K ((d, v') :: ρ) w') :
    WL P n ops (⟨some d, .call { callee := .builtin .append, args := #[x, y], argTypes := #[t, t] }, ty, pos, after, g⟩ :: rest) K ρ w :=
  V_appendK T hzc hbm hg hd hx hy ho h2 (fun u hu => by obtain ⟨a, ha, rfl⟩ := List.mem_map.1 hu; exact h1 a ha) (by rw [List.length_map, List.length_map]; exact hm) hB fun v' w' a b c => h v' w' (by unfold OwM; rw [List.map_append]; exact a) b c
theorem M_lit0 {z : Value} {b : Nat} (T : ElT P t e z b) (hg : gd ops ρ g = some true) (hd : Nat.blt d n = true)
    (h : ∀ v w', OwM f w.heap.size e w' v [] → Ext w w' → WL P n ops rest K ((d, v) :: ρ) w') :
    WL P n ops (⟨some d, .buildSlice t 0 #[], ty, pos, after, g⟩ :: rest) K ρ w := by
  obtain ⟨inf, h1, h2, h3, h4⟩ := T.info
  refine WL_val rfl hg hd (v := .slice (some ⟨w.heap.size, 0, none⟩) 0 0) (w' := w.alloc (.cells #[] e)) (fun c hc => ?_) (h _ _ ⟨rfl, .inr ⟨w.heap.size, 0, #[], rfl, Nat.le_refl _, heap_alloc_new w _, by simp, by simp, by simp, by simp⟩⟩ (Ext.alloc w _))
  simp [execOp, Instr.buildSlice, run_underlying T.sl, sizeOf, typeInfo, h1, h2, Instr.fill, newRow, Array.range_zero']
theorem O_sneqB {x y : Operand} {xt yt : TypeId} {a b : ByteArray} {tb : Bool} (hg : gd ops ρ g = some true) (hd : Nat.blt d n = true) (hx : ev ρ x = some (.string a)) (hy : ev ρ y = some (.string b)) (ht : (!decide (a = b)) = tb) (h : WL P n ops rest K ((d, .bool tb) :: ρ) w) :
    WL P n ops (⟨some d, .binOp .neq xt x y yt, ty, pos, after, g⟩ :: rest) K ρ w := O_sneq hg hd hx hy (by rw [ht]; exact h)
theorem O_slssB {x y : Operand} {xt yt : TypeId} {a b : ByteArray} {tb : Bool} (hg : gd ops ρ g = some true) (hd : Nat.blt d n = true) (hx : ev ρ x = some (.string a)) (hy : ev ρ y = some (.string b)) (ht : nlt a b = tb) (h : WL P n ops rest K ((d, .bool tb) :: ρ) w) :
    WL P n ops (⟨some d, .binOp .lss xt x y yt, ty, pos, after, g⟩ :: rest) K ρ w := O_slss hg hd hx hy (by rw [ht]; exact h)
end
section
variable {α : Type} {f : α → Value} {w w' W : World} {l : List α} {v c : Value} {B : Nat} {e : TypeId}
theorem OwM.blkK (h : OwM f B e w v l) {k : Nat} (hk : v.ownBlock = some k) : B ≤ k ∧ k < w.heap.size := by
  obtain ⟨_, h2⟩ := h
  rcases h2 with ⟨rfl, _⟩ | ⟨g, cap, cur, rfl, hb, hh, _⟩
  · cases hk
  · simp [Value.ownBlock] at hk
    subst hk
    refine ⟨hb, ?_⟩
    rcases Nat.lt_or_ge g w.heap.size with q | q
    · exact q
    · rw [Array.getElem?_eq_none q] at hh; cases hh
theorem OwM.ownK (h : OwM f B e w v l) (hn : l ≠ []) : v.ownBlock = some (vblk v) := by
  obtain ⟨_, h2⟩ := h
  rcases h2 with ⟨rfl, h3⟩ | ⟨g, cap, cur, rfl, _⟩
  · exact absurd (by simpa using h3) hn
  · rfl
theorem OwM.grownOff {row : Option Nat} (h : OwM f B e w v l) (hn : l ≠ []) (hg : w.grownBy w' row) (hr : row ≠ some (vblk v)) : OwM f B e w' v l := by
  have hk := h.ownK hn
  have hlt := (h.blkK hk).2
  obtain ⟨h1, h2⟩ := h
  refine ⟨h1, ?_⟩
  rcases h2 with h2 | ⟨g, cap, cur, rfl, k4, hh, r⟩
  · exact .inl h2
  · exact .inr ⟨g, cap, cur, rfl, k4, (hg.block g hlt fun e => hr e.symm).trans hh, r⟩
theorem OwM.extGrown (h : OwM f B e w v l) (hg : w.grownBy w' v.ownBlock) (he : Ext W w) (hB : W.heap.size ≤ B) : Ext W w' :=
  (World.grownBy.toP (M := fun k => v.ownBlock = some k) hg fun k hk => hk).ext he fun k hk => Nat.le_trans hB (h.blkK hk).1
end
/-- A row of texts put together: nothing, then l1, a text, l2 with it, l3 at the end. -/
def XSo (W : World) (l1 l2 l3 : Nm) (s : ByteArray) : List (Option Value) → World → Prop
  | [v0, v1, v2, v3, v4], w => Ext W w ∧
    (∀ a, v0 = some a → v1 = none → OwM fS W.heap.size 9 w a [] ∧ ∀ c, v2 = some c → a.ownBlock ≠ some (vblk c)) ∧
    (∀ b, v1 = some b → v3 = none → OwM fS W.heap.size 9 w b l1 ∧ ∀ c, v2 = some c → b.ownBlock ≠ some (vblk c)) ∧
    (∀ c, v2 = some c → v3 = none → OwM fS W.heap.size 9 w c [s]) ∧
    (∀ d, v3 = some d → v4 = none → OwM fS W.heap.size 9 w d l2) ∧ (∀ x, v4 = some x → OwM fS W.heap.size 9 w x l3) ∧ (v1 = none → v3 = none) ∧ (v3 = none → v4 = none)
  | _, _ => False
section
variable {W w w' : World} {l1 l2 l3 : Nm} {s : ByteArray} {v0 v1 v2 v3 v4 : Option Value} {a b c d x : Value}
theorem XSo.toE : ∀ vs w', XSo W l1 l2 l3 s vs w' → Ext W w'
  | [_, _, _, _, _], _, h => h.1
  | [], _, h => h.elim
  | [_], _, h => h.elim
  | [_, _], _, h => h.elim
  | [_, _, _], _, h => h.elim
  | [_, _, _, _], _, h => h.elim
  | _ :: _ :: _ :: _ :: _ :: _ :: _, _, h => h.elim
theorem XSo.start (h : Ext W w) : XSo W l1 l2 l3 s [none, none, none, none, none] w :=
  ⟨h, fun _ h _ => (by cases h), fun _ h _ => (by cases h), fun _ h _ => (by cases h), fun _ h _ => (by cases h), fun _ h => (by cases h), fun _ => rfl, fun _ => rfl⟩
theorem XSo.s0 (h : XSo W l1 l2 l3 s [none, v1, v2, v3, v4] w) (he : Ext w w') (ho : OwM fS w.heap.size 9 w' a []) : XSo W l1 l2 l3 s [some a, v1, v2, v3, v4] w' := by
  obtain ⟨k1, k2, k3, k4, k5, k6, k7, k8⟩ := h
  refine ⟨k1.trans he, fun a' ha h1 => ?_, fun b hb h3 => ⟨(k3 b hb h3).1.ext he, (k3 b hb h3).2⟩, fun c hc h3 => (k4 c hc h3).ext he, fun d hd h4 => (k5 d hd h4).ext he, fun x hx => (k6 x hx).ext he, k7, k8⟩
  cases ha
  refine ⟨ho.mono k1.size, fun c hc hq => ?_⟩
  have q1 := (ho.blkK hq).1
  have q2 := ((k4 c hc (k7 h1)).blkK ((k4 c hc (k7 h1)).ownK (by simp))).2
  omega
theorem XSo.s2 (h : XSo W l1 l2 l3 s [v0, v1, none, v3, v4] w) (he : Ext w w') (ho : OwM fS w.heap.size 9 w' c [s]) : XSo W l1 l2 l3 s [v0, v1, some c, v3, v4] w' := by
  obtain ⟨k1, k2, k3, k4, k5, k6, k7, k8⟩ := h
  have q1 := (ho.blkK (ho.ownK (by simp))).1
  refine ⟨k1.trans he, fun a ha h1 => ⟨(k2 a ha h1).1.ext he, fun c' hc hq => ?_⟩, fun b hb h3 => ⟨(k3 b hb h3).1.ext he, fun c' hc hq => ?_⟩, fun c' hc h3 => ?_, fun d hd h4 => (k5 d hd h4).ext he, fun x hx => (k6 x hx).ext he, k7, k8⟩
  · cases hc; have := ((k2 a ha h1).1.blkK hq).2; omega
  · cases hc; have := ((k3 b hb h3).1.blkK hq).2; omega
  · cases hc; exact ho.mono k1.size
theorem XSo.s1 (h : XSo W l1 l2 l3 s [some a, none, v2, v3, v4] w) (hg : w.grownBy w' a.ownBlock) (hk : b.ownBlock = a.ownBlock ∨ b.ownBlock = some w.heap.size) (ho : OwM fS W.heap.size 9 w' b l1) : XSo W l1 l2 l3 s [some a, some b, v2, v3, v4] w' := by
  obtain ⟨k1, k2, k3, k4, k5, k6, k7, k8⟩ := h
  obtain ⟨q1, q2⟩ := k2 a rfl rfl
  have h3 := k7 rfl
  have h4 := k8 h3
  subst h3; subst h4
  refine ⟨q1.extGrown hg k1 (Nat.le_refl _), fun _ _ h1 => (by cases h1), fun b' hb _ => ?_, fun c hc h3 => (k4 c hc h3).grownOff (by simp) hg (q2 c hc), fun _ hd _ => (by cases hd), fun _ hx => (by cases hx), fun h => (by cases h), k8⟩
  cases hb
  refine ⟨ho, fun c hc hq => ?_⟩
  rcases hk with hk | hk
  · exact q2 c hc (hk ▸ hq)
  · have e1 := ((k4 c hc rfl).blkK ((k4 c hc rfl).ownK (by simp))).2
    rw [hk] at hq
    injection hq with hq
    omega
theorem XSo.s3 (h : XSo W l1 l2 l3 s [v0, some b, some c, none, v4] w) (hg : w.grownBy w' b.ownBlock) (ho : OwM fS W.heap.size 9 w' d l2) : XSo W l1 l2 l3 s [v0, some b, some c, some d, v4] w' := by
  obtain ⟨k1, k2, k3, k4, k5, k6, k7, k8⟩ := h
  have h4 := k8 rfl
  subst h4
  exact ⟨(k3 b rfl rfl).1.extGrown hg k1 (Nat.le_refl _), fun _ _ h1 => (by cases h1), fun _ _ h1 => (by cases h1), fun _ _ h1 => (by cases h1), fun d' hd _ => (by cases hd; exact ho), fun _ hx => (by cases hx), fun h => (by cases h), fun h => (by cases h)⟩
theorem XSo.s4 (h : XSo W l1 l2 l3 s [v0, v1, v2, some d, none] w) (hg : w.grownBy w' d.ownBlock) (ho : OwM fS W.heap.size 9 w' x l3) : XSo W l1 l2 l3 s [v0, v1, v2, some d, some x] w' := by
  obtain ⟨k1, k2, k3, k4, k5, k6, k7, k8⟩ := h
  have h1 : v1 ≠ none := fun h => (by have := k7 h; cases this)
  exact ⟨(k5 d rfl rfl).extGrown hg k1 (Nat.le_refl _), fun _ _ h => absurd h h1, fun _ _ h => (by cases h), fun _ _ h => (by cases h), fun _ _ h => (by cases h), fun x' hx => (by cases hx; exact ho), fun h => absurd h h1, fun h => (by cases h)⟩
end
/-! ### Sorting -/
theorem names_take (E : Env) (m : Nat) : (E.map (·.1)).take m = (E.take m).map (·.1) := by rw [List.map_take]
theorem eset_len1 (E : Env) (s : ByteArray) (n : Int) : (eset E s n).length ≤ E.length + 1 := by
  by_cases h : egot E s
  · rw [egot_eset h]; have := egot_lt h; simp; omega
  · rw [egot_eset' h]; have := eat_le E s; simp; omega
theorem sortF_len : ∀ (l : Nm) (E : Env), (l.foldl (fun E s => eset E s 0) E).length ≤ E.length + l.length
  | [], E => Nat.le_refl _
  | s :: r, E => by
    have h1 := sortF_len r (eset E s 0)
    have h2 := eset_len1 E s 0
    rw [List.foldl_cons, List.length_cons]
    omega
theorem sortE_len (l : Nm) : (sortE l).length ≤ l.length := by
  have := sortF_len l []
  simpa [sortE] using this
theorem sort_in {E : Env} {s : ByteArray} (h : ¬ egot E s) : (E.map (·.1)).take (eat E s) ++ [s] ++ (E.map (·.1)).drop (eat E s) = (eset E s 0).map (·.1) := by
  rw [egot_eset' h]; simp
theorem sort_got {E : Env} {s : ByteArray} (h : egot E s) : (eset E s 0).map (·.1) = E.map (·.1) := by
  rw [egot_eset h]
  have hlt := egot_lt h
  have hn : E[eat E s].1 = s := by
    unfold egot at h
    rw [List.getElem?_eq_getElem hlt] at h
    simpa using h
  have hl : eat E s < (E.map (·.1)).length := by rw [List.length_map]; exact hlt
  have hq : (E.map (·.1))[eat E s] = s := by rw [List.getElem_map]; exact hn
  have h2 : (E.map (·.1)).take (eat E s) ++ (E.map (·.1)).drop (eat E s) = E.map (·.1) := List.take_append_drop _ _
  rw [List.drop_eq_getElem_cons hl, hq] at h2
  simp only [List.map_append, List.map_cons, List.map_nil, List.map_take, List.map_drop, List.append_assoc, List.cons_append, List.nil_append]
  exact h2
end Go.Proofs.Ytoccimigjjndpaa
