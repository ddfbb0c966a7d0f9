/-
  Worlds in which blocks of some types turn; slices of one-cell elements of any kind; bytes to texts.
-/
import Derived.Test.YtnfnadhbjdcbnaaDoorAnyF
import Derived.Test.YtnfnadhbjdcbnaaDoorDec
import Derived.Laws.BytesArg
set_option linter.unusedVariables false
set_option linter.unusedSimpArgs false
namespace Go.Proofs.YtnfnadhbjdcbnaaDoor
open Go Go.RowKit
theorem cells1_of_one {v : Value} (h : v.oneCell' = true) : v.cells = #[v] := by cases v <;> first | rfl | cases h
theorem len1 {vs : List Value} (h : vs.length = 1) : ∃ v, vs = [v] := by
  match vs, h with
  | [v], _ => exact ⟨v, rfl⟩
theorem len1o {vs : List (Option Value)} (h : vs.length = 1) : ∃ v, vs = [v] := by
  match vs, h with
  | [v], _ => exact ⟨v, rfl⟩
/-- Blocks of elements of other types than these do not turn. -/
structure ExtT (S : List TypeId) (w w' : World) : Prop where
  size : w.heap.size ≤ w'.heap.size
  block : ∀ (k : Nat) (cs : Array Value) (e : TypeId), w.heap[k]? = some (Obj.cells cs e (0, 0)) → e ∉ S → w'.heap[k]? = w.heap[k]?
section
variable {S S' : List TypeId} {w w' w'' w0 : World} {B g b : Nat} {e T : TypeId} {v : Value} {vs : List Value} {rows : List (List Value)} 
theorem ExtT.refl (S : List TypeId) (w : World) : ExtT S w w := ⟨Nat.le_refl _, fun _ _ _ _ _ => rfl⟩
theorem ExtT.trans (h : ExtT S w w') (k : ExtT S w' w'') : ExtT S w w'' :=
  ⟨Nat.le_trans h.size k.size, fun j cs e hj he => by
    have h1 := h.block j cs e hj he
    have h2 := k.block j cs e (h1.trans hj) he
    exact h2.trans h1⟩
theorem ExtT.mono (h : ExtT S w w') (hs : ∀ e ∈ S, e ∈ S') : ExtT S' w w' := ⟨h.size, fun j cs e hj he => h.block j cs e hj (fun hm => he (hs e hm))⟩
theorem Ext.toT (h : Ext w w') : ExtT S w w' := ⟨h.size, fun j cs e hj _ => (h.heap hj).trans hj.symm⟩
theorem Chg.toT {cs : List Value} (h : Chg b w w') (hb : Bk w b T cs) : ExtT [T] w w' :=
  ⟨Nat.le_of_eq h.size.symm, fun j cs' e hj he => h.block j fun e' => by
    subst e'
    rw [show w.heap[j]? = some (Obj.cells cs.toArray T (0, 0)) from hb] at hj
    simp only [Option.some.injEq, Obj.cells.injEq] at hj
    exact he (by simp [hj.2.1])⟩
theorem Own.heap (h : Own B e w v vs) {k : Nat} (hk : v.ownBlock = some k) : ∃ cs, w.heap[k]? = some (Obj.cells cs e (0, 0)) := by
  obtain ⟨_, h2⟩ := h
  rcases h2 with ⟨rfl, _⟩ | ⟨g, cap, cur, rfl, _, hh, _⟩
  · simp [Value.ownBlock] at hk
  · simp [Value.ownBlock] at hk; subst hk; exact ⟨_, hh⟩
theorem OwnK.heap {z : Nat} (h : OwnK z B e w v rows) {k : Nat} (hk : v.ownBlock = some k) : ∃ cs, w.heap[k]? = some (Obj.cells cs e (0, 0)) := by
  obtain ⟨⟨_, h2⟩, _⟩ := h
  rcases h2 with ⟨rfl, _⟩ | ⟨g, cap, cur, rfl, _, hh, _⟩
  · simp [Value.ownBlock] at hk
  · simp [Value.ownBlock] at hk; subst hk; exact ⟨_, hh⟩
theorem grown_toT {row : Option Nat} (h : w.grownBy w' row) (hr : ∀ k, row = some k → ∃ cs, w.heap[k]? = some (Obj.cells cs e (0, 0))) : ExtT [e] w w' :=
  ⟨h.size, fun j cs e' hj he => h.block j (by
    rcases Nat.lt_or_ge j w.heap.size with k | k
    · exact k
    · rw [Array.getElem?_eq_none k] at hj; cases hj) fun e'' => by
    obtain ⟨cs', hc⟩ := hr j e''.symm
    rw [hc] at hj
    simp only [Option.some.injEq, Obj.cells.injEq] at hj
    exact he (by simp [hj.2.1])⟩
theorem Own.grownT (h : Own B e w v vs) (hg : w.grownBy w' v.ownBlock) : ExtT [e] w w' := grown_toT hg fun k hk => h.heap hk
theorem Bk.extT {cs : List Value} (h : Bk w b T cs) (he : ExtT S w w') (hs : T ∉ S) : Bk w' b T cs := (he.block b _ _ h hs).trans h
theorem Own.extT (h : Own B e w v vs) (he : ExtT S w w') (hs : e ∉ S) : Own B e w' v vs := by
  obtain ⟨h1, h2⟩ := h
  refine ⟨h1, ?_⟩
  rcases h2 with h2 | ⟨g, cap, cur, h3, h4, hh, r⟩
  · exact .inl h2
  · exact .inr ⟨g, cap, cur, h3, h4, (he.block g _ _ hh hs).trans hh, r⟩
theorem OwnK.extT {z : Nat} (h : OwnK z B e w v rows) (he : ExtT S w w') (hs : e ∉ S) : OwnK z B e w' v rows := by
  obtain ⟨⟨h1, h2⟩, h0⟩ := h
  refine ⟨⟨h1, ?_⟩, h0⟩
  rcases h2 with h2 | ⟨g, cap, cur, h3, h4, hh, r⟩
  · exact .inl h2
  · exact .inr ⟨g, cap, cur, h3, h4, (he.block g _ _ hh hs).trans hh, r⟩
end
theorem No.extT {S : List TypeId} {w w' : World} {B : Nat} {e : TypeId} {v : Value} {l : List Nat} (h : No B e w v l) (he : ExtT S w w') (hs : e ∉ S) : No B e w' v l := ⟨h.own.extT he hs, h.d⟩
/-- 'append' to a row of one's own of one-cell elements: the old slice reads as before. -/
theorem run_append_old {P : Program} {w : World} {B : Nat} (t ty e : TypeId) (i : TypeInfo) (z : Value) (ht : P.underlying t = some (.slice e)) (hi : P.info? e = some i) (hz : i.zero = some z) (hsize : i.size = 1) (hby : i.bytes ≤ 64)
    (v : Value) (xs : List Value) (hown : Own B e w v xs) (a : Addr) (c : Nat) (news : List Value) (hnews : ∀ j u, news[j]? = some u → w.cell? (a.add j) = some u) (h1 : ∀ u ∈ news, u.oneCell' = true) (hm : xs.length + news.length ≤ 1073741824) :
    ∃ v' w', (Builtin.append_ #[t, t] ty #[v, .slice (some a) news.length c]).run P w = .ok v' w' ∧ (SlV w' v xs ∨ slTake v' xs.length = v) := by
  have hown' := hown
  obtain ⟨h0, h2⟩ := hown
  have hb : (xs.length + news.length) * i.bytes ≤ 1073741824 * 64 := Nat.mul_le_mul hm hby
  have hl : news.length = news.length * i.size := by rw [hsize, Nat.mul_one]
  rcases h2 with ⟨rfl, hn⟩ | ⟨g, cap, cur, rfl, hbg, hg, hnc, hcm, hcs, htake⟩
  · have hx : xs = [] := List.eq_nil_of_length_eq_zero hn
    subst hx
    rcases Nat.eq_zero_or_pos news.length with h3 | h3
    · have hnil : news = [] := List.eq_nil_of_length_eq_zero h3
      subst hnil
      refine ⟨.slice none 0 0, w, ?_, .inl (SlV.nil w)⟩
      simp [Builtin.append_, run_underlying ht, sizeOf, typeInfo, hi, Builtin.lenOf, Builtin.firstCells, loadCells, loadCellsFrom, hsize]
    · simp only [List.length_nil, Nat.zero_add] at hb hm
      exact ⟨_, _, run_append_nil (P := P) w t ty e i z ht hi hz a news.length c news hl hnews h3 (by omega) (by omega), .inl (SlV.nil _)⟩
  · by_cases hroom : xs.length + news.length ≤ cap
    · have hfit : xs.length * i.size + news.length ≤ cur.size := by rw [hsize, hcs, Nat.mul_one, Nat.mul_one]; exact hroom
      exact ⟨_, _, run_append_room (P := P) w t ty e i ht hi g xs.length cap cur hg a news.length c news hl hnews h1 hroom hfit, .inr rfl⟩
    · have holds : ∀ j u, xs[j]? = some u → w.cell? ((⟨g, 0, none⟩ : Addr).add j) = some u := World.ownsRow.cells hown' (g := g) rfl
      exact ⟨_, _, run_append_grow (P := P) w t ty e i z ht hi hz ⟨g, 0, none⟩ xs.length cap xs (by rw [hsize, Nat.mul_one]) holds a news.length c news hl hnews (by omega) (by omega) (growslice_fits (by omega) (by omega)),
        .inl (hown'.sl.ext ((Ext.drew w).trans (Ext.alloc _ _)))⟩
theorem O_appendOld {P : Program} {n : Nat} {K : Rho → World → Prop} {ρ : Rho} {w : World} {ops rest : List Oper} {ty : TypeId} {pos : String} {after : Array Edge} {g : Option (Nat × Bool)} {d : Nat}
    {x y : Operand} {t e : TypeId} {B : Nat} {v v2 : Value} {vs vs2 : List Value} {z : Value} {bytes : Nat} (T : ElT P t e z bytes) (hzc : Nat.beq z.cells.size 1 = true)
    (hg : gd ops ρ g = some true) (hd : Nat.blt d n = true) (hx : ev ρ x = some v) (hy : ev ρ y = some v2) (ho : Own B e w v vs) (h2 : SlV w v2 vs2) (hne : vs2 ≠ []) (h1 : ∀ u ∈ vs2, u.oneCell' = true)
    (hm : vs.length + vs2.length ≤ 1073741824) (hbm : Nat.ble bytes 64 = true) (hB : B ≤ w.heap.size)
    (h : ∀ v' w', Own B e w' v' (vs ++ vs2) → w.grownBy w' v.ownBlock → SlV w' v vs → WL P n ops rest K ((d, v') :: ρ) w') :
    WL P n ops (⟨some d, .call { callee := .builtin .append, args := #[x, y], argTypes := #[t, t] }, ty, pos, after, g⟩ :: rest) K ρ w := by
  obtain ⟨inf, hi, hsz, hzz, hby⟩ := T.info
  have hbm' : bytes ≤ 64 := by simpa using hbm
  have hzc' : z.cells.size = 1 := by simpa using hzc
  obtain ⟨a, cap, rfl, hle, hcm, hnone, hcells⟩ := h2
  have hb1 : (vs.length + vs2.length) * bytes ≤ 1073741824 * 64 := Nat.mul_le_mul hm hbm'
  cases a with
  | none =>
    have : vs2 = [] := List.eq_nil_of_length_eq_zero (by have := hnone rfl; omega)
    exact absurd this hne
  | some ad =>
    have hc : ∀ j u, vs2[j]? = some u → w.cell? (ad.add j) = some u := fun j u hu => by obtain ⟨x, hx, hc⟩ := hcells j u hu; cases hx; exact hc
    obtain ⟨v', w', hr, hown, hgr, _⟩ := run_append_own (P := P) w B t ty e inf z 1 bytes T.sl hi hzz hsz hby hzc' (by omega) v vs.length vs ho ad vs2.length cap vs2 (by simp) hc h1 (by simp only [maxLen]; omega) (by omega) hB
    obtain ⟨v'', w'', hr2, hold⟩ := run_append_old (P := P) (w := w) t ty e inf z T.sl hi hzz hsz (by rw [hby]; exact hbm') v vs ho ad cap vs2 hc h1 hm
    rw [hr] at hr2
    cases hr2
    have hO : Own B e w' v' (vs ++ vs2) := by unfold Own; rw [List.length_append]; exact hown
    refine WL_val rfl hg hd (fun c hc => by simp [execOp, resolve, invoke, builtin, hc.eval hx, hc.eval hy, hr]) (h v' w' hO hgr ?_)
    rcases hold with h3 | h3
    · exact h3
    · have := hO.sl.take vs.length (by simp)
      rw [h3, List.take_left] at this
      exact this
section
variable {P : Program} {n : Nat} {K : Rho → World → Prop} {ρ : Rho} {w : World} {ops rest : List Oper}
variable {ty : TypeId} {pos : String} {after : Array Edge} {gd_ : Option (Nat × Bool)} {d : Nat} {t : TypeId}
/-- A new variable of one cell. -/
theorem O_alloc1 {z : Value} (S : (P.info? t).bind (·.zero) = some z) (hz : z.cells = #[z]) (hg : gd ops ρ gd_ = some true) (hd : Nat.blt d n = true)
    (h : ∀ g w', Bk w' g t [z] → Ext w w' → w.heap.size ≤ g → g < w'.heap.size → WL P n ops rest K ((d, .pointer (some ⟨g, 0, none⟩)) :: ρ) w') :
    WL P n ops (⟨some d, .alloc t, ty, pos, after, gd_⟩ :: rest) K ρ w := by
  cases hi : P.info? t with
  | none => rw [hi] at S; cases S
  | some i =>
    rw [hi] at S
    have S' : i.zero = some z := S
    refine WL_val rfl hg hd (v := .pointer (some ⟨w.heap.size, 0, none⟩)) (w' := w.alloc (.cells #[z] t)) (fun c hc => ?_)
      (h w.heap.size _ (heap_alloc_new w _) (Ext.alloc w _) (Nat.le_refl _) (by simp))
    simp [execOp, Instr.alloc, zeroValue, typeInfo, hi, S', newVar, newRow, hz]
end
abbrev fI : Int → Value := fun i => .int .i64 i
abbrev fB : Int → Value := fun i => .int .u8 i
abbrev fV : Value → Value := fun v => v
abbrev fS : ByteArray → Value := fun s => .string s
section
variable {α : Type} {f : α → Value} {w w' w0 : World} {v : Value} {l l2 : List α} {B B' : Nat} {e : TypeId} {S : List TypeId}
/-- The slice v reads as these. -/
def SlM (f : α → Value) (w : World) (v : Value) (l : List α) : Prop := SlV w v (l.map f)
/-- A row of one's own, of these. -/
def OwM (f : α → Value) (B : Nat) (e : TypeId) (w : World) (v : Value) (l : List α) : Prop := Own B e w v (l.map f)
theorem ExtT.chgNew {b : Nat} (h : ExtT S w0 w) (hc : Chg b w w') (hb : w0.heap.size ≤ b) : ExtT S w0 w' :=
  ⟨Nat.le_trans h.size (Nat.le_of_eq hc.size.symm), fun k cs e hk he => by
    have hlt : k < w0.heap.size := by
      rcases Nat.lt_or_ge k w0.heap.size with j | j
      · exact j
      · rw [Array.getElem?_eq_none j] at hk; cases hk
    exact (hc.block k (by omega)).trans (h.block k cs e hk he)⟩
theorem SlM.nil (w : World) : SlM f w (.slice none 0 0) [] := SlV.nil w
theorem SlM.ext (h : SlM f w v l) (he : Ext w w') : SlM f w' v l := SlV.ext h he
theorem SlM.cell (h : SlM f w v l) {j : Nat} (hj : j < l.length) : w.cell? (slAt v j) = some (f l[j]) := SlV.cell h (by simp [hj])
theorem OwM.nil (B : Nat) (e : TypeId) (w : World) : OwM f B e w (.slice none 0 0) [] := Own.nil B e w
theorem OwM.ext (h : OwM f B e w v l) (he : Ext w w') : OwM f B e w' v l := Own.ext h he
theorem OwM.extT (h : OwM f B e w v l) (he : ExtT S w w') (hs : e ∉ S) : OwM f B e w' v l := Own.extT h he hs
theorem OwM.mono (h : OwM f B e w v l) (hb : B' ≤ B) : OwM f B' e w v l := Own.mono h hb
theorem OwM.sl (h : OwM f B e w v l) : SlM f w v l := Own.sl h
theorem OwM.one (h : OwM f B e w v l) : v.oneCell' = true := by
  obtain ⟨_, h2⟩ := h
  rcases h2 with ⟨rfl, _⟩ | ⟨g, cap, cur, rfl, _⟩ <;> rfl
theorem SlM.one (h : SlM f w v l) : v.oneCell' = true := by obtain ⟨a, cap, rfl, _⟩ := h; rfl
theorem OwM.cells1 (h : OwM f B e w v l) : v.cells = #[v] := cells1_of_one h.one
theorem SlM.cells1 (h : SlM f w v l) : v.cells = #[v] := cells1_of_one h.one
theorem OwM.grownT (h : OwM f B e w v l) (hg : w.grownBy w' v.ownBlock) : ExtT [e] w w' := Own.grownT h hg
theorem OwM.ext_grown (h : OwM f B e w v l) (hg : w.grownBy w' v.ownBlock) (he : Ext w0 w) (hB : w0.heap.size ≤ B) : Ext w0 w' :=
  grown_ext hg he (fun k hk => Nat.le_trans hB (Own.row h k hk))
theorem OwM.chg {b : Nat} (h : OwM f B e w v l) {T : TypeId} {cs : List Value} (hc : Chg b w w') (hb : Bk w b T cs) (hne : e ∉ [T]) : OwM f B e w' v l := h.extT (hc.toT hb) hne
end
section
variable {α : Type} {f : α → Value}
variable {P : Program} {n : Nat} {K : Rho → World → Prop} {ρ : Rho} {w : World} {ops rest : List Oper}
variable {ty : TypeId} {pos : String} {after : Array Edge} {g : Option (Nat × Bool)} {d : Nat} {t e : TypeId} {z : Value} {bytes : Nat} {l l2 : List α}
theorem M_len {x : Operand} {v : Value} (T : ElT P t e z bytes) (hg : gd ops ρ g = some true) (hd : Nat.blt d n = true) (hx : ev ρ x = some v) (hs : SlM f w v l)
    (h : WL P n ops rest K ((d, .int .i64 (l.length : Nat)) :: ρ) w) :
    WL P n ops (⟨some d, .call { callee := .builtin .len, args := #[x], argTypes := #[t] }, ty, pos, after, g⟩ :: rest) K ρ w :=
  V_len T hg hd hx hs (by rw [List.length_map]; exact h)
theorem M_index {x ix : Operand} {v : Value} {k : IntKind} {i : Int} (T : ElT P t e z bytes)
    (hg : gd ops ρ g = some true) (hd : Nat.blt d n = true) (hx : ev ρ x = some v) (hix : ev ρ ix = some (.int k i)) (hs : SlM f w v l) (j : Nat) (hj : i = (j : Int)) (hlt : j < l.length)
    (h : WL P n ops rest K ((d, .pointer (some (slAt v j))) :: ρ) w) :
    WL P n ops (⟨some d, .indexAddr t x ix, ty, pos, after, g⟩ :: rest) K ρ w :=
  V_index T hg hd hx hix hs j hj (by rw [List.length_map]; exact hlt) h
theorem M_indexAt {w1 : World} {x ix : Operand} {v : Value} {k : IntKind} {i : Int} (T : ElT P t e z bytes)
    (hg : gd ops ρ g = some true) (hd : Nat.blt d n = true) (hx : ev ρ x = some v) (hix : ev ρ ix = some (.int k i)) (hs : SlM f w1 v l) (j : Nat) (hj : i = (j : Int)) (hlt : j < l.length)
    (h : WL P n ops rest K ((d, .pointer (some (slAt v j))) :: ρ) w) :
    WL P n ops (⟨some d, .indexAddr t x ix, ty, pos, after, g⟩ :: rest) K ρ w := by
  obtain ⟨inf, hi, hsz, _⟩ := T.info
  obtain ⟨a, cap, rfl, h2, h3, h4, h5⟩ := hs
  have hlt' : j < (l.map f).length := by rw [List.length_map]; exact hlt
  obtain ⟨p, rfl, _⟩ := h5 j (l.map f)[j] (by simp [hlt])
  subst hj
  refine WL_val rfl hg hd (fun c hc => ?_) h
  have h0 : (0 : Int) ≤ (j : Int) ∧ (j : Int) < ((l.map f).length : Int) := by omega
  have h9 : ¬ (l.map f).length ≤ j := by omega
  simp only [List.length_map] at h0 h9
  simp [execOp, hc.eval hx, hc.eval hix, Instr.indexAt, asIntOf, run_underlying T.sl, sizeOf, typeInfo, hi, hsz, h0, slAt, h9]
theorem M_load {x : Operand} {v : Value} {j : Nat} {ds : TypeDesc} (hT : P.underlying t = some ds) (hna : (match ds with | .struct _ | .array _ _ => false | _ => true) = true) (hg : gd ops ρ g = some true) (hd : Nat.blt d n = true)
    (hx : ev ρ x = some (.pointer (some (slAt v j)))) (hs : SlM f w v l) (hj : j < l.length) (h : WL P n ops rest K ((d, f l[j]) :: ρ) w) :
    WL P n ops (⟨some d, .load t x, ty, pos, after, g⟩ :: rest) K ρ w :=
  O_load hT hna hg hd hx (hs.cell hj) h
theorem M_lit {len : Nat} {parts : List (Nat × Operand)} (T : ElT P t e z bytes) (hg : gd ops ρ g = some true) (hd : Nat.blt d n = true) (f : α → Value) (l : List α) (hone : ∀ a ∈ l, (f a).oneCell' = true) (hlen : l.length = len) (hsm : Nat.ble len 1000 = true) (hpos : Nat.blt 0 len = true)
    (hp : evs ρ (parts.map (·.2)) = some (l.map f)) (hi : parts.map (·.1) = List.range len)
    (h : ∀ v w', OwM f w.heap.size e w' v l → Ext w w' → WL P n ops rest K ((d, v) :: ρ) w') :
    WL P n ops (⟨some d, .buildSlice t len parts.toArray, ty, pos, after, g⟩ :: rest) K ρ w := by
  subst hlen
  have hsm1 : l.length ≤ 1000 := by simpa using hsm
  have hpos1 : 0 < l.length := by simpa [Nat.blt_eq] using hpos
  obtain ⟨inf, h1, h2, h3, h4⟩ := T.info
  have hone' : ∀ u ∈ l.map f, u.cells = #[u] := fun u hu => by obtain ⟨q, hq, rfl⟩ := List.mem_map.1 hu; exact cells1_of_one (hone q hq)
  refine WL_val rfl hg hd (v := .slice (some ⟨w.heap.size, 0, none⟩) l.length l.length) (w' := w.alloc (.cells (l.map f).toArray e)) (fun c hc => ?_)
    (h _ _ ⟨by simp, .inr ⟨w.heap.size, l.length, _, by simp, Nat.le_refl _, heap_alloc_new w _, by simp, by simp only [maxLen]; omega, by simp, by rw [List.take_of_length_le (by simp)]⟩⟩ (Ext.alloc w _))
  have hz : (parts.toArray.map fun x => (x.1, c.eval x.2)).toList = (List.range' 0 (l.map f).length).zip (l.map f) := by
    have he := hc.evals hp
    have : (parts.toArray.map fun x => (x.1, c.eval x.2)).toList = (parts.map (·.1)).zip ((parts.map (·.2)).map c.eval) := by
      simp [List.zip_map', List.map_map, Function.comp_def]
    rw [this, he, hi, List.range_eq_range']; simp
  have hf := fun (cells : Array Value) (hs : cells.size = l.length) => fill_range (l.map f) 0 cells hone' (by simp [hs])
  have hrange : ∀ x : Array Value, ((Array.range (l.length * 1)).map fun i => x[i % x.size]!).size = l.length := by intro x; simp
  have hsm' : ¬ (l.length > 2 ^ 24) := by omega
  have hm : (parts.toArray.map fun x => match x with | (i, x) => (i, c.eval x)) = (parts.toArray.map fun x => (x.1, c.eval x.2)) := rfl
  have h0 : ¬ l.length = 0 := by omega
  have hf1 := hf (((Array.range (l.length * 1)).map fun i => z.cells[i % z.cells.size]!)) (hrange z.cells)
  rw [← hz] at hf1
  simp at hf1
  simp only [execOp, hm, Instr.buildSlice, Sem.run_bind, run_underlying T.sl, Result.andThen_ok, sizeOf, typeInfo, run_program, h1, h2, Sem.run_pure, Nat.mul_one, hsm', h0, if_false, zeroValue, h3, newRow]
  simp [hf1, newRow]
theorem M_append {x y : Operand} {B : Nat} {v v2 : Value} (T : ElT P t e z bytes) (hzc : Nat.beq z.cells.size 1 = true)
    (hg : gd ops ρ g = some true) (hd : Nat.blt d n = true) (hx : ev ρ x = some v) (hy : ev ρ y = some v2) (ho : OwM f B e w v l) (h2 : SlM f w v2 l2) (hne : l2 ≠ []) (h1 : ∀ a ∈ l2, (f a).oneCell' = true)
    (hm : l.length + l2.length ≤ 1073741824) (hbm : Nat.ble bytes 64 = true) (hB : B ≤ w.heap.size)
    (h : ∀ v' w', OwM f B e w' v' (l ++ l2) → w.grownBy w' v.ownBlock → SlM f w' v l → WL P n ops rest K ((d, v') :: ρ) w') :
    WL P n ops (⟨some d, .call { callee := .builtin .append, args := #[x, y], argTypes := #[t, t] }, ty, pos, after, g⟩ :: rest) K ρ w :=
  O_appendOld T hzc hg hd hx hy ho h2 (by simpa using hne) (fun u hu => by obtain ⟨a, ha, rfl⟩ := List.mem_map.1 hu; exact h1 a ha) (by rw [List.length_map, List.length_map]; exact hm) hbm hB
    fun v' w' a b c => h v' w' (by unfold OwM; rw [List.map_append]; exact a) b c
/-- Bytes to a text. -/
theorem M_toStr {x : Operand} {v : Value} {e : TypeId} {yt : TypeId} {l : List Int} (hs : P.underlying t = some (.slice e)) (he : P.underlying e = some (.int .u8)) (hd' : P.underlying yt = some .string) (hg : gd ops ρ g = some true) (hd : Nat.blt d n = true) (hx : ev ρ x = some v) (hl : SlM fB w v l)
    (h : WL P n ops rest K ((d, .string ⟨(l.map fun n => UInt8.ofNat n.toNat).toArray⟩) :: ρ) w) :
    WL P n ops (⟨some d, .convert t yt x, ty, pos, after, g⟩ :: rest) K ρ w := by
  obtain ⟨a, cap, rfl, h2, h3, h4, h5⟩ := hl
  rw [List.length_map] at *
  refine WL_val rfl hg hd (fun c hc => ?_) h
  cases a with
  | none =>
    have h0 := h4 rfl
    have : l = [] := List.eq_nil_of_length_eq_zero (by omega)
    subst this
    simp [execOp, hc.eval hx, run_convert_bytes_nil w t e hs he _ _ yt hd']
    rfl
  | some ad =>
    have hc' : ∀ j u, (l.map fB)[j]? = some u → w.cell? (ad.add j) = some u := fun j u hu => by obtain ⟨x, hx, hc⟩ := h5 j u hu; cases hx; exact hc
    have hl := run_loadCells_list (P := P) w ad (l.map (Value.int .u8)) hc'
    rw [List.length_map] at hl
    have hr : (convert t yt (.slice (some ad) l.length cap)).run P w = .ok (.string ⟨(l.map fun n => UInt8.ofNat n.toNat).toArray⟩) w := by
      rw [run_convert_bytes_string w t yt e _ l.length cap hs he hd', run_bytesToString w ad l.length cap l hl, foldl_push_bytes]
      simp [ByteArray.empty, ByteArray.emptyWithCapacity]
      rfl
    simp [execOp, hc.eval hx, hr]
theorem M_toStrX {x : Operand} {v : Value} {e : TypeId} {yt : TypeId} {l : List Int} (hs : P.underlying t = some (.slice e)) (he : P.underlying e = some (.int .u8)) (hd' : P.underlying yt = some .string) (hg : gd ops ρ g = some true) (hd : Nat.blt d n = true) (hx : ev ρ x = some v) (hl : SlM fB w v l)
    (h : ∀ s : ByteArray, s.size = l.length → WL P n ops rest K ((d, .string s) :: ρ) w) :
    WL P n ops (⟨some d, .convert t yt x, ty, pos, after, g⟩ :: rest) K ρ w := M_toStr hs he hd' hg hd hx hl (h _ (by simp [ByteArray.size]))
end
section
variable {α : Type} {f : α → Value} {P : Program} {n : Nat} {K : Rho → World → Prop} {ρ : Rho} {w w0 : World} {ops rest : List Oper}
variable {ty : TypeId} {pos : String} {after : Array Edge} {g : Option (Nat × Bool)} {d : Nat} {t e : TypeId} {z : Value} {bytes : Nat} {l : List α}
theorem M_store {x y : Operand} {B : Nat} {v : Value} {j : Nat} {a : α} (T : ElT P t e z bytes) (hg : gd ops ρ g = some true)
    (hx : ev ρ x = some (.pointer (some (slAt v j)))) (hy : ev ρ y = some (f a)) (h1 : (f a).oneCell' = true) (ho : OwM f B e w v l) (hj : j < l.length)
    (h : ∀ w', OwM f B e w' v (l.set j a) → Chg (vblk v) w w' → B ≤ vblk v → WL P n ops rest K ρ w') :
    WL P n ops (⟨none, .store e x y, ty, pos, after, g⟩ :: rest) K ρ w := by
  obtain ⟨inf, hi, hsz, _⟩ := T.info
  refine O_storeOwn hi hsz hg hx hy h1 ho (by rw [List.length_map]; exact hj) fun w' h2 h3 => h w' ?_ h3 (Own.blk ho (by intro e; simp at e; subst e; simp at hj)).1
  unfold OwM
  rw [List.map_set]
  exact h2
theorem OwM.chgT {B : Nat} {v : Value} {w' : World} (h : OwM f B e w v l) (hn : l ≠ []) (hc : Chg (vblk v) w w') : ExtT [e] w w' := by
  obtain ⟨_, h2⟩ := h
  rcases h2 with ⟨rfl, h3⟩ | ⟨k, cap, cur, rfl, _, hh, _⟩
  · exact absurd (by simpa using h3) hn
  · exact ⟨Nat.le_of_eq hc.size.symm, fun j cs e' hj he => hc.block j fun e'' => by
      subst e''
      rw [hh] at hj
      simp only [Option.some.injEq, Obj.cells.injEq] at hj
      exact he (by simp [hj.2.1])⟩
end
end Go.Proofs.YtnfnadhbjdcbnaaDoor
