/-
  Worlds in which blocks of some types turn; forests beside other things; lists that closures gather.
-/
import Derived.Test.YtoccimigjjndpaaEnvs
set_option linter.unusedVariables false
set_option linter.unusedSimpArgs false
namespace Go.Proofs.Ytoccimigjjndpaa
open Go Go.RowKit
/-- Blocks of elements of other types than these do not turn. -/
structure ExtT (S : List TypeId) (w w' : World) : Prop where
  size : w.heap.size ≤ w'.heap.size
  block : ∀ (k : Nat) (cs : Array Value) (e : TypeId), w.heap[k]? = some (Obj.cells cs e (0, 0)) → e ∉ S → w'.heap[k]? = w.heap[k]?
section
variable {S S' : List TypeId} {w w' w'' w0 : World} {B g b : Nat} {e T : TypeId} {v : Value} {vs : List Value} {rows : List (List Value)} {ps qs : List Part} {l : Env}
theorem ExtT.refl (S : List TypeId) (w : World) : ExtT S w w := ⟨Nat.le_refl _, fun _ _ _ _ _ => rfl⟩
theorem ExtT.trans (h : ExtT S w w') (k : ExtT S w' w'') : ExtT S w w'' :=
  ⟨Nat.le_trans h.size k.size, fun j cs e hj he => by
    have h1 := h.block j cs e hj he
    have h2 := k.block j cs e (h1.trans hj) he
    exact h2.trans h1⟩
theorem ExtT.mono (h : ExtT S w w') (hs : ∀ e ∈ S, e ∈ S') : ExtT S' w w' := ⟨h.size, fun j cs e hj he => h.block j cs e hj (fun hm => he (hs e hm))⟩
theorem Ext.toT (h : Ext w w') : ExtT S w w' := ⟨h.size, fun j cs e hj _ => (h.heap hj).trans hj.symm⟩
theorem Chg.toT {cs : List Value} (h : Chg b w w') (hb : Bk w b T cs) : ExtT [T] w w' :=
  ⟨Nat.le_of_eq h.size.symm, fun j cs' e hj he => h.block j fun e' => by
    subst e'
    rw [show w.heap[j]? = some (Obj.cells cs.toArray T (0, 0)) from hb] at hj
    simp only [Option.some.injEq, Obj.cells.injEq] at hj
    exact he (by simp [hj.2.1])⟩
theorem Own.heap (h : Own B e w v vs) {k : Nat} (hk : v.ownBlock = some k) : ∃ cs, w.heap[k]? = some (Obj.cells cs e (0, 0)) := by
  obtain ⟨_, h2⟩ := h
  rcases h2 with ⟨rfl, _⟩ | ⟨g, cap, cur, rfl, _, hh, _⟩
  · simp [Value.ownBlock] at hk
  · simp [Value.ownBlock] at hk; subst hk; exact ⟨_, hh⟩
theorem OwnK.heap {z : Nat} (h : OwnK z B e w v rows) {k : Nat} (hk : v.ownBlock = some k) : ∃ cs, w.heap[k]? = some (Obj.cells cs e (0, 0)) := by
  obtain ⟨⟨_, h2⟩, _⟩ := h
  rcases h2 with ⟨rfl, _⟩ | ⟨g, cap, cur, rfl, _, hh, _⟩
  · simp [Value.ownBlock] at hk
  · simp [Value.ownBlock] at hk; subst hk; exact ⟨_, hh⟩
theorem grown_toT {row : Option Nat} (h : w.grownBy w' row) (hr : ∀ k, row = some k → ∃ cs, w.heap[k]? = some (Obj.cells cs e (0, 0))) : ExtT [e] w w' :=
  ⟨h.size, fun j cs e' hj he => h.block j (by
    rcases Nat.lt_or_ge j w.heap.size with k | k
    · exact k
    · rw [Array.getElem?_eq_none k] at hj; cases hj) fun e'' => by
    obtain ⟨cs', hc⟩ := hr j e''.symm
    rw [hc] at hj
    simp only [Option.some.injEq, Obj.cells.injEq] at hj
    exact he (by simp [hj.2.1])⟩
theorem Own.grownT (h : Own B e w v vs) (hg : w.grownBy w' v.ownBlock) : ExtT [e] w w' := grown_toT hg fun k hk => h.heap hk
theorem OwB.grownT (h : OwB B w v l) (hg : w.grownBy w' v.ownBlock) : ExtT [54] w w' := grown_toT hg fun k hk => OwnK.heap h hk
theorem Bk.extT {cs : List Value} (h : Bk w b T cs) (he : ExtT S w w') (hs : T ∉ S) : Bk w' b T cs := (he.block b _ _ h hs).trans h
theorem Own.extT (h : Own B e w v vs) (he : ExtT S w w') (hs : e ∉ S) : Own B e w' v vs := by
  obtain ⟨h1, h2⟩ := h
  refine ⟨h1, ?_⟩
  rcases h2 with h2 | ⟨g, cap, cur, h3, h4, hh, r⟩
  · exact .inl h2
  · exact .inr ⟨g, cap, cur, h3, h4, (he.block g _ _ hh hs).trans hh, r⟩
theorem OwnK.extT {z : Nat} (h : OwnK z B e w v rows) (he : ExtT S w w') (hs : e ∉ S) : OwnK z B e w' v rows := by
  obtain ⟨⟨h1, h2⟩, h0⟩ := h
  refine ⟨⟨h1, ?_⟩, h0⟩
  rcases h2 with h2 | ⟨g, cap, cur, h3, h4, hh, r⟩
  · exact .inl h2
  · exact .inr ⟨g, cap, cur, h3, h4, (he.block g _ _ hh hs).trans hh, r⟩
theorem OwB.extT (h : OwB B w v l) (he : ExtT S w w') (hs : 54 ∉ S) : OwB B w' v l := OwnK.extT h he hs
/-- What is read of a slice whose row's type is known. -/
def SlT (e : TypeId) (z : Nat) (w : World) (v : Value) (rows : List (List Value)) : Prop := SlK z w v rows ∧ (rows ≠ [] → ∃ cs, w.heap[vblk v]? = some (Obj.cells cs e (0, 0)))
theorem SlT.extT {z : Nat} (h : SlT e z w v rows) (he : ExtT S w w') (hs : e ∉ S) : SlT e z w' v rows := by
  obtain ⟨⟨a, cap, rfl, h2, h3, h4, h5⟩, h6⟩ := h
  refine ⟨⟨a, cap, rfl, h2, h3, h4, fun i row hr => ?_⟩, fun hn => ?_⟩
  · obtain ⟨k1, x, rfl, k3⟩ := h5 i row hr
    refine ⟨k1, x, rfl, fun j u hu => ?_⟩
    have hne : rows ≠ [] := by rintro rfl; simp at hr
    obtain ⟨cs, hc⟩ := h6 hne
    have hbl : (x.add (i * z + j)).block = x.block := by unfold Addr.add; split <;> rfl
    exact (World.cell?_of_block (by rw [hbl]; exact he.block _ _ _ hc hs)).trans (k3 j u hu)
  · obtain ⟨cs, hc⟩ := h6 hn
    exact ⟨cs, (he.block _ _ _ hc hs).trans hc⟩
/-- 'append' to a row of one's own of one-cell elements: the old slice reads as before. -/
theorem run_append_old {P : Program} {w : World} {B : Nat} (t ty e : TypeId) (i : TypeInfo) (z : Value) (ht : P.underlying t = some (.slice e)) (hi : P.info? e = some i) (hz : i.zero = some z) (hsize : i.size = 1) (hby : i.bytes ≤ 64)
    (v : Value) (xs : List Value) (hown : Own B e w v xs) (a : Addr) (c : Nat) (news : List Value) (hnews : ∀ j u, news[j]? = some u → w.cell? (a.add j) = some u) (h1 : ∀ u ∈ news, u.oneCell' = true) (hm : xs.length + news.length ≤ 1073741824) :
    ∃ v' w', (Builtin.append_ #[t, t] ty #[v, .slice (some a) news.length c]).run P w = .ok v' w' ∧ (SlV w' v xs ∨ slTake v' xs.length = v) := by
  have hown' := hown
  obtain ⟨h0, h2⟩ := hown
  have hb : (xs.length + news.length) * i.bytes ≤ 1073741824 * 64 := Nat.mul_le_mul hm hby
  have hl : news.length = news.length * i.size := by rw [hsize, Nat.mul_one]
  rcases h2 with ⟨rfl, hn⟩ | ⟨g, cap, cur, rfl, hbg, hg, hnc, hcm, hcs, htake⟩
  · have hx : xs = [] := List.eq_nil_of_length_eq_zero hn
    subst hx
    rcases Nat.eq_zero_or_pos news.length with h3 | h3
    · have hnil : news = [] := List.eq_nil_of_length_eq_zero h3
      subst hnil
      refine ⟨.slice none 0 0, w, ?_, .inl (SlV.nil w)⟩
      simp [Builtin.append_, run_underlying ht, sizeOf, typeInfo, hi, Builtin.lenOf, Builtin.firstCells, loadCells, loadCellsFrom, hsize]
    · simp only [List.length_nil, Nat.zero_add] at hb hm
      exact ⟨_, _, run_append_nil (P := P) w t ty e i z ht hi hz a news.length c news hl hnews h3 (by omega) (by omega), .inl (SlV.nil _)⟩
  · by_cases hroom : xs.length + news.length ≤ cap
    · have hfit : xs.length * i.size + news.length ≤ cur.size := by rw [hsize, hcs, Nat.mul_one, Nat.mul_one]; exact hroom
      exact ⟨_, _, run_append_room (P := P) w t ty e i ht hi g xs.length cap cur hg a news.length c news hl hnews h1 hroom hfit, .inr rfl⟩
    · have holds : ∀ j u, xs[j]? = some u → w.cell? ((⟨g, 0, none⟩ : Addr).add j) = some u := World.ownsRow.cells hown' (g := g) rfl
      exact ⟨_, _, run_append_grow (P := P) w t ty e i z ht hi hz ⟨g, 0, none⟩ xs.length cap xs (by rw [hsize, Nat.mul_one]) holds a news.length c news hl hnews (by omega) (by omega) (growslice_fits (by omega) (by omega)),
        .inl (hown'.sl.ext ((Ext.drew w).trans (Ext.alloc _ _)))⟩
theorem O_appendOld {P : Program} {n : Nat} {K : Rho → World → Prop} {ρ : Rho} {w : World} {ops rest : List Oper} {ty : TypeId} {pos : String} {after : Array Edge} {g : Option (Nat × Bool)} {d : Nat}
    {x y : Operand} {t e : TypeId} {B : Nat} {v v2 : Value} {vs vs2 : List Value} {z : Value} {bytes : Nat} (T : ElT P t e z bytes) (hzc : Nat.beq z.cells.size 1 = true)
    (hg : gd ops ρ g = some true) (hd : Nat.blt d n = true) (hx : ev ρ x = some v) (hy : ev ρ y = some v2) (ho : Own B e w v vs) (h2 : SlV w v2 vs2) (hne : vs2 ≠ []) (h1 : ∀ u ∈ vs2, u.oneCell' = true)
    (hm : vs.length + vs2.length ≤ 1073741824) (hbm : Nat.ble bytes 64 = true) (hB : B ≤ w.heap.size)
    (h : ∀ v' w', Own B e w' v' (vs ++ vs2) → w.grownBy w' v.ownBlock → SlV w' v vs → WL P n ops rest K ((d, v') :: ρ) w') :
    WL P n ops (⟨some d, .call { callee := .builtin .append, args := #[x, y], argTypes := #[t, t] }, ty, pos, after, g⟩ :: rest) K ρ w := by
  obtain ⟨inf, hi, hsz, hzz, hby⟩ := T.info
  have hbm' : bytes ≤ 64 := by simpa using hbm
  have hzc' : z.cells.size = 1 := by simpa using hzc
  obtain ⟨a, cap, rfl, hle, hcm, hnone, hcells⟩ := h2
  have hb1 : (vs.length + vs2.length) * bytes ≤ 1073741824 * 64 := Nat.mul_le_mul hm hbm'
  cases a with
  | none =>
    have : vs2 = [] := List.eq_nil_of_length_eq_zero (by have := hnone rfl; omega)
    exact absurd this hne
  | some ad =>
    have hc : ∀ j u, vs2[j]? = some u → w.cell? (ad.add j) = some u := fun j u hu => by obtain ⟨x, hx, hc⟩ := hcells j u hu; cases hx; exact hc
    obtain ⟨v', w', hr, hown, hgr, _⟩ := run_append_own (P := P) w B t ty e inf z 1 bytes T.sl hi hzz hsz hby hzc' (by omega) v vs.length vs ho ad vs2.length cap vs2 (by simp) hc h1 (by simp only [maxLen]; omega) (by omega) hB
    obtain ⟨v'', w'', hr2, hold⟩ := run_append_old (P := P) (w := w) t ty e inf z T.sl hi hzz hsz (by rw [hby]; exact hbm') v vs ho ad cap vs2 hc h1 hm
    rw [hr] at hr2
    cases hr2
    have hO : Own B e w' v' (vs ++ vs2) := by unfold Own; rw [List.length_append]; exact hown
    refine WL_val rfl hg hd (fun c hc => by simp [execOp, resolve, invoke, builtin, hc.eval hx, hc.eval hy, hr]) (h v' w' hO hgr ?_)
    rcases hold with h3 | h3
    · exact h3
    · have := hO.sl.take vs.length (by simp)
      rw [h3, List.take_left] at this
      exact this
/-- A forest above a base. -/
def FG (B : Nat) (w : World) (g : Nat) (ps : List Part) : Prop := ∃ r, Fo w g r ps ∧ B ≤ g ∧ B ≤ r
def TFP : List TypeId := [103, 97]
theorem Fo.fm {r : Nat} (h : Fo w g r ps) {k : Nat} {cs : Array Value} (hk : w.heap[k]? = some (Obj.cells cs e (0, 0))) (he : e ∉ TFP) : ¬ FM g r k := by
  obtain ⟨v, h1, h2, h3, h4⟩ := h
  rintro (rfl | rfl)
  · rw [show w.heap[k]? = some (Obj.cells _ 103 (0, 0)) from h1] at hk
    simp only [Option.some.injEq, Obj.cells.injEq] at hk
    exact he (by simp [TFP, ← hk.2.1])
  · cases hv : v.ownBlock with
    | none =>
      rw [hv] at h4
      simp at h4
      subst h4
      rw [show w.heap[g]? = some (Obj.cells _ 103 (0, 0)) from h1] at hk
      simp only [Option.some.injEq, Obj.cells.injEq] at hk
      exact he (by simp [TFP, ← hk.2.1])
    | some k' =>
      obtain ⟨cs', hc⟩ := h2.heap hv
      rw [hv] at h4
      simp at h4
      subst h4
      rw [show w.heap[k']? = some (Obj.cells cs' 97 (0, 0)) from hc] at hk
      simp only [Option.some.injEq, Obj.cells.injEq] at hk
      exact he (by simp [TFP, ← hk.2.1])
theorem FStep.toT {r r' : Nat} (hF : Fo w g r ps) (h : FStep g r w r' w') : ExtT TFP w w' :=
  ⟨h.size, fun k cs e hk he => h.1.block k (by
    rcases Nat.lt_or_ge k w.heap.size with j | j
    · exact j
    · rw [Array.getElem?_eq_none j] at hk; cases hk) (hF.fm hk he)⟩
theorem Fo.extT {r : Nat} (h : Fo w g r ps) (he : ExtT S w w') (h1 : 103 ∉ S) (h2 : 97 ∉ S) : Fo w' g r ps := by
  obtain ⟨v, k1, k2, k3, k4⟩ := h
  exact ⟨v, k1.extT he h1, k2.extT he h2, k3, k4⟩
theorem FG.ext (h : FG B w g ps) (he : Ext w w') : FG B w' g ps := by obtain ⟨r, h1, h2⟩ := h; exact ⟨r, h1.ext he, h2⟩
theorem FG.extT' (h : FG B w g ps) (he : ExtT S w w') (h1 : 103 ∉ S ∧ 97 ∉ S) : FG B w' g ps := by
  obtain ⟨r, k1, k2⟩ := h; exact ⟨r, k1.extT he h1.1 h1.2, k2⟩
theorem FG.lt (h : FG B w g ps) : B ≤ g ∧ g < w.heap.size := by obtain ⟨r, h1, h2, h3⟩ := h; exact ⟨h2, h1.g_lt⟩
end
/-- What a call on a forest makes, beside other things. -/
def FRetG (mk : Int → Value) (B g : Nat) (ps : List Part) (t : Tr) (N : Nat) (w : World) (e : Ending) (w' : World) : Prop :=
  ∃ qs i, e = .returned (mk i) ∧ ExtT TFP w w' ∧ (∀ w0, Ext w0 w → w0.heap.size ≤ B → Ext w0 w') ∧ FG B w' g (ps ++ qs) ∧ qs.length ≤ N ∧ Rep (ps ++ qs) i t
section
variable {w w' : World} {B g r N : Nat} {ps : List Part} {t : Tr} {mk : Int → Value} {f : FuncId} {P : Program} {args : Array Value}
theorem FStep.base {r' : Nat} {w0 : World} (h : FStep g r w r' w') (he : Ext w0 w) (hg : w0.heap.size ≤ g) (hr : w0.heap.size ≤ r) : Ext w0 w' :=
  h.1.ext he fun k hk => by rcases hk with hk | hk <;> omega
theorem calls_G (hF : FG B w g ps) (hB : B ≤ w.heap.size) (h : ∀ r, Fo w g r ps → Calls P f args w (FRetM mk g r ps t N w)) : Calls P f args w (FRetG mk B g ps t N w) := by
  obtain ⟨r, h1, h2, h3⟩ := hF
  refine (h r h1).mono fun e w' hR => ?_
  obtain ⟨r', qs, i, he, hs, hF', hq, hR'⟩ := hR
  refine ⟨qs, i, he, hs.toT h1, fun w0 k1 k2 => hs.base k1 (by omega) (by omega), ⟨r', hF', h2, ?_⟩, hq, hR'⟩
  rcases hs.2 with h | h <;> omega
theorem calls_G' (hF : FG B w g ps) (hB : B ≤ w.heap.size) (h : ∀ r, Fo w g r ps → Calls P f args w (FRet g r ps t N w)) : Calls P f args w (FRetG (fun i => .int .i64 i) B g ps t N w) :=
  calls_G hF hB fun r hr => h r hr
end
section
variable {P : Program} {n : Nat} {K : Rho → World → Prop} {ρ : Rho} {w : World} {ops rest : List Oper}
variable {ty : TypeId} {pos : String} {after : Array Edge} {gd_ : Option (Nat × Bool)} {d : Nat} {B g N : Nat} {ps : List Part} {t : Tr} {mk : Int → Value}
theorem O_callG {f : FuncId} {args : List Operand} {at_ : Array TypeId} {vs : List Value} (hE : Enters P f) (hg : gd ops ρ gd_ = some true) (hd : Nat.blt d n = true) (ha : evs ρ args = some vs)
    (hc : Calls P f vs.toArray w (FRetG mk B g ps t N w)) (h : ∀ qs i w', ExtT TFP w w' → (∀ w0, Ext w0 w → w0.heap.size ≤ B → Ext w0 w') → FG B w' g (ps ++ qs) → qs.length ≤ N → Rep (ps ++ qs) i t → WL P n ops rest K ((d, mk i) :: ρ) w') :
    WL P n ops (⟨some d, .call { callee := .value (.func f), args := args.toArray, argTypes := at_ }, ty, pos, after, gd_⟩ :: rest) K ρ w :=
  O_callR hE hg hd ha hc fun e w' ⟨qs, i, he, h1, h2, h3, h4, h5⟩ => ⟨_, he, h qs i w' h1 h2 h3 h4 h5⟩
end
section
variable {P : Program} {n : Nat} {K : Rho → World → Prop} {ρ : Rho} {w : World} {ops rest : List Oper}
variable {ty : TypeId} {pos : String} {after : Array Edge} {gd_ : Option (Nat × Bool)} {d : Nat} {t : TypeId}
/-- A new variable of one cell. -/
theorem O_alloc1 {z : Value} (S : (P.info? t).bind (·.zero) = some z) (hz : z.cells = #[z]) (hg : gd ops ρ gd_ = some true) (hd : Nat.blt d n = true)
    (h : ∀ g w', Bk w' g t [z] → Ext w w' → w.heap.size ≤ g → g < w'.heap.size → WL P n ops rest K ((d, .pointer (some ⟨g, 0, none⟩)) :: ρ) w') :
    WL P n ops (⟨some d, .alloc t, ty, pos, after, gd_⟩ :: rest) K ρ w := by
  cases hi : P.info? t with
  | none => rw [hi] at S; cases S
  | some i =>
    rw [hi] at S
    have S' : i.zero = some z := S
    refine WL_val rfl hg hd (v := .pointer (some ⟨w.heap.size, 0, none⟩)) (w' := w.alloc (.cells #[z] t)) (fun c hc => ?_)
      (h w.heap.size _ (heap_alloc_new w _) (Ext.alloc w _) (Nat.le_refl _) (by simp))
    simp [execOp, Instr.alloc, zeroValue, typeInfo, hi, S', newVar, newRow, hz]
/-- A slice beside nil. -/
theorem run_equalIn_nil {e : TypeId} (dd : Nat) (h : P.underlying t = some (.slice e)) : (Op.equalIn (dd + 1) t (.slice none 0 0) (.slice none 0 0)).run P w = .ok true w := by
  simp [Op.equalIn, run_underlying h]
theorem run_equalIn_some {e : TypeId} {a : Addr} {m c : Nat} (dd : Nat) (h : P.underlying t = some (.slice e)) : (Op.equalIn (dd + 1) t (.slice (some a) m c) (.slice none 0 0)).run P w = .ok false w := by
  simp [Op.equalIn, run_underlying h]
theorem O_slnil {e : TypeId} {x : Operand} {yt : TypeId} {v : Value} {z B : Nat} {e' : TypeId} {rows : List (List Value)} (hT : P.underlying t = some (.slice e)) (hg : gd ops ρ gd_ = some true) (hd : Nat.blt d n = true) (hx : ev ρ x = some v) (ho : OwnK z B e' w v rows)
    (h1 : v = .slice none 0 0 → rows = [] → WL P n ops rest K ((d, .bool true) :: ρ) w) (h2 : v ≠ .slice none 0 0 → WL P n ops rest K ((d, .bool false) :: ρ) w) :
    WL P n ops (⟨some d, .binOp .eql t x (.const (.slice none 0 0)) yt, ty, pos, after, gd_⟩ :: rest) K ρ w := by
  obtain ⟨⟨hl, h0 | ⟨g, cap, cur, rfl, _⟩⟩, _⟩ := ho
  · obtain ⟨rfl, h0⟩ := h0
    refine WL_val rfl hg hd (fun c hc => ?_) (h1 rfl (List.eq_nil_of_length_eq_zero h0))
    have hr : (Op.equal t (.slice none 0 0) (.slice none 0 0)).run P w = .ok true w := run_equalIn_nil 9999 hT
    have he : c.eval (.const (.slice none 0 0)) = .slice none 0 0 := rfl
    simp [execOp, hc.eval hx, he, eqGuard, binOp, hr]
  · refine WL_val rfl hg hd (fun c hc => ?_) (h2 (by simp))
    have hr : (Op.equal t (.slice (some ⟨g, 0, none⟩) rows.length cap) (.slice none 0 0)).run P w = .ok false w := run_equalIn_some 9999 hT
    have he : c.eval (.const (.slice none 0 0)) = .slice none 0 0 := rfl
    simp [execOp, hc.eval hx, he, eqGuard, binOp, hr]
end
/-- A block that leads to bindings gathered so far. -/
def LO (B : Nat) (w : World) (o : Nat) (l : Env) : Prop := ∃ v, Bk w o 34 [v] ∧ OwB B w v l
abbrev LTY : List TypeId := [34, 54]
def RLO (w0 w : World) (o : Nat) (l : Env) (e : Ending) (w' : World) : Prop := e = .returned (.tuple #[]) ∧ Ext w0 w' ∧ ExtT LTY w w' ∧ LO w0.heap.size w' o l
section
variable {B o : Nat} {w w' : World} {l : Env} {S : List TypeId}
theorem LO.ext (h : LO B w o l) (he : Ext w w') : LO B w' o l := by obtain ⟨v, h1, h2⟩ := h; exact ⟨v, h1.ext he, h2.ext he⟩
theorem LO.extT (h : LO B w o l) (he : ExtT S w w') (hs : 34 ∉ S ∧ 54 ∉ S) : LO B w' o l := by obtain ⟨v, h1, h2⟩ := h; exact ⟨v, h1.extT he hs.1, h2.extT he hs.2⟩
end
section
variable {P : Program} {n : Nat} {K : Rho → World → Prop} {ρ : Rho} {w w0 : World} {ops rest : List Oper}
variable {ty : TypeId} {pos : String} {after : Array Edge} {gd_ : Option (Nat × Bool)} {d o : Nat} {l : Env}
theorem O_callL {f : FuncId} {args : List Operand} {at_ : Array TypeId} {vs : List Value} (hE : Enters P f) (hg : gd ops ρ gd_ = some true) (hd : Nat.blt d n = true) (ha : evs ρ args = some vs)
    (hc : Calls P f vs.toArray w (RLO w0 w o l)) (h : ∀ w', Ext w0 w' → ExtT LTY w w' → LO w0.heap.size w' o l → WL P n ops rest K ((d, .tuple #[]) :: ρ) w') :
    WL P n ops (⟨some d, .call { callee := .value (.func f), args := args.toArray, argTypes := at_ }, ty, pos, after, gd_⟩ :: rest) K ρ w :=
  O_callR hE hg hd ha hc fun e w' ⟨he, h1, h2, h3⟩ => ⟨_, he, h w' h1 h2 h3⟩
theorem O_callLV {x : Operand} {f : FuncId} {args : List Operand} {at_ : Array TypeId} {vs us : List Value} (hE : Enters P f) (hg : gd ops ρ gd_ = some true) (hd : Nat.blt d n = true) (hx : ev ρ x = some (.func (.func f) #[] us.toArray)) (ha : evs ρ args = some vs)
    (hc : Calls P f (vs ++ us).toArray w (RLO w0 w o l)) (h : ∀ w', Ext w0 w' → ExtT LTY w w' → LO w0.heap.size w' o l → WL P n ops rest K ((d, .tuple #[]) :: ρ) w') :
    WL P n ops (⟨some d, .call { callee := .value x, args := args.toArray, argTypes := at_ }, ty, pos, after, gd_⟩ :: rest) K ρ w :=
  O_callV hE hg hd hx ha hc fun e w' ⟨he, h1, h2, h3⟩ => ⟨_, he, h w' h1 h2 h3⟩
end
/-! ### Plain laws -/
theorem asc_get : ∀ {l : Env} {i : Nat}, Asc l → (h : i + 1 < l.length) → nlt l[i].1 l[i + 1].1 = true
  | a :: b :: l, 0, h, _ => asc_all h b (by simp)
  | a :: l, i + 1, h, hl => by
    simp only [List.getElem_cons_succ]
    exact asc_get (asc_tail h) (by simpa using hl)
/-- The tree of a sorted list. -/
def bld (l : Env) : Tr := if h : l.length = 0 then .leaf else .node (bld (l.take (l.length / 2))) (l[l.length / 2]'(by omega)).1 (l[l.length / 2]'(by omega)).2 (bld (l.drop (l.length / 2 + 1)))
termination_by l.length
decreasing_by
  · simp only [List.length_take]; omega
  · simp only [List.length_drop]; omega
theorem bld_nil : bld [] = .leaf := by rw [bld]; rfl
theorem bld_pos {l : Env} (h : l.length ≠ 0) : bld l = .node (bld (l.take (l.length / 2))) (l[l.length / 2]'(by omega)).1 (l[l.length / 2]'(by omega)).2 (bld (l.drop (l.length / 2 + 1))) := by
  conv => lhs; rw [bld]
  rw [dif_neg h]
theorem bld_env : ∀ (n : Nat) (l : Env), l.length ≤ n → (bld l).env = l := by
  intro n
  induction n with
  | zero => intro l hl; rw [List.eq_nil_of_length_eq_zero (show l.length = 0 by omega), bld_nil]; rfl
  | succ n ih =>
    intro l hl
    by_cases h : l.length = 0
    · rw [List.eq_nil_of_length_eq_zero h, bld_nil]; rfl
    · rw [bld_pos h]
      simp only [Tr.env]
      rw [ih _ (by simp only [List.length_take]; omega), ih _ (by simp only [List.length_drop]; omega)]
      have := List.take_append_drop (l.length / 2) l
      conv => rhs; rw [← this, List.drop_eq_getElem_cons (by omega)]
theorem bld_cnt (l : Env) : (bld l).cnt = l.length := by rw [← Tr.env_length, bld_env l.length l (Nat.le_refl _)]
theorem bld_ht : ∀ (n : Nat) (l : Env), l.length < 2 ^ n → (bld l).ht ≤ n := by
  intro n
  induction n with
  | zero => intro l hl; rw [List.eq_nil_of_length_eq_zero (show l.length = 0 by omega), bld_nil]; simp [Tr.ht]
  | succ n ih =>
    intro l hl
    by_cases h : l.length = 0
    · rw [List.eq_nil_of_length_eq_zero h, bld_nil]; simp [Tr.ht]
    · rw [bld_pos h]
      simp only [Tr.ht]
      have h1 := ih (l.take (l.length / 2)) (by simp only [List.length_take]; rw [Nat.pow_succ] at hl; omega)
      have h2 := ih (l.drop (l.length / 2 + 1)) (by simp only [List.length_drop]; rw [Nat.pow_succ] at hl; omega)
      omega
theorem bld_ge : ∀ (n : Nat) (l : Env), 2 ^ n ≤ l.length → n + 1 ≤ (bld l).ht := by
  intro n
  induction n with
  | zero =>
    intro l hl
    rw [bld_pos (by omega)]
    simp only [Tr.ht]
    omega
  | succ n ih =>
    intro l hl
    have hp : 0 < 2 ^ n := Nat.two_pow_pos n
    rw [Nat.pow_succ] at hl
    rw [bld_pos (by omega)]
    simp only [Tr.ht]
    have h1 := ih (l.take (l.length / 2)) (by simp only [List.length_take]; omega)
    omega
theorem pow_between : ∀ m : Nat, 0 < m → ∃ n, 2 ^ n ≤ m ∧ m < 2 ^ (n + 1) := by
  intro m hm
  induction m with
  | zero => omega
  | succ m ih =>
    by_cases h0 : m = 0
    · subst h0; exact ⟨0, by decide, by decide⟩
    · obtain ⟨n, h1, h2⟩ := ih (by omega)
      by_cases h : m + 1 < 2 ^ (n + 1)
      · exact ⟨n, by omega, h⟩
      · refine ⟨n + 1, by omega, ?_⟩
        have := Nat.two_pow_pos n
        rw [Nat.pow_succ] at h2
        rw [Nat.pow_succ, Nat.pow_succ]
        omega
theorem bld_avl : ∀ (n : Nat) (l : Env), l.length ≤ n → (bld l).Avl := by
  intro n
  induction n with
  | zero => intro l hl; rw [List.eq_nil_of_length_eq_zero (show l.length = 0 by omega), bld_nil]; trivial
  | succ n ih =>
    intro l hl
    by_cases h : l.length = 0
    · rw [List.eq_nil_of_length_eq_zero h, bld_nil]; trivial
    · rw [bld_pos h]
      have l1 : (l.take (l.length / 2)).length = l.length / 2 := by simp only [List.length_take]; omega
      have l2 : (l.drop (l.length / 2 + 1)).length = l.length - (l.length / 2 + 1) := by simp only [List.length_drop]
      refine ⟨ih _ (by omega), ih _ (by omega), ?_⟩
      by_cases h0 : l.length / 2 = 0
      · rw [List.eq_nil_of_length_eq_zero (l1.trans h0), List.eq_nil_of_length_eq_zero (l2.trans (by omega))]
        omega
      · obtain ⟨m, hm1, hm2⟩ := pow_between (l.length / 2) (by omega)
        have a1 := bld_ge m (l.take (l.length / 2)) (by omega)
        have a2 := bld_ht (m + 1) (l.take (l.length / 2)) (by omega)
        have b2 := bld_ht (m + 1) (l.drop (l.length / 2 + 1)) (by omega)
        by_cases hq : 2 ^ m ≤ l.length - (l.length / 2 + 1)
        · have := bld_ge m (l.drop (l.length / 2 + 1)) (by omega); omega
        · cases m with
          | zero => omega
          | succ m =>
            have hp := Nat.two_pow_pos m
            rw [Nat.pow_succ] at hm1
            have := bld_ge m (l.drop (l.length / 2 + 1)) (by omega)
            omega
/-- Roots, their trees. -/
def Good (ps : List Part) (rs : List Int) (ts : List Tr) : Prop :=
  rs.length = ts.length ∧ ∀ (k : Nat) i t, rs[k]? = some i → ts[k]? = some t → Rep ps i t ∧ t.Ord ∧ t.Avl ∧ t.cnt ≤ k ∧ ∀ b ∈ t.env, b.1.size ≤ 100
theorem Good.more {ps qs : List Part} {rs : List Int} {ts : List Tr} (h : Good ps rs ts) : Good (ps ++ qs) rs ts :=
  ⟨h.1, fun k i t h1 h2 => by obtain ⟨a, b⟩ := h.2 k i t h1 h2; exact ⟨a.more, b⟩⟩
theorem Good.snoc {ps : List Part} {rs : List Int} {ts : List Tr} {i : Int} {t : Tr} (h : Good ps rs ts) (h1 : Rep ps i t) (h2 : t.Ord) (h3 : t.Avl) (h4 : t.cnt ≤ rs.length) (h5 : ∀ b ∈ t.env, b.1.size ≤ 100) : Good ps (rs ++ [i]) (ts ++ [t]) := by
  refine ⟨by simp [h.1], fun k j u hj hu => ?_⟩
  rcases Nat.lt_trichotomy k rs.length with hk | hk | hk
  · rw [List.getElem?_append_left hk] at hj
    rw [List.getElem?_append_left (by have := h.1; omega)] at hu
    exact h.2 k j u hj hu
  · subst hk
    rw [List.getElem?_append_right (Nat.le_refl _), Nat.sub_self] at hj
    rw [h.1, List.getElem?_append_right (Nat.le_refl _), Nat.sub_self] at hu
    simp at hj hu; subst hj hu
    exact ⟨h1, h2, h3, h4, h5⟩
  · rw [List.getElem?_eq_none (by simp; omega)] at hj; cases hj
theorem Good.start (ps : List Part) : Good ps [-1] [.leaf] := by
  refine ⟨rfl, fun k i t h1 h2 => ?_⟩
  cases k with
  | zero => simp at h1 h2; subst h1 h2; exact ⟨rfl, trivial, trivial, Nat.le_refl _, fun b hb => by cases hb⟩
  | succ k => simp at h1
/-- Lists beside the trees. -/
def Lists (B : Nat) (w : World) (lv : List Value) (ts : List Tr) : Prop := lv.length = ts.length ∧ ∀ (k : Nat) v t, lv[k]? = some v → ts[k]? = some t → OwB B w v t.env
section
variable {B : Nat} {w w' : World} {lv : List Value} {ts : List Tr} {S : List TypeId}
theorem Lists.ext (h : Lists B w lv ts) (he : Ext w w') : Lists B w' lv ts := ⟨h.1, fun k v t h1 h2 => (h.2 k v t h1 h2).ext he⟩
theorem Lists.extT (h : Lists B w lv ts) (he : ExtT S w w') (hs : 54 ∉ S) : Lists B w' lv ts := ⟨h.1, fun k v t h1 h2 => (h.2 k v t h1 h2).extT he hs⟩
theorem Lists.snoc {v : Value} {t : Tr} (h : Lists B w lv ts) (h1 : OwB B w v t.env) : Lists B w (lv ++ [v]) (ts ++ [t]) := by
  refine ⟨by simp [h.1], fun k j u hj hu => ?_⟩
  rcases Nat.lt_trichotomy k lv.length with hk | hk | hk
  · rw [List.getElem?_append_left hk] at hj
    rw [List.getElem?_append_left (by have := h.1; omega)] at hu
    exact h.2 k j u hj hu
  · subst hk
    rw [List.getElem?_append_right (Nat.le_refl _), Nat.sub_self] at hj
    rw [h.1, List.getElem?_append_right (Nat.le_refl _), Nat.sub_self] at hu
    simp at hj hu; subst hj hu
    exact h1
  · rw [List.getElem?_eq_none (by simp; omega)] at hj; cases hj
theorem Lists.start (B : Nat) (w : World) : Lists B w [.slice none 0 0] [.leaf] := by
  refine ⟨rfl, fun k v t h1 h2 => ?_⟩
  cases k with
  | zero => simp at h1 h2; subst h1 h2; exact OwB.nil _ _
  | succ k => simp at h1
theorem Lists.one (h : Lists B w lv ts) : ∀ u ∈ lv, u.oneCell' = true := by
  intro u hu
  obtain ⟨k, hk, rfl⟩ := List.getElem_of_mem hu
  have hk' : k < ts.length := by have := h.1; omega
  exact (h.2 k _ ts[k] (List.getElem?_eq_getElem hk) (List.getElem?_eq_getElem hk')).one
end
end Go.Proofs.Ytoccimigjjndpaa
