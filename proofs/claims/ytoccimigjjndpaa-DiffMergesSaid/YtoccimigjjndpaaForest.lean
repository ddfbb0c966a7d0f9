/-
  Forests in memory: the parts that a forest's block leads to; what calls make of them.
-/
import Derived.Test.YtoccimigjjndpaaStrs
import Derived.Test.YtoccimigjjndpaaFacts
set_option linter.unusedVariables false
set_option linter.unusedSimpArgs false
namespace Go.Proofs.Ytoccimigjjndpaa
open Go Go.RowKit
def pcells (p : Part) : List Value := [.string p.k, .int .i64 p.v, .int .i64 p.l, .int .i64 p.r, .int .i64 p.h, .int .i64 p.c]
def pzero : Part := ⟨ByteArray.empty, 0, -1, -1, 0, 0⟩
/-- The part of a root; a zero one for the empty tree. -/
def pget (ps : List Part) (i : Int) : Part := if 0 ≤ i then ps.getD i.toNat pzero else pzero
theorem Rep.get {ps : List Part} {t : Tr} {i : Int} (h : Rep ps i t) : ∃ a b, pget ps i = ⟨t.ky, t.vl, a, b, (t.ht : Nat), (t.cnt : Nat)⟩ ∧ Rep ps a t.lf ∧ Rep ps b t.rt_ := by
  cases t with
  | leaf =>
    simp only [Rep] at h
    subst h
    exact ⟨-1, -1, rfl, rfl, rfl⟩
  | node l k v r =>
    obtain ⟨j, a, b, rfl, h2, h3, h4⟩ := h
    refine ⟨a, b, ?_, h3, h4⟩
    unfold pget
    rw [if_pos (by omega), Int.toNat_natCast, List.getD_eq_getElem?_getD, h2]
    rfl
theorem Rep.empty {ps : List Part} {t : Tr} {i : Int} (h : Rep ps i t) : (i < 0 ∨ (ps.length : Int) ≤ i) ↔ t.ht = 0 := by
  have h1 := h.lt
  cases t with
  | leaf => simp only [Rep] at h; simp [Tr.ht]; omega
  | node l k v r =>
    obtain ⟨j, a, b, rfl, h2, h3, h4⟩ := h
    simp [Tr.ht]; omega
theorem Rep.mk {ps : List Part} {l r : Tr} {a b : Int} (ha : Rep ps a l) (hb : Rep ps b r) (k : ByteArray) (v : Int) : Rep (ps ++ [⟨k, v, a, b, ((max l.ht r.ht + 1 : Nat) : Int), ((l.cnt + r.cnt + 1 : Nat) : Int)⟩]) (ps.length : Nat) (.node l k v r) :=
  ⟨ps.length, a, b, rfl, by simp, ha.more, hb.more⟩
/-- The forest of block g has these parts; its row is block r (g, where there is none). -/
def Fo (w : World) (g r : Nat) (ps : List Part) : Prop :=
  ∃ v, Bk w g 103 [v] ∧ OwnK 6 0 97 w v (ps.map pcells) ∧ v.ownBlock ≠ some g ∧ (v.ownBlock).getD g = r
def FM (g r : Nat) : Nat → Prop := fun j => j = g ∨ j = r
section
variable {w w' w'' : World} {g r r' r'' : Nat} {ps : List Part} {M : Nat → Prop}
theorem Fo.g_lt (h : Fo w g r ps) : g < w.heap.size := by obtain ⟨v, h1, _⟩ := h; exact h1.lt
theorem Fo.r_lt (h : Fo w g r ps) : r < w.heap.size := by
  obtain ⟨v, h1, h2, _, h4⟩ := h
  cases hv : v.ownBlock with
  | none => rw [hv] at h4; simp at h4; subst h4; exact h1.lt
  | some k => rw [hv] at h4; simp at h4; subst h4; exact (h2.lt k hv).2
theorem Fo.ext (h : Fo w g r ps) (he : Ext w w') : Fo w' g r ps := by
  obtain ⟨v, h1, h2, h3, h4⟩ := h
  exact ⟨v, h1.ext he, h2.ext he, h3, h4⟩
theorem Fo.extP (h : Fo w g r ps) (he : ExtP M w w') (hg : ¬ M g) (hr : ¬ M r) : Fo w' g r ps := by
  obtain ⟨v, h1, h2, h3, h4⟩ := h
  refine ⟨v, h1.extP he hg, h2.extP he (fun k hk => ?_), h3, h4⟩
  rw [hk] at h4; simp at h4; rw [h4]; exact hr
/-- The world goes on; of what was there the forest alone has turned. -/
def FStep (g r : Nat) (w : World) (r' : Nat) (w' : World) : Prop := ExtP (FM g r) w w' ∧ (r' = r ∨ w.heap.size ≤ r')
theorem FStep.refl (g r : Nat) (w : World) : FStep g r w r w := ⟨ExtP.refl _ _, .inl rfl⟩
theorem FStep.of_ext (h : Ext w w') : FStep g r w r w' := ⟨h.toP, .inl rfl⟩
theorem FStep.trans (h : FStep g r w r' w') (k : FStep g r' w' r'' w'') : FStep g r w r'' w'' := by
  obtain ⟨h1, h2⟩ := h
  obtain ⟨k1, k2⟩ := k
  have hs := h1.size
  refine ⟨h1.trans' k1 fun j hj hm => ?_, ?_⟩
  · rcases hm with hm | hm
    · exact .inl hm
    · rcases h2 with h2 | h2
      · exact .inr (by omega)
      · omega
  · rcases k2 with k2 | k2 <;> rcases h2 with h2 | h2 <;> omega
theorem FStep.size (h : FStep g r w r' w') : w.heap.size ≤ w'.heap.size := h.1.size
/-- What a call makes that returns the root of a new tree, of so many new parts at most. -/
def FRet (g r : Nat) (ps : List Part) (t : Tr) (N : Nat) (w : World) (e : Ending) (w' : World) : Prop :=
  ∃ r' qs i, e = .returned (.int .i64 i) ∧ FStep g r w r' w' ∧ Fo w' g r' (ps ++ qs) ∧ qs.length ≤ N ∧ Rep (ps ++ qs) i t
theorem FRet.same {t : Tr} {N : Nat} {i : Int} (hF : Fo w g r ps) (he : Ext w w') (hR : Rep ps i t) : FRet g r ps t N w (.returned (.int .i64 i)) w' :=
  ⟨r, [], i, rfl, FStep.of_ext he, by rw [List.append_nil]; exact hF.ext he, Nat.zero_le _, by rw [List.append_nil]; exact hR⟩
theorem FRet.then {t : Tr} {N N1 N2 : Nat} {i : Int} {qs qs2 : List Part} (h1 : FStep g r w r' w') (hq : qs.length ≤ N1) (h2 : FStep g r' w' r'' w'') (hF : Fo w'' g r'' (ps ++ qs ++ qs2)) (hq2 : qs2.length ≤ N2) (hR : Rep (ps ++ qs ++ qs2) i t) (hN : N1 + N2 ≤ N) :
    FRet g r ps t N w (.returned (.int .i64 i)) w'' :=
  ⟨r'', qs ++ qs2, i, rfl, h1.trans h2, by rw [← List.append_assoc]; exact hF, by rw [List.length_append]; omega, by rw [← List.append_assoc]; exact hR⟩
def RepL (ps : List Part) : List Value → List Tr → Prop
  | [], _ => True
  | v :: vs, t :: ts => (∃ i, v = .int .i64 i ∧ Rep ps i t) ∧ RepL ps vs ts
  | _ :: _, [] => False
theorem RepL.more {qs : List Part} : ∀ {vs : List Value} {ts : List Tr}, RepL ps vs ts → RepL (ps ++ qs) vs ts
  | [], _, _ => trivial
  | v :: vs, t :: ts, ⟨⟨i, h1, h2⟩, h3⟩ => ⟨⟨i, h1, h2.more⟩, h3.more⟩
theorem RepL.snoc {t : Tr} {i : Int} : ∀ {vs : List Value} {ts : List Tr}, RepL ps vs ts → ts[vs.length]? = some t → Rep ps i t → RepL ps (vs ++ [.int .i64 i]) ts
  | [], t' :: ts, _, h, hR => by simp at h; subst h; exact ⟨⟨i, rfl, hR⟩, trivial⟩
  | v :: vs, t' :: ts, ⟨h1, h2⟩, h, hR => ⟨h1, h2.snoc (by simpa using h) hR⟩
/-- While some calls in a region build trees: what holds behind the first of them. -/
def FX (w : World) (g r : Nat) (ps : List Part) (N : Nat) (ts : List Tr) (vs : List Value) (w' : World) : Prop :=
  ∃ r' qs, FStep g r w r' w' ∧ Fo w' g r' (ps ++ qs) ∧ RepL (ps ++ qs) vs ts ∧ qs.length ≤ N * vs.length
theorem FX.ext {N : Nat} {ts : List Tr} {vs : List Value} (h : FX w g r ps N ts vs w') : ExtP (FM g r) w w' := by obtain ⟨r', qs, h1, _⟩ := h; exact h1.1
theorem FX.start {N : Nat} {ts : List Tr} (hF : Fo w g r ps) (he : Ext w w') : FX w g r ps N ts [] w' :=
  ⟨r, [], FStep.of_ext he, by rw [List.append_nil]; exact hF.ext he, trivial, Nat.zero_le _⟩
theorem FX.snoc {N N1 s : Nat} {ts : List Tr} {vs : List Value} {qs qs2 : List Part} {i : Int} {t : Tr} (h1 : FStep g r w r' w') (hRL : RepL (ps ++ qs) vs ts) (hq : qs.length ≤ N * vs.length)
    (h2 : FStep g r' w' r'' w'') (hF : Fo w'' g r'' (ps ++ qs ++ qs2)) (hq2 : qs2.length ≤ N1) (hR : Rep (ps ++ qs ++ qs2) i t) (hN : N1 ≤ N) (hl : vs.length = s) (ht : ts[s]? = some t) : FX w g r ps N ts (vs ++ [.int .i64 i]) w'' :=
  ⟨r'', qs ++ qs2, h1.trans h2, by rw [← List.append_assoc]; exact hF, by rw [← List.append_assoc]; exact hRL.more.snoc (by rw [hl]; exact ht) hR, by
    rw [List.length_append, List.length_append, List.length_singleton, Nat.mul_add, Nat.mul_one]; omega⟩
/-- What 'get' returns of a tree, its links open. -/
def GetR (t : Tr) : Nat → Nat → Value → World → Prop := fun _ _ v _ => ∃ a b : Int, v = .agg #[.string t.ky, .int .i64 t.vl, .int .i64 a, .int .i64 b, .int .i64 (t.ht : Nat), .int .i64 (t.cnt : Nat)]
theorem GetR.mono {t : Tr} : (Kn.rel (GetR t)).Mono := fun _ _ _ _ _ _ h => h
theorem len1 {vs : List Value} (h : vs.length = 1) : ∃ v, vs = [v] := by
  cases vs with
  | nil => simp at h
  | cons v vs => cases vs with
    | nil => exact ⟨v, rfl⟩
    | cons => simp at h
theorem len2 {vs : List Value} (h : vs.length = 2) : ∃ v u, vs = [v, u] := by
  cases vs with
  | nil => simp at h
  | cons v vs =>
    obtain ⟨u, rfl⟩ := len1 (vs := vs) (by simpa using h)
    exact ⟨v, u, rfl⟩
end
section
variable {P : Program} {n : Nat} {K : Rho → World → Prop} {ρ : Rho} {w : World} {ops rest : List Oper}
variable {ty : TypeId} {pos : String} {after : Array Edge} {gd_ : Option (Nat × Bool)} {d : Nat} {g r N : Nat} {ps : List Part} {t : Tr}
theorem O_callF {f : FuncId} {args : List Operand} {at_ : Array TypeId} {vs : List Value} (hE : Enters P f) (hg : gd ops ρ gd_ = some true) (hd : Nat.blt d n = true) (ha : evs ρ args = some vs)
    (hc : Calls P f vs.toArray w (FRet g r ps t N w)) (h : ∀ r' qs i w', FStep g r w r' w' → Fo w' g r' (ps ++ qs) → qs.length ≤ N → Rep (ps ++ qs) i t → WL P n ops rest K ((d, .int .i64 i) :: ρ) w') :
    WL P n ops (⟨some d, .call { callee := .value (.func f), args := args.toArray, argTypes := at_ }, ty, pos, after, gd_⟩ :: rest) K ρ w :=
  O_callR hE hg hd ha hc fun e w' ⟨r', qs, i, he, h1, h2, h3, h4⟩ => ⟨_, he, h r' qs i w' h1 h2 h3 h4⟩
end
/-- The same for calls that return the root among other things. -/
def FRetM (mk : Int → Value) (g r : Nat) (ps : List Part) (t : Tr) (N : Nat) (w : World) (e : Ending) (w' : World) : Prop :=
  ∃ r' qs i, e = .returned (mk i) ∧ FStep g r w r' w' ∧ Fo w' g r' (ps ++ qs) ∧ qs.length ≤ N ∧ Rep (ps ++ qs) i t
theorem O_callM {P : Program} {n : Nat} {K : Rho → World → Prop} {ρ : Rho} {w : World} {ops rest : List Oper} {ty : TypeId} {pos : String} {after : Array Edge} {gd_ : Option (Nat × Bool)} {d : Nat} {g r N : Nat} {ps : List Part} {t : Tr} {mk : Int → Value}
    {f : FuncId} {args : List Operand} {at_ : Array TypeId} {vs : List Value} (hE : Enters P f) (hg : gd ops ρ gd_ = some true) (hd : Nat.blt d n = true) (ha : evs ρ args = some vs)
    (hc : Calls P f vs.toArray w (FRetM mk g r ps t N w)) (h : ∀ r' qs i w', FStep g r w r' w' → Fo w' g r' (ps ++ qs) → qs.length ≤ N → Rep (ps ++ qs) i t → WL P n ops rest K ((d, mk i) :: ρ) w') :
    WL P n ops (⟨some d, .call { callee := .value (.func f), args := args.toArray, argTypes := at_ }, ty, pos, after, gd_⟩ :: rest) K ρ w :=
  O_callR hE hg hd ha hc fun e w' ⟨r', qs, i, he, h1, h2, h3, h4⟩ => ⟨_, he, h r' qs i w' h1 h2 h3 h4⟩
theorem Eparts : EkT Try.prog 101 97 6 [.string ByteArray.empty, .int .i64 0, .int .i64 0, .int .i64 0, .int .i64 0, .int .i64 0] 56 := EkT.mk' (by kernel_rfl) rfl
theorem Ebind : EkT Try.prog 34 54 2 [.string ByteArray.empty, .int .i64 0] 24 := EkT.mk' (by kernel_rfl) rfl
theorem prow {ps : List Part} {j : Nat} (h : j < (ps.map pcells).length) : (ps.map pcells)[j] = pcells (ps[j]'(by simpa using h)) := by simp
/-- A slice literal of one struct. -/
theorem K_lit1 {P : Program} {n : Nat} {K : Rho → World → Prop} {ρ : Rho} {w : World} {ops rest : List Oper} {ty : TypeId} {pos : String} {after : Array Edge} {g : Option (Nat × Bool)} {d : Nat} {t e : TypeId} {z bytes : Nat} {zs : List Value} {x : Operand} {cs : List Value}
    (T : EkT P t e z zs bytes) (hz : Nat.blt 0 z = true) (hz2 : Nat.ble z 1000 = true) (hg : gd ops ρ g = some true) (hd : Nat.blt d n = true) (hx : ev ρ x = some (.agg cs.toArray)) (hl : cs.length = z)
    (h : ∀ v w', SlK z w' v [cs] → Ext w w' → vblk v = w.heap.size → w'.heap.size = w.heap.size + 1 → OwnK z w.heap.size e w' v [cs] → WL P n ops rest K ((d, v) :: ρ) w') :
    WL P n ops (⟨some d, .buildSlice t 1 #[(0, x)], ty, pos, after, g⟩ :: rest) K ρ w := by
  obtain ⟨inf, h1, h2, h3, h4, h5⟩ := T.info
  have hz' : 0 < z := by simpa [Nat.blt_eq] using hz
  have hown : OwnK z w.heap.size e (w.alloc (.cells cs.toArray e)) (.slice (some ⟨w.heap.size, 0, none⟩) 1 1) [cs] :=
    ⟨⟨by simp [hl], .inr ⟨w.heap.size, 1, cs.toArray, rfl, Nat.le_refl _, heap_alloc_new w _, Nat.le_refl _, by simp only [maxLen]; omega, by simp [hl], by simp [← hl]⟩⟩, fun r hr => by simp at hr; rw [hr]; exact hl⟩
  refine WL_val rfl hg hd (v := .slice (some ⟨w.heap.size, 0, none⟩) 1 1) (w' := w.alloc (.cells cs.toArray e)) (fun c hc => ?_) (h _ _ hown.sl (Ext.alloc w _) rfl (by simp) hown)
  have hf := fold_set 0 cs 0 ((Array.range (1 * z)).map fun i => zs.toArray[i % zs.toArray.size]!) (by simp [hl])
  have h9 : ((Array.range (1 * z)).map fun i => zs.toArray[i % zs.toArray.size]!).toList.drop cs.length = [] := List.drop_eq_nil_of_le (by simp [hl])
  have hfill : Instr.fill (fun i => some (i * z, z)) ((Array.range (1 * z)).map fun i => zs.toArray[i % zs.toArray.size]!) [(0, .agg cs.toArray)] = some cs.toArray := by
    have h8 : cs.toArray.zipIdx.foldl (fun cs' (x : Value × Nat) => match x with | (c, j) => cs'.setIfInBounds (0 + j) c) ((Array.range (1 * z)).map fun i => zs.toArray[i % zs.toArray.size]!) = cs.toArray := by
      rw [← Array.foldl_toList]
      rw [show 0 + 0 + cs.length = cs.length from by omega, h9] at hf
      simpa using hf
    simp only [Instr.fill, Value.cells, Nat.zero_mul]
    rw [if_neg (by simp [hl]), h8]
  have hev := hc.eval hx
  have hsm : ¬ (1 * z > 2 ^ 24) := by have := Nat.le_of_ble_eq_true hz2; omega
  have hz0 : ¬ (1 * z = 0) := by omega
  simp only [execOp, Instr.buildSlice, Sem.run_bind, run_underlying T.sl, Result.andThen_ok, sizeOf, typeInfo, run_program, h1, h2, h3, Sem.run_pure, hsm, hz0, if_false, zeroValue, Value.cells]
  simp [hev, hfill, newRow] at hfill ⊢
  try simp [hfill]
theorem OwnK.one {z B : Nat} {e : TypeId} {w : World} {v : Value} {rows : List (List Value)} (h : OwnK z B e w v rows) : v.oneCell' = true := by
  obtain ⟨⟨_, h2⟩, _⟩ := h
  rcases h2 with ⟨rfl, _⟩ | ⟨g, cap, cur, rfl, _⟩ <;> rfl
/-- While the row of a forest grows: the operations that make a part. -/
def JX (w : World) (fv : Value) (row : List Value) (rows : List (List Value)) : List Value → World → Prop
  | [], w' => Ext w w'
  | [v1], w' => Ext w w' ∧ SlK 6 w' v1 [row]
  | [_, v2], w' => ExtP (fun j => fv.ownBlock = some j) w w' ∧ OwnK 6 0 97 w' v2 (rows ++ [row]) ∧ (v2.ownBlock = fv.ownBlock ∨ ∃ k, v2.ownBlock = some k ∧ w.heap.size ≤ k)
  | _, _ => False
theorem JX.ext {w : World} {fv : Value} {row : List Value} {rows : List (List Value)} : ∀ vs w', JX w fv row rows vs w' → ExtP (fun j => fv.ownBlock = some j) w w'
  | [], _, h => Ext.toP h
  | [_], _, h => Ext.toP h.1
  | [_, _], _, h => h.1
  | _ :: _ :: _ :: _, _, h => h.elim
/-- What the new row and the block that leads to it make of the forest. -/
theorem Fo.joined {w0 w w1 w' : World} {g r : Nat} {ps : List Part} {fv v2 : Value} {q : Part} (he : Ext w0 w) (hB : Bk w0 g 103 [fv]) (hne : fv.ownBlock ≠ some g) (hr : (fv.ownBlock).getD g = r)
    (hp : ExtP (fun j => fv.ownBlock = some j) w w1) (ho : OwnK 6 0 97 w1 v2 (ps.map pcells ++ [pcells q])) (hk : v2.ownBlock = fv.ownBlock ∨ ∃ k, v2.ownBlock = some k ∧ w.heap.size ≤ k) (hc : Chg g w1 w') (hb : Bk w' g 103 [v2]) :
    ∃ r', FStep g r w0 r' w' ∧ Fo w' g r' (ps ++ [q]) ∧ SlK 6 w' v2 (ps.map pcells ++ [pcells q]) := by
  have hg := hB.lt
  have hes := he.size
  have hv2g : v2.ownBlock ≠ some g := by
    rcases hk with h | ⟨k, h, hk⟩
    · rw [h]; exact hne
    · rw [h]; intro e; cases e; omega
  have h1 : ExtP (FM g r) w w1 := hp.mono fun j _ hm => .inr (by rw [hm] at hr; simpa using hr)
  have h2 : ExtP (FM g r) w1 w' := hc.toP (.inl rfl)
  have h3 : ExtP (FM g r) w w' := h1.trans' h2 fun _ _ hm => hm
  have h4 : ExtP (FM g r) w0 w' := (he.toP (M := FM g r)).trans' h3 fun _ _ hm => hm
  have h5 := ho.extP (hc.toP (M := fun j => j = g) rfl) (fun k hk e => hv2g (by rw [hk, e]))
  refine ⟨(v2.ownBlock).getD g, ⟨h4, ?_⟩, ⟨v2, hb, ?_, hv2g, rfl⟩, h5.sl⟩
  · rcases hk with h | ⟨k, h, hk⟩
    · rw [h]; exact .inl hr
    · rw [h]; exact .inr (by simp; omega)
  · rw [List.map_append]
    exact h5
end Go.Proofs.Ytoccimigjjndpaa
