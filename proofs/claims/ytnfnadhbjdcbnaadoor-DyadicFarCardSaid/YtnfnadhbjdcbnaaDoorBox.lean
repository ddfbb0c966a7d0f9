/-
  Structs: blocks of cells, whole structs as values, fields, results that lie in cells. It says nothing of any program.
-/
import Derived.Test.YtnfnadhbjdcbnaaDoorView
import Derived.Laws.CopyRow
set_option linter.unusedVariables false
set_option linter.unusedSimpArgs false
namespace Go.Proofs.YtnfnadhbjdcbnaaDoor
open Go Go.RowKit

/-- Block g holds these cells. -/
def Bk (w : World) (g : Nat) (t : TypeId) (cs : List Value) : Prop := w.heap[g]? = some (.cells cs.toArray t (0, 0))
section
variable {w w' : World} {g b : Nat} {t : TypeId} {cs : List Value}
theorem Bk.lt (h : Bk w g t cs) : g < w.heap.size := by
  rcases Nat.lt_or_ge g w.heap.size with k | k
  · exact k
  · unfold Bk at h; simp [Array.getElem?_eq_none k] at h
theorem Bk.ext (h : Bk w g t cs) (he : Ext w w') : Bk w' g t cs := he.heap h
theorem Bk.chg (h : Bk w g t cs) (hc : Chg b w w') (hne : g ≠ b) : Bk w' g t cs := (hc.block g hne).trans h
theorem Bk.extB (h : Bk w g t cs) (hc : ExtB b w w') (hne : g ≠ b) : Bk w' g t cs := (hc.block g h.lt hne).trans h
theorem Bk.cell (h : Bk w g t cs) {i : Nat} {u : Value} (hu : cs[i]? = some u) : w.cell? ⟨g, i, none⟩ = some u := by
  rw [cell_of_row w g i cs.toArray t (0, 0) h]; simpa using hu
end
/-- What is known of a struct type: its size, its zero. -/
structure StT (P : Program) (t : TypeId) (n : Nat) (zs : List Value) : Prop where
  st : ∃ fs, P.underlying t = some (.struct fs)
  info : ∃ i, P.info? t = some i ∧ i.size = n ∧ i.zero = some (.agg zs.toArray)
def stB (P : Program) (t : TypeId) : Option (Nat × Option Value) :=
  match P.underlying t with
  | some (.struct _) => (P.info? t).map fun i => (i.size, i.zero)
  | _ => none
theorem StT.mk' {P : Program} {t : TypeId} {n : Nat} {zs : List Value} (h : stB P t = some (n, some (.agg zs.toArray))) : StT P t n zs := by
  unfold stB at h
  split at h
  · rename_i fs hfs
    refine ⟨⟨fs, hfs⟩, ?_⟩
    cases hi : P.info? t with
    | none => rw [hi] at h; cases h
    | some i =>
      rw [hi] at h
      simp only [Option.map_some, Option.some.injEq, Prod.mk.injEq] at h
      exact ⟨i, rfl, h.1, h.2⟩
  · cases h
/-- .. its field f lies at this place. -/
def FdT (P : Program) (t : TypeId) (f off : Nat) : Prop := ∃ fs fd i, P.underlying t = some (.struct fs) ∧ fs[f]? = some fd ∧ fd.offset = off ∧ P.info? fd.type = some i ∧ i.size ≠ 0
def fdB (P : Program) (t : TypeId) (f : Nat) : Option (Nat × Bool) :=
  match P.underlying t with
  | some (.struct fs) => match fs[f]? with
    | some fd => (P.info? fd.type).map fun i => (fd.offset, Nat.beq i.size 0)
    | none => none
  | _ => none
theorem FdT.mk' {P : Program} {t : TypeId} {f off : Nat} (h : fdB P t f = some (off, false)) : FdT P t f off := by
  unfold fdB at h
  split at h
  · rename_i fs hfs
    split at h
    · rename_i fd hfd
      cases hi : P.info? fd.type with
      | none => rw [hi] at h; cases h
      | some i =>
        rw [hi] at h
        simp only [Option.map_some, Option.some.injEq, Prod.mk.injEq] at h
        exact ⟨fs, fd, i, hfs, hfd, h.1, hi, fun e => by rw [e] at h; simp at h⟩
    · cases h
  · cases h
/-- .. and the places of its fields, for building one. -/
structure BdT (P : Program) (t : TypeId) (zs : List Value) (places : List (Nat × Nat)) : Prop where
  ok : ∃ i fs, P.info? t = some i ∧ P.underlying t = some (.struct fs) ∧ i.zero = some (.agg zs.toArray) ∧ fs.toList.mapM (fun f => (P.info? f.type).map fun i => (f.offset, i.size)) = some places
def bdB (P : Program) (t : TypeId) : Option (Option Value × Option (List (Nat × Nat))) :=
  match P.info? t, P.underlying t with
  | some i, some (.struct fs) => some (i.zero, fs.toList.mapM (fun f => (P.info? f.type).map fun i => (f.offset, i.size)))
  | _, _ => none
theorem BdT.mk' {P : Program} {t : TypeId} {zs : List Value} {places : List (Nat × Nat)} (h : bdB P t = some (some (.agg zs.toArray), some places)) : BdT P t zs places := by
  unfold bdB at h
  split at h
  · rename_i i fs hi hfs
    simp only [Option.some.injEq, Prod.mk.injEq] at h
    exact ⟨i, fs, hi, hfs, h.1, h.2⟩
  · cases h
def fillL (places : List (Nat × Nat)) : List Value → List (Nat × List Value) → Option (List Value)
  | zs, [] => some zs
  | zs, (i, vs) :: r => match places[i]? with
    | some (off, sz) => match Nat.beq vs.length sz, Nat.ble (off + vs.length) zs.length with
      | true, true => fillL places (zs.take off ++ (vs ++ zs.drop (off + vs.length))) r
      | _, _ => none
    | none => none
theorem fold_set (off : Nat) : ∀ (vs : List Value) (k : Nat) (cells : Array Value), off + k + vs.length ≤ cells.size →
    (vs.zipIdx k).foldl (fun cs (x : Value × Nat) => cs.setIfInBounds (off + x.2) x.1) cells = (cells.toList.take (off + k) ++ (vs ++ cells.toList.drop (off + k + vs.length))).toArray
  | [], k, cells, h => by simp
  | v :: vs, k, cells, h => by
    simp only [List.length_cons] at h
    rw [List.zipIdx_cons, List.foldl_cons, fold_set off vs (k + 1) (cells.setIfInBounds (off + k) v) (by simp; omega)]
    congr 1
    simp only [Array.toList_setIfInBounds, List.length_cons]
    rw [show off + (k + 1) = off + k + 1 from by omega, List.take_set, List.take_succ_eq_append_getElem (by simp; omega), List.drop_set, if_pos (by omega)]
    rw [List.set_append_right _ _ (by simp; omega)]
    simp [Nat.min_eq_left (show off + k ≤ cells.size by omega)]
    omega
theorem fill_fillL {places : List (Nat × Nat)} : ∀ (parts : List (Nat × Value)) (css : List (List Value)) (zs cs : List Value), parts.map (fun p => p.2.cells) = css.map List.toArray →
    fillL places zs ((parts.map (·.1)).zip css) = some cs → Instr.fill (places.toArray[·]?) zs.toArray parts = some cs.toArray
  | [], css, zs, cs, hc, h => by
    simp [fillL] at h; subst h; rfl
  | (i, v) :: parts, [], zs, cs, hc, h => by simp at hc
  | (i, v) :: parts, vs :: css, zs, cs, hc, h => by
    simp only [List.map_cons, List.cons.injEq] at hc
    obtain ⟨hv, hc⟩ := hc
    simp only [List.map_cons, List.zip_cons_cons, fillL] at h
    split at h
    · rename_i off sz hpl
      split at h
      · rename_i h1 h2
        have h1' : vs.length = sz := by simpa using h1
        have h2' : off + vs.length ≤ zs.length := by simpa using h2
        unfold Instr.fill
        have hpl' : places.toArray[i]? = some (off, sz) := by simpa using hpl
        simp only [hpl', hv]
        have hsz : ¬ (decide (vs.toArray.size ≠ sz) || decide (off + vs.toArray.size > zs.toArray.size)) = true := by simp; omega
        rw [if_neg hsz]
        have hf := fold_set off vs 0 zs.toArray (by simpa using h2')
        have hz : vs.toArray.zipIdx.foldl (fun cs (x : Value × Nat) => match x with | (c, j) => cs.setIfInBounds (off + j) c) zs.toArray = (zs.take off ++ (vs ++ zs.drop (off + vs.length))).toArray := by
          rw [← Array.foldl_toList]
          simpa using hf
        rw [hz]
        exact fill_fillL parts css _ cs hc h
      · cases h
    · cases h
theorem BdT.built {P : Program} {t : TypeId} {zs cs : List Value} {places : List (Nat × Nat)} (B : BdT P t zs places) {parts : List (Nat × Value)} {css : List (List Value)} (hc : parts.map (fun p => p.2.cells) = css.map List.toArray)
    (h : fillL places zs ((parts.map (·.1)).zip css) = some cs) : P.built t parts = some cs.toArray := by
  obtain ⟨i, fs, h1, h2, h3, h4⟩ := B.ok
  unfold Program.built
  simp only [h1, h2, h3, h4]
  exact fill_fillL parts css zs cs hc h

section
variable {P : Program} {n : Nat} {K : Rho → World → Prop} {E : Exit → Rho → World → Prop} {ρ : Rho} {w : World} {ops rest : List Oper}
variable {ty : TypeId} {pos : String} {after : Array Edge} {gd_ : Option (Nat × Bool)} {d : Nat} {t : TypeId}
theorem O_box {x : Operand} {v : Value} (cs : List Value) (hg : gd ops ρ gd_ = some true) (hd : Nat.blt d n = true) (hx : ev ρ x = some v) (hv : v.cells = cs.toArray)
    (h : ∀ g w', Bk w' g t cs → Ext w w' → w.heap.size ≤ g → g < w'.heap.size → WL P n ops rest K ((d, .pointer (some ⟨g, 0, none⟩)) :: ρ) w') :
    WL P n ops (⟨some d, .box t x, ty, pos, after, gd_⟩ :: rest) K ρ w := by
  refine WL_val rfl hg hd (v := .pointer (some ⟨w.heap.size, 0, none⟩)) (w' := w.alloc (.cells cs.toArray t)) (fun c hc => ?_)
    (h w.heap.size _ (heap_alloc_new w _) (Ext.alloc w _) (Nat.le_refl _) (by simp))
  simp [execOp, hc.eval hx, Instr.box, newVar, newRow, hv]
theorem O_alloc {z : Nat} {zs : List Value} (S : StT P t z zs) (hg : gd ops ρ gd_ = some true) (hd : Nat.blt d n = true)
    (h : ∀ g w', Bk w' g t zs → Ext w w' → w.heap.size ≤ g → g < w'.heap.size → WL P n ops rest K ((d, .pointer (some ⟨g, 0, none⟩)) :: ρ) w') :
    WL P n ops (⟨some d, .alloc t, ty, pos, after, gd_⟩ :: rest) K ρ w := by
  obtain ⟨i, h1, h2, h3⟩ := S.info
  refine WL_val rfl hg hd (v := .pointer (some ⟨w.heap.size, 0, none⟩)) (w' := w.alloc (.cells zs.toArray t)) (fun c hc => ?_)
    (h w.heap.size _ (heap_alloc_new w _) (Ext.alloc w _) (Nat.le_refl _) (by simp))
  simp [execOp, Instr.alloc, zeroValue, typeInfo, h1, h3, newVar, newRow, Value.cells]
theorem O_field {x : Operand} {f o off : Nat} {g : Nat} (F : FdT P t f off) (hg : gd ops ρ gd_ = some true) (hd : Nat.blt d n = true) (hx : ev ρ x = some (.pointer (some ⟨g, o, none⟩)))
    (h : WL P n ops rest K ((d, .pointer (some ⟨g, o + off, none⟩)) :: ρ) w) :
    WL P n ops (⟨some d, .fieldAddr t x f, ty, pos, after, gd_⟩ :: rest) K ρ w := by
  obtain ⟨fs, fd, i, h1, h2, h3, h4, h5⟩ := F
  refine WL_val rfl hg hd (fun c hc => ?_) h
  have ha : (⟨g, o, none⟩ : Addr).add off = ⟨g, o + off, none⟩ := by unfold Addr.add; split <;> simp_all
  simp [execOp, hc.eval hx, Instr.fieldAt, run_underlying h1, h2, Instr.sureAddr, fieldPlace, sizeOf, typeInfo, h4, h5, h3, ha]
/-- A load of one cell. -/
theorem O_loadC {x : Operand} {g i : Nat} {tb : TypeId} {cs : List Value} {u : Value} {ds : TypeDesc} (hT : P.underlying t = some ds) (hna : (match ds with | .struct _ | .array _ _ => false | _ => true) = true) (hg : gd ops ρ gd_ = some true) (hd : Nat.blt d n = true)
    (hx : ev ρ x = some (.pointer (some ⟨g, i, none⟩))) (hb : Bk w g tb cs) (hu : cs[i]? = some u) (h : WL P n ops rest K ((d, u) :: ρ) w) :
    WL P n ops (⟨some d, .load t x, ty, pos, after, gd_⟩ :: rest) K ρ w := O_load hT hna hg hd hx (hb.cell hu) h
theorem run_loadVar_bk {g o z : Nat} {tb : TypeId} {cs zs vs : List Value} (S : StT P t z zs) (hb : Bk w g tb cs) (hvs : (cs.drop o).take z = vs) (hl : Nat.beq vs.length z = true) :
    (loadVar t ⟨g, o, none⟩).run P w = .ok (.agg vs.toArray) w := by
  obtain ⟨fs, hfs⟩ := S.st
  obtain ⟨i, h1, h2, h3⟩ := S.info
  have hl' : vs.length = z := by simpa using hl
  have hr : (loadCells ⟨g, o, none⟩ vs.length).run P w = .ok vs.toArray w := run_loadCells_list (P := P) w ⟨g, o, none⟩ vs (fun j v hv => by
    have ha : (⟨g, o, none⟩ : Addr).add j = ⟨g, o + j, none⟩ := by unfold Addr.add; split <;> simp_all
    rw [ha]
    refine hb.cell ?_
    subst hvs
    rw [List.getElem?_take] at hv
    split at hv
    · rwa [List.getElem?_drop] at hv
    · cases hv)
  rw [hl'] at hr
  simp [loadVar, isAgg, run_underlying hfs, sizeOf, typeInfo, h1, h2, hr]
/-- A load of a whole struct. -/
theorem O_loadA {x : Operand} {g o z : Nat} {tb : TypeId} {cs zs vs : List Value} (S : StT P t z zs) (hg : gd ops ρ gd_ = some true) (hd : Nat.blt d n = true)
    (hx : ev ρ x = some (.pointer (some ⟨g, o, none⟩))) (hb : Bk w g tb cs) (hvs : (cs.drop o).take z = vs) (hl : Nat.beq vs.length z = true) (h : WL P n ops rest K ((d, .agg vs.toArray) :: ρ) w) :
    WL P n ops (⟨some d, .load t x, ty, pos, after, gd_⟩ :: rest) K ρ w :=
  WL_val rfl hg hd (fun c hc => by simp [execOp, hc.eval hx, Instr.loadAt, Instr.sureAddr, run_loadVar_bk S hb hvs hl]) h
/-- A store of one cell. -/
theorem O_storeC {x y : Operand} {g i : Nat} {tb : TypeId} {cs cs' : List Value} {u : Value} (hi : (P.info? t).map (·.size) = some 1) (hg : gd ops ρ gd_ = some true)
    (hx : ev ρ x = some (.pointer (some ⟨g, i, none⟩))) (hy : ev ρ y = some u) (h1 : u.oneCell' = true) (hb : Bk w g tb cs) (hlt : Nat.blt i cs.length = true) (hcs : cs.set i u = cs')
    (h : ∀ w', Bk w' g tb cs' → Chg g w w' → WL P n ops rest K ρ w') :
    WL P n ops (⟨none, .store t x y, ty, pos, after, gd_⟩ :: rest) K ρ w := by
  have hlt' : i < cs.length := by simpa [Nat.blt_eq] using hlt
  cases hq : P.info? t with
  | none => rw [hq] at hi; cases hi
  | some inf =>
    rw [hq] at hi
    have hsz : inf.size = 1 := by simpa using hi
    refine O_store hq hsz hg hx hy h1 (hb.cell (u := cs[i]) (by simp [hlt'])) (frozen_of_row w g i cs.toArray tb hb) (h _ ?_ (Chg.setCell w ⟨g, i, none⟩ u))
    have := heap_setCell_same w g i cs.toArray tb u hb
    unfold Bk
    rw [this, ← hcs]; simp
/-- A store of a whole struct into a part of a block. -/
theorem O_storeA {x y : Operand} {g o z : Nat} {tb : TypeId} {cs zs vs cs' : List Value} (S : StT P t z zs) (hg : gd ops ρ gd_ = some true)
    (hx : ev ρ x = some (.pointer (some ⟨g, o, none⟩))) (hy : ev ρ y = some (.agg vs.toArray)) (hb : Bk w g tb cs) (hl : Nat.beq vs.length z = true) (hle : Nat.ble (o + vs.length) cs.length = true) (h1 : ∀ v ∈ vs, v.oneCell' = true)
    (hcs : cs.take o ++ (vs ++ cs.drop (o + vs.length)) = cs')
    (h : ∀ w', Bk w' g tb cs' → Chg g w w' → WL P n ops rest K ρ w') :
    WL P n ops (⟨none, .store t x y, ty, pos, after, gd_⟩ :: rest) K ρ w := by
  obtain ⟨i, h1', h2, h3⟩ := S.info
  have hl' : vs.length = z := by simpa using hl
  have hle' : o + vs.length ≤ cs.length := by simpa using hle
  have hr := run_storeCells_at (P := P) g o tb vs 0 cs.toArray w hb (by simpa using hle') h1
  refine WL_eff rfl hg (fun c hc => ?_) (h (w.setRow g (cs.take o ++ vs ++ cs.drop (o + vs.length)).toArray) ?_ (Chg.setRow w g _))
  · simp only [Nat.add_zero] at hr
    simp [execOp, hc.eval hx, hc.eval hy, Instr.storeAt, Instr.sureAddr, storeVar, Value.cells, sizeOf, typeInfo, h1', h2, hl', hr] at hr ⊢
  · unfold Bk
    rw [← hcs, ← List.append_assoc]
    exact setRow_heap w g cs.toArray _ tb _ hb
/-- A struct out of parts. -/
theorem O_build {zs cs : List Value} {places : List (Nat × Nat)} {parts : List (Nat × Operand)} {vs : List Value} {css : List (List Value)} (B : BdT P t zs places) (hg : gd ops ρ gd_ = some true) (hd : Nat.blt d n = true)
    (hp : evs ρ (parts.map (·.2)) = some vs) (hc : vs.map Value.cells = css.map List.toArray) (hf : fillL places zs ((parts.map (·.1)).zip css) = some cs)
    (h : WL P n ops rest K ((d, .agg cs.toArray) :: ρ) w) : WL P n ops (⟨some d, .build t parts.toArray, ty, pos, after, gd_⟩ :: rest) K ρ w := by
  refine WL_val rfl hg hd (fun c hcc => ?_) h
  have he := hcc.evals hp
  have hlen : vs.length = parts.length := by rw [← he]; simp
  have hm : (parts.toArray.map fun x => match x with | (i, x) => (i, c.eval x)) = (parts.map fun x => (x.1, c.eval x.2)).toArray := by simp
  have hb := B.built (parts := parts.map fun x => (x.1, c.eval x.2)) (css := css) (cs := cs) (by
    rw [List.map_map]
    have : (fun p : Nat × Value => p.2.cells) ∘ (fun x : Nat × Operand => (x.1, c.eval x.2)) = Value.cells ∘ (c.eval ∘ fun x : Nat × Operand => x.2) := rfl
    rw [this, ← List.map_map, ← List.map_map, he, hc]) (by
    rw [List.map_map]
    have : (fun p : Nat × Value => p.1) ∘ (fun x : Nat × Operand => (x.1, c.eval x.2)) = fun x => x.1 := rfl
    rw [this]; exact hf)
  have hr := run_build (P := P) w t (parts.map fun x => (x.1, c.eval x.2)).toArray cs.toArray (by simpa using hb)
  simp only [execOp, hm, Sem.run_bind, hr, Result.andThen_ok, Sem.run_pure]

/-! Results -/
def notAgg : TypeDesc → Bool
  | .struct _ | .array _ _ => false
  | _ => true
def resOne (tmps : Array Value) : ResultVar → Sem Value
  | .tmp t => pure (tmps.getD t undef)
  | .cell s t => do loadVar t (← asAddr (tmps.getD s undef))
inductive RV (P : Program) (ρ : Rho) (w : World) : List ResultVar → List Value → Prop
  | nil : RV P ρ w [] []
  | tmp {s : Tmp} {v : Value} {rs : List ResultVar} {vs : List Value} (h : look ρ s = some v) (hr : RV P ρ w rs vs) : RV P ρ w (.tmp s :: rs) (v :: vs)
  | cell {s : Tmp} {t tb : TypeId} {g z : Nat} {zs cs : List Value} {rs : List ResultVar} {vs : List Value} (h : look ρ s = some (.pointer (some ⟨g, 0, none⟩))) (S : StT P t z zs) (hb : Bk w g tb cs) (hl : Nat.beq cs.length z = true)
      (hr : RV P ρ w rs vs) : RV P ρ w (.cell s t :: rs) (.agg cs.toArray :: vs)
  | cell1 {s : Tmp} {t tb : TypeId} {g : Nat} {u : Value} {ds : TypeDesc} {rs : List ResultVar} {vs : List Value} (h : look ρ s = some (.pointer (some ⟨g, 0, none⟩))) (hT : P.underlying t = some ds) (hna : notAgg ds = true) (hb : Bk w g tb [u])
      (hr : RV P ρ w rs vs) : RV P ρ w (.cell s t :: rs) (u :: vs)
theorem RV.run {fit : Nat} {a : Act} (ha : Fits fit a ρ) {rs : List ResultVar} {vs : List Value} (h : RV P ρ w rs vs) :
    (rs.mapM (resOne a.tmps)).run P w = .ok vs w := by
  induction h with
  | nil => simp
  | tmp h hr ih =>
    have h1 := ha.at_ _ _ h
    simp [List.mapM_cons, resOne, h1, ih]
  | cell h S hb hl hr ih =>
    have h1 := ha.at_ _ _ h
    have h2 : _ := run_loadVar_bk (w := w) (o := 0) S hb (vs := _) (by rw [List.drop_zero]; exact List.take_of_length_le (by simp at hl; omega)) hl
    simp [List.mapM_cons, resOne, h1, asAddr, h2, ih]
  | cell1 h hT hna hb hr ih =>
    have h1 := ha.at_ _ _ h
    have h3 := hb.cell (i := 0) rfl
    rename_i s t tb g u ds rs vs
    have h2 : (loadVar t ⟨g, 0, none⟩).run P w = .ok u w := by
      cases ds <;> simp [notAgg] at hna <;> simp [loadVar, isAgg, run_underlying hT, load, Sem.run, h3]
    simp [List.mapM_cons, resOne, h1, asAddr, h2, ih]
def tup : List Value → Value
  | [v] => v
  | vs => .tuple vs.toArray
theorem retL {fn : Func} {R : Ending → World → Prop} {rs : List ResultVar} {vs : List Value} (hr : fn.results = rs.toArray) (hv : RV P ρ w rs vs) (h : R (.returned (tup vs)) w) : bodyE P fn n R ρ w := by
  intro a ha
  refine ⟨_, ?_, h⟩
  have h1 := hv.run ha
  unfold results
  rw [hr]
  have h2 : (rs.toArray.mapM (resOne a.tmps)).run P w = .ok vs.toArray w := by
    rw [List.mapM_toArray]
    simp [h1]
  refine (congrArg (fun m : Sem (Array Value) => Sem.run P (m >>= fun vs => pure (if h : vs.size = 1 then vs[0] else .tuple vs)) w)
    (show Array.mapM _ rs.toArray = rs.toArray.mapM (resOne a.tmps) from by congr 1)).trans ?_
  simp only [Sem.run_bind, h2, Result.andThen_ok, Sem.run_pure]
  congr 1
  match vs with
  | [] => rfl
  | [v] => rfl
  | v :: u :: r => simp [tup]
end
theorem cells_nil : ([] : List Value).map Value.cells = ([] : List (List Value)).map List.toArray := rfl
theorem cells_cons {v : Value} {l : List Value} {vs : List Value} {css : List (List Value)} (h : v.cells = l.toArray) (hr : vs.map Value.cells = css.map List.toArray) : (v :: vs).map Value.cells = (l :: css).map List.toArray := by
  simp only [List.map_cons, h, hr]
theorem one_nil : ∀ v ∈ ([] : List Value), v.oneCell' = true := by simp
theorem one_cons {v : Value} {vs : List Value} (h : v.oneCell' = true) (hr : ∀ u ∈ vs, u.oneCell' = true) : ∀ u ∈ v :: vs, u.oneCell' = true := by
  intro u hu
  rcases List.mem_cons.1 hu with rfl | hu
  · exact h
  · exact hr u hu
/-- A struct of two cells, the second an own row. -/
def AggR (E : TypeId) (c : Value) (l : List Nat) : Nat → Nat → Value → World → Prop := fun a b v w => ∃ q, v = .agg #[c, q] ∧ NoR E l a b q w
theorem AggR.mono {E : TypeId} {c : Value} {l : List Nat} : (Kn.rel (AggR E c l)).Mono := fun _ _ _ _ _ he ⟨q, h1, h2, h3⟩ => ⟨q, h1, h2.ext he, h3⟩
/-- A row of digits is no struct: a store into a struct leaves it. -/
theorem Own.chgBk {B g : Nat} {e t : TypeId} {w w' : World} {v : Value} {vs cs : List Value} (h : Own B e w v vs) (hb : Bk w g t cs) (hne : e ≠ t) (hc : Chg g w w') : Own B e w' v vs := by
  obtain ⟨h1, h2⟩ := h
  refine ⟨h1, ?_⟩
  rcases h2 with h2 | ⟨g', cap, cur, rfl, h4, hh, r⟩
  · exact .inl h2
  · refine .inr ⟨g', cap, cur, rfl, h4, (hc.block g' ?_).trans hh, r⟩
    intro e'
    subst e'
    unfold Bk at hb
    rw [hb] at hh
    simp at hh
    exact hne hh.2.symm
theorem No.chgBk {B g : Nat} {e t : TypeId} {w w' : World} {v : Value} {l : List Nat} {cs : List Value} (h : No B e w v l) (hb : Bk w g t cs) (hne : e ≠ t) (hc : Chg g w w') : No B e w' v l := ⟨h.own.chgBk hb hne hc, h.d⟩
/-! What is known of a value, by its shape: for regions that draw their order. -/
abbrev Pv := Value → World → Prop
def Pv.Mono (p : Pv) : Prop := ∀ v w w', Ext w w' → p v w → p v w'
def RelP (p : Pv) : Nat → Nat → Value → World → Prop := fun _ _ v w => p v w
theorem RelP.mono {p : Pv} (h : p.Mono) : (Kn.rel (RelP p)).Mono := fun _ _ v w w' he hp => h v w w' he hp
def pEq (x : Value) : Pv := fun v _ => v = x
theorem pEq_mono {x : Value} : (pEq x).Mono := fun _ _ _ _ h => h
def pNo (B : Nat) (E : TypeId) (l : List Nat) : Pv := fun v w => No B E w v l
theorem pNo_mono {B : Nat} {E : TypeId} {l : List Nat} : (pNo B E l).Mono := fun _ _ _ he h => No.ext h he
def pNl (l : List Nat) : Pv := fun v w => Nl w v l
theorem pNl_mono {l : List Nat} : (pNl l).Mono := fun _ _ _ he h => Nl.ext h he
def pAgg2 (p q : Pv) : Pv := fun v w => ∃ a b, v = .agg #[a, b] ∧ p a w ∧ q b w
theorem pAgg2_mono {p q : Pv} (hp : p.Mono) (hq : q.Mono) : (pAgg2 p q).Mono := fun _ _ _ he ⟨a, b, h, h1, h2⟩ => ⟨a, b, h, hp _ _ _ he h1, hq _ _ _ he h2⟩
def pAgg3 (p q r : Pv) : Pv := fun v w => ∃ a b c, v = .agg #[a, b, c] ∧ p a w ∧ q b w ∧ r c w
theorem pAgg3_mono {p q r : Pv} (hp : p.Mono) (hq : q.Mono) (hr : r.Mono) : (pAgg3 p q r).Mono := fun _ _ _ he ⟨a, b, c, h, h1, h2, h3⟩ => ⟨a, b, c, h, hp _ _ _ he h1, hq _ _ _ he h2, hr _ _ _ he h3⟩
def pTup2 (p q : Pv) : Pv := fun v w => ∃ a b, v = .tuple #[a, b] ∧ p a w ∧ q b w
theorem pTup2_mono {p q : Pv} (hp : p.Mono) (hq : q.Mono) : (pTup2 p q).Mono := fun _ _ _ he ⟨a, b, h, h1, h2⟩ => ⟨a, b, h, hp _ _ _ he h1, hq _ _ _ he h2⟩
def pTup3 (p q r : Pv) : Pv := fun v w => ∃ a b c, v = .tuple #[a, b, c] ∧ p a w ∧ q b w ∧ r c w
theorem pTup3_mono {p q r : Pv} (hp : p.Mono) (hq : q.Mono) (hr : r.Mono) : (pTup3 p q r).Mono := fun _ _ _ he ⟨a, b, c, h, h1, h2, h3⟩ => ⟨a, b, c, h, hp _ _ _ he h1, hq _ _ _ he h2, hr _ _ _ he h3⟩
/-- The parts of a value, each with what is known of it. -/
def AllP : List Pv → List Value → World → Prop
  | [], vs, _ => vs = []
  | p :: ps, vs, w => ∃ v r, vs = v :: r ∧ p v w ∧ AllP ps r w
theorem AllP.nil {w : World} : AllP [] [] w := rfl
theorem AllP.cons {p : Pv} {ps : List Pv} {v : Value} {r : List Value} {w : World} (h : p v w) (hr : AllP ps r w) : AllP (p :: ps) (v :: r) w := ⟨v, r, rfl, h, hr⟩
def PsM (ps : List Pv) : Prop := ∀ p ∈ ps, Pv.Mono p
theorem PsM.nil : PsM [] := by simp [PsM]
theorem PsM.cons {p : Pv} {ps : List Pv} (h : p.Mono) (hr : PsM ps) : PsM (p :: ps) := by
  intro q hq
  rcases List.mem_cons.1 hq with rfl | hq
  · exact h
  · exact hr q hq
theorem AllP.mono : ∀ {ps : List Pv} {vs : List Value}, PsM ps → ∀ w w', Ext w w' → AllP ps vs w → AllP ps vs w'
  | [], _, _, _, _, _, h => h
  | p :: ps, _, hm, w, w', he, ⟨v, r, h1, h2, h3⟩ => ⟨v, r, h1, hm p (by simp) _ _ _ he h2, AllP.mono (fun q hq => hm q (List.mem_cons_of_mem _ hq)) w w' he h3⟩
def pAgg (ps : List Pv) : Pv := fun v w => ∃ vs : List Value, v = .agg vs.toArray ∧ AllP ps vs w
theorem pAgg_mono {ps : List Pv} (h : PsM ps) : (pAgg ps).Mono := fun _ _ _ he ⟨vs, h1, h2⟩ => ⟨vs, h1, AllP.mono h _ _ he h2⟩
def pTup (ps : List Pv) : Pv := fun v w => ∃ vs : List Value, v = .tuple vs.toArray ∧ AllP ps vs w
theorem pTup_mono {ps : List Pv} (h : PsM ps) : (pTup ps).Mono := fun _ _ _ he ⟨vs, h1, h2⟩ => ⟨vs, h1, AllP.mono h _ _ he h2⟩
theorem ap_ne {a b c d g h : Nat} (p : d ≤ a ∨ b ≤ c) (h1 : a ≤ g) (h2 : g < b) (h3 : c ≤ h) (h4 : h < d) : g ≠ h := by omega
/-- A pointer to a block made by this very operation. -/
def BkR (T : TypeId) (cs : List Value) : Nat → Nat → Value → World → Prop := fun a b v w => ∃ g, v = .pointer (some ⟨g, 0, none⟩) ∧ a ≤ g ∧ g < b ∧ Bk w g T cs
theorem BkR.mono {T : TypeId} {cs : List Value} : (Kn.rel (BkR T cs)).Mono := fun _ _ _ _ _ he ⟨g, h1, h2, h3, h4⟩ => ⟨g, h1, h2, h3, h4.ext he⟩
end Go.Proofs.YtnfnadhbjdcbnaaDoor
