/-
  Tapes; forests with roots and lists; what calls on a forest make, told by lists.
-/
import Derived.Test.YtoccimigjjndpaaSlm
import Derived.Test.YtoccimigjjndpaaAnyF
import Derived.Test.YtoccimigjjndpaaT6
set_option linter.unusedVariables false
set_option linter.unusedSimpArgs false
namespace Go.Proofs.Ytoccimigjjndpaa
open Go Go.RowKit
abbrev TTY : List TypeId := [100]
/-- What a call makes that takes numbers off a tape. -/
def RTape (mk : Int → Value) (w0 w : World) (tp : Nat) (v : Value) (L : Nat) (n : Int) (at_ : Nat) (e : Ending) (w' : World) : Prop :=
  ∃ (r : Int) (a : Nat), e = .returned (mk r) ∧ 0 ≤ r ∧ r < n ∧ Ext w0 w' ∧ ExtT TTY w w' ∧ Bk w' tp 100 [v, .int .i64 (a : Nat)] ∧ at_ ≤ a ∧ (at_ < L → at_ < a) ∧ a ≤ L
def RName (w0 w : World) (tp : Nat) (v : Value) (L : Nat) (at_ : Nat) (e : Ending) (w' : World) : Prop :=
  ∃ (s : ByteArray) (a : Nat), e = .returned (.string s) ∧ s.size ≤ 100 ∧ Ext w0 w' ∧ ExtT TTY w w' ∧ Bk w' tp 100 [v, .int .i64 (a : Nat)] ∧ at_ ≤ a ∧ (at_ < L → at_ < a) ∧ a ≤ L
/-- What a call on a forest makes: the root of a tree of these bindings. -/
def FRetU (mk : Int → Value) (B g : Nat) (ps : List Part) (i0 : Int) (E0 E : Env) (N : Nat) (w : World) (e : Ending) (w' : World) : Prop :=
  ∃ qs i u, e = .returned (mk i) ∧ ExtT TFP w w' ∧ (∀ w0, Ext w0 w → w0.heap.size ≤ B → Ext w0 w') ∧ FG B w' g (ps ++ qs) ∧ qs.length ≤ N ∧ Rep (ps ++ qs) i u ∧ Tr.Ord u ∧ Tr.Avl u ∧ u.env = E ∧ (E0 = E → i = i0 ∧ qs = [])
section
variable {P : Program} {n : Nat} {K : Rho → World → Prop} {ρ : Rho} {w w0 : World} {ops rest : List Oper}
variable {ty : TypeId} {pos : String} {after : Array Edge} {gd_ : Option (Nat × Bool)} {d : Nat}
theorem O_callT {mk : Int → Value} {tp L at_ : Nat} {v : Value} {k : Int} {f : FuncId} {args : List Operand} {ats : Array TypeId} {vs : List Value} (hE : Enters P f) (hg : gd ops ρ gd_ = some true) (hd : Nat.blt d n = true) (ha : evs ρ args = some vs)
    (hc : Calls P f vs.toArray w (RTape mk w0 w tp v L k at_)) (h : ∀ (r : Int) (a : Nat) w', 0 ≤ r → r < k → Ext w0 w' → ExtT TTY w w' → Bk w' tp 100 [v, .int .i64 (a : Nat)] → at_ ≤ a → (at_ < L → at_ < a) → a ≤ L → WL P n ops rest K ((d, mk r) :: ρ) w') :
    WL P n ops (⟨some d, .call { callee := .value (.func f), args := args.toArray, argTypes := ats }, ty, pos, after, gd_⟩ :: rest) K ρ w :=
  O_callR hE hg hd ha hc fun e w' ⟨r, a, he, h1, h2, h3, h4, h5, h6, h7, h8⟩ => ⟨_, he, h r a w' h1 h2 h3 h4 h5 h6 h7 h8⟩
theorem O_callNm {tp L at_ : Nat} {v : Value} {f : FuncId} {args : List Operand} {ats : Array TypeId} {vs : List Value} (hE : Enters P f) (hg : gd ops ρ gd_ = some true) (hd : Nat.blt d n = true) (ha : evs ρ args = some vs)
    (hc : Calls P f vs.toArray w (RName w0 w tp v L at_)) (h : ∀ (s : ByteArray) (a : Nat) w', s.size ≤ 100 → Ext w0 w' → ExtT TTY w w' → Bk w' tp 100 [v, .int .i64 (a : Nat)] → at_ ≤ a → (at_ < L → at_ < a) → a ≤ L → WL P n ops rest K ((d, .string s) :: ρ) w') :
    WL P n ops (⟨some d, .call { callee := .value (.func f), args := args.toArray, argTypes := ats }, ty, pos, after, gd_⟩ :: rest) K ρ w :=
  O_callR hE hg hd ha hc fun e w' ⟨r, a, he, h2, h3, h4, h5, h6, h7, h8⟩ => ⟨_, he, h r a w' h2 h3 h4 h5 h6 h7 h8⟩
theorem O_callU {mk : Int → Value} {B g N : Nat} {ps : List Part} {i0 : Int} {E0 E : Env} {f : FuncId} {args : List Operand} {ats : Array TypeId} {vs : List Value} (hE : Enters P f) (hg : gd ops ρ gd_ = some true) (hd : Nat.blt d n = true) (ha : evs ρ args = some vs)
    (hc : Calls P f vs.toArray w (FRetU mk B g ps i0 E0 E N w)) (h : ∀ qs i u w', ExtT TFP w w' → (∀ w0, Ext w0 w → w0.heap.size ≤ B → Ext w0 w') → FG B w' g (ps ++ qs) → qs.length ≤ N → Rep (ps ++ qs) i u → Tr.Ord u → Tr.Avl u → u.env = E → (E0 = E → i = i0 ∧ qs = []) → WL P n ops rest K ((d, mk i) :: ρ) w') :
    WL P n ops (⟨some d, .call { callee := .value (.func f), args := args.toArray, argTypes := ats }, ty, pos, after, gd_⟩ :: rest) K ρ w :=
  O_callR hE hg hd ha hc fun e w' ⟨qs, i, u, he, h1, h2, h3, h4, h5, h6, h7, h8, h9⟩ => ⟨_, he, h qs i u w' h1 h2 h3 h4 h5 h6 h7 h8 h9⟩
end
/-- A forest with roots and lists, in memory. -/
def GSb (B : Nat) (w : World) (gx g : Nat) (ps : List Part) (vr vl : Value) (lv : List Value) (rs : List Int) (ts : List Tr) : Prop :=
  Bk w gx 32 [.pointer (some ⟨g, 0, none⟩), vr, vl] ∧ FG B w g ps ∧ OwM fI B 3 w vr rs ∧ OwM fV B 34 w vl lv ∧ Lists B w lv ts ∧ Good ps rs ts ∧ ps.length ≤ 200 * rs.length ∧ 0 < rs.length ∧ B ≤ gx
def GS (B : Nat) (w : World) (gx g : Nat) (rs : List Int) (ts : List Tr) : Prop := ∃ ps vr vl lv, GSb B w gx g ps vr vl lv rs ts
abbrev GTY : List TypeId := [32, 103, 97, 3, 34, 54]
section
variable {B : Nat} {w w' : World} {gx g : Nat} {rs : List Int} {ts : List Tr} {S : List TypeId} {ps : List Part} {vr vl : Value} {lv : List Value}
theorem GSb.ext (h : GSb B w gx g ps vr vl lv rs ts) (he : Ext w w') : GSb B w' gx g ps vr vl lv rs ts := by
  obtain ⟨h1, h2, h3, h4, h5, h6⟩ := h
  exact ⟨h1.ext he, h2.ext he, h3.ext he, h4.ext he, h5.ext he, h6⟩
theorem GSb.extT (h : GSb B w gx g ps vr vl lv rs ts) (he : ExtT S w w') (hs : ∀ e ∈ GTY, e ∉ S) : GSb B w' gx g ps vr vl lv rs ts := by
  obtain ⟨h1, h2, h3, h4, h5, h6⟩ := h
  exact ⟨h1.extT he (hs _ (by simp)), h2.extT' he ⟨hs _ (by simp), hs _ (by simp)⟩, h3.extT he (hs _ (by simp)), h4.extT he (hs _ (by simp)), h5.extT he (hs _ (by simp)), h6⟩
theorem GS.ext (h : GS B w gx g rs ts) (he : Ext w w') : GS B w' gx g rs ts := by obtain ⟨a, b, c, d, h⟩ := h; exact ⟨a, b, c, d, h.ext he⟩
theorem GS.extT (h : GS B w gx g rs ts) (he : ExtT S w w') (hs : ∀ e ∈ GTY, e ∉ S) : GS B w' gx g rs ts := by obtain ⟨a, b, c, d, h⟩ := h; exact ⟨a, b, c, d, h.extT he hs⟩
theorem Good.nm (h : Good ps rs ts) {k : Nat} (h1 : k < rs.length) (h2 : k < ts.length) : ∀ b ∈ ts[k].env, b.1.size ≤ 100 :=
  (h.2 k _ _ (List.getElem?_eq_getElem h1) (List.getElem?_eq_getElem h2)).2.2.2.2
theorem Good.at_ (h : Good ps rs ts) {k : Nat} (h1 : k < rs.length) (h2 : k < ts.length) : Rep ps rs[k] ts[k] ∧ Tr.Ord ts[k] ∧ Tr.Avl ts[k] ∧ ts[k].cnt ≤ k := by
  obtain ⟨a, b, c, d, _⟩ := h.2 k _ _ (List.getElem?_eq_getElem h1) (List.getElem?_eq_getElem h2)
  exact ⟨a, b, c, d⟩
theorem Lists.at_ (h : Lists B w lv ts) {k : Nat} (h1 : k < lv.length) (h2 : k < ts.length) : OwB B w lv[k] ts[k].env :=
  h.2 k _ _ (List.getElem?_eq_getElem h1) (List.getElem?_eq_getElem h2)
end
theorem eset_same' {t : Tr} {k : ByteArray} {v : Int} (ho : t.Ord) (h : t.env = eset t.env k v) : t.get k = some v := by
  rw [Tr.get_env ho, h]; exact eget_eset _ _ _
theorem bigB (t : Tr) (hA : t.Avl) (hc : t.cnt ≤ 100000) : t.ht ≤ 40 := Tr.ht_40 hA (by omega)
section
variable {w : World} {B g : Nat} {ps : List Part} {t : Tr} {i : Int}
theorem Set_U (hF : FG B w g ps) (hB : B ≤ w.heap.size) (hR : Rep ps i t) (ho : t.Ord) (hA : t.Avl) (hc : t.cnt ≤ 100000) (hp : ps.length ≤ 90000000) (k : ByteArray) (v : Int) :
    Calls Try.prog 28 #[.pointer (some ⟨g, 0, none⟩), .int .i64 i, .string k, .int .i64 v] w (FRetU (fun i => .int .i64 i) B g ps i t.env (eset t.env k v) (3 * t.ht + 1) w) := by
  have h40 := bigB t hA hc
  by_cases hs : t.get k = some v
  · obtain ⟨r, hr, h2, h3⟩ := hF
    refine (Set_same hr hR hs).mono fun e w' hR' => ?_
    obtain ⟨x, he, hx, hv⟩ := hR'
    have hv' : x = .int .i64 i := hv
    subst hv'
    have hE : eset t.env k v = t.env := eset_same (by rw [← Tr.get_env ho]; exact hs)
    exact ⟨[], i, t, he, hx.toT, fun w0 k1 _ => k1.trans hx, by rw [List.append_nil]; exact ⟨r, hr.ext hx, h2, h3⟩, Nat.zero_le _, by rw [List.append_nil]; exact hR, ho, hA, hE.symm, fun _ => ⟨rfl, rfl⟩⟩
  · refine (calls_G' hF hB fun r hr => Set_new hr hR hs (by omega) (by omega)).mono fun e w' hR' => ?_
    obtain ⟨qs, j, he, h1, h2, h3, h4, h5⟩ := hR'
    exact ⟨qs, j, t.set k v, he, h1, h2, h3, h4, h5, Tr.set_ord ho, (Tr.set_avl hA).1, Tr.set_env ho, fun hq => absurd (eset_same' ho hq) hs⟩
theorem Drop_UT (hF : FG B w g ps) (hB : B ≤ w.heap.size) (hR : Rep ps i t) (ho : t.Ord) (hA : t.Avl) (hc : t.cnt ≤ 100000) (hp : ps.length ≤ 90000000) (s : ByteArray) (hs : egot t.env s) :
    Calls Try.prog 30 #[.pointer (some ⟨g, 0, none⟩), .int .i64 i, .string s] w (FRetU (fun i => .tuple #[.int .i64 i, .bool true]) B g ps i t.env (edrop t.env s) (3 * t.ht) w) := by
  have h40 := bigB t hA hc
  have hg : t.get s = some _ := (Tr.get_env ho).trans (egot_get hs)
  refine (calls_G hF hB fun r hr => Drop_some hr hR hg ho (by omega) (by omega)).mono fun e w' hR' => ?_
  obtain ⟨qs, j, he, h1, h2, h3, h4, h5⟩ := hR'
  exact ⟨qs, j, t.drop s, he, h1, h2, h3, h4, h5, Tr.drop_ord ho, (Tr.drop_avl hA).1, Tr.drop_env ho, fun hq => by
    have h6 := edrop_len (egot_get hs)
    rw [← hq] at h6; omega⟩
theorem Drop_UF (hF : FG B w g ps) (hR : Rep ps i t) (ho : t.Ord) (s : ByteArray) (hs : ¬ egot t.env s) :
    Calls Try.prog 30 #[.pointer (some ⟨g, 0, none⟩), .int .i64 i, .string s] w (Ret w fun r _ => r = .tuple #[.int .i64 i, .bool false]) := by
  obtain ⟨r, hr, _⟩ := hF
  exact Drop_none hr hR ((Tr.get_env ho).trans (egot_none hs))
end
end Go.Proofs.Ytoccimigjjndpaa
