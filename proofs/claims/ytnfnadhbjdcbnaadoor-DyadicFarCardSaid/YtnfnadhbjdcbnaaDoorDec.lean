/-
  Texts as lists of bytes; decimal texts, plain laws; operations on texts.
-/
import Derived.Test.YtnfnadhbjdcbnaaDoorNum
import Derived.Lib.Bytealg
import Derived.Lib.Strings
import Derived.Laws.Externs
set_option linter.unusedVariables false
set_option linter.unusedSimpArgs false
namespace Go.Proofs.YtnfnadhbjdcbnaaDoor
open Go Go.RowKit
def bs (l : List UInt8) : ByteArray := ⟨l.toArray⟩
theorem bs_size (l : List UInt8) : (bs l).size = l.length := by simp [bs, ByteArray.size]
theorem bs_data (s : ByteArray) : bs s.data.toList = s := by cases s; simp [bs]
theorem bs_inj {a b : List UInt8} : bs a = bs b ↔ a = b := by simp [bs]
theorem bs_get (l : List UInt8) (j : Nat) : (bs l)[j]? = l[j]? := by
  by_cases h : j < l.length
  · have h1 : j < (bs l).size := by rw [bs_size]; exact h
    rw [getElem?_pos (bs l) j h1, List.getElem?_eq_getElem h]
    rfl
  · have h1 : ¬ j < (bs l).size := by rw [bs_size]; exact h
    rw [getElem?_neg (bs l) j h1, List.getElem?_eq_none (by omega)]
theorem bs_append (a b : List UInt8) : bs a ++ bs b = bs (a ++ b) := by
  simp only [bs]
  rw [← ByteArray.append_eq]
  apply ByteArray.ext
  simp
theorem bs_extract (l : List UInt8) (i j : Nat) : (bs l).extract i j = bs ((l.take j).drop i) := by
  rw [Lib.extract_eq]
  simp only [bs]
  congr 2
  rw [List.drop_take]
section
variable {P : Program} {n : Nat} {K : Rho → World → Prop} {ρ : Rho} {w : World} {ops rest : List Oper}
variable {ty : TypeId} {pos : String} {after : Array Edge} {g : Option (Nat × Bool)} {d : Nat} {t : TypeId} {l : List UInt8}
theorem S_len {x : Operand} (hT : P.underlying t = some .string) (hg : gd ops ρ g = some true) (hd : Nat.blt d n = true) (hx : ev ρ x = some (.string (bs l)))
    (h : WL P n ops rest K ((d, .int .i64 (l.length : Nat)) :: ρ) w) :
    WL P n ops (⟨some d, .call { callee := .builtin .len, args := #[x], argTypes := #[t] }, ty, pos, after, g⟩ :: rest) K ρ w :=
  WL_val rfl hg hd (fun c hc => by simp [execOp, resolve, invoke, builtin, hc.eval hx, Builtin.len_, run_underlying hT, goInt, bs_size]) h
theorem S_idx {x ix : Operand} {k : IntKind} {i : Int} {b : UInt8} (hT : P.underlying t = some .string) (hg : gd ops ρ g = some true) (hd : Nat.blt d n = true)
    (hx : ev ρ x = some (.string (bs l))) (hix : ev ρ ix = some (.int k i)) (j : Nat) (hj : i = (j : Int)) (hb : l[j]? = some b) (h : WL P n ops rest K ((d, .int .u8 (b.toNat : Int)) :: ρ) w) :
    WL P n ops (⟨some d, .index t x ix, ty, pos, after, g⟩ :: rest) K ρ w := O_indexStr hT hg hd hx hix j hj (by rw [bs_get]; exact hb) h
theorem S_from {x y : Operand} {k : IntKind} {i : Int} (hT : P.underlying t = some .string) (hg : gd ops ρ g = some true) (hd : Nat.blt d n = true)
    (hx : ev ρ x = some (.string (bs l))) (hy : ev ρ y = some (.int k i)) (m : Nat) (hm : i = (m : Int)) (hle : m ≤ l.length) (h : WL P n ops rest K ((d, .string (bs (l.drop m))) :: ρ) w) :
    WL P n ops (⟨some d, .slice t x (some y) none none, ty, pos, after, g⟩ :: rest) K ρ w := by
  subst hm
  refine WL_val rfl hg hd (fun c hc => ?_) h
  have e : (bs l).extract m (bs l).size = bs (l.drop m) := by rw [bs_extract, bs_size, List.take_length]
  have h1 : (0 : Int) ≤ (m : Int) ∧ (m : Int) ≤ (((bs l).size : Nat) : Int) := by rw [bs_size]; omega
  have h2 : (0 : Int) ≤ (((bs l).size : Nat) : Int) := by omega
  simp [execOp, hc.eval hx, hc.eval hy, Instr.sliceAt, Instr.slice, Instr.sliceBounds, Instr.sliceBound, asIntOf, run_underlying hT, h1, h2, e]
  intro h9; rw [bs_size] at h9; omega
theorem S_to {x y : Operand} {k : IntKind} {i : Int} (hT : P.underlying t = some .string) (hg : gd ops ρ g = some true) (hd : Nat.blt d n = true)
    (hx : ev ρ x = some (.string (bs l))) (hy : ev ρ y = some (.int k i)) (m : Nat) (hm : i = (m : Int)) (hle : m ≤ l.length) (h : WL P n ops rest K ((d, .string (bs (l.take m))) :: ρ) w) :
    WL P n ops (⟨some d, .slice t x none (some y) none, ty, pos, after, g⟩ :: rest) K ρ w := by
  subst hm
  refine WL_val rfl hg hd (fun c hc => ?_) h
  have e : (bs l).extract 0 m = bs (l.take m) := by rw [bs_extract, List.drop_zero]
  have h1 : (0 : Int) ≤ (m : Int) ∧ (m : Int) ≤ (((bs l).size : Nat) : Int) := by rw [bs_size]; omega
  simp [execOp, hc.eval hx, hc.eval hy, Instr.sliceAt, Instr.slice, Instr.sliceBounds, Instr.sliceBound, asIntOf, run_underlying hT, h1, e]
  intro h9; rw [bs_size] at h9; omega
theorem S_sub {x y z : Operand} {k k' : IntKind} {i i' : Int} (hT : P.underlying t = some .string) (hg : gd ops ρ g = some true) (hd : Nat.blt d n = true)
    (hx : ev ρ x = some (.string (bs l))) (hy : ev ρ y = some (.int k i)) (hz : ev ρ z = some (.int k' i')) (a m : Nat) (ha : i = (a : Int)) (hm : i' = (m : Int)) (hle : a ≤ m) (hle2 : m ≤ l.length) (h : WL P n ops rest K ((d, .string (bs ((l.take m).drop a))) :: ρ) w) :
    WL P n ops (⟨some d, .slice t x (some y) (some z) none, ty, pos, after, g⟩ :: rest) K ρ w := by
  subst hm ha
  refine WL_val rfl hg hd (fun c hc => ?_) h
  have e : (bs l).extract a m = bs ((l.take m).drop a) := bs_extract l a m
  have h1 : (0 : Int) ≤ (a : Int) ∧ (a : Int) ≤ (m : Int) := by omega
  have h2 : (0 : Int) ≤ (m : Int) ∧ (m : Int) ≤ (((bs l).size : Nat) : Int) := by rw [bs_size]; omega
  have h3 : m ≤ (bs l).size := by rw [bs_size]; exact hle2
  simp [execOp, hc.eval hx, hc.eval hy, hc.eval hz, h3, hle, Instr.sliceAt, Instr.slice, Instr.sliceBounds, Instr.sliceBound, asIntOf, run_underlying hT, h1, h2, e]
theorem S_add {x y : Operand} {yt : TypeId} {a b : List UInt8} (hg : gd ops ρ g = some true) (hd : Nat.blt d n = true) (hx : ev ρ x = some (.string (bs a))) (hy : ev ρ y = some (.string (bs b))) (hs : a.length + b.length ≤ 9223372036854775807) (h : WL P n ops rest K ((d, .string (bs (a ++ b))) :: ρ) w) :
    WL P n ops (⟨some d, .binOp .add t x y yt, ty, pos, after, g⟩ :: rest) K ρ w :=
  WL_val rfl hg hd (fun c hc => by
    have h9 : ¬ (((bs a).size + (bs b).size : Nat) : Int) > IntKind.i64.max := by rw [bs_size, bs_size]; simp [IntKind.max, IntKind.bits, IntKind.signed]; omega
    simp [execOp, hc.eval hx, hc.eval hy, eqGuard, binOp, Op.stringOp] at h9 ⊢
    simp [h9, bs_append]) h
theorem bs_beq (a b : List UInt8) : ((bs a).toList == (bs b).toList) = decide (a = b) := by
  have e : ∀ l : List UInt8, (bs l).toList = l := fun l => by rw [Lib.toList_data]; simp [bs]
  rw [e, e]
  by_cases h : a = b
  · subst h; simp
  · rw [decide_eq_false h]; simp [h]
theorem S_eql {x y : Operand} {yt : TypeId} {a b : List UInt8} {tb : Bool} (hg : gd ops ρ g = some true) (hd : Nat.blt d n = true) (hx : ev ρ x = some (.string (bs a))) (hy : ev ρ y = some (.string (bs b))) (ht : decide (a = b) = tb) (h : WL P n ops rest K ((d, .bool tb) :: ρ) w) :
    WL P n ops (⟨some d, .binOp .eql t x y yt, ty, pos, after, g⟩ :: rest) K ρ w :=
  WL_val rfl hg hd (fun c hc => by rw [← ht, ← bs_beq]; simp [execOp, hc.eval hx, hc.eval hy, eqGuard, binOp, Op.stringOp]) h
/-- The library's search for a byte: an entry without a body. -/
theorem O_callIB {f : FuncId} {fn : Func} {x y : Operand} {at_ : Array TypeId} {c : Int} (hf : P.funcs[f]? = some fn) (hname : (fn.name == "runtime.NumGoroutine") = false) (hb : fn.body.isNone = true) (hn : Extern.findNext fn = none) (he : Extern.find fn = some Extern.BytealgIndexByte.indexByte)
    (hg : gd ops ρ g = some true) (hd : Nat.blt d n = true) (hx : ev ρ x = some (.string (bs l))) (hy : ev ρ y = some (.int .u8 c)) (h : WL P n ops rest K ((d, .int .i64 (Lib.indexByte l c.toNat.toUInt8)) :: ρ) w) :
    WL P n ops (⟨some d, .call { callee := .value (.func f), args := #[x, y], argTypes := at_ }, ty, pos, after, g⟩ :: rest) K ρ w :=
  WL_val rfl hg hd (fun a ha => by
    have h1 := run_callFunc_extern hf hname hb hn he #[.string (bs l), .int .u8 c] w
    rw [Lib.run_indexByteString] at h1
    have h2 : (bs l).data.toList = l := by simp [bs]
    rw [h2] at h1
    have h3 : a.eval (.func f) = .func (.func f) #[] #[] := rfl
    simp [execOp, resolve, invoke, Deferred.ofValue, ha.eval hx, ha.eval hy, h3, h1]) h
end
/-! ### Decimal texts -/
def isd (b : UInt8) : Prop := 48 ≤ b.toNat ∧ b.toNat ≤ 57
instance (b : UInt8) : Decidable (isd b) := by unfold isd; exact inferInstance
def vstep (a : Nat) (b : UInt8) : Nat := 10 * a + (b.toNat - 48)
/-- The number of some digits. -/
def dnum (l : List UInt8) : Nat := l.foldl vstep 0
/-- The text of a natural. -/
def natok (l : List UInt8) : Prop := l ≠ [] ∧ (∀ b ∈ l, isd b) ∧ ¬ (1 < l.length ∧ l[0]? = some 48)
theorem revInd {α : Type} {Q : List α → Prop} (h0 : Q []) (h1 : ∀ l a, Q l → Q (l ++ [a])) (l : List α) : Q l := by
  have h : ∀ r : List α, Q r.reverse := fun r => by
    induction r with
    | nil => exact h0
    | cons a r ih => rw [List.reverse_cons]; exact h1 _ _ ih
  simpa using h l.reverse
theorem foldl_vstep : ∀ (l : List UInt8) (a : Nat), l.foldl vstep a = a * 10 ^ l.length + l.foldl vstep 0
  | [], a => by simp
  | b :: l, a => by
    rw [List.foldl_cons, List.foldl_cons, foldl_vstep l (vstep a b), foldl_vstep l (vstep 0 b)]
    simp only [vstep, List.length_cons, Nat.mul_zero, Nat.zero_add]
    rw [Nat.pow_succ, Nat.add_mul, show 10 * a * 10 ^ l.length = a * (10 ^ l.length * 10) from by rw [Nat.mul_comm 10 a, Nat.mul_assoc, Nat.mul_comm 10]]
    omega
theorem dnum_snoc (l : List UInt8) (b : UInt8) : dnum (l ++ [b]) = 10 * dnum l + (b.toNat - 48) := by simp [dnum, vstep]
theorem dnum_take {l : List UInt8} {i : Nat} {b : UInt8} (h : l[i]? = some b) : dnum (l.take (i + 1)) = 10 * dnum (l.take i) + (b.toNat - 48) := by
  rw [List.take_add_one, h]; exact dnum_snoc _ _
theorem dnum_lt {l : List UInt8} (h : ∀ b ∈ l, isd b) : dnum l < 10 ^ l.length := by
  induction l using revInd with
  | h0 => simp [dnum]
  | h1 l b ih =>
    rw [dnum_snoc, List.length_append, List.length_singleton, Nat.pow_succ]
    have h1 := ih fun x hx => h x (by simp [hx])
    have h2 := h b (by simp)
    unfold isd at h2
    omega
/-- The digits, the last one first. -/
def rdg (n : Nat) : List UInt8 := if h : n = 0 then [] else UInt8.ofNat (48 + n % 10) :: rdg (n / 10)
termination_by n
decreasing_by exact Nat.div_lt_self (by omega) (by omega)
theorem rdg_zero : rdg 0 = [] := by rw [rdg]; simp
theorem rdg_pos {n : Nat} (h : n ≠ 0) : rdg n = UInt8.ofNat (48 + n % 10) :: rdg (n / 10) := by rw [rdg]; simp [h]
def dstr (n : Nat) : List UInt8 := if n = 0 then [48] else (rdg n).reverse
theorem rdg_len : ∀ (k n : Nat), n < 10 ^ k → (rdg n).length ≤ k := by
  intro k
  induction k with
  | zero => intro n h; rw [show n = 0 by omega, rdg_zero]; simp
  | succ k ih =>
    intro n h
    by_cases h0 : n = 0
    · rw [h0, rdg_zero]; simp
    · rw [rdg_pos h0, List.length_cons]
      have := ih (n / 10) (by rw [Nat.pow_succ] at h; omega)
      omega
theorem ofNat_dig {n : Nat} (h : n < 10) : (UInt8.ofNat (48 + n)).toNat = 48 + n := by
  rw [UInt8.toNat_ofNat']; omega
theorem isd_dig {n : Nat} (h : n < 10) : isd (UInt8.ofNat (48 + n)) := by unfold isd; rw [ofNat_dig h]; omega
theorem rdg_isd : ∀ (k n : Nat), n < 10 ^ k → ∀ b ∈ rdg n, isd b := by
  intro k
  induction k with
  | zero => intro n h b hb; rw [show n = 0 by omega, rdg_zero] at hb; cases hb
  | succ k ih =>
    intro n h b hb
    by_cases h0 : n = 0
    · rw [h0, rdg_zero] at hb; cases hb
    · rw [rdg_pos h0] at hb
      rcases List.mem_cons.1 hb with rfl | hb
      · exact isd_dig (Nat.mod_lt _ (by omega))
      · exact ih (n / 10) (by rw [Nat.pow_succ] at h; omega) b hb
theorem lt_pow10 (n : Nat) : n < 10 ^ n := Nat.lt_pow_self (by omega)
theorem dnum_rdg : ∀ (k n : Nat), n < 10 ^ k → dnum (rdg n).reverse = n := by
  intro k
  induction k with
  | zero => intro n h; rw [show n = 0 by omega, rdg_zero]; rfl
  | succ k ih =>
    intro n h
    by_cases h0 : n = 0
    · rw [h0, rdg_zero]; rfl
    · rw [rdg_pos h0, List.reverse_cons, dnum_snoc, ih (n / 10) (by rw [Nat.pow_succ] at h; omega), ofNat_dig (Nat.mod_lt _ (by omega))]
      omega
theorem dnum_dstr (n : Nat) : dnum (dstr n) = n := by
  unfold dstr
  split
  · rename_i h; subst h; rfl
  · exact dnum_rdg n n (lt_pow10 n)
/-- The digit lists end (in front) with no zero. -/
theorem rdg_last : ∀ (k n : Nat), n < 10 ^ k → n ≠ 0 → (rdg n).getLast? ≠ some 48 := by
  intro k
  induction k with
  | zero => intro n h h0; omega
  | succ k ih =>
    intro n h h0
    rw [rdg_pos h0]
    by_cases h1 : n / 10 = 0
    · rw [h1, rdg_zero]
      simp
      intro e
      have h5 := congrArg UInt8.toNat e
      rw [UInt8.toNat_ofNat'] at h5
      simp at h5
      omega
    · have h2 := ih (n / 10) (by rw [Nat.pow_succ] at h; omega) h1
      rw [rdg_pos h1] at h2 ⊢
      simpa using h2
theorem natok_dstr (n : Nat) : natok (dstr n) := by
  unfold dstr
  split
  · exact ⟨by simp, by simp [isd], by simp⟩
  · rename_i h0
    refine ⟨?_, ?_, ?_⟩
    · rw [rdg_pos h0]; simp
    · intro b hb; exact rdg_isd n n (lt_pow10 n) b (by simpa using hb)
    · rintro ⟨_, h⟩
      apply rdg_last n n (lt_pow10 n) h0
      rw [← List.head?_reverse, ← h]
      simp [List.head?_eq_getElem?]
/-- A text of digits is that of its number. -/
theorem rdg_of : ∀ (l : List UInt8), (∀ b ∈ l, isd b) → l.head? ≠ some 48 → rdg (dnum l) = l.reverse := by
  intro l
  induction l using revInd with
  | h0 => intro _ _; rw [show dnum [] = 0 from rfl, rdg_zero]; rfl
  | h1 l b ih =>
    intro h hh
    have hb := h b (by simp)
    unfold isd at hb
    have e : dnum (l ++ [b]) ≠ 0 := by
      rw [dnum_snoc]
      intro e0
      cases l with
      | nil =>
        apply hh
        have hb0 : b.toNat = 48 := by omega
        have : b = 48 := UInt8.toNat_inj.1 (by rw [hb0]; rfl)
        simp [this]
      | cons a l =>
        have ha := h a (by simp)
        unfold isd at ha
        have h3 : a.toNat ≠ 48 := fun e1 => hh (by
          have : a = 48 := UInt8.toNat_inj.1 (by rw [e1]; rfl)
          simp [this])
        have h4 : dnum (a :: l) = (a.toNat - 48) * 10 ^ l.length + l.foldl vstep 0 := by
          unfold dnum
          rw [List.foldl_cons, foldl_vstep l]
          simp [vstep]
        have h5 : 0 < 10 ^ l.length := Nat.pow_pos (by omega)
        have h6 : 0 < (a.toNat - 48) * 10 ^ l.length := Nat.mul_pos (by omega) h5
        omega
    rw [rdg_pos e, dnum_snoc]
    have e1 : (10 * dnum l + (b.toNat - 48)) % 10 = b.toNat - 48 := by omega
    have e2 : (10 * dnum l + (b.toNat - 48)) / 10 = dnum l := by omega
    rw [e1, e2, show 48 + (b.toNat - 48) = b.toNat from by omega]
    rw [List.reverse_append, List.reverse_singleton, List.singleton_append]
    congr 1
    · exact UInt8.ofNat_toNat
    · by_cases hl : l = []
      · subst hl; rw [show dnum [] = 0 from rfl, rdg_zero]; rfl
      · exact ih (fun x hx => h x (by simp [hx])) (by
          cases l with
          | nil => exact absurd rfl hl
          | cons a l => simpa using hh)
theorem dstr_of {l : List UInt8} (h : natok l) : dstr (dnum l) = l := by
  obtain ⟨h1, h2, h3⟩ := h
  by_cases h0 : l.head? = some 48
  · have h4 : l = [48] := by
      match l, h1, h0, h3 with
      | [a], _, h0, _ => simpa using h0
      | a :: b :: r, _, h0, h3 => exact absurd ⟨by simp, by simpa using h0⟩ h3
    subst h4; rfl
  · have h4 := rdg_of l h2 h0
    unfold dstr
    split
    · rename_i e
      rw [e, rdg_zero] at h4
      exact absurd (by simpa using h4.symm) h1
    · rw [h4]; simp
/-- Integers. -/
def fint (z : Int) : List UInt8 := if z < 0 then 45 :: dstr z.natAbs else dstr z.natAbs
def sgn (l : List UInt8) : Bool := decide (l[0]? = some 45)
def body (l : List UInt8) : List UInt8 := if sgn l then l.drop 1 else l
def intok (l : List UInt8) : Prop := natok (body l) ∧ ¬ (sgn l = true ∧ dnum (body l) = 0)
def pint (l : List UInt8) : Int := if sgn l then -(dnum (body l) : Int) else dnum (body l)
theorem dstr_head (n : Nat) : (dstr n)[0]? ≠ some 45 := by
  intro h
  have h1 := (natok_dstr n).2.1 45 (List.mem_of_getElem? h)
  revert h1; decide
theorem sgn_fint (z : Int) : sgn (fint z) = decide (z < 0) := by
  unfold fint sgn
  split
  · rename_i h; simp [h]
  · rename_i h
    rw [decide_eq_false (dstr_head _), decide_eq_false h]
theorem body_fint (z : Int) : body (fint z) = dstr z.natAbs := by
  unfold body
  rw [sgn_fint]
  unfold fint
  by_cases h : z < 0
  · simp [h]
  · simp [h]
theorem intok_fint (z : Int) : intok (fint z) := by
  refine ⟨by rw [body_fint]; exact natok_dstr _, ?_⟩
  rintro ⟨h1, h2⟩
  rw [sgn_fint, decide_eq_true_eq] at h1
  rw [body_fint, dnum_dstr] at h2
  omega
theorem pint_fint (z : Int) : pint (fint z) = z := by
  unfold pint
  rw [sgn_fint, body_fint, dnum_dstr]
  by_cases h : z < 0
  · simp [h]; omega
  · simp [h]; omega
theorem fint_pint {l : List UInt8} (h : intok l) : fint (pint l) = l := by
  obtain ⟨h1, h2⟩ := h
  have h3 := dstr_of h1
  unfold pint
  by_cases hs : sgn l = true
  · have h4 : dnum (body l) ≠ 0 := fun e => h2 ⟨hs, e⟩
    rw [if_pos hs]
    unfold fint
    rw [if_pos (by omega), Int.natAbs_neg, Int.natAbs_natCast, h3]
    unfold body
    rw [if_pos hs]
    unfold sgn at hs
    rw [decide_eq_true_eq] at hs
    match l, hs with
    | a :: r, hs => simp at hs; subst hs; rfl
  · rw [if_neg hs]
    unfold fint
    rw [if_neg (by omega), Int.natAbs_natCast, h3]
    unfold body
    rw [if_neg hs]
end Go.Proofs.YtnfnadhbjdcbnaaDoor
