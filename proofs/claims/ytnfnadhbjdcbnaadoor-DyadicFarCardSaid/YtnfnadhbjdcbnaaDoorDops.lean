/-
  For chapter 1: bitwise operations on 32-bit numbers, an array's element, the table of the trailing zeros.
-/
import Derived.Test.YtnfnadhbjdcbnaaDoorPlain
import Derived.Test.YtnfnadhbjdcbnaaDoorAny
import Derived.Laws.BitsAllLaws
set_option linter.unusedVariables false
set_option linter.unusedSimpArgs false
set_option maxRecDepth 100000
namespace Go.Proofs.YtnfnadhbjdcbnaaDoor
open Go Go.RowKit

section
variable {P : Program} {n : Nat} {ops rest : List Oper} {K : Rho → World → Prop} {ρ : Rho} {w : World} {d : Nat} {ty : TypeId} {pos : String} {after : Array Edge} {g : Option (Nat × Bool)}
theorem O_xor {x y : Operand} {k : IntKind} {a b r : Int} {xt yt : TypeId} (hg : gd ops ρ g = some true) (hd : Nat.blt d n = true) (hx : ev ρ x = some (.int k a)) (hy : ev ρ y = some (.int k b)) (hr : k.wrap ((BitVec.ofInt k.bits a ^^^ BitVec.ofInt k.bits b).toNat : Int) = r) (h : WL P n ops rest K ((d, .int k r) :: ρ) w) :
    WL P n ops (⟨some d, .binOp .xor xt x y yt, ty, pos, after, g⟩ :: rest) K ρ w :=
  WL_val rfl hg hd (fun c hc => by subst hr; simp [execOp, hc.eval hx, hc.eval hy, eqGuard, binOp, Op.intBits]) h
theorem O_compl {x : Operand} {a r : Int} {xt : TypeId} (hg : gd ops ρ g = some true) (hd : Nat.blt d n = true) (hx : ev ρ x = some (.int .u32 a)) (hr : IntKind.u32.wrap ((BitVec.ofInt 32 (4294967295 : Nat) ^^^ BitVec.ofInt 32 a).toNat : Int) = r) (h : WL P n ops rest K ((d, .int .u32 r) :: ρ) w) :
    WL P n ops (⟨some d, .unOp .xor xt x, ty, pos, after, g⟩ :: rest) K ρ w :=
  WL_val rfl hg hd (fun c hc => by
    subst hr
    simp only [execOp, hc.eval hx, Op.unary, Op.intBits]
    rfl) h
/-- An element of an array variable, each element one cell. -/
theorem O_indexArr {x ix : Operand} {t e : TypeId} {p : Addr} {len : Nat} {k : IntKind} {i : Int} (hT : P.underlying t = some (.array len e)) (hi0 : (P.info? e).map (·.size) = some 1)
    (hg : gd ops ρ g = some true) (hd : Nat.blt d n = true) (hx : ev ρ x = some (.pointer (some p))) (hix : ev ρ ix = some (.int k i)) (j : Nat) (hj : i = (j : Int)) (hlt : j < len)
    (h : WL P n ops rest K ((d, .pointer (some (p.add j))) :: ρ) w) :
    WL P n ops (⟨some d, .indexAddr t x ix, ty, pos, after, g⟩ :: rest) K ρ w := by
  subst hj
  obtain ⟨inf, hi, hsz⟩ := Option.map_eq_some_iff.1 hi0
  refine WL_val rfl hg hd (fun c hc => ?_) h
  have h0 : (0 : Int) ≤ (j : Int) ∧ (j : Int) < (len : Int) := by omega
  have h9 : ¬ len ≤ j := by omega
  simp [execOp, hc.eval hx, hc.eval hix, Instr.indexAt, Instr.sureAddr, asIntOf, run_underlying hT, sizeOf, typeInfo, hi, hsz, h0, h9]
end

theorem xl {x : Nat} (hx : x < 4294967296) : 4294967295 ^^^ x < 4294967296 := Nat.xor_lt_two_pow (n := 32) (by omega) (by omega)
theorem xl2 {x y : Nat} (hx : x < 4294967296) (hy : y < 4294967296) : x ^^^ y < 4294967296 := Nat.xor_lt_two_pow (n := 32) (by omega) (by omega)
theorem al {x y : Nat} (hy : y < 4294967296) : x &&& y < 4294967296 := Nat.and_lt_two_pow (n := 32) _ (by omega)
theorem ol {x y : Nat} (hx : x < 4294967296) (hy : y < 4294967296) : x ||| y < 4294967296 := Nat.or_lt_two_pow (n := 32) (by omega) (by omega)
theorem tb31 {z : Nat} (h : z < 4294967296) : z.testBit 31 = decide (2147483648 ≤ z) := by
  rw [Nat.testBit_eq_decide_div_mod_eq]
  apply decide_eq_decide.2
  rw [show (2 : Nat) ^ 31 = 2147483648 from rfl]
  omega
theorem div31 {z : Nat} (h : z < 4294967296) : z / 2147483648 = if z.testBit 31 = true then 1 else 0 := by
  rw [tb31 h]
  by_cases h1 : 2147483648 ≤ z
  · simp [h1]; omega
  · simp [h1]; omega
theorem subb {x y c : Nat} (hx : x < 4294967296) (hy : y < 4294967296) (hc : c ≤ 1) :
    (((4294967295 ^^^ x) &&& y) ||| ((4294967295 ^^^ (x ^^^ y)) &&& ((x + 8589934592 - y - c) % 4294967296))) / 2147483648 = if x < y + c then 1 else 0 := by
  have hd : (x + 8589934592 - y - c) % 4294967296 < 4294967296 := Nat.mod_lt _ (by decide)
  rw [div31 (ol (al hy) (al hd))]
  rw [Nat.testBit_or, Nat.testBit_and, Nat.testBit_and, Nat.testBit_xor, Nat.testBit_xor, Nat.testBit_xor, tb31 hx, tb31 hy, tb31 hd, tb31 (z := 4294967295) (by decide)]
  generalize hD : (x + 8589934592 - y - c) % 4294967296 = D at *
  by_cases h1 : 2147483648 ≤ x <;> by_cases h2 : 2147483648 ≤ y <;> by_cases h3 : 2147483648 ≤ D <;> simp [h1, h2, h3] <;> omega
theorem shrN {N r s : Nat} {b : Int} {k : Nat} (hb : min b.toNat k = s) (h : N / 2 ^ s = r) : (N : Int).fdiv (2 ^ (min b.toNat k)) = (r : Int) := by
  rw [hb, ← h, Int.fdiv_eq_ediv_of_nonneg _ (by exact Int.le_of_lt (Int.pow_pos (by decide)))]
  simp

/-- The trailing zeros. -/
def tz (n : Nat) : Nat := if h : n = 0 then 0 else if n % 2 = 1 then 0 else tz (n / 2) + 1
termination_by n
decreasing_by omega
theorem tz_spec (n : Nat) (h : n ≠ 0) : ∃ q, n = 2 ^ tz n * (2 * q + 1) := by
  induction n using Nat.strongRecOn with
  | _ n ih =>
    rw [tz]
    simp only [h, dite_false]
    by_cases h1 : n % 2 = 1
    · exact ⟨n / 2, by simp [h1]; omega⟩
    · obtain ⟨q, hq⟩ := ih (n / 2) (by omega) (by omega)
      refine ⟨q, ?_⟩
      simp only [h1, if_false]
      rw [Nat.pow_succ, Nat.mul_comm _ 2, Nat.mul_assoc, ← hq]
      omega
theorem low_bit {k q m : Nat} (hq : q < 2 ^ m) : (2 ^ k * (2 * q + 1)) &&& (2 ^ k * (2 * (2 ^ m - (q + 1)) + 1)) = 2 ^ k := by
  apply Nat.eq_of_testBit_eq
  intro i
  rw [Nat.testBit_and, Nat.testBit_two_pow_mul, Nat.testBit_two_pow_mul, Nat.testBit_two_pow]
  rcases Nat.lt_trichotomy i k with h | h | h
  · simp [Nat.not_le.2 h]; omega
  · subst h; simp
  · obtain ⟨j, hj⟩ : ∃ j, i - k = j + 1 := ⟨i - k - 1, by omega⟩
    rw [hj, Nat.testBit_succ, Nat.testBit_succ, show (2 * q + 1) / 2 = q from by omega, show (2 * (2 ^ m - (q + 1)) + 1) / 2 = 2 ^ m - (q + 1) from by omega, Nat.testBit_two_pow_sub_succ hq]
    have : ¬ k = i := by omega
    simp [this]
    intros
    assumption
theorem tz_lt {n : Nat} (h : n ≠ 0) (hn : n < 4294967296) : tz n < 32 := by
  obtain ⟨q, hq⟩ := tz_spec n h
  rcases Nat.lt_or_ge (tz n) 32 with h1 | h1
  · exact h1
  · exfalso
    have h2 : 2 ^ 32 ≤ 2 ^ tz n := Nat.pow_le_pow_right (by decide) h1
    have h3 : 2 ^ tz n * 1 ≤ 2 ^ tz n * (2 * q + 1) := Nat.mul_le_mul_left _ (by omega)
    rw [← hq] at h3
    omega
theorem and_neg {n : Nat} (h : n ≠ 0) (hn : n < 4294967296) : n &&& (4294967296 - n) = 2 ^ tz n := by
  obtain ⟨q, hq⟩ := tz_spec n h
  have hk := tz_lt h hn
  generalize tz n = k at *
  have hp : 2 ^ k * (2 * 2 ^ (31 - k)) = 4294967296 := by
    rw [← Nat.pow_succ', ← Nat.pow_add, show k + (31 - k + 1) = 32 from by omega]
  have hq2 : q < 2 ^ (31 - k) := by
    rcases Nat.lt_or_ge q (2 ^ (31 - k)) with h1 | h1
    · exact h1
    · exfalso
      have h3 : 2 ^ k * (2 * 2 ^ (31 - k)) ≤ 2 ^ k * (2 * q + 1) := Nat.mul_le_mul_left _ (by omega)
      omega
  have h4 : 4294967296 - n = 2 ^ k * (2 * (2 ^ (31 - k) - (q + 1)) + 1) := by
    rw [hq, ← hp, ← Nat.mul_sub]
    congr 1
    omega
  rw [h4]
  conv => lhs; rw [hq]
  exact low_bit hq2
def tabL : List Nat := [0, 1, 28, 2, 29, 14, 24, 3, 30, 22, 20, 15, 25, 17, 4, 8, 31, 27, 13, 23, 21, 19, 16, 7, 26, 12, 18, 6, 11, 5, 10, 9]
theorem tztab_at : ∀ k, k < 32 → tabL[(2 ^ k * 125613361 % 4294967296) / 2 ^ 27]? = some k := by decide
theorem tab_lt (n : Nat) : (n % 4294967296) / 2 ^ 27 < 32 := by
  rw [show (2 : Nat) ^ 27 = 134217728 from rfl]; omega
/-- The table holds what the text lays. -/
def Tab (w : World) : Prop := ∀ i u, tabL[i]? = some u → w.cell? ((⟨0, 0, none⟩ : Addr).add i) = some (.int .u8 (u : Nat))
theorem Tab.ext {w w' : World} (h : Tab w) (he : Ext w w') : Tab w' := fun i u hu => he.cell (h i u hu)
theorem tz_unique {n k q : Nat} (h : n = 2 ^ k * (2 * q + 1)) : tz n = k := by
  induction k generalizing n with
  | zero =>
    rw [tz, dif_neg (by omega), if_pos (by omega)]
  | succ k ih =>
    have h2 : n = 2 * (2 ^ k * (2 * q + 1)) := by rw [h, Nat.pow_succ, Nat.mul_comm (2 ^ k) 2, Nat.mul_assoc]
    have hp : 0 < 2 ^ k * (2 * q + 1) := Nat.mul_pos (Nat.pow_pos (by decide)) (by omega)
    rw [tz, dif_neg (by omega), if_neg (by omega), ih (n := n / 2) (by omega)]
theorem tz_shift {k x r : Nat} (hx : x ≠ 0) (hx2 : x < 4294967296) : tz (2 ^ (32 * k) * (x + 4294967296 * r)) = 32 * k + tz x := by
  obtain ⟨q, hq⟩ := tz_spec x hx
  have ht := tz_lt hx hx2
  have e : 4294967296 = 2 ^ tz x * (2 * 2 ^ (31 - tz x)) := by
    rw [← Nat.pow_succ', ← Nat.pow_add, show tz x + (31 - tz x + 1) = 32 from by omega]
  refine tz_unique (q := q + 2 ^ (31 - tz x) * r) ?_
  rw [Nat.pow_add, Nat.mul_assoc]
  congr 1
  conv => lhs; rw [e]; rw [Nat.mul_assoc]
  conv => lhs; arg 1; rw [hq]
  rw [← Nat.mul_add]
  congr 1
  rw [Nat.mul_add, Nat.mul_assoc]
  omega
theorem val_zeros {l : List Nat} {k : Nat} (h : ∀ j, j < k → l.getD j 0 = 0) : val (l.take k) = 0 := by
  induction k with
  | zero => simp [val]
  | succ k ih => rw [val_take_succ', ih (fun j hj => h j (by omega)), h k (by omega)]; simp
theorem getD_sz {l : List Nat} (hd : D l) {j : Nat} (h : sz l ≤ j) : l.getD j 0 = 0 := by
  have h0 : val (l.drop (sz l)) = 0 := by
    have h1 := val_split l (sz l)
    rw [val_take_sz hd, val_dig] at h1
    have h2 : 0 = 4294967296 ^ sz l * val (l.drop (sz l)) := Nat.add_left_cancel (n := val l) (by rw [Nat.add_zero]; exact h1)
    rcases Nat.mul_eq_zero.1 h2.symm with h3 | h3
    · exact absurd h3 (Nat.ne_of_gt (Nat.pow_pos (by decide)))
    · exact h3
  have h1 : ∀ m, val (l.drop (sz l + m)) = 0 := by
    intro m
    induction m with
    | zero => exact h0
    | succ m ih => rw [val_drop] at ih; rw [← Nat.add_assoc]; omega
  have h2 := h1 (j - sz l)
  rw [show sz l + (j - sz l) = j from by omega, val_drop] at h2
  omega
theorem sz_lt_val {la lb : List Nat} (h : sz la < sz lb) : val la < val lb := by
  rcases Nat.lt_or_ge (val la) (val lb) with h1 | h1
  · exact h1
  · have := dig_len_mono h1
    unfold sz at h
    omega
end Go.Proofs.YtnfnadhbjdcbnaaDoor
