/-
  Walks.
-/
import Derived.Test.YthbbcnlpfjbleaaS3
import Derived.Test.YthbbcnlpfjbleaaAnyS
set_option linter.unusedVariables false
set_option linter.unusedSimpArgs false
set_option maxRecDepth 100000
namespace Go.Proofs.Ythbbcnlpfjbleaa
open Go Go.RowKit
/-- A list and a sign that are an integer. -/
def ival (b : Bool) (l : List Nat) : Bool := validv l && (decide (0 < l.length) || !b)
theorem ival_dig (x : Int) : ival (decide (x < 0)) (dig x.natAbs) = true := by
  unfold ival
  rw [validv_dig, Bool.true_and]
  by_cases h : x < 0
  · rw [decide_eq_true (by have := dig_len_zero (n := x.natAbs); omega)]; rfl
  · rw [decide_eq_false h]; simp
theorem ival_t {b : Bool} {l : List Nat} (h : validv l = true) (h2 : 0 < l.length) : ival b l = true := by unfold ival; rw [h, decide_eq_true h2]; rfl
theorem ival_b {b : Bool} {l : List Nat} (h : validv l = true) (h2 : ¬ 0 < l.length) : ival b l = !b := by unfold ival; rw [h, decide_eq_false h2]; rfl
theorem ival_f {b : Bool} {l : List Nat} (h : validv l = false) : ival b l = false := by unfold ival; rw [h]; rfl
theorem icmp_bd (x y : Int) : -1 ≤ icmp x y ∧ icmp x y ≤ 1 := by unfold icmp; split <;> (try split) <;> omega
theorem icmp_negneg (x y : Int) : icmp (-x) (-y) = icmp y x := by unfold icmp; split <;> split <;> (try split) <;> (try split) <;> omega
theorem sub_len {x y : Int} {a b : Nat} (hx : (dig x.natAbs).length ≤ a) (hy : (dig y.natAbs).length ≤ b) : (dig (x - y).natAbs).length ≤ max a b + 1 := by
  have h1 := dig_len_add x.natAbs y.natAbs
  have h2 : (dig (x - y).natAbs).length ≤ (dig (x.natAbs + y.natAbs)).length := dig_len_mono (by omega)
  omega
theorem add_len {x y : Int} {a b : Nat} (hx : (dig x.natAbs).length ≤ a) (hy : (dig y.natAbs).length ≤ b) : (dig (x + y).natAbs).length ≤ max a b + 1 := by
  have h1 := dig_len_add x.natAbs y.natAbs
  have h2 : (dig (x + y).natAbs).length ≤ (dig (x.natAbs + y.natAbs)).length := dig_len_mono (by omega)
  omega
theorem mul_len {x y : Int} {a b : Nat} (hx : (dig x.natAbs).length ≤ a) (hy : (dig y.natAbs).length ≤ b) : (dig (x * y).natAbs).length ≤ a + b := by
  have h1 := dig_len_mul x.natAbs y.natAbs
  rw [Int.natAbs_mul]; omega
theorem neg_len {x : Int} {a : Nat} (hx : (dig x.natAbs).length ≤ a) : (dig (-x).natAbs).length ≤ a := by rw [Int.natAbs_neg]; exact hx
theorem ml {n a : Nat} (h : n ≤ a) (h2 : a ≤ 1000000) : n ≤ 1000000 := Nat.le_trans h h2
theorem mk_len {w : World} {v : Value} {l : List Nat} (neg : Bool) (h : Nl w v l) {a : Nat} (hl : l.length ≤ a) : (dig (mk neg (val l)).natAbs).length ≤ a := by
  rw [mk_abs]; exact Nat.le_trans (dig_len_le h.d) hl

theorem mint_T {w : World} {vx : Value} {lx : List Nat} {bx : Bool} {n : Int} (hx : Nl w vx lx) (hn : n ≤ 1000000) (hl : (lx.length : Int) ≤ n) :
    Calls Try.prog 10 #[.agg #[.bool bx, vx], .int .i64 n] w (Ret w fun r w' => ∃ q, r = .tuple #[.agg #[.bool (decide (mk bx (val lx) < 0)), q], .bool true] ∧ No w.heap.size 41 w' q (dig (mk bx (val lx)).natAbs)) := by
  refine enter (args := [_, _]) Try.func10 rfl Try.ntmps10 rfl ?_
  refine WP_seq ?_
  refine WP_region ?_
  refine O_box _ rfl rfl rfl rfl (fun g1 w1 b1 e1 gl1 gh1 => ?_)
  have z1 := e1.size
  refine O_alloc S24 rfl rfl (fun g2 w2 b2 e2 gl2 gh2 => ?_)
  have z2 := e2.size
  refine O_assign rfl rfl rfl ?_
  refine WL_end [(1, _), (2, _), (4, _)] ⟨rfl, rfl, rfl, trivial⟩ ?_
  refine WP_seq ?_
  refine WP_seq ?_
  refine WP_region ?_
  refine O_field F24_1 rfl rfl rfl ?_
  refine O_loadC Try.underlying22 rfl rfl rfl rfl (b1.ext e2) rfl ?_
  refine N_len T22 rfl rfl rfl (hx.ext (e1.trans e2)) ?_
  refine O_move rfl rfl rfl ?_
  refine O_gtr (t := false) rfl rfl rfl rfl (decide_eq_false (by omega)) ?_
  refine WL_end [(2, _), (4, _), (10, _)] ⟨rfl, rfl, rfl, trivial⟩ ?_
  refine WP_condF rfl ?_
  refine WP_skip ?_
  refine WP_seq ?_
  refine WP_region ?_
  refine O_field F24_0 rfl rfl rfl ?_
  refine O_loadC Try.underlying4 rfl rfl rfl rfl (b1.ext e2) rfl ?_
  refine O_field F24_1 rfl rfl rfl ?_
  refine O_loadC Try.underlying22 rfl rfl rfl rfl (b1.ext e2) rfl ?_
  refine O_call enters24 rfl rfl rfl (rinat_c (hx.ext (e1.trans e2)) (by (try simp only [val_dig, List.length_take, List.length_nil, List.length_cons, List.length_append, List.length_replicate, List.length_set, List.length_map, List.length_drop]); omega)) (fun v3 w3 e3 h3 => ?_)
  have z3 := e3.size
  try simp only [val_dig] at h3
  obtain ⟨q3, rfl, hq3⟩ := h3
  refine O_storeA (cs' := [_, _]) S24 rfl rfl rfl (b2.ext e3) rfl rfl (one_cons rfl (one_cons (hq3.nl).one one_nil)) rfl (fun w4 b4 q4 => ?_)
  have z4 := Nat.le_of_eq q4.size.symm
  have e4 : Ext w w4 := q4.ext ((e1.trans e2).trans e3) (by omega)
  refine O_assign rfl rfl rfl ?_
  refine WL_end [(4, _), (5, _)] ⟨rfl, rfl, trivial⟩ ?_
  refine WP_ret ?_
  refine retL Try.results10 (.cell rfl S24 b4 rfl (.tmp rfl .nil)) ?_
  exact ⟨_, rfl, e4, _, rfl, (hq3.chgBk (b2.ext e3) (by decide) q4).mono (by omega)⟩

theorem mint_F {w : World} {vx : Value} {lx : List Nat} {bx : Bool} {n : Int} (hx : Nl w vx lx) (hn : n ≤ 1000000) (hl : n < (lx.length : Int)) :
    Calls Try.prog 10 #[.agg #[.bool bx, vx], .int .i64 n] w (Ret w fun r w' => r = .tuple #[.agg #[.bool false, .slice none 0 0], .bool false]) := by
  refine enter (args := [_, _]) Try.func10 rfl Try.ntmps10 rfl ?_
  refine WP_seq ?_
  refine WP_region ?_
  refine O_box _ rfl rfl rfl rfl (fun g1 w1 b1 e1 gl1 gh1 => ?_)
  have z1 := e1.size
  refine O_alloc S24 rfl rfl (fun g2 w2 b2 e2 gl2 gh2 => ?_)
  have z2 := e2.size
  refine O_assign rfl rfl rfl ?_
  refine WL_end [(1, _), (2, _), (4, _)] ⟨rfl, rfl, rfl, trivial⟩ ?_
  refine WP_seq ?_
  refine WP_seq ?_
  refine WP_region ?_
  refine O_field F24_1 rfl rfl rfl ?_
  refine O_loadC Try.underlying22 rfl rfl rfl rfl (b1.ext e2) rfl ?_
  refine N_len T22 rfl rfl rfl (hx.ext (e1.trans e2)) ?_
  refine O_move rfl rfl rfl ?_
  refine O_gtr (t := true) rfl rfl rfl rfl (decide_eq_true (by omega)) ?_
  refine WL_end [(2, _), (4, _), (10, _)] ⟨rfl, rfl, rfl, trivial⟩ ?_
  refine WP_condT rfl ?_
  refine WP_seq ?_
  refine WP_region ?_
  refine O_build (cs := [_, _]) B24 rfl rfl rfl cells_nil rfl ?_
  refine O_storeA (cs' := [_, _]) S24 rfl rfl rfl b2 rfl rfl (one_cons rfl (one_cons rfl one_nil)) rfl (fun w3 b3 q3 => ?_)
  have z3 := Nat.le_of_eq q3.size.symm
  have e3 : Ext w w3 := q3.ext (e1.trans e2) (by omega)
  refine O_assign rfl rfl rfl ?_
  refine WL_end [(4, _), (5, _)] ⟨rfl, rfl, trivial⟩ ?_
  refine WP_ret ?_
  refine retL Try.results10 (.cell rfl S24 b3 rfl (.tmp rfl .nil)) ?_
  exact ⟨_, rfl, e3, rfl⟩

theorem two_T {w : World} {vx vy : Value} {lx ly : List Nat} {bx by_ : Bool} {n : Int} (hx : Nl w vx lx) (hy : Nl w vy ly) (hn : n ≤ 1000000) (hl : (lx.length : Int) ≤ n) (hl2 : (ly.length : Int) ≤ n) :
    Calls Try.prog 19 #[.agg #[.bool bx, vx], .agg #[.bool by_, vy], .int .i64 n] w (Ret w fun r w' => ∃ q s, r = .tuple #[.agg #[.bool (decide (mk bx (val lx) < 0)), q], .agg #[.bool (decide (mk by_ (val ly) < 0)), s], .bool true] ∧ No w.heap.size 41 w' q (dig (mk bx (val lx)).natAbs) ∧ No w.heap.size 41 w' s (dig (mk by_ (val ly)).natAbs)) := by
  refine enter (args := [_, _, _]) Try.func19 rfl Try.ntmps19 rfl ?_
  refine WP_seq ?_
  refine WP_region ?_
  refine O_box _ rfl rfl rfl rfl (fun g1 w1 b1 e1 gl1 gh1 => ?_)
  have z1 := e1.size
  refine O_box _ rfl rfl rfl rfl (fun g2 w2 b2 e2 gl2 gh2 => ?_)
  have z2 := e2.size
  refine O_alloc S24 rfl rfl (fun g3 w3 b3 e3 gl3 gh3 => ?_)
  have z3 := e3.size
  refine O_alloc S24 rfl rfl (fun g4 w4 b4 e4 gl4 gh4 => ?_)
  have z4 := e4.size
  refine O_assign rfl rfl rfl ?_
  refine WL_end [(2, _), (3, _), (4, _), (6, _), (7, _)] ⟨rfl, rfl, rfl, rfl, rfl, trivial⟩ ?_
  refine WP_seq ?_
  refine WP_region ?_
  refine O_loadA (vs := [_, _]) S24 rfl rfl rfl (((b1.ext e2).ext e3).ext e4) rfl rfl ?_
  refine O_move rfl rfl rfl ?_
  refine O_call enters10 rfl rfl rfl (mint_T (hx.ext (((e1.trans e2).trans e3).trans e4)) (by (try simp only [val_dig, List.length_take, List.length_nil, List.length_cons, List.length_append, List.length_replicate, List.length_set, List.length_map, List.length_drop]); omega) (by (try simp only [val_dig, List.length_take, List.length_nil, List.length_cons, List.length_append, List.length_replicate, List.length_set, List.length_map, List.length_drop]); omega)) (fun v5 w5 e5 h5 => ?_)
  have z5 := e5.size
  try simp only [val_dig] at h5
  obtain ⟨q5, rfl, hq5⟩ := h5
  refine O_move rfl rfl rfl ?_
  refine O_extract rfl rfl rfl rfl ?_
  refine O_extract rfl rfl rfl rfl ?_
  refine O_alloc S24 rfl rfl (fun g6 w6 b6 e6 gl6 gh6 => ?_)
  have z6 := e6.size
  refine O_storeA (cs' := [_, _]) S24 rfl rfl rfl b6 rfl rfl (one_cons rfl (one_cons ((hq5.ext e6).nl).one one_nil)) rfl (fun w7 b7 q7 => ?_)
  have z7 := Nat.le_of_eq q7.size.symm
  have e7 : Ext w w7 := q7.ext (((((e1.trans e2).trans e3).trans e4).trans e5).trans e6) (by omega)
  refine O_assign rfl rfl rfl ?_
  refine WL_end [(2, _), (4, _), (6, _), (7, _), (9, _), (10, _)] ⟨rfl, rfl, rfl, rfl, rfl, rfl, trivial⟩ ?_
  refine WP_seq ?_
  refine WP_region ?_
  refine O_loadA (vs := [_, _]) S24 rfl rfl rfl (((((b2.ext e3).ext e4).ext e5).ext e6).chg q7 (by first | assumption | omega)) rfl rfl ?_
  refine O_move rfl rfl rfl ?_
  refine O_call enters10 rfl rfl rfl (mint_T (hy.ext e7) (by (try simp only [val_dig, List.length_take, List.length_nil, List.length_cons, List.length_append, List.length_replicate, List.length_set, List.length_map, List.length_drop]); omega) (by (try simp only [val_dig, List.length_take, List.length_nil, List.length_cons, List.length_append, List.length_replicate, List.length_set, List.length_map, List.length_drop]); omega)) (fun v8 w8 e8 h8 => ?_)
  have z8 := e8.size
  try simp only [val_dig] at h8
  obtain ⟨q8, rfl, hq8⟩ := h8
  refine O_move rfl rfl rfl ?_
  refine O_extract rfl rfl rfl rfl ?_
  refine O_extract rfl rfl rfl rfl ?_
  refine O_alloc S24 rfl rfl (fun g9 w9 b9 e9 gl9 gh9 => ?_)
  have z9 := e9.size
  refine O_storeA (cs' := [_, _]) S24 rfl rfl rfl b9 rfl rfl (one_cons rfl (one_cons ((hq8.ext e9).nl).one one_nil)) rfl (fun w10 b10 q10 => ?_)
  have z10 := Nat.le_of_eq q10.size.symm
  have e10 : Ext w w10 := q10.ext ((e7.trans e8).trans e9) (by omega)
  refine O_assign rfl rfl rfl ?_
  refine WL_end [(6, _), (7, _), (9, _), (10, _), (11, _), (12, _)] ⟨rfl, rfl, rfl, rfl, rfl, rfl, trivial⟩ ?_
  refine WP_seq ?_
  refine WP_sub [(6, _), (7, _), (9, _), (10, _), (11, _), (12, _)] ⟨rfl, rfl, rfl, rfl, rfl, rfl, trivial⟩ ?_
  have hS11 : ∀ g T, (g, T) ∈ (⟨[(g3, (24, 2)), (g4, (24, 2))], [], (w10).heap.size⟩ : SS) → (BkT w10 g T ∨ (w10).heap.size ≤ g) ∧ 41 ≠ T.1 := by
    intro g T hm; rw [mem_SS] at hm; simp only [List.mem_cons, Prod.mk.injEq, List.not_mem_nil, or_false, false_or, and_false] at hm
    rcases hm with ⟨rfl, rfl⟩ | ⟨rfl, rfl⟩
    · exact ⟨.inl ⟨_, (((((((b3.ext e4).ext e5).ext e6).chg q7 (by first | assumption | omega)).ext e8).ext e9).chg q10 (by first | assumption | omega)), rfl⟩, by decide⟩
    · exact ⟨.inl ⟨_, ((((((b4.ext e5).ext e6).chg q7 (by first | assumption | omega)).ext e8).ext e9).chg q10 (by first | assumption | omega)), rfl⟩, by decide⟩
  have hS11n := fun g T hm => (hS11 g T hm).2
  refine WP_anySR (⟨[(g3, (24, 2)), (g4, (24, 2))], [], (w10).heap.size⟩ : SS) 8 [6, 7, 9, 10, 11, 12] mixed rfl (by kernel_rfl) (Nat.le_refl _) ?_
  apply AnySR_val [9] rfl (by kernel_rfl)
  · --
    intro y12 hy12
    have zy12 := hy12.size
    have hyE12 : Ext w y12 := hy12.ext e10 (by intro g T hm; rw [mem_SS] at hm; simp only [List.mem_cons, Prod.mk.injEq, List.not_mem_nil, or_false, false_or, and_false] at hm; omega)
    refine AllS_nil ?_
    refine O_loadA (vs := [_, _]) S24 rfl rfl rfl ((((b7.ext e8).ext e9).chg q10 (by first | assumption | omega)).extS hy12 (by intro T hm; rw [mem_SS] at hm; simp only [List.mem_cons, Prod.mk.injEq, List.not_mem_nil, or_false, false_or, and_false] at hm; omega)) rfl rfl ?_
    exact WL_nil ⟨(Ext.refl _), rfl⟩
  apply AnySR_val [11] rfl (by kernel_rfl)
  · --
    intro y13 hy13
    have zy13 := hy13.size
    have hyE13 : Ext w y13 := hy13.ext e10 (by intro g T hm; rw [mem_SS] at hm; simp only [List.mem_cons, Prod.mk.injEq, List.not_mem_nil, or_false, false_or, and_false] at hm; omega)
    refine AllS_nil ?_
    refine O_loadA (vs := [_, _]) S24 rfl rfl rfl (b10.extS hy13 (by intro T hm; rw [mem_SS] at hm; simp only [List.mem_cons, Prod.mk.injEq, List.not_mem_nil, or_false, false_or, and_false] at hm; omega)) rfl rfl ?_
    exact WL_nil ⟨(Ext.refl _), rfl⟩
  apply AnySR_val [10] rfl (by kernel_rfl)
  · --
    intro y14 hy14
    have zy14 := hy14.size
    have hyE14 : Ext w y14 := hy14.ext e10 (by intro g T hm; rw [mem_SS] at hm; simp only [List.mem_cons, Prod.mk.injEq, List.not_mem_nil, or_false, false_or, and_false] at hm; omega)
    refine AllS_nil ?_
    refine O_move rfl rfl rfl ?_
    exact WL_nil ⟨(Ext.refl _), rfl⟩
  apply AnySR_val [27] rfl (by kernel_rfl)
  · --
    intro y15 hy15
    have zy15 := hy15.size
    have hyE15 : Ext w y15 := hy15.ext e10 (by intro g T hm; rw [mem_SS] at hm; simp only [List.mem_cons, Prod.mk.injEq, List.not_mem_nil, or_false, false_or, and_false] at hm; omega)
    refine AllS_v ?_
    refine AllS_nil ?_
    refine O_move rfl rfl rfl ?_
    exact WL_nil ⟨(Ext.refl _), rfl⟩
  apply AnySR_val [28, 12] rfl (by kernel_rfl)
  · --
    intro y16 hy16
    have zy16 := hy16.size
    have hyE16 : Ext w y16 := hy16.ext e10 (by intro g T hm; rw [mem_SS] at hm; simp only [List.mem_cons, Prod.mk.injEq, List.not_mem_nil, or_false, false_or, and_false] at hm; omega)
    refine AllS_v ?_
    refine AllS_nil ?_
    refine O_move rfl rfl rfl ?_
    exact WL_nil ⟨(Ext.refl _), rfl⟩
  apply AnySR_val [28, 29] rfl (by kernel_rfl)
  · --
    intro y17 hy17
    have zy17 := hy17.size
    have hyE17 : Ext w y17 := hy17.ext e10 (by intro g T hm; rw [mem_SS] at hm; simp only [List.mem_cons, Prod.mk.injEq, List.not_mem_nil, or_false, false_or, and_false] at hm; omega)
    refine AllS_v ?_
    refine AllS_v ?_
    refine AllS_nil ?_
    refine O_pickT rfl rfl rfl rfl ?_
    exact WL_nil ⟨(Ext.refl _), rfl⟩
  apply AnySR_st g3 (24, 2) (pSt g3 24 [pEq _, pEq _]) [6, 25] rfl (.inl (by simp)) (pSt_monoS (PsS.cons pEq_monoS (PsS.cons pEq_monoS PsS.nil))) (by exact (compat_cons ⟨trivial, trivial⟩ (compat_cons ⟨trivial, trivial⟩ (compat_cons ⟨trivial, trivial⟩ (compat_cons ⟨trivial, trivial⟩ (compat_cons ⟨trivial, trivial⟩ (compat_cons ⟨trivial, trivial⟩ compat_nil))))))) (by kernel_rfl)
  · --
    intro y18 hy18
    have zy18 := hy18.size
    have hyE18 : Ext w y18 := hy18.ext e10 (by intro g T hm; rw [mem_SS] at hm; simp only [List.mem_cons, Prod.mk.injEq, List.not_mem_nil, or_false, false_or, and_false] at hm; omega)
    refine AllS_v ?_
    refine AllS_nil ?_
    have hB18 := hy18.tag g3 (24, 2) (.inl (by simp)) ⟨_, (((((((b3.ext e4).ext e5).ext e6).chg q7 (by first | assumption | omega)).ext e8).ext e9).chg q10 (by first | assumption | omega)), rfl⟩
    refine O_storeW S24 rfl rfl rfl hB18 rfl (one_cons rfl (one_cons (((((((hq5.ext e6).chgBk b6 (by decide) q7).ext e8).ext e9).chgBk b9 (by decide) q10).extS hy18 hS11).nl).one one_nil)) (fun w18 b18 q18 => ?_)
    obtain ⟨cs18, hk18, hl18⟩ := hB18
    exact WL_nil ⟨⟨⟨cs18, hk18, hl18⟩, q18, ⟨_, b18, rfl⟩⟩, _, b18, (AllP.cons rfl (AllP.cons rfl AllP.nil))⟩
  apply AnySR_st g4 (24, 2) (pSt g4 24 [pEq _, pEq _]) [7, 26] rfl (.inl (by simp)) (pSt_monoS (PsS.cons pEq_monoS (PsS.cons pEq_monoS PsS.nil))) (by exact (compat_cons ⟨(show g4 ≠ g3 from by omega), (show g3 ≠ g4 from by omega)⟩ (compat_cons ⟨trivial, trivial⟩ (compat_cons ⟨trivial, trivial⟩ (compat_cons ⟨trivial, trivial⟩ (compat_cons ⟨trivial, trivial⟩ (compat_cons ⟨trivial, trivial⟩ (compat_cons ⟨trivial, trivial⟩ compat_nil)))))))) (by kernel_rfl)
  · --
    intro y19 hy19
    have zy19 := hy19.size
    have hyE19 : Ext w y19 := hy19.ext e10 (by intro g T hm; rw [mem_SS] at hm; simp only [List.mem_cons, Prod.mk.injEq, List.not_mem_nil, or_false, false_or, and_false] at hm; omega)
    refine AllS_v ?_
    refine AllS_nil ?_
    have hB19 := hy19.tag g4 (24, 2) (.inl (by simp)) ⟨_, ((((((b4.ext e5).ext e6).chg q7 (by first | assumption | omega)).ext e8).ext e9).chg q10 (by first | assumption | omega)), rfl⟩
    refine O_storeW S24 rfl rfl rfl hB19 rfl (one_cons rfl (one_cons ((((hq8.ext e9).chgBk b9 (by decide) q10).extS hy19 hS11).nl).one one_nil)) (fun w19 b19 q19 => ?_)
    obtain ⟨cs19, hk19, hl19⟩ := hB19
    exact WL_nil ⟨⟨⟨cs19, hk19, hl19⟩, q19, ⟨_, b19, rfl⟩⟩, _, b19, (AllP.cons rfl (AllP.cons rfl AllP.nil))⟩
  refine AnySR_nil fun y20 hy20 => ?_
  have zy20 := hy20.size
  have hyE20 : Ext w y20 := hy20.ext e10 (by intro g T hm; rw [mem_SS] at hm; simp only [List.mem_cons, Prod.mk.injEq, List.not_mem_nil, or_false, false_or, and_false] at hm; omega)
  refine AllS_v ?_
  refine AllS_v ?_
  refine AllS_v ?_
  refine AllS_v ?_
  refine AllS_v ?_
  refine AllS_v ?_
  refine AllS_q fun hq21 => ?_
  obtain ⟨_, hb21, u21_0, _, rfl, rfl, u21_1, _, rfl, rfl, rfl⟩ := hq21
  refine AllS_q fun hq22 => ?_
  obtain ⟨_, hb22, u22_0, _, rfl, rfl, u22_1, _, rfl, rfl, rfl⟩ := hq22
  refine AllS_nil ?_
  refine O_assign rfl rfl rfl ?_
  refine WL_end [(6, _), (7, _), (8, _)] ⟨rfl, rfl, rfl, trivial⟩ ?_
  refine WP_ret ?_
  refine retL Try.results19 (.cell rfl S24 hb21 rfl (.cell rfl S24 hb22 rfl (.tmp rfl .nil))) ?_
  exact ⟨_, rfl, hyE20, _, _, rfl, ((((((hq5.ext e6).chgBk b6 (by decide) q7).ext e8).ext e9).chgBk b9 (by decide) q10).extS hy20 hS11).mono (by omega), (((hq8.ext e9).chgBk b9 (by decide) q10).extS hy20 hS11).mono (by omega)⟩

theorem two_FT {w : World} {vx vy : Value} {lx ly : List Nat} {bx by_ : Bool} {n : Int} (hx : Nl w vx lx) (hy : Nl w vy ly) (hn : n ≤ 1000000) (hl : n < (lx.length : Int)) (hl2 : (ly.length : Int) ≤ n) :
    Calls Try.prog 19 #[.agg #[.bool bx, vx], .agg #[.bool by_, vy], .int .i64 n] w (Ret w fun r w' => ∃ a b c d, r = .tuple #[.agg #[.bool a, b], .agg #[.bool c, d], .bool false] ∧ b.oneCell' = true ∧ d.oneCell' = true ∧ b.cells = #[b] ∧ d.cells = #[d]) := by
  refine enter (args := [_, _, _]) Try.func19 rfl Try.ntmps19 rfl ?_
  refine WP_seq ?_
  refine WP_region ?_
  refine O_box _ rfl rfl rfl rfl (fun g1 w1 b1 e1 gl1 gh1 => ?_)
  have z1 := e1.size
  refine O_box _ rfl rfl rfl rfl (fun g2 w2 b2 e2 gl2 gh2 => ?_)
  have z2 := e2.size
  refine O_alloc S24 rfl rfl (fun g3 w3 b3 e3 gl3 gh3 => ?_)
  have z3 := e3.size
  refine O_alloc S24 rfl rfl (fun g4 w4 b4 e4 gl4 gh4 => ?_)
  have z4 := e4.size
  refine O_assign rfl rfl rfl ?_
  refine WL_end [(2, _), (3, _), (4, _), (6, _), (7, _)] ⟨rfl, rfl, rfl, rfl, rfl, trivial⟩ ?_
  refine WP_seq ?_
  refine WP_region ?_
  refine O_loadA (vs := [_, _]) S24 rfl rfl rfl (((b1.ext e2).ext e3).ext e4) rfl rfl ?_
  refine O_move rfl rfl rfl ?_
  refine O_call enters10 rfl rfl rfl (mint_F (hx.ext (((e1.trans e2).trans e3).trans e4)) (by (try simp only [val_dig, List.length_take, List.length_nil, List.length_cons, List.length_append, List.length_replicate, List.length_set, List.length_map, List.length_drop]); omega) (by (try simp only [val_dig, List.length_take, List.length_nil, List.length_cons, List.length_append, List.length_replicate, List.length_set, List.length_map, List.length_drop]); omega)) (fun v5 w5 e5 h5 => ?_)
  have z5 := e5.size
  try simp only [val_dig] at h5
  obtain rfl := h5
  refine O_move rfl rfl rfl ?_
  refine O_extract rfl rfl rfl rfl ?_
  refine O_extract rfl rfl rfl rfl ?_
  refine O_alloc S24 rfl rfl (fun g6 w6 b6 e6 gl6 gh6 => ?_)
  have z6 := e6.size
  refine O_storeA (cs' := [_, _]) S24 rfl rfl rfl b6 rfl rfl (one_cons rfl (one_cons rfl one_nil)) rfl (fun w7 b7 q7 => ?_)
  have z7 := Nat.le_of_eq q7.size.symm
  have e7 : Ext w w7 := q7.ext (((((e1.trans e2).trans e3).trans e4).trans e5).trans e6) (by omega)
  refine O_assign rfl rfl rfl ?_
  refine WL_end [(2, _), (4, _), (6, _), (7, _), (9, _), (10, _)] ⟨rfl, rfl, rfl, rfl, rfl, rfl, trivial⟩ ?_
  refine WP_seq ?_
  refine WP_region ?_
  refine O_loadA (vs := [_, _]) S24 rfl rfl rfl (((((b2.ext e3).ext e4).ext e5).ext e6).chg q7 (by first | assumption | omega)) rfl rfl ?_
  refine O_move rfl rfl rfl ?_
  refine O_call enters10 rfl rfl rfl (mint_T (hy.ext e7) (by (try simp only [val_dig, List.length_take, List.length_nil, List.length_cons, List.length_append, List.length_replicate, List.length_set, List.length_map, List.length_drop]); omega) (by (try simp only [val_dig, List.length_take, List.length_nil, List.length_cons, List.length_append, List.length_replicate, List.length_set, List.length_map, List.length_drop]); omega)) (fun v8 w8 e8 h8 => ?_)
  have z8 := e8.size
  try simp only [val_dig] at h8
  obtain ⟨q8, rfl, hq8⟩ := h8
  refine O_move rfl rfl rfl ?_
  refine O_extract rfl rfl rfl rfl ?_
  refine O_extract rfl rfl rfl rfl ?_
  refine O_alloc S24 rfl rfl (fun g9 w9 b9 e9 gl9 gh9 => ?_)
  have z9 := e9.size
  refine O_storeA (cs' := [_, _]) S24 rfl rfl rfl b9 rfl rfl (one_cons rfl (one_cons ((hq8.ext e9).nl).one one_nil)) rfl (fun w10 b10 q10 => ?_)
  have z10 := Nat.le_of_eq q10.size.symm
  have e10 : Ext w w10 := q10.ext ((e7.trans e8).trans e9) (by omega)
  refine O_assign rfl rfl rfl ?_
  refine WL_end [(6, _), (7, _), (9, _), (10, _), (11, _), (12, _)] ⟨rfl, rfl, rfl, rfl, rfl, rfl, trivial⟩ ?_
  refine WP_seq ?_
  refine WP_sub [(6, _), (7, _), (9, _), (10, _), (11, _), (12, _)] ⟨rfl, rfl, rfl, rfl, rfl, rfl, trivial⟩ ?_
  have hS11 : ∀ g T, (g, T) ∈ (⟨[(g3, (24, 2)), (g4, (24, 2))], [], (w10).heap.size⟩ : SS) → (BkT w10 g T ∨ (w10).heap.size ≤ g) ∧ 41 ≠ T.1 := by
    intro g T hm; rw [mem_SS] at hm; simp only [List.mem_cons, Prod.mk.injEq, List.not_mem_nil, or_false, false_or, and_false] at hm
    rcases hm with ⟨rfl, rfl⟩ | ⟨rfl, rfl⟩
    · exact ⟨.inl ⟨_, (((((((b3.ext e4).ext e5).ext e6).chg q7 (by first | assumption | omega)).ext e8).ext e9).chg q10 (by first | assumption | omega)), rfl⟩, by decide⟩
    · exact ⟨.inl ⟨_, ((((((b4.ext e5).ext e6).chg q7 (by first | assumption | omega)).ext e8).ext e9).chg q10 (by first | assumption | omega)), rfl⟩, by decide⟩
  have hS11n := fun g T hm => (hS11 g T hm).2
  refine WP_anySR (⟨[(g3, (24, 2)), (g4, (24, 2))], [], (w10).heap.size⟩ : SS) 8 [6, 7, 9, 10, 11, 12] mixed rfl (by kernel_rfl) (Nat.le_refl _) ?_
  apply AnySR_val [9] rfl (by kernel_rfl)
  · --
    intro y12 hy12
    have zy12 := hy12.size
    have hyE12 : Ext w y12 := hy12.ext e10 (by intro g T hm; rw [mem_SS] at hm; simp only [List.mem_cons, Prod.mk.injEq, List.not_mem_nil, or_false, false_or, and_false] at hm; omega)
    refine AllS_nil ?_
    refine O_loadA (vs := [_, _]) S24 rfl rfl rfl ((((b7.ext e8).ext e9).chg q10 (by first | assumption | omega)).extS hy12 (by intro T hm; rw [mem_SS] at hm; simp only [List.mem_cons, Prod.mk.injEq, List.not_mem_nil, or_false, false_or, and_false] at hm; omega)) rfl rfl ?_
    exact WL_nil ⟨(Ext.refl _), rfl⟩
  apply AnySR_val [11] rfl (by kernel_rfl)
  · --
    intro y13 hy13
    have zy13 := hy13.size
    have hyE13 : Ext w y13 := hy13.ext e10 (by intro g T hm; rw [mem_SS] at hm; simp only [List.mem_cons, Prod.mk.injEq, List.not_mem_nil, or_false, false_or, and_false] at hm; omega)
    refine AllS_nil ?_
    refine O_loadA (vs := [_, _]) S24 rfl rfl rfl (b10.extS hy13 (by intro T hm; rw [mem_SS] at hm; simp only [List.mem_cons, Prod.mk.injEq, List.not_mem_nil, or_false, false_or, and_false] at hm; omega)) rfl rfl ?_
    exact WL_nil ⟨(Ext.refl _), rfl⟩
  apply AnySR_val [10] rfl (by kernel_rfl)
  · --
    intro y14 hy14
    have zy14 := hy14.size
    have hyE14 : Ext w y14 := hy14.ext e10 (by intro g T hm; rw [mem_SS] at hm; simp only [List.mem_cons, Prod.mk.injEq, List.not_mem_nil, or_false, false_or, and_false] at hm; omega)
    refine AllS_nil ?_
    refine O_move rfl rfl rfl ?_
    exact WL_nil ⟨(Ext.refl _), rfl⟩
  apply AnySR_val [27] rfl (by kernel_rfl)
  · --
    intro y15 hy15
    have zy15 := hy15.size
    have hyE15 : Ext w y15 := hy15.ext e10 (by intro g T hm; rw [mem_SS] at hm; simp only [List.mem_cons, Prod.mk.injEq, List.not_mem_nil, or_false, false_or, and_false] at hm; omega)
    refine AllS_v ?_
    refine AllS_nil ?_
    refine O_move rfl rfl rfl ?_
    exact WL_nil ⟨(Ext.refl _), rfl⟩
  apply AnySR_val [28, 12] rfl (by kernel_rfl)
  · --
    intro y16 hy16
    have zy16 := hy16.size
    have hyE16 : Ext w y16 := hy16.ext e10 (by intro g T hm; rw [mem_SS] at hm; simp only [List.mem_cons, Prod.mk.injEq, List.not_mem_nil, or_false, false_or, and_false] at hm; omega)
    refine AllS_v ?_
    refine AllS_nil ?_
    refine O_skip rfl rfl ?_
    exact WL_nil ⟨(Ext.refl _), rfl⟩
  apply AnySR_val [28, 29] rfl (by kernel_rfl)
  · --
    intro y17 hy17
    have zy17 := hy17.size
    have hyE17 : Ext w y17 := hy17.ext e10 (by intro g T hm; rw [mem_SS] at hm; simp only [List.mem_cons, Prod.mk.injEq, List.not_mem_nil, or_false, false_or, and_false] at hm; omega)
    refine AllS_v ?_
    refine AllS_v ?_
    refine AllS_nil ?_
    refine O_pickF rfl rfl rfl rfl ?_
    exact WL_nil ⟨(Ext.refl _), rfl⟩
  apply AnySR_st g3 (24, 2) (pSt g3 24 [pEq _, pEq _]) [6, 25] rfl (.inl (by simp)) (pSt_monoS (PsS.cons pEq_monoS (PsS.cons pEq_monoS PsS.nil))) (by exact (compat_cons ⟨trivial, trivial⟩ (compat_cons ⟨trivial, trivial⟩ (compat_cons ⟨trivial, trivial⟩ (compat_cons ⟨trivial, trivial⟩ (compat_cons ⟨trivial, trivial⟩ (compat_cons ⟨trivial, trivial⟩ compat_nil))))))) (by kernel_rfl)
  · --
    intro y18 hy18
    have zy18 := hy18.size
    have hyE18 : Ext w y18 := hy18.ext e10 (by intro g T hm; rw [mem_SS] at hm; simp only [List.mem_cons, Prod.mk.injEq, List.not_mem_nil, or_false, false_or, and_false] at hm; omega)
    refine AllS_v ?_
    refine AllS_nil ?_
    have hB18 := hy18.tag g3 (24, 2) (.inl (by simp)) ⟨_, (((((((b3.ext e4).ext e5).ext e6).chg q7 (by first | assumption | omega)).ext e8).ext e9).chg q10 (by first | assumption | omega)), rfl⟩
    refine O_storeW S24 rfl rfl rfl hB18 rfl (one_cons rfl (one_cons rfl one_nil)) (fun w18 b18 q18 => ?_)
    obtain ⟨cs18, hk18, hl18⟩ := hB18
    exact WL_nil ⟨⟨⟨cs18, hk18, hl18⟩, q18, ⟨_, b18, rfl⟩⟩, _, b18, (AllP.cons rfl (AllP.cons rfl AllP.nil))⟩
  apply AnySR_st g4 (24, 2) (pSt g4 24 [pEq _, pEq _]) [7, 26] rfl (.inl (by simp)) (pSt_monoS (PsS.cons pEq_monoS (PsS.cons pEq_monoS PsS.nil))) (by exact (compat_cons ⟨(show g4 ≠ g3 from by omega), (show g3 ≠ g4 from by omega)⟩ (compat_cons ⟨trivial, trivial⟩ (compat_cons ⟨trivial, trivial⟩ (compat_cons ⟨trivial, trivial⟩ (compat_cons ⟨trivial, trivial⟩ (compat_cons ⟨trivial, trivial⟩ (compat_cons ⟨trivial, trivial⟩ compat_nil)))))))) (by kernel_rfl)
  · --
    intro y19 hy19
    have zy19 := hy19.size
    have hyE19 : Ext w y19 := hy19.ext e10 (by intro g T hm; rw [mem_SS] at hm; simp only [List.mem_cons, Prod.mk.injEq, List.not_mem_nil, or_false, false_or, and_false] at hm; omega)
    refine AllS_v ?_
    refine AllS_nil ?_
    have hB19 := hy19.tag g4 (24, 2) (.inl (by simp)) ⟨_, ((((((b4.ext e5).ext e6).chg q7 (by first | assumption | omega)).ext e8).ext e9).chg q10 (by first | assumption | omega)), rfl⟩
    refine O_storeW S24 rfl rfl rfl hB19 rfl (one_cons rfl (one_cons ((((hq8.ext e9).chgBk b9 (by decide) q10).extS hy19 hS11).nl).one one_nil)) (fun w19 b19 q19 => ?_)
    obtain ⟨cs19, hk19, hl19⟩ := hB19
    exact WL_nil ⟨⟨⟨cs19, hk19, hl19⟩, q19, ⟨_, b19, rfl⟩⟩, _, b19, (AllP.cons rfl (AllP.cons rfl AllP.nil))⟩
  refine AnySR_nil fun y20 hy20 => ?_
  have zy20 := hy20.size
  have hyE20 : Ext w y20 := hy20.ext e10 (by intro g T hm; rw [mem_SS] at hm; simp only [List.mem_cons, Prod.mk.injEq, List.not_mem_nil, or_false, false_or, and_false] at hm; omega)
  refine AllS_v ?_
  refine AllS_v ?_
  refine AllS_v ?_
  refine AllS_v ?_
  refine AllS_v ?_
  refine AllS_v ?_
  refine AllS_q fun hq21 => ?_
  obtain ⟨_, hb21, u21_0, _, rfl, rfl, u21_1, _, rfl, rfl, rfl⟩ := hq21
  refine AllS_q fun hq22 => ?_
  obtain ⟨_, hb22, u22_0, _, rfl, rfl, u22_1, _, rfl, rfl, rfl⟩ := hq22
  refine AllS_nil ?_
  refine O_assign rfl rfl rfl ?_
  refine WL_end [(6, _), (7, _), (8, _)] ⟨rfl, rfl, rfl, trivial⟩ ?_
  refine WP_ret ?_
  refine retL Try.results19 (.cell rfl S24 hb21 rfl (.cell rfl S24 hb22 rfl (.tmp rfl .nil))) ?_
  exact ⟨_, rfl, hyE20, _, _, _, _, rfl, rfl, (((hq8.ext e9).chgBk b9 (by decide) q10).extS hy20 hS11).nl.one, rfl, (((hq8.ext e9).chgBk b9 (by decide) q10).extS hy20 hS11).nl.cells1⟩

theorem two_FF {w : World} {vx vy : Value} {lx ly : List Nat} {bx by_ : Bool} {n : Int} (hx : Nl w vx lx) (hy : Nl w vy ly) (hn : n ≤ 1000000) (hl : n < (lx.length : Int)) (hl2 : n < (ly.length : Int)) :
    Calls Try.prog 19 #[.agg #[.bool bx, vx], .agg #[.bool by_, vy], .int .i64 n] w (Ret w fun r w' => ∃ a b c d, r = .tuple #[.agg #[.bool a, b], .agg #[.bool c, d], .bool false] ∧ b.oneCell' = true ∧ d.oneCell' = true ∧ b.cells = #[b] ∧ d.cells = #[d]) := by
  refine enter (args := [_, _, _]) Try.func19 rfl Try.ntmps19 rfl ?_
  refine WP_seq ?_
  refine WP_region ?_
  refine O_box _ rfl rfl rfl rfl (fun g1 w1 b1 e1 gl1 gh1 => ?_)
  have z1 := e1.size
  refine O_box _ rfl rfl rfl rfl (fun g2 w2 b2 e2 gl2 gh2 => ?_)
  have z2 := e2.size
  refine O_alloc S24 rfl rfl (fun g3 w3 b3 e3 gl3 gh3 => ?_)
  have z3 := e3.size
  refine O_alloc S24 rfl rfl (fun g4 w4 b4 e4 gl4 gh4 => ?_)
  have z4 := e4.size
  refine O_assign rfl rfl rfl ?_
  refine WL_end [(2, _), (3, _), (4, _), (6, _), (7, _)] ⟨rfl, rfl, rfl, rfl, rfl, trivial⟩ ?_
  refine WP_seq ?_
  refine WP_region ?_
  refine O_loadA (vs := [_, _]) S24 rfl rfl rfl (((b1.ext e2).ext e3).ext e4) rfl rfl ?_
  refine O_move rfl rfl rfl ?_
  refine O_call enters10 rfl rfl rfl (mint_F (hx.ext (((e1.trans e2).trans e3).trans e4)) (by (try simp only [val_dig, List.length_take, List.length_nil, List.length_cons, List.length_append, List.length_replicate, List.length_set, List.length_map, List.length_drop]); omega) (by (try simp only [val_dig, List.length_take, List.length_nil, List.length_cons, List.length_append, List.length_replicate, List.length_set, List.length_map, List.length_drop]); omega)) (fun v5 w5 e5 h5 => ?_)
  have z5 := e5.size
  try simp only [val_dig] at h5
  obtain rfl := h5
  refine O_move rfl rfl rfl ?_
  refine O_extract rfl rfl rfl rfl ?_
  refine O_extract rfl rfl rfl rfl ?_
  refine O_alloc S24 rfl rfl (fun g6 w6 b6 e6 gl6 gh6 => ?_)
  have z6 := e6.size
  refine O_storeA (cs' := [_, _]) S24 rfl rfl rfl b6 rfl rfl (one_cons rfl (one_cons rfl one_nil)) rfl (fun w7 b7 q7 => ?_)
  have z7 := Nat.le_of_eq q7.size.symm
  have e7 : Ext w w7 := q7.ext (((((e1.trans e2).trans e3).trans e4).trans e5).trans e6) (by omega)
  refine O_assign rfl rfl rfl ?_
  refine WL_end [(2, _), (4, _), (6, _), (7, _), (9, _), (10, _)] ⟨rfl, rfl, rfl, rfl, rfl, rfl, trivial⟩ ?_
  refine WP_seq ?_
  refine WP_region ?_
  refine O_loadA (vs := [_, _]) S24 rfl rfl rfl (((((b2.ext e3).ext e4).ext e5).ext e6).chg q7 (by first | assumption | omega)) rfl rfl ?_
  refine O_move rfl rfl rfl ?_
  refine O_call enters10 rfl rfl rfl (mint_F (hy.ext e7) (by (try simp only [val_dig, List.length_take, List.length_nil, List.length_cons, List.length_append, List.length_replicate, List.length_set, List.length_map, List.length_drop]); omega) (by (try simp only [val_dig, List.length_take, List.length_nil, List.length_cons, List.length_append, List.length_replicate, List.length_set, List.length_map, List.length_drop]); omega)) (fun v8 w8 e8 h8 => ?_)
  have z8 := e8.size
  try simp only [val_dig] at h8
  obtain rfl := h8
  refine O_move rfl rfl rfl ?_
  refine O_extract rfl rfl rfl rfl ?_
  refine O_extract rfl rfl rfl rfl ?_
  refine O_alloc S24 rfl rfl (fun g9 w9 b9 e9 gl9 gh9 => ?_)
  have z9 := e9.size
  refine O_storeA (cs' := [_, _]) S24 rfl rfl rfl b9 rfl rfl (one_cons rfl (one_cons rfl one_nil)) rfl (fun w10 b10 q10 => ?_)
  have z10 := Nat.le_of_eq q10.size.symm
  have e10 : Ext w w10 := q10.ext ((e7.trans e8).trans e9) (by omega)
  refine O_assign rfl rfl rfl ?_
  refine WL_end [(6, _), (7, _), (9, _), (10, _), (11, _), (12, _)] ⟨rfl, rfl, rfl, rfl, rfl, rfl, trivial⟩ ?_
  refine WP_seq ?_
  refine WP_sub [(6, _), (7, _), (9, _), (10, _), (11, _), (12, _)] ⟨rfl, rfl, rfl, rfl, rfl, rfl, trivial⟩ ?_
  have hS11 : ∀ g T, (g, T) ∈ (⟨[(g3, (24, 2)), (g4, (24, 2))], [], (w10).heap.size⟩ : SS) → (BkT w10 g T ∨ (w10).heap.size ≤ g) ∧ 41 ≠ T.1 := by
    intro g T hm; rw [mem_SS] at hm; simp only [List.mem_cons, Prod.mk.injEq, List.not_mem_nil, or_false, false_or, and_false] at hm
    rcases hm with ⟨rfl, rfl⟩ | ⟨rfl, rfl⟩
    · exact ⟨.inl ⟨_, (((((((b3.ext e4).ext e5).ext e6).chg q7 (by first | assumption | omega)).ext e8).ext e9).chg q10 (by first | assumption | omega)), rfl⟩, by decide⟩
    · exact ⟨.inl ⟨_, ((((((b4.ext e5).ext e6).chg q7 (by first | assumption | omega)).ext e8).ext e9).chg q10 (by first | assumption | omega)), rfl⟩, by decide⟩
  have hS11n := fun g T hm => (hS11 g T hm).2
  refine WP_anySR (⟨[(g3, (24, 2)), (g4, (24, 2))], [], (w10).heap.size⟩ : SS) 8 [6, 7, 9, 10, 11, 12] mixed rfl (by kernel_rfl) (Nat.le_refl _) ?_
  apply AnySR_val [9] rfl (by kernel_rfl)
  · --
    intro y12 hy12
    have zy12 := hy12.size
    have hyE12 : Ext w y12 := hy12.ext e10 (by intro g T hm; rw [mem_SS] at hm; simp only [List.mem_cons, Prod.mk.injEq, List.not_mem_nil, or_false, false_or, and_false] at hm; omega)
    refine AllS_nil ?_
    refine O_loadA (vs := [_, _]) S24 rfl rfl rfl ((((b7.ext e8).ext e9).chg q10 (by first | assumption | omega)).extS hy12 (by intro T hm; rw [mem_SS] at hm; simp only [List.mem_cons, Prod.mk.injEq, List.not_mem_nil, or_false, false_or, and_false] at hm; omega)) rfl rfl ?_
    exact WL_nil ⟨(Ext.refl _), rfl⟩
  apply AnySR_val [11] rfl (by kernel_rfl)
  · --
    intro y13 hy13
    have zy13 := hy13.size
    have hyE13 : Ext w y13 := hy13.ext e10 (by intro g T hm; rw [mem_SS] at hm; simp only [List.mem_cons, Prod.mk.injEq, List.not_mem_nil, or_false, false_or, and_false] at hm; omega)
    refine AllS_nil ?_
    refine O_loadA (vs := [_, _]) S24 rfl rfl rfl (b10.extS hy13 (by intro T hm; rw [mem_SS] at hm; simp only [List.mem_cons, Prod.mk.injEq, List.not_mem_nil, or_false, false_or, and_false] at hm; omega)) rfl rfl ?_
    exact WL_nil ⟨(Ext.refl _), rfl⟩
  apply AnySR_val [10] rfl (by kernel_rfl)
  · --
    intro y14 hy14
    have zy14 := hy14.size
    have hyE14 : Ext w y14 := hy14.ext e10 (by intro g T hm; rw [mem_SS] at hm; simp only [List.mem_cons, Prod.mk.injEq, List.not_mem_nil, or_false, false_or, and_false] at hm; omega)
    refine AllS_nil ?_
    refine O_move rfl rfl rfl ?_
    exact WL_nil ⟨(Ext.refl _), rfl⟩
  apply AnySR_val [27] rfl (by kernel_rfl)
  · --
    intro y15 hy15
    have zy15 := hy15.size
    have hyE15 : Ext w y15 := hy15.ext e10 (by intro g T hm; rw [mem_SS] at hm; simp only [List.mem_cons, Prod.mk.injEq, List.not_mem_nil, or_false, false_or, and_false] at hm; omega)
    refine AllS_v ?_
    refine AllS_nil ?_
    refine O_move rfl rfl rfl ?_
    exact WL_nil ⟨(Ext.refl _), rfl⟩
  apply AnySR_val [28, 12] rfl (by kernel_rfl)
  · --
    intro y16 hy16
    have zy16 := hy16.size
    have hyE16 : Ext w y16 := hy16.ext e10 (by intro g T hm; rw [mem_SS] at hm; simp only [List.mem_cons, Prod.mk.injEq, List.not_mem_nil, or_false, false_or, and_false] at hm; omega)
    refine AllS_v ?_
    refine AllS_nil ?_
    refine O_skip rfl rfl ?_
    exact WL_nil ⟨(Ext.refl _), rfl⟩
  apply AnySR_val [28, 29] rfl (by kernel_rfl)
  · --
    intro y17 hy17
    have zy17 := hy17.size
    have hyE17 : Ext w y17 := hy17.ext e10 (by intro g T hm; rw [mem_SS] at hm; simp only [List.mem_cons, Prod.mk.injEq, List.not_mem_nil, or_false, false_or, and_false] at hm; omega)
    refine AllS_v ?_
    refine AllS_v ?_
    refine AllS_nil ?_
    refine O_pickF rfl rfl rfl rfl ?_
    exact WL_nil ⟨(Ext.refl _), rfl⟩
  apply AnySR_st g3 (24, 2) (pSt g3 24 [pEq _, pEq _]) [6, 25] rfl (.inl (by simp)) (pSt_monoS (PsS.cons pEq_monoS (PsS.cons pEq_monoS PsS.nil))) (by exact (compat_cons ⟨trivial, trivial⟩ (compat_cons ⟨trivial, trivial⟩ (compat_cons ⟨trivial, trivial⟩ (compat_cons ⟨trivial, trivial⟩ (compat_cons ⟨trivial, trivial⟩ (compat_cons ⟨trivial, trivial⟩ compat_nil))))))) (by kernel_rfl)
  · --
    intro y18 hy18
    have zy18 := hy18.size
    have hyE18 : Ext w y18 := hy18.ext e10 (by intro g T hm; rw [mem_SS] at hm; simp only [List.mem_cons, Prod.mk.injEq, List.not_mem_nil, or_false, false_or, and_false] at hm; omega)
    refine AllS_v ?_
    refine AllS_nil ?_
    have hB18 := hy18.tag g3 (24, 2) (.inl (by simp)) ⟨_, (((((((b3.ext e4).ext e5).ext e6).chg q7 (by first | assumption | omega)).ext e8).ext e9).chg q10 (by first | assumption | omega)), rfl⟩
    refine O_storeW S24 rfl rfl rfl hB18 rfl (one_cons rfl (one_cons rfl one_nil)) (fun w18 b18 q18 => ?_)
    obtain ⟨cs18, hk18, hl18⟩ := hB18
    exact WL_nil ⟨⟨⟨cs18, hk18, hl18⟩, q18, ⟨_, b18, rfl⟩⟩, _, b18, (AllP.cons rfl (AllP.cons rfl AllP.nil))⟩
  apply AnySR_st g4 (24, 2) (pSt g4 24 [pEq _, pEq _]) [7, 26] rfl (.inl (by simp)) (pSt_monoS (PsS.cons pEq_monoS (PsS.cons pEq_monoS PsS.nil))) (by exact (compat_cons ⟨(show g4 ≠ g3 from by omega), (show g3 ≠ g4 from by omega)⟩ (compat_cons ⟨trivial, trivial⟩ (compat_cons ⟨trivial, trivial⟩ (compat_cons ⟨trivial, trivial⟩ (compat_cons ⟨trivial, trivial⟩ (compat_cons ⟨trivial, trivial⟩ (compat_cons ⟨trivial, trivial⟩ compat_nil)))))))) (by kernel_rfl)
  · --
    intro y19 hy19
    have zy19 := hy19.size
    have hyE19 : Ext w y19 := hy19.ext e10 (by intro g T hm; rw [mem_SS] at hm; simp only [List.mem_cons, Prod.mk.injEq, List.not_mem_nil, or_false, false_or, and_false] at hm; omega)
    refine AllS_v ?_
    refine AllS_nil ?_
    have hB19 := hy19.tag g4 (24, 2) (.inl (by simp)) ⟨_, ((((((b4.ext e5).ext e6).chg q7 (by first | assumption | omega)).ext e8).ext e9).chg q10 (by first | assumption | omega)), rfl⟩
    refine O_storeW S24 rfl rfl rfl hB19 rfl (one_cons rfl (one_cons rfl one_nil)) (fun w19 b19 q19 => ?_)
    obtain ⟨cs19, hk19, hl19⟩ := hB19
    exact WL_nil ⟨⟨⟨cs19, hk19, hl19⟩, q19, ⟨_, b19, rfl⟩⟩, _, b19, (AllP.cons rfl (AllP.cons rfl AllP.nil))⟩
  refine AnySR_nil fun y20 hy20 => ?_
  have zy20 := hy20.size
  have hyE20 : Ext w y20 := hy20.ext e10 (by intro g T hm; rw [mem_SS] at hm; simp only [List.mem_cons, Prod.mk.injEq, List.not_mem_nil, or_false, false_or, and_false] at hm; omega)
  refine AllS_v ?_
  refine AllS_v ?_
  refine AllS_v ?_
  refine AllS_v ?_
  refine AllS_v ?_
  refine AllS_v ?_
  refine AllS_q fun hq21 => ?_
  obtain ⟨_, hb21, u21_0, _, rfl, rfl, u21_1, _, rfl, rfl, rfl⟩ := hq21
  refine AllS_q fun hq22 => ?_
  obtain ⟨_, hb22, u22_0, _, rfl, rfl, u22_1, _, rfl, rfl, rfl⟩ := hq22
  refine AllS_nil ?_
  refine O_assign rfl rfl rfl ?_
  refine WL_end [(6, _), (7, _), (8, _)] ⟨rfl, rfl, rfl, trivial⟩ ?_
  refine WP_ret ?_
  refine retL Try.results19 (.cell rfl S24 hb21 rfl (.cell rfl S24 hb22 rfl (.tmp rfl .nil))) ?_
  exact ⟨_, rfl, hyE20, _, _, _, _, rfl, rfl, rfl, rfl, rfl⟩

theorem two_TF {w : World} {vx vy : Value} {lx ly : List Nat} {bx by_ : Bool} {n : Int} (hx : Nl w vx lx) (hy : Nl w vy ly) (hn : n ≤ 1000000) (hl : (lx.length : Int) ≤ n) (hl2 : n < (ly.length : Int)) :
    Calls Try.prog 19 #[.agg #[.bool bx, vx], .agg #[.bool by_, vy], .int .i64 n] w (Ret w fun r w' => ∃ a b c d, r = .tuple #[.agg #[.bool a, b], .agg #[.bool c, d], .bool false] ∧ b.oneCell' = true ∧ d.oneCell' = true ∧ b.cells = #[b] ∧ d.cells = #[d]) := by
  refine enter (args := [_, _, _]) Try.func19 rfl Try.ntmps19 rfl ?_
  refine WP_seq ?_
  refine WP_region ?_
  refine O_box _ rfl rfl rfl rfl (fun g1 w1 b1 e1 gl1 gh1 => ?_)
  have z1 := e1.size
  refine O_box _ rfl rfl rfl rfl (fun g2 w2 b2 e2 gl2 gh2 => ?_)
  have z2 := e2.size
  refine O_alloc S24 rfl rfl (fun g3 w3 b3 e3 gl3 gh3 => ?_)
  have z3 := e3.size
  refine O_alloc S24 rfl rfl (fun g4 w4 b4 e4 gl4 gh4 => ?_)
  have z4 := e4.size
  refine O_assign rfl rfl rfl ?_
  refine WL_end [(2, _), (3, _), (4, _), (6, _), (7, _)] ⟨rfl, rfl, rfl, rfl, rfl, trivial⟩ ?_
  refine WP_seq ?_
  refine WP_region ?_
  refine O_loadA (vs := [_, _]) S24 rfl rfl rfl (((b1.ext e2).ext e3).ext e4) rfl rfl ?_
  refine O_move rfl rfl rfl ?_
  refine O_call enters10 rfl rfl rfl (mint_T (hx.ext (((e1.trans e2).trans e3).trans e4)) (by (try simp only [val_dig, List.length_take, List.length_nil, List.length_cons, List.length_append, List.length_replicate, List.length_set, List.length_map, List.length_drop]); omega) (by (try simp only [val_dig, List.length_take, List.length_nil, List.length_cons, List.length_append, List.length_replicate, List.length_set, List.length_map, List.length_drop]); omega)) (fun v5 w5 e5 h5 => ?_)
  have z5 := e5.size
  try simp only [val_dig] at h5
  obtain ⟨q5, rfl, hq5⟩ := h5
  refine O_move rfl rfl rfl ?_
  refine O_extract rfl rfl rfl rfl ?_
  refine O_extract rfl rfl rfl rfl ?_
  refine O_alloc S24 rfl rfl (fun g6 w6 b6 e6 gl6 gh6 => ?_)
  have z6 := e6.size
  refine O_storeA (cs' := [_, _]) S24 rfl rfl rfl b6 rfl rfl (one_cons rfl (one_cons ((hq5.ext e6).nl).one one_nil)) rfl (fun w7 b7 q7 => ?_)
  have z7 := Nat.le_of_eq q7.size.symm
  have e7 : Ext w w7 := q7.ext (((((e1.trans e2).trans e3).trans e4).trans e5).trans e6) (by omega)
  refine O_assign rfl rfl rfl ?_
  refine WL_end [(2, _), (4, _), (6, _), (7, _), (9, _), (10, _)] ⟨rfl, rfl, rfl, rfl, rfl, rfl, trivial⟩ ?_
  refine WP_seq ?_
  refine WP_region ?_
  refine O_loadA (vs := [_, _]) S24 rfl rfl rfl (((((b2.ext e3).ext e4).ext e5).ext e6).chg q7 (by first | assumption | omega)) rfl rfl ?_
  refine O_move rfl rfl rfl ?_
  refine O_call enters10 rfl rfl rfl (mint_F (hy.ext e7) (by (try simp only [val_dig, List.length_take, List.length_nil, List.length_cons, List.length_append, List.length_replicate, List.length_set, List.length_map, List.length_drop]); omega) (by (try simp only [val_dig, List.length_take, List.length_nil, List.length_cons, List.length_append, List.length_replicate, List.length_set, List.length_map, List.length_drop]); omega)) (fun v8 w8 e8 h8 => ?_)
  have z8 := e8.size
  try simp only [val_dig] at h8
  obtain rfl := h8
  refine O_move rfl rfl rfl ?_
  refine O_extract rfl rfl rfl rfl ?_
  refine O_extract rfl rfl rfl rfl ?_
  refine O_alloc S24 rfl rfl (fun g9 w9 b9 e9 gl9 gh9 => ?_)
  have z9 := e9.size
  refine O_storeA (cs' := [_, _]) S24 rfl rfl rfl b9 rfl rfl (one_cons rfl (one_cons rfl one_nil)) rfl (fun w10 b10 q10 => ?_)
  have z10 := Nat.le_of_eq q10.size.symm
  have e10 : Ext w w10 := q10.ext ((e7.trans e8).trans e9) (by omega)
  refine O_assign rfl rfl rfl ?_
  refine WL_end [(6, _), (7, _), (9, _), (10, _), (11, _), (12, _)] ⟨rfl, rfl, rfl, rfl, rfl, rfl, trivial⟩ ?_
  refine WP_seq ?_
  refine WP_sub [(6, _), (7, _), (9, _), (10, _), (11, _), (12, _)] ⟨rfl, rfl, rfl, rfl, rfl, rfl, trivial⟩ ?_
  have hS11 : ∀ g T, (g, T) ∈ (⟨[(g3, (24, 2)), (g4, (24, 2))], [], (w10).heap.size⟩ : SS) → (BkT w10 g T ∨ (w10).heap.size ≤ g) ∧ 41 ≠ T.1 := by
    intro g T hm; rw [mem_SS] at hm; simp only [List.mem_cons, Prod.mk.injEq, List.not_mem_nil, or_false, false_or, and_false] at hm
    rcases hm with ⟨rfl, rfl⟩ | ⟨rfl, rfl⟩
    · exact ⟨.inl ⟨_, (((((((b3.ext e4).ext e5).ext e6).chg q7 (by first | assumption | omega)).ext e8).ext e9).chg q10 (by first | assumption | omega)), rfl⟩, by decide⟩
    · exact ⟨.inl ⟨_, ((((((b4.ext e5).ext e6).chg q7 (by first | assumption | omega)).ext e8).ext e9).chg q10 (by first | assumption | omega)), rfl⟩, by decide⟩
  have hS11n := fun g T hm => (hS11 g T hm).2
  refine WP_anySR (⟨[(g3, (24, 2)), (g4, (24, 2))], [], (w10).heap.size⟩ : SS) 8 [6, 7, 9, 10, 11, 12] mixed rfl (by kernel_rfl) (Nat.le_refl _) ?_
  apply AnySR_val [9] rfl (by kernel_rfl)
  · --
    intro y12 hy12
    have zy12 := hy12.size
    have hyE12 : Ext w y12 := hy12.ext e10 (by intro g T hm; rw [mem_SS] at hm; simp only [List.mem_cons, Prod.mk.injEq, List.not_mem_nil, or_false, false_or, and_false] at hm; omega)
    refine AllS_nil ?_
    refine O_loadA (vs := [_, _]) S24 rfl rfl rfl ((((b7.ext e8).ext e9).chg q10 (by first | assumption | omega)).extS hy12 (by intro T hm; rw [mem_SS] at hm; simp only [List.mem_cons, Prod.mk.injEq, List.not_mem_nil, or_false, false_or, and_false] at hm; omega)) rfl rfl ?_
    exact WL_nil ⟨(Ext.refl _), rfl⟩
  apply AnySR_val [11] rfl (by kernel_rfl)
  · --
    intro y13 hy13
    have zy13 := hy13.size
    have hyE13 : Ext w y13 := hy13.ext e10 (by intro g T hm; rw [mem_SS] at hm; simp only [List.mem_cons, Prod.mk.injEq, List.not_mem_nil, or_false, false_or, and_false] at hm; omega)
    refine AllS_nil ?_
    refine O_loadA (vs := [_, _]) S24 rfl rfl rfl (b10.extS hy13 (by intro T hm; rw [mem_SS] at hm; simp only [List.mem_cons, Prod.mk.injEq, List.not_mem_nil, or_false, false_or, and_false] at hm; omega)) rfl rfl ?_
    exact WL_nil ⟨(Ext.refl _), rfl⟩
  apply AnySR_val [10] rfl (by kernel_rfl)
  · --
    intro y14 hy14
    have zy14 := hy14.size
    have hyE14 : Ext w y14 := hy14.ext e10 (by intro g T hm; rw [mem_SS] at hm; simp only [List.mem_cons, Prod.mk.injEq, List.not_mem_nil, or_false, false_or, and_false] at hm; omega)
    refine AllS_nil ?_
    refine O_move rfl rfl rfl ?_
    exact WL_nil ⟨(Ext.refl _), rfl⟩
  apply AnySR_val [27] rfl (by kernel_rfl)
  · --
    intro y15 hy15
    have zy15 := hy15.size
    have hyE15 : Ext w y15 := hy15.ext e10 (by intro g T hm; rw [mem_SS] at hm; simp only [List.mem_cons, Prod.mk.injEq, List.not_mem_nil, or_false, false_or, and_false] at hm; omega)
    refine AllS_v ?_
    refine AllS_nil ?_
    refine O_move rfl rfl rfl ?_
    exact WL_nil ⟨(Ext.refl _), rfl⟩
  apply AnySR_val [28, 12] rfl (by kernel_rfl)
  · --
    intro y16 hy16
    have zy16 := hy16.size
    have hyE16 : Ext w y16 := hy16.ext e10 (by intro g T hm; rw [mem_SS] at hm; simp only [List.mem_cons, Prod.mk.injEq, List.not_mem_nil, or_false, false_or, and_false] at hm; omega)
    refine AllS_v ?_
    refine AllS_nil ?_
    refine O_move rfl rfl rfl ?_
    exact WL_nil ⟨(Ext.refl _), rfl⟩
  apply AnySR_val [28, 29] rfl (by kernel_rfl)
  · --
    intro y17 hy17
    have zy17 := hy17.size
    have hyE17 : Ext w y17 := hy17.ext e10 (by intro g T hm; rw [mem_SS] at hm; simp only [List.mem_cons, Prod.mk.injEq, List.not_mem_nil, or_false, false_or, and_false] at hm; omega)
    refine AllS_v ?_
    refine AllS_v ?_
    refine AllS_nil ?_
    refine O_pickT rfl rfl rfl rfl ?_
    exact WL_nil ⟨(Ext.refl _), rfl⟩
  apply AnySR_st g3 (24, 2) (pSt g3 24 [pEq _, pEq _]) [6, 25] rfl (.inl (by simp)) (pSt_monoS (PsS.cons pEq_monoS (PsS.cons pEq_monoS PsS.nil))) (by exact (compat_cons ⟨trivial, trivial⟩ (compat_cons ⟨trivial, trivial⟩ (compat_cons ⟨trivial, trivial⟩ (compat_cons ⟨trivial, trivial⟩ (compat_cons ⟨trivial, trivial⟩ (compat_cons ⟨trivial, trivial⟩ compat_nil))))))) (by kernel_rfl)
  · --
    intro y18 hy18
    have zy18 := hy18.size
    have hyE18 : Ext w y18 := hy18.ext e10 (by intro g T hm; rw [mem_SS] at hm; simp only [List.mem_cons, Prod.mk.injEq, List.not_mem_nil, or_false, false_or, and_false] at hm; omega)
    refine AllS_v ?_
    refine AllS_nil ?_
    have hB18 := hy18.tag g3 (24, 2) (.inl (by simp)) ⟨_, (((((((b3.ext e4).ext e5).ext e6).chg q7 (by first | assumption | omega)).ext e8).ext e9).chg q10 (by first | assumption | omega)), rfl⟩
    refine O_storeW S24 rfl rfl rfl hB18 rfl (one_cons rfl (one_cons (((((((hq5.ext e6).chgBk b6 (by decide) q7).ext e8).ext e9).chgBk b9 (by decide) q10).extS hy18 hS11).nl).one one_nil)) (fun w18 b18 q18 => ?_)
    obtain ⟨cs18, hk18, hl18⟩ := hB18
    exact WL_nil ⟨⟨⟨cs18, hk18, hl18⟩, q18, ⟨_, b18, rfl⟩⟩, _, b18, (AllP.cons rfl (AllP.cons rfl AllP.nil))⟩
  apply AnySR_st g4 (24, 2) (pSt g4 24 [pEq _, pEq _]) [7, 26] rfl (.inl (by simp)) (pSt_monoS (PsS.cons pEq_monoS (PsS.cons pEq_monoS PsS.nil))) (by exact (compat_cons ⟨(show g4 ≠ g3 from by omega), (show g3 ≠ g4 from by omega)⟩ (compat_cons ⟨trivial, trivial⟩ (compat_cons ⟨trivial, trivial⟩ (compat_cons ⟨trivial, trivial⟩ (compat_cons ⟨trivial, trivial⟩ (compat_cons ⟨trivial, trivial⟩ (compat_cons ⟨trivial, trivial⟩ compat_nil)))))))) (by kernel_rfl)
  · --
    intro y19 hy19
    have zy19 := hy19.size
    have hyE19 : Ext w y19 := hy19.ext e10 (by intro g T hm; rw [mem_SS] at hm; simp only [List.mem_cons, Prod.mk.injEq, List.not_mem_nil, or_false, false_or, and_false] at hm; omega)
    refine AllS_v ?_
    refine AllS_nil ?_
    have hB19 := hy19.tag g4 (24, 2) (.inl (by simp)) ⟨_, ((((((b4.ext e5).ext e6).chg q7 (by first | assumption | omega)).ext e8).ext e9).chg q10 (by first | assumption | omega)), rfl⟩
    refine O_storeW S24 rfl rfl rfl hB19 rfl (one_cons rfl (one_cons rfl one_nil)) (fun w19 b19 q19 => ?_)
    obtain ⟨cs19, hk19, hl19⟩ := hB19
    exact WL_nil ⟨⟨⟨cs19, hk19, hl19⟩, q19, ⟨_, b19, rfl⟩⟩, _, b19, (AllP.cons rfl (AllP.cons rfl AllP.nil))⟩
  refine AnySR_nil fun y20 hy20 => ?_
  have zy20 := hy20.size
  have hyE20 : Ext w y20 := hy20.ext e10 (by intro g T hm; rw [mem_SS] at hm; simp only [List.mem_cons, Prod.mk.injEq, List.not_mem_nil, or_false, false_or, and_false] at hm; omega)
  refine AllS_v ?_
  refine AllS_v ?_
  refine AllS_v ?_
  refine AllS_v ?_
  refine AllS_v ?_
  refine AllS_v ?_
  refine AllS_q fun hq21 => ?_
  obtain ⟨_, hb21, u21_0, _, rfl, rfl, u21_1, _, rfl, rfl, rfl⟩ := hq21
  refine AllS_q fun hq22 => ?_
  obtain ⟨_, hb22, u22_0, _, rfl, rfl, u22_1, _, rfl, rfl, rfl⟩ := hq22
  refine AllS_nil ?_
  refine O_assign rfl rfl rfl ?_
  refine WL_end [(6, _), (7, _), (8, _)] ⟨rfl, rfl, rfl, trivial⟩ ?_
  refine WP_ret ?_
  refine retL Try.results19 (.cell rfl S24 hb21 rfl (.cell rfl S24 hb22 rfl (.tmp rfl .nil))) ?_
  exact ⟨_, rfl, hyE20, _, _, _, _, rfl, ((((((hq5.ext e6).chgBk b6 (by decide) q7).ext e8).ext e9).chgBk b9 (by decide) q10).extS hy20 hS11).nl.one, rfl, ((((((hq5.ext e6).chgBk b6 (by decide) q7).ext e8).ext e9).chgBk b9 (by decide) q10).extS hy20 hS11).nl.cells1, rfl⟩

theorem two_F {w : World} {vx vy : Value} {lx ly : List Nat} {bx by_ : Bool} {n : Int} (hx : Nl w vx lx) (hy : Nl w vy ly) (hn : n ≤ 1000000) (h : n < (lx.length : Int) ∨ n < (ly.length : Int)) : Calls Try.prog 19 #[.agg #[.bool bx, vx], .agg #[.bool by_, vy], .int .i64 n] w (Ret w fun r w' => ∃ a b c d, r = .tuple #[.agg #[.bool a, b], .agg #[.bool c, d], .bool false] ∧ b.oneCell' = true ∧ d.oneCell' = true ∧ b.cells = #[b] ∧ d.cells = #[d]) := by
  by_cases h1 : n < (lx.length : Int)
  · by_cases h2 : n < (ly.length : Int)
    · exact two_FF hx hy hn h1 h2
    · exact two_FT hx hy hn h1 (by omega)
  · exact two_TF hx hy hn (by omega) (by omega)

theorem awake5_c {w : World} :
    Calls Try.prog 9 #[] w (Ret w fun r _ => r = .bool true) := by
  have hl0 : (dig (-7 : Int).natAbs).length ≤ 1 := dig_len_of_lt (by decide)
  have hl1 : (dig (2 : Int).natAbs).length ≤ 1 := dig_len_of_lt (by decide)
  have hl2 : (dig (7 : Int).natAbs).length ≤ 1 := dig_len_of_lt (by decide)
  have hl3 : (dig (-2 : Int).natAbs).length ≤ 1 := dig_len_of_lt (by decide)
  have hl4 : (dig (-4 : Int).natAbs).length ≤ 1 := dig_len_of_lt (by decide)
  have hl5 : (dig (1 : Int).natAbs).length ≤ 1 := dig_len_of_lt (by decide)
  have hl6 : (dig (-1 : Int).natAbs).length ≤ 1 := dig_len_of_lt (by decide)
  refine enter (args := []) Try.func9 rfl Try.ntmps9 rfl ?_
  refine WP_seq ?_
  refine WP_region ?_
  refine O_assign rfl rfl rfl ?_
  refine WL_end [] trivial ?_
  refine WP_seq ?_
  refine WP_region ?_
  refine O_call enters15 rfl rfl rfl (iof_c (by (try simp only [val_dig, List.length_take, List.length_nil, List.length_cons, List.length_append, List.length_replicate, List.length_set, List.length_map, List.length_drop]); omega) (by (try simp only [val_dig, List.length_take, List.length_nil, List.length_cons, List.length_append, List.length_replicate, List.length_set, List.length_map, List.length_drop]); omega)) (fun v1 w1 e1 h1 => ?_)
  have z1 := e1.size
  try simp only [val_dig] at h1
  obtain ⟨q1, rfl, hq1⟩ := h1
  refine O_call enters15 rfl rfl rfl (iof_c (by (try simp only [val_dig, List.length_take, List.length_nil, List.length_cons, List.length_append, List.length_replicate, List.length_set, List.length_map, List.length_drop]); omega) (by (try simp only [val_dig, List.length_take, List.length_nil, List.length_cons, List.length_append, List.length_replicate, List.length_set, List.length_map, List.length_drop]); omega)) (fun v2 w2 e2 h2 => ?_)
  have z2 := e2.size
  try simp only [val_dig] at h2
  obtain ⟨q2, rfl, hq2⟩ := h2
  refine O_call enters14 rfl rfl rfl (idivmod_T rfl (hq1.ext e2).nl rfl hq2.nl (by (try simp only [val_dig, List.length_take, List.length_nil, List.length_cons, List.length_append, List.length_replicate, List.length_set, List.length_map, List.length_drop]); omega) (by (try simp only [val_dig, List.length_take, List.length_nil, List.length_cons, List.length_append, List.length_replicate, List.length_set, List.length_map, List.length_drop]); omega) (by first | assumption | decide | omega)) (fun v3 w3 e3 h3 => ?_)
  have z3 := e3.size
  try simp only [val_dig] at h3
  obtain ⟨q3, s3, rfl, hq3, hs3⟩ := h3
  rw [show idq (-7) 2 = -4 from by decide] at hq3
  rw [show idr (-7) 2 = 1 from by decide] at hs3
  rw [show idq (-7) 2 = -4 from by decide, show idr (-7) 2 = 1 from by decide]
  refine O_move rfl rfl rfl ?_
  refine O_extract rfl rfl rfl rfl ?_
  refine O_extract rfl rfl rfl rfl ?_
  refine O_extract rfl rfl rfl rfl ?_
  refine O_alloc S24 rfl rfl (fun g4 w4 b4 e4 gl4 gh4 => ?_)
  have z4 := e4.size
  refine O_alloc S24 rfl rfl (fun g5 w5 b5 e5 gl5 gh5 => ?_)
  have z5 := e5.size
  refine O_storeA (cs' := [_, _]) S24 rfl rfl rfl (b4.ext e5) rfl rfl (one_cons rfl (one_cons (((hq3.ext e4).ext e5).nl).one one_nil)) rfl (fun w6 b6 q6 => ?_)
  have z6 := Nat.le_of_eq q6.size.symm
  have e6 : Ext w w6 := q6.ext ((((e1.trans e2).trans e3).trans e4).trans e5) (by omega)
  refine O_storeA (cs' := [_, _]) S24 rfl rfl rfl (b5.chg q6 (by first | assumption | omega)) rfl rfl (one_cons rfl (one_cons ((((hs3.ext e4).ext e5).chgBk (b4.ext e5) (by decide) q6).nl).one one_nil)) rfl (fun w7 b7 q7 => ?_)
  have z7 := Nat.le_of_eq q7.size.symm
  have e7 : Ext w w7 := q7.ext e6 (by omega)
  refine O_assign rfl rfl rfl ?_
  refine WL_end [(1, _), (2, _), (3, _)] ⟨rfl, rfl, rfl, trivial⟩ ?_
  refine WP_seq ?_
  refine WP_region ?_
  refine O_call enters15 rfl rfl rfl (iof_c (by (try simp only [val_dig, List.length_take, List.length_nil, List.length_cons, List.length_append, List.length_replicate, List.length_set, List.length_map, List.length_drop]); omega) (by (try simp only [val_dig, List.length_take, List.length_nil, List.length_cons, List.length_append, List.length_replicate, List.length_set, List.length_map, List.length_drop]); omega)) (fun v8 w8 e8 h8 => ?_)
  have z8 := e8.size
  try simp only [val_dig] at h8
  obtain ⟨q8, rfl, hq8⟩ := h8
  refine O_call enters15 rfl rfl rfl (iof_c (by (try simp only [val_dig, List.length_take, List.length_nil, List.length_cons, List.length_append, List.length_replicate, List.length_set, List.length_map, List.length_drop]); omega) (by (try simp only [val_dig, List.length_take, List.length_nil, List.length_cons, List.length_append, List.length_replicate, List.length_set, List.length_map, List.length_drop]); omega)) (fun v9 w9 e9 h9 => ?_)
  have z9 := e9.size
  try simp only [val_dig] at h9
  obtain ⟨q9, rfl, hq9⟩ := h9
  refine O_call enters14 rfl rfl rfl (idivmod_T rfl (hq8.ext e9).nl rfl hq9.nl (by (try simp only [val_dig, List.length_take, List.length_nil, List.length_cons, List.length_append, List.length_replicate, List.length_set, List.length_map, List.length_drop]); omega) (by (try simp only [val_dig, List.length_take, List.length_nil, List.length_cons, List.length_append, List.length_replicate, List.length_set, List.length_map, List.length_drop]); omega) (by first | assumption | decide | omega)) (fun v10 w10 e10 h10 => ?_)
  have z10 := e10.size
  try simp only [val_dig] at h10
  obtain ⟨q10, s10, rfl, hq10, hs10⟩ := h10
  rw [show idq 7 (-2) = -4 from by decide] at hq10
  rw [show idr 7 (-2) = -1 from by decide] at hs10
  rw [show idq 7 (-2) = -4 from by decide, show idr 7 (-2) = -1 from by decide]
  refine O_move rfl rfl rfl ?_
  refine O_extract rfl rfl rfl rfl ?_
  refine O_extract rfl rfl rfl rfl ?_
  refine O_extract rfl rfl rfl rfl ?_
  refine O_alloc S24 rfl rfl (fun g11 w11 b11 e11 gl11 gh11 => ?_)
  have z11 := e11.size
  refine O_alloc S24 rfl rfl (fun g12 w12 b12 e12 gl12 gh12 => ?_)
  have z12 := e12.size
  refine O_storeA (cs' := [_, _]) S24 rfl rfl rfl (b11.ext e12) rfl rfl (one_cons rfl (one_cons (((hq10.ext e11).ext e12).nl).one one_nil)) rfl (fun w13 b13 q13 => ?_)
  have z13 := Nat.le_of_eq q13.size.symm
  have e13 : Ext w w13 := q13.ext (((((e7.trans e8).trans e9).trans e10).trans e11).trans e12) (by omega)
  refine O_storeA (cs' := [_, _]) S24 rfl rfl rfl (b12.chg q13 (by first | assumption | omega)) rfl rfl (one_cons rfl (one_cons ((((hs10.ext e11).ext e12).chgBk (b11.ext e12) (by decide) q13).nl).one one_nil)) rfl (fun w14 b14 q14 => ?_)
  have z14 := Nat.le_of_eq q14.size.symm
  have e14 : Ext w w14 := q14.ext e13 (by omega)
  refine O_assign rfl rfl rfl ?_
  refine WL_end [(1, _), (2, _), (3, _), (4, _), (5, _), (6, _)] ⟨rfl, rfl, rfl, rfl, rfl, rfl, trivial⟩ ?_
  refine WP_seq ?_
  refine WP_sub [(1, _), (2, _), (3, _), (4, _), (5, _), (6, _)] ⟨rfl, rfl, rfl, rfl, rfl, rfl, trivial⟩ ?_
  refine WP_anyR 30 [1, 2, 3, 4, 5, 6] mixed rfl (by kernel_rfl) ?_
  apply AnyR_val [3] rfl (by kernel_rfl)
  · --
    intro y15 hy15
    have zy15 := hy15.size
    refine AllV_nil ?_
    refine O_move rfl rfl rfl ?_
    exact WL_nil ⟨(Ext.refl _), rfl⟩
  apply AnyR_val [21] rfl (by kernel_rfl)
  · --
    intro y16 hy16
    have zy16 := hy16.size
    refine AllV_v ?_
    refine AllV_nil ?_
    refine O_move rfl rfl rfl ?_
    exact WL_nil ⟨(Ext.refl _), rfl⟩
  apply AnyR_val [22, 6] rfl (by kernel_rfl)
  · --
    intro y17 hy17
    have zy17 := hy17.size
    refine AllV_v ?_
    refine AllV_nil ?_
    refine O_move rfl rfl rfl ?_
    exact WL_nil ⟨(Ext.refl _), rfl⟩
  apply AnyR_val [22, 23] rfl (by kernel_rfl)
  · --
    intro y18 hy18
    have zy18 := hy18.size
    refine AllV_v ?_
    refine AllV_v ?_
    refine AllV_nil ?_
    refine O_pickT rfl rfl rfl rfl ?_
    exact WL_nil ⟨(Ext.refl _), rfl⟩
  apply AnyR_val [24] rfl (by kernel_rfl)
  · --
    intro y19 hy19
    have zy19 := hy19.size
    refine AllV_v ?_
    refine AllV_nil ?_
    refine O_move rfl rfl rfl ?_
    exact WL_nil ⟨(Ext.refl _), rfl⟩
  apply AnyR_val [25, 1] rfl (by kernel_rfl)
  · --
    intro y20 hy20
    have zy20 := hy20.size
    refine AllV_v ?_
    refine AllV_nil ?_
    refine O_loadA (vs := [_, _]) S24 rfl rfl rfl (((((((((b6.chg q7 (by first | assumption | omega)).ext e8).ext e9).ext e10).ext e11).ext e12).chg q13 (by first | assumption | omega)).chg q14 (by first | assumption | omega)).ext hy20) rfl rfl ?_
    exact WL_nil ⟨(Ext.refl _), rfl⟩
  apply AnyR_rel (RelP (pAgg [pEq _, pNo w14.heap.size 41 _])) [25] rfl (RelP.mono (pAgg_mono (PsM.cons pEq_mono (PsM.cons pNo_mono PsM.nil)))) (by kernel_rfl)
  · --
    intro y21 hy21
    have zy21 := hy21.size
    refine AllV_v ?_
    refine AllV_nil ?_
    refine O_call enters29 rfl rfl rfl (riof_c (by (try simp only [val_dig, List.length_take, List.length_nil, List.length_cons, List.length_append, List.length_replicate, List.length_set, List.length_map, List.length_drop]); omega) (by (try simp only [val_dig, List.length_take, List.length_nil, List.length_cons, List.length_append, List.length_replicate, List.length_set, List.length_map, List.length_drop]); omega)) (fun v22 w22 e22 h22 => ?_)
    have z22 := e22.size
    try simp only [val_dig] at h22
    obtain ⟨q22, rfl, hq22⟩ := h22
    exact WL_nil ⟨e22, _, rfl, ⟨_, rfl, (AllP.cons rfl (AllP.cons (hq22.mono (by omega)) AllP.nil))⟩⟩
  apply AnyR_val [25, 26, 27] rfl (by kernel_rfl)
  · --
    intro y23 hy23
    have zy23 := hy23.size
    refine AllV_v ?_
    refine AllV_v ?_
    refine AllV_r fun a24 b24 v24 la24 lb24 lc24 h24 ap24 => ?_
    clear ap24
    obtain ⟨_, rfl, v24_0, _, rfl, rfl, v24_1, _, rfl, h24_1, rfl⟩ := h24
    refine AllV_nil ?_
    refine O_call enters16 rfl rfl rfl (isame_c rfl ((((((((((((hq3.ext e4).ext e5).chgBk (b4.ext e5) (by decide) q6).chgBk (b5.chg q6 (by first | assumption | omega)) (by decide) q7).ext e8).ext e9).ext e10).ext e11).ext e12).chgBk (b11.ext e12) (by decide) q13).chgBk (b12.chg q13 (by first | assumption | omega)) (by decide) q14).ext hy23).nl h24_1.nl (by (try simp only [val_dig, List.length_take, List.length_nil, List.length_cons, List.length_append, List.length_replicate, List.length_set, List.length_map, List.length_drop]); omega) (by (try simp only [val_dig, List.length_take, List.length_nil, List.length_cons, List.length_append, List.length_replicate, List.length_set, List.length_map, List.length_drop]); omega) rfl) (fun v25 w25 e25 h25 => ?_)
    have z25 := e25.size
    obtain rfl := h25
    exact WL_nil ⟨e25, rfl⟩
  apply AnyR_val [25, 28] rfl (by kernel_rfl)
  · --
    intro y26 hy26
    have zy26 := hy26.size
    refine AllV_v ?_
    refine AllV_v ?_
    refine AllV_nil ?_
    refine O_pickT rfl rfl rfl rfl ?_
    exact WL_nil ⟨(Ext.refl _), rfl⟩
  apply AnyR_val [29] rfl (by kernel_rfl)
  · --
    intro y27 hy27
    have zy27 := hy27.size
    refine AllV_v ?_
    refine AllV_nil ?_
    refine O_move rfl rfl rfl ?_
    exact WL_nil ⟨(Ext.refl _), rfl⟩
  apply AnyR_val [30, 2] rfl (by kernel_rfl)
  · --
    intro y28 hy28
    have zy28 := hy28.size
    refine AllV_v ?_
    refine AllV_nil ?_
    refine O_loadA (vs := [_, _]) S24 rfl rfl rfl ((((((((b7.ext e8).ext e9).ext e10).ext e11).ext e12).chg q13 (by first | assumption | omega)).chg q14 (by first | assumption | omega)).ext hy28) rfl rfl ?_
    exact WL_nil ⟨(Ext.refl _), rfl⟩
  apply AnyR_rel (RelP (pAgg [pEq _, pNo w14.heap.size 41 _])) [30] rfl (RelP.mono (pAgg_mono (PsM.cons pEq_mono (PsM.cons pNo_mono PsM.nil)))) (by kernel_rfl)
  · --
    intro y29 hy29
    have zy29 := hy29.size
    refine AllV_v ?_
    refine AllV_nil ?_
    refine O_call enters29 rfl rfl rfl (riof_c (by (try simp only [val_dig, List.length_take, List.length_nil, List.length_cons, List.length_append, List.length_replicate, List.length_set, List.length_map, List.length_drop]); omega) (by (try simp only [val_dig, List.length_take, List.length_nil, List.length_cons, List.length_append, List.length_replicate, List.length_set, List.length_map, List.length_drop]); omega)) (fun v30 w30 e30 h30 => ?_)
    have z30 := e30.size
    try simp only [val_dig] at h30
    obtain ⟨q30, rfl, hq30⟩ := h30
    exact WL_nil ⟨e30, _, rfl, ⟨_, rfl, (AllP.cons rfl (AllP.cons (hq30.mono (by omega)) AllP.nil))⟩⟩
  apply AnyR_val [30, 31, 32] rfl (by kernel_rfl)
  · --
    intro y31 hy31
    have zy31 := hy31.size
    refine AllV_v ?_
    refine AllV_v ?_
    refine AllV_r fun a32 b32 v32 la32 lb32 lc32 h32 ap32 => ?_
    clear ap32
    obtain ⟨_, rfl, v32_0, _, rfl, rfl, v32_1, _, rfl, h32_1, rfl⟩ := h32
    refine AllV_nil ?_
    refine O_call enters16 rfl rfl rfl (isame_c rfl ((((((((((((hs3.ext e4).ext e5).chgBk (b4.ext e5) (by decide) q6).chgBk (b5.chg q6 (by first | assumption | omega)) (by decide) q7).ext e8).ext e9).ext e10).ext e11).ext e12).chgBk (b11.ext e12) (by decide) q13).chgBk (b12.chg q13 (by first | assumption | omega)) (by decide) q14).ext hy31).nl h32_1.nl (by (try simp only [val_dig, List.length_take, List.length_nil, List.length_cons, List.length_append, List.length_replicate, List.length_set, List.length_map, List.length_drop]); omega) (by (try simp only [val_dig, List.length_take, List.length_nil, List.length_cons, List.length_append, List.length_replicate, List.length_set, List.length_map, List.length_drop]); omega) rfl) (fun v33 w33 e33 h33 => ?_)
    have z33 := e33.size
    obtain rfl := h33
    exact WL_nil ⟨e33, rfl⟩
  apply AnyR_val [30, 33] rfl (by kernel_rfl)
  · --
    intro y34 hy34
    have zy34 := hy34.size
    refine AllV_v ?_
    refine AllV_v ?_
    refine AllV_nil ?_
    refine O_pickT rfl rfl rfl rfl ?_
    exact WL_nil ⟨(Ext.refl _), rfl⟩
  apply AnyR_val [34] rfl (by kernel_rfl)
  · --
    intro y35 hy35
    have zy35 := hy35.size
    refine AllV_v ?_
    refine AllV_nil ?_
    refine O_move rfl rfl rfl ?_
    exact WL_nil ⟨(Ext.refl _), rfl⟩
  apply AnyR_val [35, 4] rfl (by kernel_rfl)
  · --
    intro y36 hy36
    have zy36 := hy36.size
    refine AllV_v ?_
    refine AllV_nil ?_
    refine O_loadA (vs := [_, _]) S24 rfl rfl rfl ((b13.chg q14 (by first | assumption | omega)).ext hy36) rfl rfl ?_
    exact WL_nil ⟨(Ext.refl _), rfl⟩
  apply AnyR_rel (RelP (pAgg [pEq _, pNo w14.heap.size 41 _])) [35] rfl (RelP.mono (pAgg_mono (PsM.cons pEq_mono (PsM.cons pNo_mono PsM.nil)))) (by kernel_rfl)
  · --
    intro y37 hy37
    have zy37 := hy37.size
    refine AllV_v ?_
    refine AllV_nil ?_
    refine O_call enters29 rfl rfl rfl (riof_c (by (try simp only [val_dig, List.length_take, List.length_nil, List.length_cons, List.length_append, List.length_replicate, List.length_set, List.length_map, List.length_drop]); omega) (by (try simp only [val_dig, List.length_take, List.length_nil, List.length_cons, List.length_append, List.length_replicate, List.length_set, List.length_map, List.length_drop]); omega)) (fun v38 w38 e38 h38 => ?_)
    have z38 := e38.size
    try simp only [val_dig] at h38
    obtain ⟨q38, rfl, hq38⟩ := h38
    exact WL_nil ⟨e38, _, rfl, ⟨_, rfl, (AllP.cons rfl (AllP.cons (hq38.mono (by omega)) AllP.nil))⟩⟩
  apply AnyR_val [35, 36, 37] rfl (by kernel_rfl)
  · --
    intro y39 hy39
    have zy39 := hy39.size
    refine AllV_v ?_
    refine AllV_v ?_
    refine AllV_r fun a40 b40 v40 la40 lb40 lc40 h40 ap40 => ?_
    clear ap40
    obtain ⟨_, rfl, v40_0, _, rfl, rfl, v40_1, _, rfl, h40_1, rfl⟩ := h40
    refine AllV_nil ?_
    refine O_call enters16 rfl rfl rfl (isame_c rfl (((((hq10.ext e11).ext e12).chgBk (b11.ext e12) (by decide) q13).chgBk (b12.chg q13 (by first | assumption | omega)) (by decide) q14).ext hy39).nl h40_1.nl (by (try simp only [val_dig, List.length_take, List.length_nil, List.length_cons, List.length_append, List.length_replicate, List.length_set, List.length_map, List.length_drop]); omega) (by (try simp only [val_dig, List.length_take, List.length_nil, List.length_cons, List.length_append, List.length_replicate, List.length_set, List.length_map, List.length_drop]); omega) rfl) (fun v41 w41 e41 h41 => ?_)
    have z41 := e41.size
    obtain rfl := h41
    exact WL_nil ⟨e41, rfl⟩
  apply AnyR_val [35, 38] rfl (by kernel_rfl)
  · --
    intro y42 hy42
    have zy42 := hy42.size
    refine AllV_v ?_
    refine AllV_v ?_
    refine AllV_nil ?_
    refine O_pickT rfl rfl rfl rfl ?_
    exact WL_nil ⟨(Ext.refl _), rfl⟩
  apply AnyR_val [39] rfl (by kernel_rfl)
  · --
    intro y43 hy43
    have zy43 := hy43.size
    refine AllV_v ?_
    refine AllV_nil ?_
    refine O_move rfl rfl rfl ?_
    exact WL_nil ⟨(Ext.refl _), rfl⟩
  apply AnyR_val [40, 5] rfl (by kernel_rfl)
  · --
    intro y44 hy44
    have zy44 := hy44.size
    refine AllV_v ?_
    refine AllV_nil ?_
    refine O_loadA (vs := [_, _]) S24 rfl rfl rfl (b14.ext hy44) rfl rfl ?_
    exact WL_nil ⟨(Ext.refl _), rfl⟩
  apply AnyR_rel (RelP (pAgg [pEq _, pNo w14.heap.size 41 _])) [40] rfl (RelP.mono (pAgg_mono (PsM.cons pEq_mono (PsM.cons pNo_mono PsM.nil)))) (by kernel_rfl)
  · --
    intro y45 hy45
    have zy45 := hy45.size
    refine AllV_v ?_
    refine AllV_nil ?_
    refine O_call enters29 rfl rfl rfl (riof_c (by (try simp only [val_dig, List.length_take, List.length_nil, List.length_cons, List.length_append, List.length_replicate, List.length_set, List.length_map, List.length_drop]); omega) (by (try simp only [val_dig, List.length_take, List.length_nil, List.length_cons, List.length_append, List.length_replicate, List.length_set, List.length_map, List.length_drop]); omega)) (fun v46 w46 e46 h46 => ?_)
    have z46 := e46.size
    try simp only [val_dig] at h46
    obtain ⟨q46, rfl, hq46⟩ := h46
    exact WL_nil ⟨e46, _, rfl, ⟨_, rfl, (AllP.cons rfl (AllP.cons (hq46.mono (by omega)) AllP.nil))⟩⟩
  apply AnyR_val [40, 41, 42] rfl (by kernel_rfl)
  · --
    intro y47 hy47
    have zy47 := hy47.size
    refine AllV_v ?_
    refine AllV_v ?_
    refine AllV_r fun a48 b48 v48 la48 lb48 lc48 h48 ap48 => ?_
    clear ap48
    obtain ⟨_, rfl, v48_0, _, rfl, rfl, v48_1, _, rfl, h48_1, rfl⟩ := h48
    refine AllV_nil ?_
    refine O_call enters16 rfl rfl rfl (isame_c rfl (((((hs10.ext e11).ext e12).chgBk (b11.ext e12) (by decide) q13).chgBk (b12.chg q13 (by first | assumption | omega)) (by decide) q14).ext hy47).nl h48_1.nl (by (try simp only [val_dig, List.length_take, List.length_nil, List.length_cons, List.length_append, List.length_replicate, List.length_set, List.length_map, List.length_drop]); omega) (by (try simp only [val_dig, List.length_take, List.length_nil, List.length_cons, List.length_append, List.length_replicate, List.length_set, List.length_map, List.length_drop]); omega) rfl) (fun v49 w49 e49 h49 => ?_)
    have z49 := e49.size
    obtain rfl := h49
    exact WL_nil ⟨e49, rfl⟩
  apply AnyR_val [40, 43] rfl (by kernel_rfl)
  · --
    intro y50 hy50
    have zy50 := hy50.size
    refine AllV_v ?_
    refine AllV_v ?_
    refine AllV_nil ?_
    refine O_pickT rfl rfl rfl rfl ?_
    exact WL_nil ⟨(Ext.refl _), rfl⟩
  apply AnyR_val [44] rfl (by kernel_rfl)
  · --
    intro y51 hy51
    have zy51 := hy51.size
    refine AllV_v ?_
    refine AllV_nil ?_
    refine O_move rfl rfl rfl ?_
    exact WL_nil ⟨(Ext.refl _), rfl⟩
  apply AnyR_rel (RelP (pAgg [pEq _, pNo w14.heap.size 41 _])) [45] rfl (RelP.mono (pAgg_mono (PsM.cons pEq_mono (PsM.cons pNo_mono PsM.nil)))) (by kernel_rfl)
  · --
    intro y52 hy52
    have zy52 := hy52.size
    refine AllV_v ?_
    refine AllV_nil ?_
    refine O_call enters15 rfl rfl rfl (iof_c (by (try simp only [val_dig, List.length_take, List.length_nil, List.length_cons, List.length_append, List.length_replicate, List.length_set, List.length_map, List.length_drop]); omega) (by (try simp only [val_dig, List.length_take, List.length_nil, List.length_cons, List.length_append, List.length_replicate, List.length_set, List.length_map, List.length_drop]); omega)) (fun v53 w53 e53 h53 => ?_)
    have z53 := e53.size
    try simp only [val_dig] at h53
    obtain ⟨q53, rfl, hq53⟩ := h53
    exact WL_nil ⟨e53, _, rfl, ⟨_, rfl, (AllP.cons rfl (AllP.cons (hq53.mono (by omega)) AllP.nil))⟩⟩
  apply AnyR_rel (RelP (pAgg [pEq _, pNo w14.heap.size 41 _])) [45, 46] rfl (RelP.mono (pAgg_mono (PsM.cons pEq_mono (PsM.cons pNo_mono PsM.nil)))) (by kernel_rfl)
  · --
    intro y54 hy54
    have zy54 := hy54.size
    refine AllV_v ?_
    refine AllV_r fun a55 b55 v55 la55 lb55 lc55 h55 ap55 => ?_
    clear ap55
    obtain ⟨_, rfl, v55_0, _, rfl, rfl, v55_1, _, rfl, h55_1, rfl⟩ := h55
    refine AllV_nil ?_
    refine O_call enters13 rfl rfl rfl (ishr_c (k := 5) rfl h55_1.nl (by (try simp only [val_dig, List.length_take, List.length_nil, List.length_cons, List.length_append, List.length_replicate, List.length_set, List.length_map, List.length_drop]); omega) (by decide)) (fun v56 w56 e56 h56 => ?_)
    have z56 := e56.size
    try simp only [val_dig] at h56
    obtain ⟨q56, rfl, hq56⟩ := h56
    rw [show (-1 : Int) / 2 ^ 5 = -1 from by decide] at hq56 ⊢
    exact WL_nil ⟨e56, _, rfl, ⟨_, rfl, (AllP.cons rfl (AllP.cons (hq56.mono (by omega)) AllP.nil))⟩⟩
  apply AnyR_rel (RelP (pAgg [pEq _, pNo w14.heap.size 41 _])) [45] rfl (RelP.mono (pAgg_mono (PsM.cons pEq_mono (PsM.cons pNo_mono PsM.nil)))) (by kernel_rfl)
  · --
    intro y57 hy57
    have zy57 := hy57.size
    refine AllV_v ?_
    refine AllV_nil ?_
    refine O_call enters29 rfl rfl rfl (riof_c (by (try simp only [val_dig, List.length_take, List.length_nil, List.length_cons, List.length_append, List.length_replicate, List.length_set, List.length_map, List.length_drop]); omega) (by (try simp only [val_dig, List.length_take, List.length_nil, List.length_cons, List.length_append, List.length_replicate, List.length_set, List.length_map, List.length_drop]); omega)) (fun v58 w58 e58 h58 => ?_)
    have z58 := e58.size
    try simp only [val_dig] at h58
    obtain ⟨q58, rfl, hq58⟩ := h58
    exact WL_nil ⟨e58, _, rfl, ⟨_, rfl, (AllP.cons rfl (AllP.cons (hq58.mono (by omega)) AllP.nil))⟩⟩
  apply AnyR_val [45, 47, 48] rfl (by kernel_rfl)
  · --
    intro y59 hy59
    have zy59 := hy59.size
    refine AllV_v ?_
    refine AllV_r fun a60 b60 v60 la60 lb60 lc60 h60 ap60 => ?_
    clear ap60
    obtain ⟨_, rfl, v60_0, _, rfl, rfl, v60_1, _, rfl, h60_1, rfl⟩ := h60
    refine AllV_r fun a61 b61 v61 la61 lb61 lc61 h61 ap61 => ?_
    clear ap61
    obtain ⟨_, rfl, v61_0, _, rfl, rfl, v61_1, _, rfl, h61_1, rfl⟩ := h61
    refine AllV_nil ?_
    refine O_call enters16 rfl rfl rfl (isame_c rfl h60_1.nl h61_1.nl (by (try simp only [val_dig, List.length_take, List.length_nil, List.length_cons, List.length_append, List.length_replicate, List.length_set, List.length_map, List.length_drop]); omega) (by (try simp only [val_dig, List.length_take, List.length_nil, List.length_cons, List.length_append, List.length_replicate, List.length_set, List.length_map, List.length_drop]); omega) rfl) (fun v62 w62 e62 h62 => ?_)
    have z62 := e62.size
    obtain rfl := h62
    exact WL_nil ⟨e62, rfl⟩
  apply AnyR_val [45, 49] rfl (by kernel_rfl)
  · --
    intro y63 hy63
    have zy63 := hy63.size
    refine AllV_v ?_
    refine AllV_v ?_
    refine AllV_nil ?_
    refine O_pickT rfl rfl rfl rfl ?_
    exact WL_nil ⟨(Ext.refl _), rfl⟩
  refine AnyR_nil fun y64 hy64 => ?_
  have zy64 := hy64.size
  refine AllV_v ?_
  refine AllV_v ?_
  refine AllV_v ?_
  refine AllV_v ?_
  refine AllV_v ?_
  refine AllV_v ?_
  refine AllV_r fun a65 b65 v65 la65 lb65 lc65 h65 ap65 => ?_
  clear ap65
  obtain ⟨_, rfl, v65_0, _, rfl, rfl, v65_1, _, rfl, h65_1, rfl⟩ := h65
  refine AllV_v ?_
  refine AllV_v ?_
  refine AllV_v ?_
  refine AllV_v ?_
  refine AllV_r fun a66 b66 v66 la66 lb66 lc66 h66 ap66 => ?_
  clear ap66
  obtain ⟨_, rfl, v66_0, _, rfl, rfl, v66_1, _, rfl, h66_1, rfl⟩ := h66
  refine AllV_v ?_
  refine AllV_v ?_
  refine AllV_v ?_
  refine AllV_v ?_
  refine AllV_r fun a67 b67 v67 la67 lb67 lc67 h67 ap67 => ?_
  clear ap67
  obtain ⟨_, rfl, v67_0, _, rfl, rfl, v67_1, _, rfl, h67_1, rfl⟩ := h67
  refine AllV_v ?_
  refine AllV_v ?_
  refine AllV_v ?_
  refine AllV_v ?_
  refine AllV_r fun a68 b68 v68 la68 lb68 lc68 h68 ap68 => ?_
  clear ap68
  obtain ⟨_, rfl, v68_0, _, rfl, rfl, v68_1, _, rfl, h68_1, rfl⟩ := h68
  refine AllV_v ?_
  refine AllV_v ?_
  refine AllV_v ?_
  refine AllV_r fun a69 b69 v69 la69 lb69 lc69 h69 ap69 => ?_
  clear ap69
  obtain ⟨_, rfl, v69_0, _, rfl, rfl, v69_1, _, rfl, h69_1, rfl⟩ := h69
  refine AllV_r fun a70 b70 v70 la70 lb70 lc70 h70 ap70 => ?_
  clear ap70
  obtain ⟨_, rfl, v70_0, _, rfl, rfl, v70_1, _, rfl, h70_1, rfl⟩ := h70
  refine AllV_r fun a71 b71 v71 la71 lb71 lc71 h71 ap71 => ?_
  clear ap71
  obtain ⟨_, rfl, v71_0, _, rfl, rfl, v71_1, _, rfl, h71_1, rfl⟩ := h71
  refine AllV_v ?_
  refine AllV_v ?_
  refine AllV_nil ?_
  refine O_assign rfl rfl rfl ?_
  refine WL_end [(0, _)] ⟨rfl, trivial⟩ ?_
  refine WP_ret ?_
  refine ret1 Try.results9 rfl ?_
  exact ⟨_, rfl, (e14.trans hy64), rfl⟩

theorem ivalid_c {w : World} {vx : Value} {lx : List Nat} {bx : Bool} (hx : Nl w vx lx) :
    Calls Try.prog 20 #[.agg #[.bool bx, vx]] w (Ret w fun r _ => r = .bool (ival bx lx)) := by
  refine enter (args := [_]) Try.func20 rfl Try.ntmps20 rfl ?_
  refine WP_seq ?_
  refine WP_region ?_
  refine O_box _ rfl rfl rfl rfl (fun g1 w1 b1 e1 gl1 gh1 => ?_)
  have z1 := e1.size
  refine O_assign rfl rfl rfl ?_
  refine WL_end [(1, _)] ⟨rfl, trivial⟩ ?_
  refine WP_seq ?_
  refine WP_region ?_
  refine O_field F24_1 rfl rfl rfl ?_
  refine O_loadC Try.underlying22 rfl rfl rfl rfl b1 rfl ?_
  refine O_call enters52 rfl rfl rfl (valid_c (hx.ext e1)) (fun v2 w2 e2 h2 => ?_)
  have z2 := e2.size
  obtain rfl := h2
  refine O_move rfl rfl rfl ?_
  refine WL_bool 6 rfl (fun g6 => ?_) (fun g6 => ?_)
  · --
    refine O_field F24_1 rfl rfl rfl ?_
    refine O_loadC Try.underlying22 rfl rfl rfl rfl (b1.ext e2) rfl ?_
    refine N_len T22 rfl rfl rfl (hx.ext (e1.trans e2)) ?_
    refine O_gtr rfl rfl rfl rfl rfl ?_
    refine O_move rfl rfl rfl ?_
    refine WL_dec 11 rfl (fun g11 => ?_) (fun g11 => ?_)
    · --
      refine O_skip rfl rfl ?_
      refine O_skip rfl rfl ?_
      refine O_skip rfl rfl ?_
      refine O_pickT rfl rfl rfl rfl ?_
      refine O_pickT rfl rfl rfl rfl ?_
      refine O_assign rfl rfl rfl ?_
      refine WL_end [(2, _)] ⟨rfl, trivial⟩ ?_
      refine WP_ret ?_
      refine ret1 Try.results20 rfl ?_
      exact ⟨_, rfl, (e1.trans e2), by rw [ival_t g6 (by omega)]⟩
    · --
      refine O_field F24_0 rfl rfl rfl ?_
      refine O_loadC Try.underlying4 rfl rfl rfl rfl (b1.ext e2) rfl ?_
      refine O_not rfl rfl rfl rfl ?_
      refine O_pickF rfl rfl rfl rfl ?_
      refine O_pickT rfl rfl rfl rfl ?_
      refine O_assign rfl rfl rfl ?_
      refine WL_end [(2, _)] ⟨rfl, trivial⟩ ?_
      refine WP_ret ?_
      refine ret1 Try.results20 rfl ?_
      exact ⟨_, rfl, (e1.trans e2), by rw [ival_b g6 (by omega)]⟩
  · --
    refine O_skip rfl rfl ?_
    refine O_skip rfl rfl ?_
    refine O_skip rfl rfl ?_
    refine O_skip rfl rfl ?_
    refine O_skip rfl rfl ?_
    refine O_skipU rfl rfl rfl ?_
    refine O_skipU rfl rfl rfl ?_
    refine O_skipU rfl rfl rfl ?_
    refine O_skip rfl rfl ?_
    refine O_pickF rfl rfl rfl rfl ?_
    refine O_assign rfl rfl rfl ?_
    refine WL_end [(2, _)] ⟨rfl, trivial⟩ ?_
    refine WP_ret ?_
    refine ret1 Try.results20 rfl ?_
    exact ⟨_, rfl, (e1.trans e2), by rw [ival_f g6]⟩

theorem ivalidT_c {w : World} {vx : Value} {x : Int} {bx : Bool} (hbx : bx = decide (x < 0)) (hx : Nl w vx (dig x.natAbs)) (hlx : (dig x.natAbs).length ≤ 1000000) : Calls Try.prog 20 #[.agg #[.bool bx, vx]] w (Ret w fun r _ => r = .bool true) :=
  (ivalid_c hx).mono fun e w' ⟨r, he, hx', hr⟩ => ⟨r, he, hx', by rw [hr, hbx, ival_dig]⟩

end Go.Proofs.Ythbbcnlpfjbleaa
