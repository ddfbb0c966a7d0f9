/-
  Walks.
-/
import Derived.Test.YthbfhljpfkicpaaV1
set_option linter.unusedVariables false
set_option linter.unusedSimpArgs false
set_option maxRecDepth 100000
namespace Go.Proofs.Ythbfhljpfkicpaa
open Go Go.RowKit
theorem dcmp_swap_le {x e y f : Int} (hx : dval x e = true) (hy : dval y f = true) (h : 0 < dcmp x e y f) : dcmp y f x e ≤ 0 := by
  rw [sw_dcmp hx hy, icmp_gt] at h
  rw [sw_dcmp hy hx, icmp_pos]
  omega

theorem mint10_c {w : World} {vx vy : Value} {lx ly : List Nat} {bx by_ : Bool} {e f : Int} {n m : Nat} (hx : Nl w vx lx) (hy : Nl w vy ly) (h32 : 32 * n + m ≤ 65536) :
    Calls Try.prog 32 #[.agg #[.bool bx, vx, .int .i64 e, .bool by_, vy, .int .i64 f], .int .i64 (n : Nat), .int .i64 (m : Nat)] w (Ret w fun r w' => ∃ x e y f q s b, r = .tuple #[.agg #[.bool (decide ((x) < 0)), q, .int .i64 (e), .bool (decide ((y) < 0)), s, .int .i64 (f)], .bool b] ∧ No w.heap.size 93 w' q (dig x.natAbs) ∧ No w.heap.size 93 w' s (dig y.natAbs) ∧ dval x e = true ∧ dval y f = true ∧ dcmp x e y f ≤ 0 ∧ -(m : Int) ≤ e ∧ e ≤ m + 32 * n ∧ -(m : Int) ≤ f ∧ f ≤ m + 32 * n ∧ (dig x.natAbs).length ≤ n ∧ (dig y.natAbs).length ≤ n) := by
  refine enter (args := [_, _, _]) Try.func32 rfl Try.ntmps32 rfl ?_
  refine WP_seq ?_
  refine WP_region ?_
  refine O_box _ rfl rfl rfl rfl (fun g1 w1 b1 e1 gl1 gh1 => ?_)
  have z1 := e1.size
  refine O_alloc S28 rfl rfl (fun g2 w2 b2 e2 gl2 gh2 => ?_)
  have z2 := e2.size
  refine O_assign rfl rfl rfl ?_
  refine WL_end [(1, _), (2, _), (3, _), (6, _)] ⟨rfl, rfl, rfl, rfl, trivial⟩ ?_
  refine WP_seq ?_
  refine WP_region ?_
  refine O_field F28_0 rfl rfl rfl ?_
  refine O_loadA (vs := [_, _, _]) S26 rfl rfl rfl (b1.ext e2) rfl rfl ?_
  refine O_move rfl rfl rfl ?_
  refine O_move rfl rfl rfl ?_
  refine O_call enters14 rfl rfl rfl (mdy_c (hx.ext (e1.trans e2)) h32) (fun v3 w3 e3 h3 => ?_)
  have z3 := e3.size
  try simp only [val_dig] at h3
  obtain ⟨xA, kA, qA, bA, rfl, hqA, hvA, hkA, hjA, hlA⟩ := h3
  refine O_move rfl rfl rfl ?_
  refine O_extract rfl rfl rfl rfl ?_
  refine O_extract rfl rfl rfl rfl ?_
  refine O_alloc S26 rfl rfl (fun g4 w4 b4 e4 gl4 gh4 => ?_)
  have z4 := e4.size
  refine O_storeA (cs' := [_, _, _]) S26 rfl rfl rfl b4 rfl rfl (one_cons rfl (one_cons ((hqA.ext e4).nl).one (one_cons rfl one_nil))) rfl (fun w5 b5 q5 => ?_)
  have z5 := Nat.le_of_eq q5.size.symm
  have e5 : Ext w w5 := q5.ext (((e1.trans e2).trans e3).trans e4) (by omega)
  refine O_assign rfl rfl rfl ?_
  refine WL_end [(1, _), (2, _), (3, _), (6, _), (8, _), (9, _)] ⟨rfl, rfl, rfl, rfl, rfl, rfl, trivial⟩ ?_
  refine WP_seq ?_
  refine WP_region ?_
  refine O_field F28_1 rfl rfl rfl ?_
  refine O_loadA (vs := [_, _, _]) S26 rfl rfl rfl ((((b1.ext e2).ext e3).ext e4).chg q5 (by first | assumption | omega)) rfl rfl ?_
  refine O_move rfl rfl rfl ?_
  refine O_move rfl rfl rfl ?_
  refine O_call enters14 rfl rfl rfl (mdy_c (hy.ext e5) h32) (fun v6 w6 e6 h6 => ?_)
  have z6 := e6.size
  try simp only [val_dig] at h6
  obtain ⟨xB, kB, qB, bB, rfl, hqB, hvB, hkB, hjB, hlB⟩ := h6
  refine O_move rfl rfl rfl ?_
  refine O_extract rfl rfl rfl rfl ?_
  refine O_extract rfl rfl rfl rfl ?_
  refine O_alloc S26 rfl rfl (fun g7 w7 b7 e7 gl7 gh7 => ?_)
  have z7 := e7.size
  refine O_storeA (cs' := [_, _, _]) S26 rfl rfl rfl b7 rfl rfl (one_cons rfl (one_cons ((hqB.ext e7).nl).one (one_cons rfl one_nil))) rfl (fun w8 b8 q8 => ?_)
  have z8 := Nat.le_of_eq q8.size.symm
  have e8 : Ext w w8 := q8.ext ((e5.trans e6).trans e7) (by omega)
  refine O_assign rfl rfl rfl ?_
  refine WL_end [(6, _), (8, _), (9, _), (10, _), (11, _)] ⟨rfl, rfl, rfl, rfl, rfl, trivial⟩ ?_
  refine WP_seq ?_
  refine WP_seq ?_
  refine WP_region ?_
  refine O_loadA (vs := [_, _, _]) S26 rfl rfl rfl (((b5.ext e6).ext e7).chg q8 (by first | assumption | omega)) rfl rfl ?_
  refine O_loadA (vs := [_, _, _]) S26 rfl rfl rfl b8 rfl rfl ?_
  refine O_call enters19 rfl rfl rfl (rdcmp_c rfl (((((hqA.ext e4).chgBk b4 (by decide) q5).ext e6).ext e7).chgBk b7 (by decide) q8).nl rfl ((hqB.ext e7).chgBk b7 (by decide) q8).nl (by (try simp only [val_dig, List.length_take, List.length_nil, List.length_cons, List.length_append, List.length_replicate, List.length_set, List.length_map, List.length_drop]); omega) (by (try simp only [val_dig, List.length_take, List.length_nil, List.length_cons, List.length_append, List.length_replicate, List.length_set, List.length_map, List.length_drop]); omega) (by (try simp only [val_dig, List.length_take, List.length_nil, List.length_cons, List.length_append, List.length_replicate, List.length_set, List.length_map, List.length_drop]); omega) (by (try simp only [val_dig, List.length_take, List.length_nil, List.length_cons, List.length_append, List.length_replicate, List.length_set, List.length_map, List.length_drop]); omega) (by (try simp only [val_dig, List.length_take, List.length_nil, List.length_cons, List.length_append, List.length_replicate, List.length_set, List.length_map, List.length_drop]); omega) (by (try simp only [val_dig, List.length_take, List.length_nil, List.length_cons, List.length_append, List.length_replicate, List.length_set, List.length_map, List.length_drop]); omega)) (fun v9 w9 e9 h9 => ?_)
  have z9 := e9.size
  obtain rfl := h9
  refine O_gtr rfl rfl rfl rfl rfl ?_
  refine WL_end [(6, _), (8, _), (9, _), (10, _), (11, _), (31, _)] ⟨rfl, rfl, rfl, rfl, rfl, rfl, trivial⟩ ?_
  refine WP_condD rfl (fun c31 => ?_) (fun c31 => ?_)
  · --
    refine WP_region ?_
    refine O_loadA (vs := [_, _, _]) S26 rfl rfl rfl (b8.ext e9) rfl rfl ?_
    refine O_loadA (vs := [_, _, _]) S26 rfl rfl rfl ((((b5.ext e6).ext e7).chg q8 (by first | assumption | omega)).ext e9) rfl rfl ?_
    refine O_storeA (cs' := [_, _, _]) S26 rfl rfl rfl ((((b5.ext e6).ext e7).chg q8 (by first | assumption | omega)).ext e9) rfl rfl (one_cons rfl (one_cons ((((hqB.ext e7).chgBk b7 (by decide) q8).ext e9).nl).one (one_cons rfl one_nil))) rfl (fun w10 b10 q10 => ?_)
    have z10 := Nat.le_of_eq q10.size.symm
    have e10 : Ext w w10 := q10.ext (e8.trans e9) (by omega)
    refine O_storeA (cs' := [_, _, _]) S26 rfl rfl rfl ((b8.ext e9).chg q10 (by first | assumption | omega)) rfl rfl (one_cons rfl (one_cons ((((((((hqA.ext e4).chgBk b4 (by decide) q5).ext e6).ext e7).chgBk b7 (by decide) q8).ext e9).chgBk ((((b5.ext e6).ext e7).chg q8 (by first | assumption | omega)).ext e9) (by decide) q10).nl).one (one_cons rfl one_nil))) rfl (fun w11 b11 q11 => ?_)
    have z11 := Nat.le_of_eq q11.size.symm
    have e11 : Ext w w11 := q11.ext e10 (by omega)
    refine WL_end [(6, _), (8, _), (9, _), (10, _), (11, _)] ⟨rfl, rfl, rfl, rfl, rfl, trivial⟩ ?_
    refine WP_seq ?_
    refine WP_region ?_
    refine O_loadA (vs := [_, _, _]) S26 rfl rfl rfl (b10.chg q11 (by first | assumption | omega)) rfl rfl ?_
    refine O_loadA (vs := [_, _, _]) S26 rfl rfl rfl b11 rfl rfl ?_
    refine O_build (cs := [_, _, _, _, _, _]) B28 rfl rfl rfl (cells_cons rfl (cells_cons rfl cells_nil)) rfl ?_
    refine O_move rfl rfl rfl ?_
    refine O_move rfl rfl rfl ?_
    refine WL_bool 38 rfl (fun g38 => ?_) (fun g38 => ?_)
    · --
      refine O_move rfl rfl rfl ?_
      refine O_pickT rfl rfl rfl rfl ?_
      refine O_storeA (cs' := [_, _, _, _, _, _]) S28 rfl rfl rfl (((((((((b2.ext e3).ext e4).chg q5 (by first | assumption | omega)).ext e6).ext e7).chg q8 (by first | assumption | omega)).ext e9).chg q10 (by first | assumption | omega)).chg q11 (by first | assumption | omega)) rfl rfl (one_cons rfl (one_cons ((((((hqB.ext e7).chgBk b7 (by decide) q8).ext e9).chgBk ((((b5.ext e6).ext e7).chg q8 (by first | assumption | omega)).ext e9) (by decide) q10).chgBk ((b8.ext e9).chg q10 (by first | assumption | omega)) (by decide) q11).nl).one (one_cons rfl (one_cons rfl (one_cons (((((((((hqA.ext e4).chgBk b4 (by decide) q5).ext e6).ext e7).chgBk b7 (by decide) q8).ext e9).chgBk ((((b5.ext e6).ext e7).chg q8 (by first | assumption | omega)).ext e9) (by decide) q10).chgBk ((b8.ext e9).chg q10 (by first | assumption | omega)) (by decide) q11).nl).one (one_cons rfl one_nil)))))) rfl (fun w12 b12 q12 => ?_)
      have z12 := Nat.le_of_eq q12.size.symm
      have e12 : Ext w w12 := q12.ext e11 (by omega)
      refine O_assign rfl rfl rfl ?_
      refine WL_end [(6, _), (7, _)] ⟨rfl, rfl, trivial⟩ ?_
      refine WP_ret ?_
      refine retL Try.results32 (.cell rfl S28 b12 rfl (.tmp rfl .nil)) ?_
      exact ⟨_, rfl, e12, _, _, _, _, _, _, _, rfl, ((((((hqB.ext e7).chgBk b7 (by decide) q8).ext e9).chgBk ((((b5.ext e6).ext e7).chg q8 (by first | assumption | omega)).ext e9) (by decide) q10).chgBk ((b8.ext e9).chg q10 (by first | assumption | omega)) (by decide) q11).chgBk (((((((((b2.ext e3).ext e4).chg q5 (by first | assumption | omega)).ext e6).ext e7).chg q8 (by first | assumption | omega)).ext e9).chg q10 (by first | assumption | omega)).chg q11 (by first | assumption | omega)) (by decide) q12).mono (by omega), (((((((((hqA.ext e4).chgBk b4 (by decide) q5).ext e6).ext e7).chgBk b7 (by decide) q8).ext e9).chgBk ((((b5.ext e6).ext e7).chg q8 (by first | assumption | omega)).ext e9) (by decide) q10).chgBk ((b8.ext e9).chg q10 (by first | assumption | omega)) (by decide) q11).chgBk (((((((((b2.ext e3).ext e4).chg q5 (by first | assumption | omega)).ext e6).ext e7).chg q8 (by first | assumption | omega)).ext e9).chg q10 (by first | assumption | omega)).chg q11 (by first | assumption | omega)) (by decide) q12).mono (by omega), hvB, hvA, (by have := dcmp_swap_le hvA hvB c31; exact this), hkB, hjB, hkA, hjA, hlB, hlA⟩
    · --
      refine O_skip rfl rfl ?_
      refine O_pickF rfl rfl rfl rfl ?_
      refine O_storeA (cs' := [_, _, _, _, _, _]) S28 rfl rfl rfl (((((((((b2.ext e3).ext e4).chg q5 (by first | assumption | omega)).ext e6).ext e7).chg q8 (by first | assumption | omega)).ext e9).chg q10 (by first | assumption | omega)).chg q11 (by first | assumption | omega)) rfl rfl (one_cons rfl (one_cons ((((((hqB.ext e7).chgBk b7 (by decide) q8).ext e9).chgBk ((((b5.ext e6).ext e7).chg q8 (by first | assumption | omega)).ext e9) (by decide) q10).chgBk ((b8.ext e9).chg q10 (by first | assumption | omega)) (by decide) q11).nl).one (one_cons rfl (one_cons rfl (one_cons (((((((((hqA.ext e4).chgBk b4 (by decide) q5).ext e6).ext e7).chgBk b7 (by decide) q8).ext e9).chgBk ((((b5.ext e6).ext e7).chg q8 (by first | assumption | omega)).ext e9) (by decide) q10).chgBk ((b8.ext e9).chg q10 (by first | assumption | omega)) (by decide) q11).nl).one (one_cons rfl one_nil)))))) rfl (fun w13 b13 q13 => ?_)
      have z13 := Nat.le_of_eq q13.size.symm
      have e13 : Ext w w13 := q13.ext e11 (by omega)
      refine O_assign rfl rfl rfl ?_
      refine WL_end [(6, _), (7, _)] ⟨rfl, rfl, trivial⟩ ?_
      refine WP_ret ?_
      refine retL Try.results32 (.cell rfl S28 b13 rfl (.tmp rfl .nil)) ?_
      exact ⟨_, rfl, e13, _, _, _, _, _, _, _, rfl, ((((((hqB.ext e7).chgBk b7 (by decide) q8).ext e9).chgBk ((((b5.ext e6).ext e7).chg q8 (by first | assumption | omega)).ext e9) (by decide) q10).chgBk ((b8.ext e9).chg q10 (by first | assumption | omega)) (by decide) q11).chgBk (((((((((b2.ext e3).ext e4).chg q5 (by first | assumption | omega)).ext e6).ext e7).chg q8 (by first | assumption | omega)).ext e9).chg q10 (by first | assumption | omega)).chg q11 (by first | assumption | omega)) (by decide) q13).mono (by omega), (((((((((hqA.ext e4).chgBk b4 (by decide) q5).ext e6).ext e7).chgBk b7 (by decide) q8).ext e9).chgBk ((((b5.ext e6).ext e7).chg q8 (by first | assumption | omega)).ext e9) (by decide) q10).chgBk ((b8.ext e9).chg q10 (by first | assumption | omega)) (by decide) q11).chgBk (((((((((b2.ext e3).ext e4).chg q5 (by first | assumption | omega)).ext e6).ext e7).chg q8 (by first | assumption | omega)).ext e9).chg q10 (by first | assumption | omega)).chg q11 (by first | assumption | omega)) (by decide) q13).mono (by omega), hvB, hvA, (by have := dcmp_swap_le hvA hvB c31; exact this), hkB, hjB, hkA, hjA, hlB, hlA⟩
  · --
    refine WP_skip ?_
    refine WP_seq ?_
    refine WP_region ?_
    refine O_loadA (vs := [_, _, _]) S26 rfl rfl rfl ((((b5.ext e6).ext e7).chg q8 (by first | assumption | omega)).ext e9) rfl rfl ?_
    refine O_loadA (vs := [_, _, _]) S26 rfl rfl rfl (b8.ext e9) rfl rfl ?_
    refine O_build (cs := [_, _, _, _, _, _]) B28 rfl rfl rfl (cells_cons rfl (cells_cons rfl cells_nil)) rfl ?_
    refine O_move rfl rfl rfl ?_
    refine O_move rfl rfl rfl ?_
    refine WL_bool 38 rfl (fun g38 => ?_) (fun g38 => ?_)
    · --
      refine O_move rfl rfl rfl ?_
      refine O_pickT rfl rfl rfl rfl ?_
      refine O_storeA (cs' := [_, _, _, _, _, _]) S28 rfl rfl rfl (((((((b2.ext e3).ext e4).chg q5 (by first | assumption | omega)).ext e6).ext e7).chg q8 (by first | assumption | omega)).ext e9) rfl rfl (one_cons rfl (one_cons (((((((hqA.ext e4).chgBk b4 (by decide) q5).ext e6).ext e7).chgBk b7 (by decide) q8).ext e9).nl).one (one_cons rfl (one_cons rfl (one_cons ((((hqB.ext e7).chgBk b7 (by decide) q8).ext e9).nl).one (one_cons rfl one_nil)))))) rfl (fun w14 b14 q14 => ?_)
      have z14 := Nat.le_of_eq q14.size.symm
      have e14 : Ext w w14 := q14.ext (e8.trans e9) (by omega)
      refine O_assign rfl rfl rfl ?_
      refine WL_end [(6, _), (7, _)] ⟨rfl, rfl, trivial⟩ ?_
      refine WP_ret ?_
      refine retL Try.results32 (.cell rfl S28 b14 rfl (.tmp rfl .nil)) ?_
      exact ⟨_, rfl, e14, _, _, _, _, _, _, _, rfl, (((((((hqA.ext e4).chgBk b4 (by decide) q5).ext e6).ext e7).chgBk b7 (by decide) q8).ext e9).chgBk (((((((b2.ext e3).ext e4).chg q5 (by first | assumption | omega)).ext e6).ext e7).chg q8 (by first | assumption | omega)).ext e9) (by decide) q14).mono (by omega), ((((hqB.ext e7).chgBk b7 (by decide) q8).ext e9).chgBk (((((((b2.ext e3).ext e4).chg q5 (by first | assumption | omega)).ext e6).ext e7).chg q8 (by first | assumption | omega)).ext e9) (by decide) q14).mono (by omega), hvA, hvB, (by omega), hkA, hjA, hkB, hjB, hlA, hlB⟩
    · --
      refine O_skip rfl rfl ?_
      refine O_pickF rfl rfl rfl rfl ?_
      refine O_storeA (cs' := [_, _, _, _, _, _]) S28 rfl rfl rfl (((((((b2.ext e3).ext e4).chg q5 (by first | assumption | omega)).ext e6).ext e7).chg q8 (by first | assumption | omega)).ext e9) rfl rfl (one_cons rfl (one_cons (((((((hqA.ext e4).chgBk b4 (by decide) q5).ext e6).ext e7).chgBk b7 (by decide) q8).ext e9).nl).one (one_cons rfl (one_cons rfl (one_cons ((((hqB.ext e7).chgBk b7 (by decide) q8).ext e9).nl).one (one_cons rfl one_nil)))))) rfl (fun w15 b15 q15 => ?_)
      have z15 := Nat.le_of_eq q15.size.symm
      have e15 : Ext w w15 := q15.ext (e8.trans e9) (by omega)
      refine O_assign rfl rfl rfl ?_
      refine WL_end [(6, _), (7, _)] ⟨rfl, rfl, trivial⟩ ?_
      refine WP_ret ?_
      refine retL Try.results32 (.cell rfl S28 b15 rfl (.tmp rfl .nil)) ?_
      exact ⟨_, rfl, e15, _, _, _, _, _, _, _, rfl, (((((((hqA.ext e4).chgBk b4 (by decide) q5).ext e6).ext e7).chgBk b7 (by decide) q8).ext e9).chgBk (((((((b2.ext e3).ext e4).chg q5 (by first | assumption | omega)).ext e6).ext e7).chg q8 (by first | assumption | omega)).ext e9) (by decide) q15).mono (by omega), ((((hqB.ext e7).chgBk b7 (by decide) q8).ext e9).chgBk (((((((b2.ext e3).ext e4).chg q5 (by first | assumption | omega)).ext e6).ext e7).chg q8 (by first | assumption | omega)).ext e9) (by decide) q15).mono (by omega), hvA, hvB, (by omega), hkA, hjA, hkB, hjB, hlA, hlB⟩

theorem two10_c {w : World} {vx vy vz vu : Value} {lx ly lz lu : List Nat} {bx by_ bz bu : Bool} {e f g h : Int} (hx : Nl w vx lx) (hy : Nl w vy ly) (hz : Nl w vz lz) (hu : Nl w vu lu) :
    Calls Try.prog 8 #[.agg #[.bool bx, vx, .int .i64 e, .bool by_, vy, .int .i64 f], .agg #[.bool bz, vz, .int .i64 g, .bool bu, vu, .int .i64 h]] w (Ret w fun r w' => ∃ x e y f z g u h q s t v b, r = .tuple #[.agg #[.bool (decide ((x) < 0)), q, .int .i64 (e), .bool (decide ((y) < 0)), s, .int .i64 (f)], .agg #[.bool (decide ((z) < 0)), t, .int .i64 (g), .bool (decide ((u) < 0)), v, .int .i64 (h)], .bool b] ∧ No w.heap.size 93 w' q (dig x.natAbs) ∧ No w.heap.size 93 w' s (dig y.natAbs) ∧ No w.heap.size 93 w' t (dig z.natAbs) ∧ No w.heap.size 93 w' v (dig u.natAbs) ∧ (dval x e = true ∧ dval y f = true ∧ dcmp x e y f ≤ 0 ∧ -60 ≤ e ∧ e ≤ 220 ∧ -60 ≤ f ∧ f ≤ 220 ∧ (dig x.natAbs).length ≤ 5 ∧ (dig y.natAbs).length ≤ 5) ∧ (dval z g = true ∧ dval u h = true ∧ dcmp z g u h ≤ 0 ∧ -60 ≤ g ∧ g ≤ 220 ∧ -60 ≤ h ∧ h ≤ 220 ∧ (dig z.natAbs).length ≤ 5 ∧ (dig u.natAbs).length ≤ 5)) := by
  refine enter (args := [_, _]) Try.func8 rfl Try.ntmps8 rfl ?_
  refine WP_seq ?_
  refine WP_region ?_
  refine O_box _ rfl rfl rfl rfl (fun g1 w1 b1 e1 gl1 gh1 => ?_)
  have z1 := e1.size
  refine O_box _ rfl rfl rfl rfl (fun g2 w2 b2 e2 gl2 gh2 => ?_)
  have z2 := e2.size
  refine O_alloc S28 rfl rfl (fun g3 w3 b3 e3 gl3 gh3 => ?_)
  have z3 := e3.size
  refine O_alloc S28 rfl rfl (fun g4 w4 b4 e4 gl4 gh4 => ?_)
  have z4 := e4.size
  refine O_assign rfl rfl rfl ?_
  refine WL_end [(2, _), (3, _), (4, _), (5, _)] ⟨rfl, rfl, rfl, rfl, trivial⟩ ?_
  refine WP_seq ?_
  refine WP_region ?_
  refine O_loadA (vs := [_, _, _, _, _, _]) S28 rfl rfl rfl (((b1.ext e2).ext e3).ext e4) rfl rfl ?_
  refine O_call enters32 rfl rfl rfl (mint10_c (n := 5) (m := 60) (hx.ext (((e1.trans e2).trans e3).trans e4)) (hy.ext (((e1.trans e2).trans e3).trans e4)) (by decide)) (fun v5 w5 e5 h5 => ?_)
  have z5 := e5.size
  try simp only [val_dig] at h5
  obtain ⟨xA, eA, yA, fA, qA, sA, bA, rfl, hqA, hsA, hvA, huA, hcA, hkA, hjA, hmA, hnA, hlA, hoA⟩ := h5
  refine O_move rfl rfl rfl ?_
  refine O_extract rfl rfl rfl rfl ?_
  refine O_extract rfl rfl rfl rfl ?_
  refine O_alloc S28 rfl rfl (fun g6 w6 b6 e6 gl6 gh6 => ?_)
  have z6 := e6.size
  refine O_storeA (cs' := [_, _, _, _, _, _]) S28 rfl rfl rfl b6 rfl rfl (one_cons rfl (one_cons ((hqA.ext e6).nl).one (one_cons rfl (one_cons rfl (one_cons ((hsA.ext e6).nl).one (one_cons rfl one_nil)))))) rfl (fun w7 b7 q7 => ?_)
  have z7 := Nat.le_of_eq q7.size.symm
  have e7 : Ext w w7 := q7.ext (((((e1.trans e2).trans e3).trans e4).trans e5).trans e6) (by omega)
  refine O_assign rfl rfl rfl ?_
  refine WL_end [(3, _), (4, _), (5, _), (7, _), (8, _)] ⟨rfl, rfl, rfl, rfl, rfl, trivial⟩ ?_
  refine WP_seq ?_
  refine WP_region ?_
  refine O_loadA (vs := [_, _, _, _, _, _]) S28 rfl rfl rfl (((((b2.ext e3).ext e4).ext e5).ext e6).chg q7 (by first | assumption | omega)) rfl rfl ?_
  refine O_call enters32 rfl rfl rfl (mint10_c (n := 5) (m := 60) (hz.ext e7) (hu.ext e7) (by decide)) (fun v8 w8 e8 h8 => ?_)
  have z8 := e8.size
  try simp only [val_dig] at h8
  obtain ⟨xB, eB, yB, fB, qB, sB, bB, rfl, hqB, hsB, hvB, huB, hcB, hkB, hjB, hmB, hnB, hlB, hoB⟩ := h8
  refine O_move rfl rfl rfl ?_
  refine O_extract rfl rfl rfl rfl ?_
  refine O_extract rfl rfl rfl rfl ?_
  refine O_alloc S28 rfl rfl (fun g9 w9 b9 e9 gl9 gh9 => ?_)
  have z9 := e9.size
  refine O_storeA (cs' := [_, _, _, _, _, _]) S28 rfl rfl rfl b9 rfl rfl (one_cons rfl (one_cons ((hqB.ext e9).nl).one (one_cons rfl (one_cons rfl (one_cons ((hsB.ext e9).nl).one (one_cons rfl one_nil)))))) rfl (fun w10 b10 q10 => ?_)
  have z10 := Nat.le_of_eq q10.size.symm
  have e10 : Ext w w10 := q10.ext ((e7.trans e8).trans e9) (by omega)
  refine O_assign rfl rfl rfl ?_
  refine WL_end [(4, _), (5, _), (7, _), (8, _), (9, _), (10, _)] ⟨rfl, rfl, rfl, rfl, rfl, rfl, trivial⟩ ?_
  refine WP_seq ?_
  cases bA
  · skip
    refine WP_sub [(4, _), (5, _), (7, _), (8, _), (9, _), (10, _)] ⟨rfl, rfl, rfl, rfl, rfl, rfl, trivial⟩ ?_
    have hS11 : ∀ g T, (g, T) ∈ (⟨[(g3, (28, 6)), (g4, (28, 6))], [], (w10).heap.size⟩ : SS) → (BkT w10 g T ∨ (w10).heap.size ≤ g) ∧ 93 ≠ T.1 := by
      intro g T hm; rw [mem_SS] at hm; simp only [List.mem_cons, Prod.mk.injEq, List.not_mem_nil, or_false, false_or, and_false] at hm
      rcases hm with ⟨rfl, rfl⟩ | ⟨rfl, rfl⟩
      · exact ⟨.inl ⟨_, (((((((b3.ext e4).ext e5).ext e6).chg q7 (by first | assumption | omega)).ext e8).ext e9).chg q10 (by first | assumption | omega)), rfl⟩, by decide⟩
      · exact ⟨.inl ⟨_, ((((((b4.ext e5).ext e6).chg q7 (by first | assumption | omega)).ext e8).ext e9).chg q10 (by first | assumption | omega)), rfl⟩, by decide⟩
    have hS11n := fun g T hm => (hS11 g T hm).2
    refine WP_anySR (⟨[(g3, (28, 6)), (g4, (28, 6))], [], (w10).heap.size⟩ : SS) 8 [4, 5, 7, 8, 9, 10] mixed rfl (by kernel_rfl) (Nat.le_refl _) ?_
    apply AnySR_val [7] rfl (by kernel_rfl)
    · --
      intro y12 hy12
      have zy12 := hy12.size
      have hyE12 : Ext w y12 := hy12.ext e10 (by intro g T hm; rw [mem_SS] at hm; simp only [List.mem_cons, Prod.mk.injEq, List.not_mem_nil, or_false, false_or, and_false] at hm; omega)
      refine AllS_nil ?_
      refine O_loadA (vs := [_, _, _, _, _, _]) S28 rfl rfl rfl ((((b7.ext e8).ext e9).chg q10 (by first | assumption | omega)).extS hy12 (by intro T hm; rw [mem_SS] at hm; simp only [List.mem_cons, Prod.mk.injEq, List.not_mem_nil, or_false, false_or, and_false] at hm; omega)) rfl rfl ?_
      exact WL_nil ⟨(Ext.refl _), rfl⟩
    apply AnySR_val [9] rfl (by kernel_rfl)
    · --
      intro y13 hy13
      have zy13 := hy13.size
      have hyE13 : Ext w y13 := hy13.ext e10 (by intro g T hm; rw [mem_SS] at hm; simp only [List.mem_cons, Prod.mk.injEq, List.not_mem_nil, or_false, false_or, and_false] at hm; omega)
      refine AllS_nil ?_
      refine O_loadA (vs := [_, _, _, _, _, _]) S28 rfl rfl rfl (b10.extS hy13 (by intro T hm; rw [mem_SS] at hm; simp only [List.mem_cons, Prod.mk.injEq, List.not_mem_nil, or_false, false_or, and_false] at hm; omega)) rfl rfl ?_
      exact WL_nil ⟨(Ext.refl _), rfl⟩
    apply AnySR_val [8] rfl (by kernel_rfl)
    · --
      intro y14 hy14
      have zy14 := hy14.size
      have hyE14 : Ext w y14 := hy14.ext e10 (by intro g T hm; rw [mem_SS] at hm; simp only [List.mem_cons, Prod.mk.injEq, List.not_mem_nil, or_false, false_or, and_false] at hm; omega)
      refine AllS_nil ?_
      refine O_move rfl rfl rfl ?_
      exact WL_nil ⟨(Ext.refl _), rfl⟩
    apply AnySR_val [23] rfl (by kernel_rfl)
    · --
      intro y15 hy15
      have zy15 := hy15.size
      have hyE15 : Ext w y15 := hy15.ext e10 (by intro g T hm; rw [mem_SS] at hm; simp only [List.mem_cons, Prod.mk.injEq, List.not_mem_nil, or_false, false_or, and_false] at hm; omega)
      refine AllS_v ?_
      refine AllS_nil ?_
      refine O_move rfl rfl rfl ?_
      exact WL_nil ⟨(Ext.refl _), rfl⟩
    apply AnySR_val [24, 10] rfl (by kernel_rfl)
    · --
      intro y16 hy16
      have zy16 := hy16.size
      have hyE16 : Ext w y16 := hy16.ext e10 (by intro g T hm; rw [mem_SS] at hm; simp only [List.mem_cons, Prod.mk.injEq, List.not_mem_nil, or_false, false_or, and_false] at hm; omega)
      refine AllS_v ?_
      refine AllS_nil ?_
      refine O_skip rfl rfl ?_
      exact WL_nil ⟨(Ext.refl _), rfl⟩
    apply AnySR_val [24, 25] rfl (by kernel_rfl)
    · --
      intro y17 hy17
      have zy17 := hy17.size
      have hyE17 : Ext w y17 := hy17.ext e10 (by intro g T hm; rw [mem_SS] at hm; simp only [List.mem_cons, Prod.mk.injEq, List.not_mem_nil, or_false, false_or, and_false] at hm; omega)
      refine AllS_v ?_
      refine AllS_v ?_
      refine AllS_nil ?_
      refine O_pickF rfl rfl rfl rfl ?_
      exact WL_nil ⟨(Ext.refl _), rfl⟩
    apply AnySR_st g3 (28, 6) (pSt g3 28 [pEq _, pEq _, pEq _, pEq _, pEq _, pEq _]) [4, 21] rfl (.inl (by simp)) (pSt_monoS (PsS.cons pEq_monoS (PsS.cons pEq_monoS (PsS.cons pEq_monoS (PsS.cons pEq_monoS (PsS.cons pEq_monoS (PsS.cons pEq_monoS PsS.nil))))))) (by exact (compat_cons ⟨trivial, trivial⟩ (compat_cons ⟨trivial, trivial⟩ (compat_cons ⟨trivial, trivial⟩ (compat_cons ⟨trivial, trivial⟩ (compat_cons ⟨trivial, trivial⟩ (compat_cons ⟨trivial, trivial⟩ compat_nil))))))) (by kernel_rfl)
    · --
      intro y18 hy18
      have zy18 := hy18.size
      have hyE18 : Ext w y18 := hy18.ext e10 (by intro g T hm; rw [mem_SS] at hm; simp only [List.mem_cons, Prod.mk.injEq, List.not_mem_nil, or_false, false_or, and_false] at hm; omega)
      refine AllS_v ?_
      refine AllS_nil ?_
      have hB18 := hy18.tag g3 (28, 6) (.inl (by simp)) ⟨_, (((((((b3.ext e4).ext e5).ext e6).chg q7 (by first | assumption | omega)).ext e8).ext e9).chg q10 (by first | assumption | omega)), rfl⟩
      refine O_storeW S28 rfl rfl rfl hB18 rfl (one_cons rfl (one_cons (((((((hqA.ext e6).chgBk b6 (by decide) q7).ext e8).ext e9).chgBk b9 (by decide) q10).extS hy18 hS11).nl).one (one_cons rfl (one_cons rfl (one_cons (((((((hsA.ext e6).chgBk b6 (by decide) q7).ext e8).ext e9).chgBk b9 (by decide) q10).extS hy18 hS11).nl).one (one_cons rfl one_nil)))))) (fun w18 b18 q18 => ?_)
      obtain ⟨cs18, hk18, hl18⟩ := hB18
      exact WL_nil ⟨⟨⟨cs18, hk18, hl18⟩, q18, ⟨_, b18, rfl⟩⟩, _, b18, (AllP.cons rfl (AllP.cons rfl (AllP.cons rfl (AllP.cons rfl (AllP.cons rfl (AllP.cons rfl AllP.nil))))))⟩
    apply AnySR_st g4 (28, 6) (pSt g4 28 [pEq _, pEq _, pEq _, pEq _, pEq _, pEq _]) [5, 22] rfl (.inl (by simp)) (pSt_monoS (PsS.cons pEq_monoS (PsS.cons pEq_monoS (PsS.cons pEq_monoS (PsS.cons pEq_monoS (PsS.cons pEq_monoS (PsS.cons pEq_monoS PsS.nil))))))) (by exact (compat_cons ⟨(show g4 ≠ g3 from by omega), (show g3 ≠ g4 from by omega)⟩ (compat_cons ⟨trivial, trivial⟩ (compat_cons ⟨trivial, trivial⟩ (compat_cons ⟨trivial, trivial⟩ (compat_cons ⟨trivial, trivial⟩ (compat_cons ⟨trivial, trivial⟩ (compat_cons ⟨trivial, trivial⟩ compat_nil)))))))) (by kernel_rfl)
    · --
      intro y19 hy19
      have zy19 := hy19.size
      have hyE19 : Ext w y19 := hy19.ext e10 (by intro g T hm; rw [mem_SS] at hm; simp only [List.mem_cons, Prod.mk.injEq, List.not_mem_nil, or_false, false_or, and_false] at hm; omega)
      refine AllS_v ?_
      refine AllS_nil ?_
      have hB19 := hy19.tag g4 (28, 6) (.inl (by simp)) ⟨_, ((((((b4.ext e5).ext e6).chg q7 (by first | assumption | omega)).ext e8).ext e9).chg q10 (by first | assumption | omega)), rfl⟩
      refine O_storeW S28 rfl rfl rfl hB19 rfl (one_cons rfl (one_cons ((((hqB.ext e9).chgBk b9 (by decide) q10).extS hy19 hS11).nl).one (one_cons rfl (one_cons rfl (one_cons ((((hsB.ext e9).chgBk b9 (by decide) q10).extS hy19 hS11).nl).one (one_cons rfl one_nil)))))) (fun w19 b19 q19 => ?_)
      obtain ⟨cs19, hk19, hl19⟩ := hB19
      exact WL_nil ⟨⟨⟨cs19, hk19, hl19⟩, q19, ⟨_, b19, rfl⟩⟩, _, b19, (AllP.cons rfl (AllP.cons rfl (AllP.cons rfl (AllP.cons rfl (AllP.cons rfl (AllP.cons rfl AllP.nil))))))⟩
    refine AnySR_nil fun y20 hy20 => ?_
    have zy20 := hy20.size
    have hyE20 : Ext w y20 := hy20.ext e10 (by intro g T hm; rw [mem_SS] at hm; simp only [List.mem_cons, Prod.mk.injEq, List.not_mem_nil, or_false, false_or, and_false] at hm; omega)
    refine AllS_v ?_
    refine AllS_v ?_
    refine AllS_v ?_
    refine AllS_v ?_
    refine AllS_v ?_
    refine AllS_v ?_
    refine AllS_q fun hq21 => ?_
    obtain ⟨_, hb21, u21_0, _, rfl, rfl, u21_1, _, rfl, rfl, u21_2, _, rfl, rfl, u21_3, _, rfl, rfl, u21_4, _, rfl, rfl, u21_5, _, rfl, rfl, rfl⟩ := hq21
    refine AllS_q fun hq22 => ?_
    obtain ⟨_, hb22, u22_0, _, rfl, rfl, u22_1, _, rfl, rfl, u22_2, _, rfl, rfl, u22_3, _, rfl, rfl, u22_4, _, rfl, rfl, u22_5, _, rfl, rfl, rfl⟩ := hq22
    refine AllS_nil ?_
    refine O_assign rfl rfl rfl ?_
    refine WL_end [(4, _), (5, _), (6, _)] ⟨rfl, rfl, rfl, trivial⟩ ?_
    refine WP_ret ?_
    refine retL Try.results8 (.cell rfl S28 hb21 rfl (.cell rfl S28 hb22 rfl (.tmp rfl .nil))) ?_
    exact ⟨_, rfl, hyE20, _, _, _, _, _, _, _, _, _, _, _, _, _, rfl, ((((((hqA.ext e6).chgBk b6 (by decide) q7).ext e8).ext e9).chgBk b9 (by decide) q10).extS hy20 hS11).mono (by omega), ((((((hsA.ext e6).chgBk b6 (by decide) q7).ext e8).ext e9).chgBk b9 (by decide) q10).extS hy20 hS11).mono (by omega), (((hqB.ext e9).chgBk b9 (by decide) q10).extS hy20 hS11).mono (by omega), (((hsB.ext e9).chgBk b9 (by decide) q10).extS hy20 hS11).mono (by omega), ⟨hvA, huA, hcA, hkA, hjA, hmA, hnA, hlA, hoA⟩, ⟨hvB, huB, hcB, hkB, hjB, hmB, hnB, hlB, hoB⟩⟩
  · skip
    refine WP_sub [(4, _), (5, _), (7, _), (8, _), (9, _), (10, _)] ⟨rfl, rfl, rfl, rfl, rfl, rfl, trivial⟩ ?_
    have hS23 : ∀ g T, (g, T) ∈ (⟨[(g3, (28, 6)), (g4, (28, 6))], [], (w10).heap.size⟩ : SS) → (BkT w10 g T ∨ (w10).heap.size ≤ g) ∧ 93 ≠ T.1 := by
      intro g T hm; rw [mem_SS] at hm; simp only [List.mem_cons, Prod.mk.injEq, List.not_mem_nil, or_false, false_or, and_false] at hm
      rcases hm with ⟨rfl, rfl⟩ | ⟨rfl, rfl⟩
      · exact ⟨.inl ⟨_, (((((((b3.ext e4).ext e5).ext e6).chg q7 (by first | assumption | omega)).ext e8).ext e9).chg q10 (by first | assumption | omega)), rfl⟩, by decide⟩
      · exact ⟨.inl ⟨_, ((((((b4.ext e5).ext e6).chg q7 (by first | assumption | omega)).ext e8).ext e9).chg q10 (by first | assumption | omega)), rfl⟩, by decide⟩
    have hS23n := fun g T hm => (hS23 g T hm).2
    refine WP_anySR (⟨[(g3, (28, 6)), (g4, (28, 6))], [], (w10).heap.size⟩ : SS) 8 [4, 5, 7, 8, 9, 10] mixed rfl (by kernel_rfl) (Nat.le_refl _) ?_
    apply AnySR_val [7] rfl (by kernel_rfl)
    · --
      intro y24 hy24
      have zy24 := hy24.size
      have hyE24 : Ext w y24 := hy24.ext e10 (by intro g T hm; rw [mem_SS] at hm; simp only [List.mem_cons, Prod.mk.injEq, List.not_mem_nil, or_false, false_or, and_false] at hm; omega)
      refine AllS_nil ?_
      refine O_loadA (vs := [_, _, _, _, _, _]) S28 rfl rfl rfl ((((b7.ext e8).ext e9).chg q10 (by first | assumption | omega)).extS hy24 (by intro T hm; rw [mem_SS] at hm; simp only [List.mem_cons, Prod.mk.injEq, List.not_mem_nil, or_false, false_or, and_false] at hm; omega)) rfl rfl ?_
      exact WL_nil ⟨(Ext.refl _), rfl⟩
    apply AnySR_val [9] rfl (by kernel_rfl)
    · --
      intro y25 hy25
      have zy25 := hy25.size
      have hyE25 : Ext w y25 := hy25.ext e10 (by intro g T hm; rw [mem_SS] at hm; simp only [List.mem_cons, Prod.mk.injEq, List.not_mem_nil, or_false, false_or, and_false] at hm; omega)
      refine AllS_nil ?_
      refine O_loadA (vs := [_, _, _, _, _, _]) S28 rfl rfl rfl (b10.extS hy25 (by intro T hm; rw [mem_SS] at hm; simp only [List.mem_cons, Prod.mk.injEq, List.not_mem_nil, or_false, false_or, and_false] at hm; omega)) rfl rfl ?_
      exact WL_nil ⟨(Ext.refl _), rfl⟩
    apply AnySR_val [8] rfl (by kernel_rfl)
    · --
      intro y26 hy26
      have zy26 := hy26.size
      have hyE26 : Ext w y26 := hy26.ext e10 (by intro g T hm; rw [mem_SS] at hm; simp only [List.mem_cons, Prod.mk.injEq, List.not_mem_nil, or_false, false_or, and_false] at hm; omega)
      refine AllS_nil ?_
      refine O_move rfl rfl rfl ?_
      exact WL_nil ⟨(Ext.refl _), rfl⟩
    apply AnySR_val [23] rfl (by kernel_rfl)
    · --
      intro y27 hy27
      have zy27 := hy27.size
      have hyE27 : Ext w y27 := hy27.ext e10 (by intro g T hm; rw [mem_SS] at hm; simp only [List.mem_cons, Prod.mk.injEq, List.not_mem_nil, or_false, false_or, and_false] at hm; omega)
      refine AllS_v ?_
      refine AllS_nil ?_
      refine O_move rfl rfl rfl ?_
      exact WL_nil ⟨(Ext.refl _), rfl⟩
    apply AnySR_val [24, 10] rfl (by kernel_rfl)
    · --
      intro y28 hy28
      have zy28 := hy28.size
      have hyE28 : Ext w y28 := hy28.ext e10 (by intro g T hm; rw [mem_SS] at hm; simp only [List.mem_cons, Prod.mk.injEq, List.not_mem_nil, or_false, false_or, and_false] at hm; omega)
      refine AllS_v ?_
      refine AllS_nil ?_
      refine O_move rfl rfl rfl ?_
      exact WL_nil ⟨(Ext.refl _), rfl⟩
    apply AnySR_val [24, 25] rfl (by kernel_rfl)
    · --
      intro y29 hy29
      have zy29 := hy29.size
      have hyE29 : Ext w y29 := hy29.ext e10 (by intro g T hm; rw [mem_SS] at hm; simp only [List.mem_cons, Prod.mk.injEq, List.not_mem_nil, or_false, false_or, and_false] at hm; omega)
      refine AllS_v ?_
      refine AllS_v ?_
      refine AllS_nil ?_
      refine O_pickT rfl rfl rfl rfl ?_
      exact WL_nil ⟨(Ext.refl _), rfl⟩
    apply AnySR_st g3 (28, 6) (pSt g3 28 [pEq _, pEq _, pEq _, pEq _, pEq _, pEq _]) [4, 21] rfl (.inl (by simp)) (pSt_monoS (PsS.cons pEq_monoS (PsS.cons pEq_monoS (PsS.cons pEq_monoS (PsS.cons pEq_monoS (PsS.cons pEq_monoS (PsS.cons pEq_monoS PsS.nil))))))) (by exact (compat_cons ⟨trivial, trivial⟩ (compat_cons ⟨trivial, trivial⟩ (compat_cons ⟨trivial, trivial⟩ (compat_cons ⟨trivial, trivial⟩ (compat_cons ⟨trivial, trivial⟩ (compat_cons ⟨trivial, trivial⟩ compat_nil))))))) (by kernel_rfl)
    · --
      intro y30 hy30
      have zy30 := hy30.size
      have hyE30 : Ext w y30 := hy30.ext e10 (by intro g T hm; rw [mem_SS] at hm; simp only [List.mem_cons, Prod.mk.injEq, List.not_mem_nil, or_false, false_or, and_false] at hm; omega)
      refine AllS_v ?_
      refine AllS_nil ?_
      have hB30 := hy30.tag g3 (28, 6) (.inl (by simp)) ⟨_, (((((((b3.ext e4).ext e5).ext e6).chg q7 (by first | assumption | omega)).ext e8).ext e9).chg q10 (by first | assumption | omega)), rfl⟩
      refine O_storeW S28 rfl rfl rfl hB30 rfl (one_cons rfl (one_cons (((((((hqA.ext e6).chgBk b6 (by decide) q7).ext e8).ext e9).chgBk b9 (by decide) q10).extS hy30 hS23).nl).one (one_cons rfl (one_cons rfl (one_cons (((((((hsA.ext e6).chgBk b6 (by decide) q7).ext e8).ext e9).chgBk b9 (by decide) q10).extS hy30 hS23).nl).one (one_cons rfl one_nil)))))) (fun w30 b30 q30 => ?_)
      obtain ⟨cs30, hk30, hl30⟩ := hB30
      exact WL_nil ⟨⟨⟨cs30, hk30, hl30⟩, q30, ⟨_, b30, rfl⟩⟩, _, b30, (AllP.cons rfl (AllP.cons rfl (AllP.cons rfl (AllP.cons rfl (AllP.cons rfl (AllP.cons rfl AllP.nil))))))⟩
    apply AnySR_st g4 (28, 6) (pSt g4 28 [pEq _, pEq _, pEq _, pEq _, pEq _, pEq _]) [5, 22] rfl (.inl (by simp)) (pSt_monoS (PsS.cons pEq_monoS (PsS.cons pEq_monoS (PsS.cons pEq_monoS (PsS.cons pEq_monoS (PsS.cons pEq_monoS (PsS.cons pEq_monoS PsS.nil))))))) (by exact (compat_cons ⟨(show g4 ≠ g3 from by omega), (show g3 ≠ g4 from by omega)⟩ (compat_cons ⟨trivial, trivial⟩ (compat_cons ⟨trivial, trivial⟩ (compat_cons ⟨trivial, trivial⟩ (compat_cons ⟨trivial, trivial⟩ (compat_cons ⟨trivial, trivial⟩ (compat_cons ⟨trivial, trivial⟩ compat_nil)))))))) (by kernel_rfl)
    · --
      intro y31 hy31
      have zy31 := hy31.size
      have hyE31 : Ext w y31 := hy31.ext e10 (by intro g T hm; rw [mem_SS] at hm; simp only [List.mem_cons, Prod.mk.injEq, List.not_mem_nil, or_false, false_or, and_false] at hm; omega)
      refine AllS_v ?_
      refine AllS_nil ?_
      have hB31 := hy31.tag g4 (28, 6) (.inl (by simp)) ⟨_, ((((((b4.ext e5).ext e6).chg q7 (by first | assumption | omega)).ext e8).ext e9).chg q10 (by first | assumption | omega)), rfl⟩
      refine O_storeW S28 rfl rfl rfl hB31 rfl (one_cons rfl (one_cons ((((hqB.ext e9).chgBk b9 (by decide) q10).extS hy31 hS23).nl).one (one_cons rfl (one_cons rfl (one_cons ((((hsB.ext e9).chgBk b9 (by decide) q10).extS hy31 hS23).nl).one (one_cons rfl one_nil)))))) (fun w31 b31 q31 => ?_)
      obtain ⟨cs31, hk31, hl31⟩ := hB31
      exact WL_nil ⟨⟨⟨cs31, hk31, hl31⟩, q31, ⟨_, b31, rfl⟩⟩, _, b31, (AllP.cons rfl (AllP.cons rfl (AllP.cons rfl (AllP.cons rfl (AllP.cons rfl (AllP.cons rfl AllP.nil))))))⟩
    refine AnySR_nil fun y32 hy32 => ?_
    have zy32 := hy32.size
    have hyE32 : Ext w y32 := hy32.ext e10 (by intro g T hm; rw [mem_SS] at hm; simp only [List.mem_cons, Prod.mk.injEq, List.not_mem_nil, or_false, false_or, and_false] at hm; omega)
    refine AllS_v ?_
    refine AllS_v ?_
    refine AllS_v ?_
    refine AllS_v ?_
    refine AllS_v ?_
    refine AllS_v ?_
    refine AllS_q fun hq33 => ?_
    obtain ⟨_, hb33, u33_0, _, rfl, rfl, u33_1, _, rfl, rfl, u33_2, _, rfl, rfl, u33_3, _, rfl, rfl, u33_4, _, rfl, rfl, u33_5, _, rfl, rfl, rfl⟩ := hq33
    refine AllS_q fun hq34 => ?_
    obtain ⟨_, hb34, u34_0, _, rfl, rfl, u34_1, _, rfl, rfl, u34_2, _, rfl, rfl, u34_3, _, rfl, rfl, u34_4, _, rfl, rfl, u34_5, _, rfl, rfl, rfl⟩ := hq34
    refine AllS_nil ?_
    refine O_assign rfl rfl rfl ?_
    refine WL_end [(4, _), (5, _), (6, _)] ⟨rfl, rfl, rfl, trivial⟩ ?_
    refine WP_ret ?_
    refine retL Try.results8 (.cell rfl S28 hb33 rfl (.cell rfl S28 hb34 rfl (.tmp rfl .nil))) ?_
    exact ⟨_, rfl, hyE32, _, _, _, _, _, _, _, _, _, _, _, _, _, rfl, ((((((hqA.ext e6).chgBk b6 (by decide) q7).ext e8).ext e9).chgBk b9 (by decide) q10).extS hy32 hS23).mono (by omega), ((((((hsA.ext e6).chgBk b6 (by decide) q7).ext e8).ext e9).chgBk b9 (by decide) q10).extS hy32 hS23).mono (by omega), (((hqB.ext e9).chgBk b9 (by decide) q10).extS hy32 hS23).mono (by omega), (((hsB.ext e9).chgBk b9 (by decide) q10).extS hy32 hS23).mono (by omega), ⟨hvA, huA, hcA, hkA, hjA, hmA, hnA, hlA, hoA⟩, ⟨hvB, huB, hcB, hkB, hjB, hmB, hnB, hlB, hoB⟩⟩

end Go.Proofs.Ythbfhljpfkicpaa
