/-
  Walks.
-/
import Derived.Test.YthbfhljpfkicpaaDoorV1
set_option linter.unusedVariables false
set_option linter.unusedSimpArgs false
set_option maxRecDepth 100000
namespace Go.Proofs.YthbfhljpfkicpaaDoor
open Go Go.RowKit
theorem dcmp_swap_le {x e y f : Int} (hx : dval x e = true) (hy : dval y f = true) (h : 0 < dcmp x e y f) : dcmp y f x e ≤ 0 := by
  rw [sw_dcmp hx hy, icmp_gt] at h
  rw [sw_dcmp hy hx, icmp_pos]
  omega

theorem mint10_c {w : World} {vx vy : Value} {lx ly : List Nat} {bx by_ : Bool} {e f : Int} {n m : Nat} (hx : Nl w vx lx) (hy : Nl w vy ly) (h32 : 32 * n + m ≤ 65536) :
    Calls Tryd.prog 38 #[.agg #[.bool bx, vx, .int .i64 e, .bool by_, vy, .int .i64 f], .int .i64 (n : Nat), .int .i64 (m : Nat)] w (Ret w fun r w' => ∃ x e y f q s b, r = .tuple #[.agg #[.bool (decide ((x) < 0)), q, .int .i64 (e), .bool (decide ((y) < 0)), s, .int .i64 (f)], .bool b] ∧ No w.heap.size 111 w' q (dig x.natAbs) ∧ No w.heap.size 111 w' s (dig y.natAbs) ∧ dval x e = true ∧ dval y f = true ∧ dcmp x e y f ≤ 0 ∧ -(m : Int) ≤ e ∧ e ≤ m + 32 * n ∧ -(m : Int) ≤ f ∧ f ≤ m + 32 * n ∧ (dig x.natAbs).length ≤ n ∧ (dig y.natAbs).length ≤ n) := by
 refine enter (args := [_, _, _]) Tryd.func38 rfl Tryd.ntmps38 rfl ?_
 refine WP_seq ?_
 refine WP_region ?_
 refine O_box _ rfl rfl rfl rfl (fun g1 w1 b1 e1 gl1 gh1 => ?_)
 have z1 := e1.size
 refine O_alloc S53 rfl rfl (fun g2 w2 b2 e2 gl2 gh2 => ?_)
 have z2 := e2.size
 refine O_assign rfl rfl rfl ?_
 refine WL_end [(1, _), (2, _), (3, _), (6, _)] ⟨rfl, rfl, rfl, rfl, trivial⟩ ?_
 refine WP_seq ?_
 refine WP_region ?_
 refine O_field F53_0 rfl rfl rfl ?_
 refine O_loadA (vs := [_, _, _]) S26 rfl rfl rfl (b1.ext e2) rfl rfl ?_
 refine O_move rfl rfl rfl ?_
 refine O_move rfl rfl rfl ?_
 refine O_call enters12 rfl rfl rfl (mdy_c (hx.ext (e1.trans e2)) h32) (fun v3 w3 e3 h3 => ?_)
 have z3 := e3.size
 try simp only [val_dig] at h3
 obtain ⟨xA, kA, qA, bA, rfl, hqA, hvA, hkA, hjA, hlA⟩ := h3
 refine O_move rfl rfl rfl ?_
 refine O_extract rfl rfl rfl rfl ?_
 refine O_extract rfl rfl rfl rfl ?_
 refine O_alloc S26 rfl rfl (fun g4 w4 b4 e4 gl4 gh4 => ?_)
 have z4 := e4.size
 refine O_storeA (cs' := [_, _, _]) S26 rfl rfl rfl b4 rfl rfl (one_cons rfl (one_cons ((hqA.ext e4).nl).one (one_cons rfl one_nil))) rfl (fun w5 b5 q5 => ?_)
 have z5 := Nat.le_of_eq q5.size.symm
 have e5 : Ext w w5 := q5.ext (((e1.trans e2).trans e3).trans e4) (by omega)
 refine O_assign rfl rfl rfl ?_
 refine WL_end [(1, _), (2, _), (3, _), (6, _), (8, _), (9, _)] ⟨rfl, rfl, rfl, rfl, rfl, rfl, trivial⟩ ?_
 refine WP_seq ?_
 refine WP_region ?_
 refine O_field F53_1 rfl rfl rfl ?_
 refine O_loadA (vs := [_, _, _]) S26 rfl rfl rfl ((((b1.ext e2).ext e3).ext e4).chg q5 (by first | assumption | omega)) rfl rfl ?_
 refine O_move rfl rfl rfl ?_
 refine O_move rfl rfl rfl ?_
 refine O_call enters12 rfl rfl rfl (mdy_c (hy.ext e5) h32) (fun v6 w6 e6 h6 => ?_)
 have z6 := e6.size
 try simp only [val_dig] at h6
 obtain ⟨xB, kB, qB, bB, rfl, hqB, hvB, hkB, hjB, hlB⟩ := h6
 refine O_move rfl rfl rfl ?_
 refine O_extract rfl rfl rfl rfl ?_
 refine O_extract rfl rfl rfl rfl ?_
 refine O_alloc S26 rfl rfl (fun g7 w7 b7 e7 gl7 gh7 => ?_)
 have z7 := e7.size
 refine O_storeA (cs' := [_, _, _]) S26 rfl rfl rfl b7 rfl rfl (one_cons rfl (one_cons ((hqB.ext e7).nl).one (one_cons rfl one_nil))) rfl (fun w8 b8 q8 => ?_)
 have z8 := Nat.le_of_eq q8.size.symm
 have e8 : Ext w w8 := q8.ext ((e5.trans e6).trans e7) (by omega)
 refine O_assign rfl rfl rfl ?_
 refine WL_end [(6, _), (8, _), (9, _), (10, _), (11, _)] ⟨rfl, rfl, rfl, rfl, rfl, trivial⟩ ?_
 refine WP_seq ?_
 refine WP_seq ?_
 refine WP_region ?_
 refine O_loadA (vs := [_, _, _]) S26 rfl rfl rfl (((b5.ext e6).ext e7).chg q8 (by first | assumption | omega)) rfl rfl ?_
 refine O_loadA (vs := [_, _, _]) S26 rfl rfl rfl b8 rfl rfl ?_
 refine O_call enters29 rfl rfl rfl (rdcmp_c rfl (((((hqA.ext e4).chgBk b4 (by decide) q5).ext e6).ext e7).chgBk b7 (by decide) q8).nl rfl ((hqB.ext e7).chgBk b7 (by decide) q8).nl (by (try simp only [lens]); omega) (by (try simp only [lens]); omega) (by (try simp only [lens]); omega) (by (try simp only [lens]); omega) (by (try simp only [lens]); omega) (by (try simp only [lens]); omega)) (fun v9 w9 e9 h9 => ?_)
 have z9 := e9.size
 obtain rfl := h9
 refine O_gtr rfl rfl rfl rfl rfl ?_
 refine WL_end [(6, _), (8, _), (9, _), (10, _), (11, _), (31, _)] ⟨rfl, rfl, rfl, rfl, rfl, rfl, trivial⟩ ?_
 refine WP_condD rfl (fun c31 => ?_) (fun c31 => ?_)
 · --
  refine WP_region ?_
  refine O_loadA (vs := [_, _, _]) S26 rfl rfl rfl (b8.ext e9) rfl rfl ?_
  refine O_loadA (vs := [_, _, _]) S26 rfl rfl rfl ((((b5.ext e6).ext e7).chg q8 (by first | assumption | omega)).ext e9) rfl rfl ?_
  refine O_storeA (cs' := [_, _, _]) S26 rfl rfl rfl ((((b5.ext e6).ext e7).chg q8 (by first | assumption | omega)).ext e9) rfl rfl (one_cons rfl (one_cons ((((hqB.ext e7).chgBk b7 (by decide) q8).ext e9).nl).one (one_cons rfl one_nil))) rfl (fun w10 b10 q10 => ?_)
  have z10 := Nat.le_of_eq q10.size.symm
  have e10 : Ext w w10 := q10.ext (e8.trans e9) (by omega)
  refine O_storeA (cs' := [_, _, _]) S26 rfl rfl rfl ((b8.ext e9).chg q10 (by first | assumption | omega)) rfl rfl (one_cons rfl (one_cons ((((((((hqA.ext e4).chgBk b4 (by decide) q5).ext e6).ext e7).chgBk b7 (by decide) q8).ext e9).chgBk ((((b5.ext e6).ext e7).chg q8 (by first | assumption | omega)).ext e9) (by decide) q10).nl).one (one_cons rfl one_nil))) rfl (fun w11 b11 q11 => ?_)
  have z11 := Nat.le_of_eq q11.size.symm
  have e11 : Ext w w11 := q11.ext e10 (by omega)
  refine WL_end [(6, _), (8, _), (9, _), (10, _), (11, _)] ⟨rfl, rfl, rfl, rfl, rfl, trivial⟩ ?_
  refine WP_seq ?_
  refine WP_region ?_
  refine O_loadA (vs := [_, _, _]) S26 rfl rfl rfl (b10.chg q11 (by first | assumption | omega)) rfl rfl ?_
  refine O_loadA (vs := [_, _, _]) S26 rfl rfl rfl b11 rfl rfl ?_
  refine O_build (cs := [_, _, _, _, _, _]) B53 rfl rfl rfl (cells_cons rfl (cells_cons rfl cells_nil)) rfl ?_
  refine O_move rfl rfl rfl ?_
  refine O_move rfl rfl rfl ?_
  refine WL_bool 38 rfl (fun g38 => ?_) (fun g38 => ?_)
  · --
   refine O_move rfl rfl rfl ?_
   refine O_pickT rfl rfl rfl rfl ?_
   refine O_storeA (cs' := [_, _, _, _, _, _]) S53 rfl rfl rfl (((((((((b2.ext e3).ext e4).chg q5 (by first | assumption | omega)).ext e6).ext e7).chg q8 (by first | assumption | omega)).ext e9).chg q10 (by first | assumption | omega)).chg q11 (by first | assumption | omega)) rfl rfl (one_cons rfl (one_cons ((((((hqB.ext e7).chgBk b7 (by decide) q8).ext e9).chgBk ((((b5.ext e6).ext e7).chg q8 (by first | assumption | omega)).ext e9) (by decide) q10).chgBk ((b8.ext e9).chg q10 (by first | assumption | omega)) (by decide) q11).nl).one (one_cons rfl (one_cons rfl (one_cons (((((((((hqA.ext e4).chgBk b4 (by decide) q5).ext e6).ext e7).chgBk b7 (by decide) q8).ext e9).chgBk ((((b5.ext e6).ext e7).chg q8 (by first | assumption | omega)).ext e9) (by decide) q10).chgBk ((b8.ext e9).chg q10 (by first | assumption | omega)) (by decide) q11).nl).one (one_cons rfl one_nil)))))) rfl (fun w12 b12 q12 => ?_)
   have z12 := Nat.le_of_eq q12.size.symm
   have e12 : Ext w w12 := q12.ext e11 (by omega)
   refine O_assign rfl rfl rfl ?_
   refine WL_end [(6, _), (7, _)] ⟨rfl, rfl, trivial⟩ ?_
   refine WP_ret ?_
   refine retL Tryd.results38 (.cell rfl S53 b12 rfl (.tmp rfl .nil)) ?_
   exact ⟨_, rfl, e12, _, _, _, _, _, _, _, rfl, ((((((hqB.ext e7).chgBk b7 (by decide) q8).ext e9).chgBk ((((b5.ext e6).ext e7).chg q8 (by first | assumption | omega)).ext e9) (by decide) q10).chgBk ((b8.ext e9).chg q10 (by first | assumption | omega)) (by decide) q11).chgBk (((((((((b2.ext e3).ext e4).chg q5 (by first | assumption | omega)).ext e6).ext e7).chg q8 (by first | assumption | omega)).ext e9).chg q10 (by first | assumption | omega)).chg q11 (by first | assumption | omega)) (by decide) q12).mono (by omega), (((((((((hqA.ext e4).chgBk b4 (by decide) q5).ext e6).ext e7).chgBk b7 (by decide) q8).ext e9).chgBk ((((b5.ext e6).ext e7).chg q8 (by first | assumption | omega)).ext e9) (by decide) q10).chgBk ((b8.ext e9).chg q10 (by first | assumption | omega)) (by decide) q11).chgBk (((((((((b2.ext e3).ext e4).chg q5 (by first | assumption | omega)).ext e6).ext e7).chg q8 (by first | assumption | omega)).ext e9).chg q10 (by first | assumption | omega)).chg q11 (by first | assumption | omega)) (by decide) q12).mono (by omega), hvB, hvA, (by have := dcmp_swap_le hvA hvB c31; exact this), hkB, hjB, hkA, hjA, hlB, hlA⟩
  · --
   refine O_skip rfl rfl ?_
   refine O_pickF rfl rfl rfl rfl ?_
   refine O_storeA (cs' := [_, _, _, _, _, _]) S53 rfl rfl rfl (((((((((b2.ext e3).ext e4).chg q5 (by first | assumption | omega)).ext e6).ext e7).chg q8 (by first | assumption | omega)).ext e9).chg q10 (by first | assumption | omega)).chg q11 (by first | assumption | omega)) rfl rfl (one_cons rfl (one_cons ((((((hqB.ext e7).chgBk b7 (by decide) q8).ext e9).chgBk ((((b5.ext e6).ext e7).chg q8 (by first | assumption | omega)).ext e9) (by decide) q10).chgBk ((b8.ext e9).chg q10 (by first | assumption | omega)) (by decide) q11).nl).one (one_cons rfl (one_cons rfl (one_cons (((((((((hqA.ext e4).chgBk b4 (by decide) q5).ext e6).ext e7).chgBk b7 (by decide) q8).ext e9).chgBk ((((b5.ext e6).ext e7).chg q8 (by first | assumption | omega)).ext e9) (by decide) q10).chgBk ((b8.ext e9).chg q10 (by first | assumption | omega)) (by decide) q11).nl).one (one_cons rfl one_nil)))))) rfl (fun w13 b13 q13 => ?_)
   have z13 := Nat.le_of_eq q13.size.symm
   have e13 : Ext w w13 := q13.ext e11 (by omega)
   refine O_assign rfl rfl rfl ?_
   refine WL_end [(6, _), (7, _)] ⟨rfl, rfl, trivial⟩ ?_
   refine WP_ret ?_
   refine retL Tryd.results38 (.cell rfl S53 b13 rfl (.tmp rfl .nil)) ?_
   exact ⟨_, rfl, e13, _, _, _, _, _, _, _, rfl, ((((((hqB.ext e7).chgBk b7 (by decide) q8).ext e9).chgBk ((((b5.ext e6).ext e7).chg q8 (by first | assumption | omega)).ext e9) (by decide) q10).chgBk ((b8.ext e9).chg q10 (by first | assumption | omega)) (by decide) q11).chgBk (((((((((b2.ext e3).ext e4).chg q5 (by first | assumption | omega)).ext e6).ext e7).chg q8 (by first | assumption | omega)).ext e9).chg q10 (by first | assumption | omega)).chg q11 (by first | assumption | omega)) (by decide) q13).mono (by omega), (((((((((hqA.ext e4).chgBk b4 (by decide) q5).ext e6).ext e7).chgBk b7 (by decide) q8).ext e9).chgBk ((((b5.ext e6).ext e7).chg q8 (by first | assumption | omega)).ext e9) (by decide) q10).chgBk ((b8.ext e9).chg q10 (by first | assumption | omega)) (by decide) q11).chgBk (((((((((b2.ext e3).ext e4).chg q5 (by first | assumption | omega)).ext e6).ext e7).chg q8 (by first | assumption | omega)).ext e9).chg q10 (by first | assumption | omega)).chg q11 (by first | assumption | omega)) (by decide) q13).mono (by omega), hvB, hvA, (by have := dcmp_swap_le hvA hvB c31; exact this), hkB, hjB, hkA, hjA, hlB, hlA⟩
 · --
  refine WP_skip ?_
  refine WP_seq ?_
  refine WP_region ?_
  refine O_loadA (vs := [_, _, _]) S26 rfl rfl rfl ((((b5.ext e6).ext e7).chg q8 (by first | assumption | omega)).ext e9) rfl rfl ?_
  refine O_loadA (vs := [_, _, _]) S26 rfl rfl rfl (b8.ext e9) rfl rfl ?_
  refine O_build (cs := [_, _, _, _, _, _]) B53 rfl rfl rfl (cells_cons rfl (cells_cons rfl cells_nil)) rfl ?_
  refine O_move rfl rfl rfl ?_
  refine O_move rfl rfl rfl ?_
  refine WL_bool 38 rfl (fun g38 => ?_) (fun g38 => ?_)
  · --
   refine O_move rfl rfl rfl ?_
   refine O_pickT rfl rfl rfl rfl ?_
   refine O_storeA (cs' := [_, _, _, _, _, _]) S53 rfl rfl rfl (((((((b2.ext e3).ext e4).chg q5 (by first | assumption | omega)).ext e6).ext e7).chg q8 (by first | assumption | omega)).ext e9) rfl rfl (one_cons rfl (one_cons (((((((hqA.ext e4).chgBk b4 (by decide) q5).ext e6).ext e7).chgBk b7 (by decide) q8).ext e9).nl).one (one_cons rfl (one_cons rfl (one_cons ((((hqB.ext e7).chgBk b7 (by decide) q8).ext e9).nl).one (one_cons rfl one_nil)))))) rfl (fun w14 b14 q14 => ?_)
   have z14 := Nat.le_of_eq q14.size.symm
   have e14 : Ext w w14 := q14.ext (e8.trans e9) (by omega)
   refine O_assign rfl rfl rfl ?_
   refine WL_end [(6, _), (7, _)] ⟨rfl, rfl, trivial⟩ ?_
   refine WP_ret ?_
   refine retL Tryd.results38 (.cell rfl S53 b14 rfl (.tmp rfl .nil)) ?_
   exact ⟨_, rfl, e14, _, _, _, _, _, _, _, rfl, (((((((hqA.ext e4).chgBk b4 (by decide) q5).ext e6).ext e7).chgBk b7 (by decide) q8).ext e9).chgBk (((((((b2.ext e3).ext e4).chg q5 (by first | assumption | omega)).ext e6).ext e7).chg q8 (by first | assumption | omega)).ext e9) (by decide) q14).mono (by omega), ((((hqB.ext e7).chgBk b7 (by decide) q8).ext e9).chgBk (((((((b2.ext e3).ext e4).chg q5 (by first | assumption | omega)).ext e6).ext e7).chg q8 (by first | assumption | omega)).ext e9) (by decide) q14).mono (by omega), hvA, hvB, (by omega), hkA, hjA, hkB, hjB, hlA, hlB⟩
  · --
   refine O_skip rfl rfl ?_
   refine O_pickF rfl rfl rfl rfl ?_
   refine O_storeA (cs' := [_, _, _, _, _, _]) S53 rfl rfl rfl (((((((b2.ext e3).ext e4).chg q5 (by first | assumption | omega)).ext e6).ext e7).chg q8 (by first | assumption | omega)).ext e9) rfl rfl (one_cons rfl (one_cons (((((((hqA.ext e4).chgBk b4 (by decide) q5).ext e6).ext e7).chgBk b7 (by decide) q8).ext e9).nl).one (one_cons rfl (one_cons rfl (one_cons ((((hqB.ext e7).chgBk b7 (by decide) q8).ext e9).nl).one (one_cons rfl one_nil)))))) rfl (fun w15 b15 q15 => ?_)
   have z15 := Nat.le_of_eq q15.size.symm
   have e15 : Ext w w15 := q15.ext (e8.trans e9) (by omega)
   refine O_assign rfl rfl rfl ?_
   refine WL_end [(6, _), (7, _)] ⟨rfl, rfl, trivial⟩ ?_
   refine WP_ret ?_
   refine retL Tryd.results38 (.cell rfl S53 b15 rfl (.tmp rfl .nil)) ?_
   exact ⟨_, rfl, e15, _, _, _, _, _, _, _, rfl, (((((((hqA.ext e4).chgBk b4 (by decide) q5).ext e6).ext e7).chgBk b7 (by decide) q8).ext e9).chgBk (((((((b2.ext e3).ext e4).chg q5 (by first | assumption | omega)).ext e6).ext e7).chg q8 (by first | assumption | omega)).ext e9) (by decide) q15).mono (by omega), ((((hqB.ext e7).chgBk b7 (by decide) q8).ext e9).chgBk (((((((b2.ext e3).ext e4).chg q5 (by first | assumption | omega)).ext e6).ext e7).chg q8 (by first | assumption | omega)).ext e9) (by decide) q15).mono (by omega), hvA, hvB, (by omega), hkA, hjA, hkB, hjB, hlA, hlB⟩

end Go.Proofs.YthbfhljpfkicpaaDoor
