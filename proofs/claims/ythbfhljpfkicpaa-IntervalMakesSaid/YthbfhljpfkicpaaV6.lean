/-
  Walks.
-/
import Derived.Test.YthbfhljpfkicpaaV5
set_option linter.unusedVariables false
set_option linter.unusedSimpArgs false
set_option maxRecDepth 100000
namespace Go.Proofs.Ythbfhljpfkicpaa
open Go Go.RowKit
/-- Which raw dyadics are valid. -/
def dvalr (b : Bool) (l : List Nat) (e : Int) : Bool := ival b l && dval (mk b (val l)) e
theorem ival_canon {b : Bool} {l : List Nat} (hd : D l) (h : ival b l = true) : l = dig (mk b (val l)).natAbs ∧ b = decide (mk b (val l) < 0) := by
  unfold ival at h
  rw [Bool.and_eq_true] at h
  obtain ⟨h1, h2⟩ := h
  have h3 : sz l = l.length := of_decide_eq_true h1
  have h4 : l = dig (val l) := by
    have := val_take_sz hd
    rw [h3, List.take_length] at this
    exact this
  refine ⟨by rw [mk_abs]; exact h4, ?_⟩
  rw [mk_neg]
  cases b with
  | false => rfl
  | true =>
    have h5 : 0 < l.length := by simpa using h2
    rw [Bool.true_and]
    symm
    apply decide_eq_true
    intro h6
    rw [h4, h6, dig_zero] at h5
    simp at h5


theorem rivalF_c {w : World} {vx : Value} {lx : List Nat} {bx : Bool} (hx : Nl w vx lx) (hi : ival bx lx = false) : Calls Try.prog 70 #[.agg #[.bool bx, vx]] w (Ret w fun r _ => r = .bool false) :=
  (ivalid_c hx).mono fun _ w' ⟨r, he, hx', hr⟩ => ⟨r, he, hx', by rw [hr, hi]⟩
theorem dvalF0 {w : World} {vx : Value} {lx : List Nat} {bx : Bool} {e : Int} (hx : Nl w vx lx) (hlx : lx.length ≤ 30000) (hi : ival bx lx = false) :
    Calls Try.prog 43 #[.agg #[.bool bx, vx, .int .i64 e]] w (Ret w fun r _ => r = .bool false) := by
  refine enter (args := [_]) Try.func43 rfl Try.ntmps43 rfl ?_
  refine WP_seq ?_
  refine WP_region ?_
  refine O_box _ rfl rfl rfl rfl (fun g1 w1 b1 e1 gl1 gh1 => ?_)
  have z1 := e1.size
  refine O_assign rfl rfl rfl ?_
  refine WL_end [(1, _)] ⟨rfl, trivial⟩ ?_
  refine WP_seq ?_
  refine WP_block ?_
  refine WP_seq ?_
  refine WP_region ?_
  refine O_field F26_0 rfl rfl rfl ?_
  refine O_loadA (vs := [_, _]) S24 rfl rfl rfl b1 rfl rfl ?_
  refine O_call enters70 rfl rfl rfl (rivalF_c (hx.ext e1) hi) (fun v2 w2 e2 h2 => ?_)
  have z2 := e2.size
  obtain rfl := h2
  refine O_not rfl rfl rfl rfl ?_
  refine O_assign rfl rfl rfl ?_
  refine WL_end [(1, _), (3, _)] ⟨rfl, rfl, trivial⟩ ?_
  refine WP_condT rfl ?_
  refine WP_seq ?_
  refine WP_region ?_
  refine O_assign rfl rfl rfl ?_
  refine WL_end [(2, _)] ⟨rfl, trivial⟩ ?_
  refine WP_ret ?_
  refine inBlk_ret ?_
  refine ret1 Try.results43 rfl ?_
  exact ⟨_, rfl, (e1.trans e2), rfl⟩

theorem dvalR_c {w : World} {vx : Value} {lx : List Nat} {bx : Bool} {e : Int} (hx : Nl w vx lx) (hlx : lx.length ≤ 30000) : Calls Try.prog 43 #[.agg #[.bool bx, vx, .int .i64 e]] w (Ret w fun r _ => r = .bool (dvalr bx lx e)) := by
  cases hi : ival bx lx with
  | false =>
    have h : dvalr bx lx e = false := by unfold dvalr; rw [hi]; rfl
    rw [h]; exact dvalF0 hx hlx hi
  | true =>
    obtain ⟨h1, h2⟩ := ival_canon hx.d hi
    have h : dvalr bx lx e = dval (mk bx (val lx)) e := by unfold dvalr; rw [hi]; rfl
    rw [h]
    have h3 : Nl w vx (dig (mk bx (val lx)).natAbs) := by rw [← h1]; exact hx
    exact dval_c h2 h3 (by rw [← h1]; exact hlx)
theorem dvalRF_c {w : World} {vx : Value} {lx : List Nat} {bx : Bool} {e : Int} (hx : Nl w vx lx) (hlx : lx.length ≤ 30000) (h : dvalr bx lx e = false) : Calls Try.prog 43 #[.agg #[.bool bx, vx, .int .i64 e]] w (Ret w fun r _ => r = .bool false) :=
  (dvalR_c hx hlx).mono fun _ w' ⟨r, he, hx', hr⟩ => ⟨r, he, hx', by rw [hr, h]⟩


theorem rrivalF_c {w : World} {vx : Value} {lx : List Nat} {bx : Bool} (hx : Nl w vx lx) (hi : ival bx lx = false) : Calls Try.prog 40 #[.agg #[.bool bx, vx]] w (Ret w fun r _ => r = .bool false) :=
  (rivalid_c hx).mono fun _ w' ⟨r, he, hx', hr⟩ => ⟨r, he, hx', by rw [hr, hi]⟩
theorem rdvalF0 {w : World} {vx : Value} {lx : List Nat} {bx : Bool} {e : Int} (hx : Nl w vx lx) (hlx : lx.length ≤ 30000) (hi : ival bx lx = false) :
    Calls Try.prog 15 #[.agg #[.bool bx, vx, .int .i64 e]] w (Ret w fun r _ => r = .bool false) := by
  refine enter (args := [_]) Try.func15 rfl Try.ntmps15 rfl ?_
  refine WP_seq ?_
  refine WP_region ?_
  refine O_box _ rfl rfl rfl rfl (fun g1 w1 b1 e1 gl1 gh1 => ?_)
  have z1 := e1.size
  refine O_assign rfl rfl rfl ?_
  refine WL_end [(1, _)] ⟨rfl, trivial⟩ ?_
  refine WP_seq ?_
  refine WP_seq ?_
  refine WP_region ?_
  refine O_field F26_0 rfl rfl rfl ?_
  refine O_loadA (vs := [_, _]) S24 rfl rfl rfl b1 rfl rfl ?_
  refine O_call enters40 rfl rfl rfl (rrivalF_c (hx.ext e1) hi) (fun v2 w2 e2 h2 => ?_)
  have z2 := e2.size
  obtain rfl := h2
  refine O_not rfl rfl rfl rfl ?_
  refine WL_end [(1, _), (6, _)] ⟨rfl, rfl, trivial⟩ ?_
  refine WP_condT rfl ?_
  refine WP_seq ?_
  refine WP_region ?_
  refine O_assign rfl rfl rfl ?_
  refine WL_end [(2, _)] ⟨rfl, trivial⟩ ?_
  refine WP_ret ?_
  refine ret1 Try.results15 rfl ?_
  exact ⟨_, rfl, (e1.trans e2), rfl⟩

theorem rdvalR_c {w : World} {vx : Value} {lx : List Nat} {bx : Bool} {e : Int} (hx : Nl w vx lx) (hlx : lx.length ≤ 30000) : Calls Try.prog 15 #[.agg #[.bool bx, vx, .int .i64 e]] w (Ret w fun r _ => r = .bool (dvalr bx lx e)) := by
  cases hi : ival bx lx with
  | false =>
    have h : dvalr bx lx e = false := by unfold dvalr; rw [hi]; rfl
    rw [h]; exact rdvalF0 hx hlx hi
  | true =>
    obtain ⟨h1, h2⟩ := ival_canon hx.d hi
    have h : dvalr bx lx e = dval (mk bx (val lx)) e := by unfold dvalr; rw [hi]; rfl
    rw [h]
    have h3 : Nl w vx (dig (mk bx (val lx)).natAbs) := by rw [← h1]; exact hx
    exact rdval_c h2 h3 (by rw [← h1]; exact hlx)
theorem rdvalRF_c {w : World} {vx : Value} {lx : List Nat} {bx : Bool} {e : Int} (hx : Nl w vx lx) (hlx : lx.length ≤ 30000) (h : dvalr bx lx e = false) : Calls Try.prog 15 #[.agg #[.bool bx, vx, .int .i64 e]] w (Ret w fun r _ => r = .bool false) :=
  (rdvalR_c hx hlx).mono fun _ w' ⟨r, he, hx', hr⟩ => ⟨r, he, hx', by rw [hr, h]⟩

theorem ivalFL_c {w : World} {vx vy : Value} {lx ly : List Nat} {bx by_ : Bool} {e f : Int} (hx : Nl w vx lx) (hlx : lx.length ≤ 30000) (hy : Nl w vy ly) (hly : ly.length ≤ 30000) (h : dvalr bx lx e = false) :
    Calls Try.prog 16 #[.agg #[.bool bx, vx, .int .i64 e, .bool by_, vy, .int .i64 f]] w (Ret w fun r _ => r = .bool false) := by
  refine enter (args := [_]) Try.func16 rfl Try.ntmps16 rfl ?_
  refine WP_seq ?_
  refine WP_region ?_
  refine O_box _ rfl rfl rfl rfl (fun g1 w1 b1 e1 gl1 gh1 => ?_)
  have z1 := e1.size
  refine O_assign rfl rfl rfl ?_
  refine WL_end [(1, _)] ⟨rfl, trivial⟩ ?_
  refine WP_seq ?_
  refine WP_region ?_
  refine O_field F28_0 rfl rfl rfl ?_
  refine O_loadA (vs := [_, _, _]) S26 rfl rfl rfl b1 rfl rfl ?_
  refine O_call enters43 rfl rfl rfl (dvalRF_c (hx.ext e1) (by first | with_reducible assumption | omega) h) (fun v2 w2 e2 h2 => ?_)
  have z2 := e2.size
  obtain rfl := h2
  refine O_move rfl rfl rfl ?_
  refine O_skip rfl rfl ?_
  refine O_skip rfl rfl ?_
  refine O_skip rfl rfl ?_
  refine O_pickF rfl rfl rfl rfl ?_
  refine O_move rfl rfl rfl ?_
  refine O_skip rfl rfl ?_
  refine O_skip rfl rfl ?_
  refine O_skip rfl rfl ?_
  refine O_skip rfl rfl ?_
  refine O_skip rfl rfl ?_
  refine O_skip rfl rfl ?_
  refine O_pickF rfl rfl rfl rfl ?_
  refine O_assign rfl rfl rfl ?_
  refine WL_end [(2, _)] ⟨rfl, trivial⟩ ?_
  refine WP_ret ?_
  refine ret1 Try.results16 rfl ?_
  exact ⟨_, rfl, (e1.trans e2), rfl⟩
theorem ivalFH_c {w : World} {vx vy : Value} {x : Int} {ly : List Nat} {bx by_ : Bool} {e f : Int} (hbx : bx = decide (x < 0)) (hx : Nl w vx (dig x.natAbs)) (hvx : dval x e = true) (hy : Nl w vy ly) (hly : ly.length ≤ 30000) (h : dvalr by_ ly f = false) :
    Calls Try.prog 16 #[.agg #[.bool bx, vx, .int .i64 e, .bool by_, vy, .int .i64 f]] w (Ret w fun r _ => r = .bool false) := by
  subst hbx
  have hRx := dval_range hvx
  have hlx : (dig x.natAbs).length ≤ 2049 := dval_len hvx
  refine enter (args := [_]) Try.func16 rfl Try.ntmps16 rfl ?_
  refine WP_seq ?_
  refine WP_region ?_
  refine O_box _ rfl rfl rfl rfl (fun g1 w1 b1 e1 gl1 gh1 => ?_)
  have z1 := e1.size
  refine O_assign rfl rfl rfl ?_
  refine WL_end [(1, _)] ⟨rfl, trivial⟩ ?_
  refine WP_seq ?_
  refine WP_region ?_
  refine O_field F28_0 rfl rfl rfl ?_
  refine O_loadA (vs := [_, _, _]) S26 rfl rfl rfl b1 rfl rfl ?_
  refine O_call enters43 rfl rfl rfl (dvalT_c rfl (hx.ext e1) (by (try simp only [val_dig, List.length_take, List.length_nil, List.length_cons, List.length_append, List.length_replicate, List.length_set, List.length_map, List.length_drop]); omega) (by first | with_reducible assumption | exact dval_dman _ _ | exact dval_zero)) (fun v2 w2 e2 h2 => ?_)
  have z2 := e2.size
  obtain rfl := h2
  refine O_move rfl rfl rfl ?_
  refine O_field F28_1 rfl rfl rfl ?_
  refine O_loadA (vs := [_, _, _]) S26 rfl rfl rfl (b1.ext e2) rfl rfl ?_
  refine O_call enters43 rfl rfl rfl (dvalRF_c (hy.ext (e1.trans e2)) (by first | with_reducible assumption | omega) h) (fun v3 w3 e3 h3 => ?_)
  have z3 := e3.size
  obtain rfl := h3
  refine O_pickT rfl rfl rfl rfl ?_
  refine O_move rfl rfl rfl ?_
  refine O_skip rfl rfl ?_
  refine O_skip rfl rfl ?_
  refine O_skip rfl rfl ?_
  refine O_skip rfl rfl ?_
  refine O_skip rfl rfl ?_
  refine O_skip rfl rfl ?_
  refine O_pickF rfl rfl rfl rfl ?_
  refine O_assign rfl rfl rfl ?_
  refine WL_end [(2, _)] ⟨rfl, trivial⟩ ?_
  refine WP_ret ?_
  refine ret1 Try.results16 rfl ?_
  exact ⟨_, rfl, ((e1.trans e2).trans e3), rfl⟩

end Go.Proofs.Ythbfhljpfkicpaa
