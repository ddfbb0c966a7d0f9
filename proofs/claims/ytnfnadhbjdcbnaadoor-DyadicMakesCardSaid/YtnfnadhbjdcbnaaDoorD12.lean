/-
  Walks.
-/
import Derived.Test.YtnfnadhbjdcbnaaDoorD8
import Derived.Test.YtnfnadhbjdcbnaaDoorDops
set_option linter.unusedVariables false
set_option linter.unusedSimpArgs false
set_option maxRecDepth 100000
namespace Go.Proofs.YtnfnadhbjdcbnaaDoor
open Go Go.RowKit
/-- Which raw dyadics are valid. -/
def dvalr (b : Bool) (l : List Nat) (e : Int) : Bool := ival b l && dval (mk b (val l)) e
theorem ival_canon {b : Bool} {l : List Nat} (hd : D l) (h : ival b l = true) : l = dig (mk b (val l)).natAbs ∧ b = decide (mk b (val l) < 0) := by
  unfold ival at h
  rw [Bool.and_eq_true] at h
  obtain ⟨h1, h2⟩ := h
  have h3 : sz l = l.length := of_decide_eq_true h1
  have h4 : l = dig (val l) := by
    have := val_take_sz hd
    rw [h3, List.take_length] at this
    exact this
  refine ⟨by rw [mk_abs]; exact h4, ?_⟩
  rw [mk_neg]
  cases b with
  | false => rfl
  | true =>
    have h5 : 0 < l.length := by simpa using h2
    rw [Bool.true_and]
    symm
    apply decide_eq_true
    intro h6
    rw [h4, h6, dig_zero] at h5
    simp at h5


theorem rivalF_c {w : World} {vx : Value} {lx : List Nat} {bx : Bool} (hx : Nl w vx lx) (hi : ival bx lx = false) : Calls Tryd.prog 62 #[.agg #[.bool bx, vx]] w (Ret w fun r _ => r = .bool false) :=
  (ivalid_c hx).mono fun _ w' ⟨r, he, hx', hr⟩ => ⟨r, he, hx', by rw [hr, hi]⟩
theorem dvalF0 {w : World} {vx : Value} {lx : List Nat} {bx : Bool} {e : Int} (hx : Nl w vx lx) (hlx : lx.length ≤ 30000) (hi : ival bx lx = false) :
    Calls Tryd.prog 23 #[.agg #[.bool bx, vx, .int .i64 e]] w (Ret w fun r _ => r = .bool false) := by
 refine enter (args := [_]) Tryd.func23 rfl Tryd.ntmps23 rfl ?_
 refine WP_seq ?_
 refine WP_region ?_
 refine O_box _ rfl rfl rfl rfl (fun g1 w1 b1 e1 gl1 gh1 => ?_)
 have z1 := e1.size
 refine O_assign rfl rfl rfl ?_
 refine WL_end [(1, _)] ⟨rfl, trivial⟩ ?_
 refine WP_seq ?_
 refine WP_block ?_
 refine WP_seq ?_
 refine WP_region ?_
 refine O_field F26_0 rfl rfl rfl ?_
 refine O_loadA (vs := [_, _]) S24 rfl rfl rfl b1 rfl rfl ?_
 refine O_call enters62 rfl rfl rfl (rivalF_c (hx.ext e1) hi) (fun v2 w2 e2 h2 => ?_)
 have z2 := e2.size
 obtain rfl := h2
 refine O_not rfl rfl rfl rfl ?_
 refine O_assign rfl rfl rfl ?_
 refine WL_end [(1, _), (3, _)] ⟨rfl, rfl, trivial⟩ ?_
 refine WP_condT rfl ?_
 refine WP_seq ?_
 refine WP_region ?_
 refine O_assign rfl rfl rfl ?_
 refine WL_end [(2, _)] ⟨rfl, trivial⟩ ?_
 refine WP_ret ?_
 refine inBlk_ret ?_
 refine ret1 Tryd.results23 rfl ?_
 exact ⟨_, rfl, (e1.trans e2), rfl⟩

theorem dvalR_c {w : World} {vx : Value} {lx : List Nat} {bx : Bool} {e : Int} (hx : Nl w vx lx) (hlx : lx.length ≤ 30000) : Calls Tryd.prog 23 #[.agg #[.bool bx, vx, .int .i64 e]] w (Ret w fun r _ => r = .bool (dvalr bx lx e)) := by
  cases hi : ival bx lx with
  | false =>
    have h : dvalr bx lx e = false := by unfold dvalr; rw [hi]; rfl
    rw [h]; exact dvalF0 hx hlx hi
  | true =>
    obtain ⟨h1, h2⟩ := ival_canon hx.d hi
    have h : dvalr bx lx e = dval (mk bx (val lx)) e := by unfold dvalr; rw [hi]; rfl
    rw [h]
    have h3 : Nl w vx (dig (mk bx (val lx)).natAbs) := by rw [← h1]; exact hx
    exact dval_c h2 h3 (by rw [← h1]; exact hlx)
theorem dvalRF_c {w : World} {vx : Value} {lx : List Nat} {bx : Bool} {e : Int} (hx : Nl w vx lx) (hlx : lx.length ≤ 30000) (h : dvalr bx lx e = false) : Calls Tryd.prog 23 #[.agg #[.bool bx, vx, .int .i64 e]] w (Ret w fun r _ => r = .bool false) :=
  (dvalR_c hx hlx).mono fun _ w' ⟨r, he, hx', hr⟩ => ⟨r, he, hx', by rw [hr, h]⟩


theorem rrivalF_c {w : World} {vx : Value} {lx : List Nat} {bx : Bool} (hx : Nl w vx lx) (hi : ival bx lx = false) : Calls Tryd.prog 65 #[.agg #[.bool bx, vx]] w (Ret w fun r _ => r = .bool false) :=
  (rivalid_c hx).mono fun _ w' ⟨r, he, hx', hr⟩ => ⟨r, he, hx', by rw [hr, hi]⟩
theorem rdvalF0 {w : World} {vx : Value} {lx : List Nat} {bx : Bool} {e : Int} (hx : Nl w vx lx) (hlx : lx.length ≤ 30000) (hi : ival bx lx = false) :
    Calls Tryd.prog 24 #[.agg #[.bool bx, vx, .int .i64 e]] w (Ret w fun r _ => r = .bool false) := by
 refine enter (args := [_]) Tryd.func24 rfl Tryd.ntmps24 rfl ?_
 refine WP_seq ?_
 refine WP_region ?_
 refine O_box _ rfl rfl rfl rfl (fun g1 w1 b1 e1 gl1 gh1 => ?_)
 have z1 := e1.size
 refine O_assign rfl rfl rfl ?_
 refine WL_end [(1, _)] ⟨rfl, trivial⟩ ?_
 refine WP_seq ?_
 refine WP_seq ?_
 refine WP_region ?_
 refine O_field F26_0 rfl rfl rfl ?_
 refine O_loadA (vs := [_, _]) S24 rfl rfl rfl b1 rfl rfl ?_
 refine O_call enters65 rfl rfl rfl (rrivalF_c (hx.ext e1) hi) (fun v2 w2 e2 h2 => ?_)
 have z2 := e2.size
 obtain rfl := h2
 refine O_not rfl rfl rfl rfl ?_
 refine WL_end [(1, _), (6, _)] ⟨rfl, rfl, trivial⟩ ?_
 refine WP_condT rfl ?_
 refine WP_seq ?_
 refine WP_region ?_
 refine O_assign rfl rfl rfl ?_
 refine WL_end [(2, _)] ⟨rfl, trivial⟩ ?_
 refine WP_ret ?_
 refine ret1 Tryd.results24 rfl ?_
 exact ⟨_, rfl, (e1.trans e2), rfl⟩

theorem rdvalR_c {w : World} {vx : Value} {lx : List Nat} {bx : Bool} {e : Int} (hx : Nl w vx lx) (hlx : lx.length ≤ 30000) : Calls Tryd.prog 24 #[.agg #[.bool bx, vx, .int .i64 e]] w (Ret w fun r _ => r = .bool (dvalr bx lx e)) := by
  cases hi : ival bx lx with
  | false =>
    have h : dvalr bx lx e = false := by unfold dvalr; rw [hi]; rfl
    rw [h]; exact rdvalF0 hx hlx hi
  | true =>
    obtain ⟨h1, h2⟩ := ival_canon hx.d hi
    have h : dvalr bx lx e = dval (mk bx (val lx)) e := by unfold dvalr; rw [hi]; rfl
    rw [h]
    have h3 : Nl w vx (dig (mk bx (val lx)).natAbs) := by rw [← h1]; exact hx
    exact rdval_c h2 h3 (by rw [← h1]; exact hlx)
theorem rdvalRF_c {w : World} {vx : Value} {lx : List Nat} {bx : Bool} {e : Int} (hx : Nl w vx lx) (hlx : lx.length ≤ 30000) (h : dvalr bx lx e = false) : Calls Tryd.prog 24 #[.agg #[.bool bx, vx, .int .i64 e]] w (Ret w fun r _ => r = .bool false) :=
  (rdvalR_c hx hlx).mono fun _ w' ⟨r, he, hx', hr⟩ => ⟨r, he, hx', by rw [hr, h]⟩


theorem dvalT_c {w : World} {vx : Value} {x e : Int} {bx : Bool} (hbx : bx = decide (x < 0)) (hx : Nl w vx (dig x.natAbs)) (hlx : (dig x.natAbs).length ≤ 30000) (hv : dval x e = true) : Calls Tryd.prog 23 #[.agg #[.bool bx, vx, .int .i64 e]] w (Ret w fun r _ => r = .bool true) :=
  (dval_c hbx hx hlx).mono fun _ w' ⟨r, he, hx', hr⟩ => ⟨r, he, hx', by rw [hr, hv]⟩

end Go.Proofs.YtnfnadhbjdcbnaaDoor
