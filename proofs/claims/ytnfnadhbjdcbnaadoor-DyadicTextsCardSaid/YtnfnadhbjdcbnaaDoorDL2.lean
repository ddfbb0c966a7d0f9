/-
  Walks.
-/
import Derived.Test.YtnfnadhbjdcbnaaDoorD9
set_option linter.unusedVariables false
set_option linter.unusedSimpArgs false
set_option maxRecDepth 100000
namespace Go.Proofs.YtnfnadhbjdcbnaaDoor
open Go Go.RowKit
set_option maxHeartbeats 2000000 in
theorem law_DyadicTexts {w : World} {vx : Value} {lx : List Nat} {bx : Bool} {e : Int} (hx : Nl w vx lx) (hT : Tab w) :
    Calls Tryd.prog 5 #[.agg #[.bool bx, vx, .int .i64 e]] w (Ret w fun r _ => r = .bool true) := by
 refine enter (args := [_]) Tryd.func5 rfl Tryd.ntmps5 rfl ?_
 refine WP_seq ?_
 refine WP_region ?_
 refine O_box _ rfl rfl rfl rfl (fun g1 w1 b1 e1 gl1 gh1 => ?_)
 have z1 := e1.size
 refine O_assign rfl rfl rfl ?_
 refine WL_end [(1, _)] ⟨rfl, trivial⟩ ?_
 refine WP_seq ?_
 refine WP_seq ?_
 refine WP_region ?_
 refine O_call enters9 rfl rfl rfl (awake8_c (hT.ext e1)) (fun v2 w2 e2 h2 => ?_)
 have z2 := e2.size
 obtain rfl := h2
 refine O_not rfl rfl rfl rfl ?_
 refine WL_end [(1, _), (8, _)] ⟨rfl, rfl, trivial⟩ ?_
 refine WP_condF rfl ?_
 refine WP_skip ?_
 refine WP_seq ?_
 refine WP_region ?_
 refine O_loadA (vs := [_, _, _]) S26 rfl rfl rfl (b1.ext e2) rfl rfl ?_
 refine O_call enters27 rfl rfl rfl (mdy_c (n := 20) (m := 60000) (hx.ext (e1.trans e2)) (by decide)) (fun v3 w3 e3 h3 => ?_)
 have z3 := e3.size
 try simp only [val_dig] at h3
 obtain ⟨xX, kX, qX, bX, rfl, hqX, hvX, hkX, hjX, hlX⟩ := h3
 have hpf := parse_fmt hvX (Nat.le_trans (fint_dlen hlX (by decide)) (by decide)) (fint_small (by omega) (by omega)) (by omega) (by omega)
 refine O_move rfl rfl rfl ?_
 refine O_extract rfl rfl rfl rfl ?_
 refine O_extract rfl rfl rfl rfl ?_
 refine O_alloc S26 rfl rfl (fun g4 w4 b4 e4 gl4 gh4 => ?_)
 have z4 := e4.size
 refine O_storeA (cs' := [_, _, _]) S26 rfl rfl rfl b4 rfl rfl (one_cons rfl (one_cons ((hqX.ext e4).nl).one (one_cons rfl one_nil))) rfl (fun w5 b5 q5 => ?_)
 have z5 := Nat.le_of_eq q5.size.symm
 have e5 : Ext w w5 := q5.ext (((e1.trans e2).trans e3).trans e4) (by omega)
 refine O_assign rfl rfl rfl ?_
 refine WL_end [(3, _), (4, _)] ⟨rfl, rfl, trivial⟩ ?_
 refine WP_seq ?_
 refine WP_seq ?_
 refine WP_region ?_
 refine O_move rfl rfl rfl ?_
 refine O_not rfl rfl rfl rfl ?_
 refine WL_end [(3, _), (15, _)] ⟨rfl, rfl, trivial⟩ ?_
 refine WP_cond rfl (fun c15 => ?_) (fun c15 => ?_)
 · --
  refine WP_seq ?_
  refine WP_region ?_
  refine O_assign rfl rfl rfl ?_
  refine WL_end [(2, _)] ⟨rfl, trivial⟩ ?_
  refine WP_ret ?_
  refine ret1 Tryd.results5 rfl ?_
  exact ⟨_, rfl, e5, rfl⟩
 · --
  refine WP_skip ?_
  refine WP_seq ?_
  refine WP_region ?_
  refine O_loadA (vs := [_, _, _]) S26 rfl rfl rfl b5 rfl rfl ?_
  refine O_call enters29 rfl rfl rfl (dyfmt_c rfl ((hqX.ext e4).chgBk b4 (by decide) q5).nl (by (try simp only [lens]); omega) (by (try simp only [lens]); omega) (by (try simp only [lens]); omega)) (fun v6 w6 e6 h6 => ?_)
  have z6 := e6.size
  obtain rfl := h6
  refine O_call enters28 rfl rfl rfl (dyparse_c (l := dyfmt xX kX)) (fun v7 w7 e7 h7 => ?_)
  have z7 := e7.size
  try simp only [val_dig] at h7
  obtain ⟨q7, rfl, hq7⟩ := h7
  simp only [hpf] at hq7 ⊢
  refine O_move rfl rfl rfl ?_
  refine O_extract rfl rfl rfl rfl ?_
  refine O_extract rfl rfl rfl rfl ?_
  refine O_alloc S26 rfl rfl (fun g8 w8 b8 e8 gl8 gh8 => ?_)
  have z8 := e8.size
  refine O_storeA (cs' := [_, _, _]) S26 rfl rfl rfl b8 rfl rfl (one_cons rfl (one_cons ((hq7.ext e8).nl).one (one_cons rfl one_nil))) rfl (fun w9 b9 q9 => ?_)
  have z9 := Nat.le_of_eq q9.size.symm
  have e9 : Ext w w9 := q9.ext (((e5.trans e6).trans e7).trans e8) (by omega)
  refine O_assign rfl rfl rfl ?_
  refine WL_end [(3, _), (5, _), (6, _)] ⟨rfl, rfl, rfl, trivial⟩ ?_
  refine WP_seq ?_
  refine WP_sub [(3, _), (5, _), (6, _)] ⟨rfl, rfl, rfl, trivial⟩ ?_
  refine WP_anyR 12 [3, 5, 6] mixed rfl (by kernel_rfl) ?_
  apply AnyR_val [3] rfl (by kernel_rfl)
  · --
   intro y10 hy10
   have zy10 := hy10.size
   refine AllV_nil ?_
   refine O_loadA (vs := [_, _, _]) S26 rfl rfl rfl (((((b5.ext e6).ext e7).ext e8).chg q9 (by first | assumption | omega)).ext hy10) rfl rfl ?_
   exact WL_nil ⟨(Ext.refl _), rfl⟩
  apply AnyR_val [22] rfl (by kernel_rfl)
  · --
   intro y11 hy11
   have zy11 := hy11.size
   refine AllV_v ?_
   refine AllV_nil ?_
   refine O_call enters29 rfl rfl rfl (dyfmt_c rfl (((((((hqX.ext e4).chgBk b4 (by decide) q5).ext e6).ext e7).ext e8).chgBk b8 (by decide) q9).ext hy11).nl (by (try simp only [lens]); omega) (by (try simp only [lens]); omega) (by (try simp only [lens]); omega)) (fun v12 w12 e12 h12 => ?_)
   have z12 := e12.size
   obtain rfl := h12
   exact WL_nil ⟨e12, rfl⟩
  apply AnyR_val [3] rfl (by kernel_rfl)
  · --
   intro y13 hy13
   have zy13 := hy13.size
   refine AllV_nil ?_
   refine O_loadA (vs := [_, _, _]) S26 rfl rfl rfl (((((b5.ext e6).ext e7).ext e8).chg q9 (by first | assumption | omega)).ext hy13) rfl rfl ?_
   exact WL_nil ⟨(Ext.refl _), rfl⟩
  apply AnyR_val [24] rfl (by kernel_rfl)
  · --
   intro y14 hy14
   have zy14 := hy14.size
   refine AllV_v ?_
   refine AllV_nil ?_
   refine O_call enters30 rfl rfl rfl (rdyfmt_c rfl (((((((hqX.ext e4).chgBk b4 (by decide) q5).ext e6).ext e7).ext e8).chgBk b8 (by decide) q9).ext hy14).nl (by (try simp only [lens]); omega) (by (try simp only [lens]); omega) (by (try simp only [lens]); omega)) (fun v15 w15 e15 h15 => ?_)
   have z15 := e15.size
   obtain rfl := h15
   exact WL_nil ⟨e15, rfl⟩
  apply AnyR_val [23, 25] rfl (by kernel_rfl)
  · --
   intro y16 hy16
   have zy16 := hy16.size
   refine AllV_v ?_
   refine AllV_v ?_
   refine AllV_nil ?_
   refine S_eql (a := dyfmt xX kX) (b := dyfmt xX kX) rfl rfl rfl rfl (decide_eq_true rfl) ?_
   exact WL_nil ⟨(Ext.refl _), rfl⟩
  apply AnyR_val [26] rfl (by kernel_rfl)
  · --
   intro y17 hy17
   have zy17 := hy17.size
   refine AllV_v ?_
   refine AllV_nil ?_
   refine O_move rfl rfl rfl ?_
   exact WL_nil ⟨(Ext.refl _), rfl⟩
  apply AnyR_val [27, 6] rfl (by kernel_rfl)
  · --
   intro y18 hy18
   have zy18 := hy18.size
   refine AllV_v ?_
   refine AllV_nil ?_
   refine O_move rfl rfl rfl ?_
   exact WL_nil ⟨(Ext.refl _), rfl⟩
  apply AnyR_val [27, 28] rfl (by kernel_rfl)
  · --
   intro y19 hy19
   have zy19 := hy19.size
   refine AllV_v ?_
   refine AllV_v ?_
   refine AllV_nil ?_
   refine O_eql (t := true) rfl rfl rfl rfl (decide_eq_true rfl) ?_
   exact WL_nil ⟨(Ext.refl _), rfl⟩
  apply AnyR_val [27, 29] rfl (by kernel_rfl)
  · --
   intro y20 hy20
   have zy20 := hy20.size
   refine AllV_v ?_
   refine AllV_v ?_
   refine AllV_nil ?_
   refine O_pickT rfl rfl rfl rfl ?_
   exact WL_nil ⟨(Ext.refl _), rfl⟩
  apply AnyR_val [30] rfl (by kernel_rfl)
  · --
   intro y21 hy21
   have zy21 := hy21.size
   refine AllV_v ?_
   refine AllV_nil ?_
   refine O_move rfl rfl rfl ?_
   exact WL_nil ⟨(Ext.refl _), rfl⟩
  apply AnyR_val [31, 3] rfl (by kernel_rfl)
  · --
   intro y22 hy22
   have zy22 := hy22.size
   refine AllV_v ?_
   refine AllV_nil ?_
   refine O_loadA (vs := [_, _, _]) S26 rfl rfl rfl (((((b5.ext e6).ext e7).ext e8).chg q9 (by first | assumption | omega)).ext hy22) rfl rfl ?_
   exact WL_nil ⟨(Ext.refl _), rfl⟩
  apply AnyR_val [31, 5] rfl (by kernel_rfl)
  · --
   intro y23 hy23
   have zy23 := hy23.size
   refine AllV_v ?_
   refine AllV_nil ?_
   refine O_loadA (vs := [_, _, _]) S26 rfl rfl rfl (b9.ext hy23) rfl rfl ?_
   exact WL_nil ⟨(Ext.refl _), rfl⟩
  refine AnyR_nil fun y24 hy24 => ?_
  have zy24 := hy24.size
  refine AllV_v ?_
  refine AllV_v ?_
  refine AllV_v ?_
  refine AllV_v ?_
  refine AllV_v ?_
  refine AllV_v ?_
  refine AllV_v ?_
  refine AllV_v ?_
  refine AllV_v ?_
  refine AllV_v ?_
  refine AllV_v ?_
  refine AllV_v ?_
  refine AllV_nil ?_
  refine O_call enters17 rfl rfl rfl (rdsame_c rfl (((((((hqX.ext e4).chgBk b4 (by decide) q5).ext e6).ext e7).ext e8).chgBk b8 (by decide) q9).ext hy24).nl (((hq7.ext e8).chgBk b8 (by decide) q9).ext hy24).nl (by (try simp only [lens]); omega) (by (try simp only [lens]); omega) rfl rfl) (fun v25 w25 e25 h25 => ?_)
  have z25 := e25.size
  obtain rfl := h25
  refine O_pickT rfl rfl rfl rfl ?_
  refine O_assign rfl rfl rfl ?_
  refine WL_end [(2, _)] ⟨rfl, trivial⟩ ?_
  refine WP_ret ?_
  refine ret1 Tryd.results5 rfl ?_
  exact ⟨_, rfl, ((e9.trans hy24).trans e25), rfl⟩

end Go.Proofs.YtnfnadhbjdcbnaaDoor
