/-
  Walks.
-/
import Derived.Test.YtnfnadhbjdcbnaaDoorD9
set_option linter.unusedVariables false
set_option linter.unusedSimpArgs false
set_option maxRecDepth 100000
namespace Go.Proofs.YtnfnadhbjdcbnaaDoor
open Go Go.RowKit
set_option maxHeartbeats 2000000 in
theorem law_DP {w : World} {l : List UInt8} (hT : Tab w) :
    Calls Tryd.prog 6 #[.string (bs l)] w (Ret w fun r _ => r = .bool true) := by
 refine enter (args := [_]) Tryd.func6 rfl Tryd.ntmps6 rfl ?_
 refine WP_seq ?_
 refine WP_region ?_
 refine O_assign rfl rfl rfl ?_
 refine WL_end [(0, _)] ⟨rfl, trivial⟩ ?_
 refine WP_seq ?_
 refine WP_seq ?_
 refine WP_region ?_
 refine O_call enters9 rfl rfl rfl (awake8_c hT) (fun v1 w1 e1 h1 => ?_)
 have z1 := e1.size
 obtain rfl := h1
 refine O_not rfl rfl rfl rfl ?_
 refine WL_end [(0, _), (8, _)] ⟨rfl, rfl, trivial⟩ ?_
 refine WP_condF rfl ?_
 refine WP_skip ?_
 refine WP_seq ?_
 refine WP_seq ?_
 refine WP_region ?_
 refine O_move rfl rfl rfl ?_
 refine S_len Tryd.underlying9 rfl rfl rfl ?_
 refine O_gtr rfl rfl rfl rfl rfl ?_
 refine WL_end [(0, _), (11, _)] ⟨rfl, rfl, trivial⟩ ?_
 refine WP_condD rfl (fun c11 => ?_) (fun c11 => ?_)
 · --
  refine WP_seq ?_
  refine WP_region ?_
  refine O_assign rfl rfl rfl ?_
  refine WL_end [(2, _)] ⟨rfl, trivial⟩ ?_
  refine WP_ret ?_
  refine ret1 Tryd.results6 rfl ?_
  exact ⟨_, rfl, e1, rfl⟩
 · --
  refine WP_skip ?_
  refine WP_seq ?_
  refine WP_region ?_
  refine O_move rfl rfl rfl ?_
  refine O_call enters28 rfl rfl rfl (dyparse_c) (fun v2 w2 e2 h2 => ?_)
  have z2 := e2.size
  try simp only [val_dig] at h2
  obtain ⟨q2, rfl, hq2⟩ := h2
  refine O_move rfl rfl rfl ?_
  refine O_extract rfl rfl rfl rfl ?_
  refine O_extract rfl rfl rfl rfl ?_
  refine O_alloc S26 rfl rfl (fun g3 w3 b3 e3 gl3 gh3 => ?_)
  have z3 := e3.size
  refine O_storeA (cs' := [_, _, _]) S26 rfl rfl rfl b3 rfl rfl (one_cons rfl (one_cons ((hq2.ext e3).nl).one (one_cons rfl one_nil))) rfl (fun w4 b4 q4 => ?_)
  have z4 := Nat.le_of_eq q4.size.symm
  have e4 : Ext w w4 := q4.ext ((e1.trans e2).trans e3) (by omega)
  refine O_assign rfl rfl rfl ?_
  refine WL_end [(0, _), (3, _), (4, _)] ⟨rfl, rfl, rfl, trivial⟩ ?_
  refine WP_seq ?_
  refine WP_region ?_
  refine O_move rfl rfl rfl ?_
  refine O_call enters31 rfl rfl rfl (rdyparse_c) (fun v5 w5 e5 h5 => ?_)
  have z5 := e5.size
  try simp only [val_dig] at h5
  obtain ⟨q5, rfl, hq5⟩ := h5
  refine O_move rfl rfl rfl ?_
  refine O_extract rfl rfl rfl rfl ?_
  refine O_extract rfl rfl rfl rfl ?_
  refine O_alloc S26 rfl rfl (fun g6 w6 b6 e6 gl6 gh6 => ?_)
  have z6 := e6.size
  refine O_storeA (cs' := [_, _, _]) S26 rfl rfl rfl b6 rfl rfl (one_cons rfl (one_cons ((hq5.ext e6).nl).one (one_cons rfl one_nil))) rfl (fun w7 b7 q7 => ?_)
  have z7 := Nat.le_of_eq q7.size.symm
  have e7 : Ext w w7 := q7.ext ((e4.trans e5).trans e6) (by omega)
  refine O_assign rfl rfl rfl ?_
  refine WL_end [(0, _), (3, _), (4, _), (5, _), (6, _)] ⟨rfl, rfl, rfl, rfl, rfl, trivial⟩ ?_
  refine WP_seq ?_
  have hd1 := dym_len l
  have hd2 := dye_fit l
  by_cases hc : dyc l = 0
  · --
   have hfp := fmt_parse hc
   refine WP_region ?_
   refine O_move rfl rfl rfl ?_
   refine O_move rfl rfl rfl ?_
   refine O_eql (t := true) rfl rfl rfl rfl (decide_eq_true rfl) ?_
   refine O_move rfl rfl rfl ?_
   refine O_loadA (vs := [_, _, _]) S26 rfl rfl rfl (((b4.ext e5).ext e6).chg q7 (by first | assumption | omega)) rfl rfl ?_
   refine O_loadA (vs := [_, _, _]) S26 rfl rfl rfl b7 rfl rfl ?_
   refine O_call enters17 rfl rfl rfl (rdsame_c rfl (((((hq2.ext e3).chgBk b3 (by decide) q4).ext e5).ext e6).chgBk b6 (by decide) q7).nl ((hq5.ext e6).chgBk b6 (by decide) q7).nl (by (try simp only [lens]); omega) (by (try simp only [lens]); omega) rfl rfl) (fun v8 w8 e8 h8 => ?_)
   have z8 := e8.size
   obtain rfl := h8
   refine O_pickT rfl rfl rfl rfl ?_
   refine O_move rfl rfl rfl ?_
   refine O_move rfl rfl rfl ?_
   refine O_neq (t := false) rfl rfl rfl rfl (decide_eq_false (fun h => h hc)) ?_
   refine O_move rfl rfl rfl ?_
   refine O_loadA (vs := [_, _, _]) S26 rfl rfl rfl ((((b4.ext e5).ext e6).chg q7 (by first | assumption | omega)).ext e8) rfl rfl ?_
   refine O_call enters29 rfl rfl rfl (dyfmt_c rfl ((((((hq2.ext e3).chgBk b3 (by decide) q4).ext e5).ext e6).chgBk b6 (by decide) q7).ext e8).nl (by (try simp only [lens]); omega) (by (try simp only [lens]); omega) (by (try simp only [lens]); omega)) (fun v9 w9 e9 h9 => ?_)
   have z9 := e9.size
   obtain rfl := h9
   refine O_move rfl rfl rfl ?_
   refine S_eql (a := dyfmt (dym l) (dye l)) (b := l) rfl rfl rfl rfl (decide_eq_true hfp) ?_
   refine O_pickF rfl rfl rfl rfl ?_
   refine O_pickT rfl rfl rfl rfl ?_
   refine O_assign rfl rfl rfl ?_
   refine WL_end [(2, _)] ⟨rfl, trivial⟩ ?_
   refine WP_ret ?_
   refine ret1 Tryd.results6 rfl ?_
   exact ⟨_, rfl, ((e7.trans e8).trans e9), rfl⟩
  · --
   skip
   refine WP_region ?_
   refine O_move rfl rfl rfl ?_
   refine O_move rfl rfl rfl ?_
   refine O_eql (t := true) rfl rfl rfl rfl (decide_eq_true rfl) ?_
   refine O_move rfl rfl rfl ?_
   refine O_loadA (vs := [_, _, _]) S26 rfl rfl rfl (((b4.ext e5).ext e6).chg q7 (by first | assumption | omega)) rfl rfl ?_
   refine O_loadA (vs := [_, _, _]) S26 rfl rfl rfl b7 rfl rfl ?_
   refine O_call enters17 rfl rfl rfl (rdsame_c rfl (((((hq2.ext e3).chgBk b3 (by decide) q4).ext e5).ext e6).chgBk b6 (by decide) q7).nl ((hq5.ext e6).chgBk b6 (by decide) q7).nl (by (try simp only [lens]); omega) (by (try simp only [lens]); omega) rfl rfl) (fun v10 w10 e10 h10 => ?_)
   have z10 := e10.size
   obtain rfl := h10
   refine O_pickT rfl rfl rfl rfl ?_
   refine O_move rfl rfl rfl ?_
   refine O_move rfl rfl rfl ?_
   refine O_neq (t := true) rfl rfl rfl rfl (decide_eq_true hc) ?_
   refine O_move rfl rfl rfl ?_
   refine O_skip rfl rfl ?_
   refine O_skip rfl rfl ?_
   refine O_skip rfl rfl ?_
   refine O_skip rfl rfl ?_
   refine O_pickT rfl rfl rfl rfl ?_
   refine O_pickT rfl rfl rfl rfl ?_
   refine O_assign rfl rfl rfl ?_
   refine WL_end [(2, _)] ⟨rfl, trivial⟩ ?_
   refine WP_ret ?_
   refine ret1 Tryd.results6 rfl ?_
   exact ⟨_, rfl, (e7.trans e10), rfl⟩
theorem law_DyadicParses {w : World} {s : ByteArray} (hT : Tab w) : Calls Tryd.prog 6 #[.string s] w (Ret w fun r _ => r = .bool true) := by
  have h := law_DP (l := s.data.toList) hT
  rw [bs_data] at h
  exact h

end Go.Proofs.YtnfnadhbjdcbnaaDoor
