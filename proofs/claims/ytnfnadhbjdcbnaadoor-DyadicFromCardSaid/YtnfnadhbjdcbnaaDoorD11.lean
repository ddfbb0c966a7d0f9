/-
  Walks.
-/
import Derived.Test.YtnfnadhbjdcbnaaDoorD10
import Derived.Test.YtnfnadhbjdcbnaaDoorRoot
set_option linter.unusedVariables false
set_option linter.unusedSimpArgs false
set_option maxRecDepth 100000
namespace Go.Proofs.YtnfnadhbjdcbnaaDoor
open Go Go.RowKit
theorem rgcd_c {w : World} {va vb : Value} {a b : Nat} (ha : Nl w va (dig a)) (hb : Nl w vb (dig b)) (hla : (dig a).length ≤ 1000000) (hlb : (dig b).length ≤ 1000000) :
    Calls Tryd.prog 121 #[va, vb] w (Ret w fun r w' => Nl w' r (dig (Nat.gcd a b))) := by
 refine enter (args := [va, vb]) Tryd.func121 rfl Tryd.ntmps121 rfl ?_
 refine WP_seq ?_
 refine WP_region ?_
 refine O_assign rfl rfl rfl ?_
 refine WL_end [(0, _), (1, _)] ⟨rfl, rfl, trivial⟩ ?_
 refine WP_seq ?_
 refine WP_block ?_
 refine WP_loop (S := Nat × Nat × Value × Value) (fun (x, y, vx, vy) => [(0, vx), (1, vy)]) (fun (x, y, vx, vy) w' => Ext w w' ∧ Nl w' vx (dig x) ∧ Nl w' vy (dig y) ∧ Nat.gcd x y = Nat.gcd a b ∧ (dig x).length ≤ 1000000 ∧ (dig y).length ≤ 1000000) (fun (x, y, vx, vy) => y) (a, b, va, vb) ⟨rfl, rfl, trivial⟩ ⟨(Ext.refl _), ha, hb, rfl, hla, hlb⟩ ?_
 rintro ⟨x, y, vx, vy⟩ wL ⟨hE, hvx, hvy, hg, hlx, hly⟩
 show WP _ _ _ _ _ [(0, vx), (1, vy)] _
 have hz := hE.size
 refine WP_seq ?_
 refine WP_seq ?_
 refine WP_region ?_
 refine O_move rfl rfl rfl ?_
 refine N_len T22 rfl rfl rfl hvy ?_
 refine O_gtr rfl rfl rfl rfl rfl ?_
 refine WL_end [(0, _), (1, _), (10, _)] ⟨rfl, rfl, rfl, trivial⟩ ?_
 refine WP_condD rfl (fun c10 => ?_) (fun c10 => ?_)
 · --
  refine WP_skip ?_
  refine WP_block ?_
  refine WP_seq ?_
  refine WP_region ?_
  refine O_move rfl rfl rfl ?_
  refine O_move rfl rfl rfl ?_
  have hy0 : y ≠ 0 := fun e => by rw [e, dig_zero] at c10; simp at c10
  refine O_call enters119 rfl rfl rfl (rdivmod_t hvx hvy (by (try simp only [lens]); omega) (by (try simp only [lens]); omega) (by first | assumption | rfl | omega | (simp only [val_dig]; first | assumption | omega) | (simp only [val_dig, val]; decide) | (rw [val_dig]; decide))) (fun v1 w1 e1 h1 => ?_)
  have z1 := e1.size
  try simp only [val_dig] at h1
  obtain ⟨q1, r1, rfl, hq1, hr1⟩ := h1
  refine O_move rfl rfl rfl ?_
  refine O_extract rfl rfl rfl rfl ?_
  refine O_extract rfl rfl rfl rfl ?_
  refine O_extract rfl rfl rfl rfl ?_
  refine O_assign rfl rfl rfl ?_
  refine O_assign rfl rfl rfl ?_
  refine O_assign rfl rfl rfl ?_
  refine WL_end [(1, _), (6, _)] ⟨rfl, rfl, trivial⟩ ?_
  refine WP_region ?_
  refine O_move rfl rfl rfl ?_
  refine O_move rfl rfl rfl ?_
  refine O_assign rfl rfl rfl ?_
  refine O_assign rfl rfl rfl ?_
  refine WL_end [(0, _), (1, _)] ⟨rfl, rfl, trivial⟩ ?_
  have hm := Nat.mod_lt x (Nat.pos_of_ne_zero hy0)
  exact ⟨(y, x % y, _, _), ⟨rfl, rfl, trivial⟩, ⟨(hE.trans e1), (hvy.ext e1), hr1.nl, by rw [gcd_step]; exact hg, hly, Nat.le_trans (dig_len_mono (Nat.le_of_lt hm)) hly⟩, hm⟩
 · --
  refine WP_exit ?_
  refine inBlk_hit ?_
  refine WP_seq ?_
  refine WP_region ?_
  refine O_move rfl rfl rfl ?_
  refine O_assign rfl rfl rfl ?_
  refine WL_end [(4, _)] ⟨rfl, trivial⟩ ?_
  refine WP_ret ?_
  refine ret1 Tryd.results121 rfl ?_
  obtain rfl : y = 0 := dig_len_zero.1 (by omega)
  rw [Nat.gcd_zero_right] at hg
  exact ⟨_, rfl, hE, by rw [← hg]; exact hvx⟩

theorem rlowest_c {w : World} {va vb : Value} {a b : Nat} (ha : Nl w va (dig a)) (hb : Nl w vb (dig b)) (hla : (dig a).length ≤ 100000) (hlb : (dig b).length ≤ 100000) (h0 : b ≠ 0) :
    Calls Tryd.prog 110 #[va, vb] w (Ret w fun r w' => ∃ p q, r = .tuple #[p, q, .bool true] ∧ No w.heap.size 89 w' p (dig (a / Nat.gcd a b)) ∧ No w.heap.size 89 w' q (dig (b / Nat.gcd a b))) := by
 have hLg := dig_len_gcd a b
 refine enter (args := [va, vb]) Tryd.func110 rfl Tryd.ntmps110 rfl ?_
 refine WP_seq ?_
 refine WP_region ?_
 refine O_assign rfl rfl rfl ?_
 refine O_assign rfl rfl rfl ?_
 refine O_assign rfl rfl rfl ?_
 refine WL_end [(0, _), (1, _)] ⟨rfl, rfl, trivial⟩ ?_
 refine WP_seq ?_
 refine WP_seq ?_
 refine WP_region ?_
 refine O_move rfl rfl rfl ?_
 refine N_len T22 rfl rfl rfl hb ?_
 refine O_eql (t := false) rfl rfl rfl rfl (decide_eq_false (fun h => h0 (dig_len_zero.1 (by omega)))) ?_
 refine WL_end [(0, _), (1, _), (10, _)] ⟨rfl, rfl, rfl, trivial⟩ ?_
 refine WP_condF rfl ?_
 refine WP_skip ?_
 refine WP_seq ?_
 refine WP_region ?_
 refine O_move rfl rfl rfl ?_
 refine O_move rfl rfl rfl ?_
 refine O_call enters121 rfl rfl rfl (rgcd_c ha hb (by (try simp only [lens]); omega) (by (try simp only [lens]); omega)) (fun v1 w1 e1 h1 => ?_)
 have z1 := e1.size
 refine O_assign rfl rfl rfl ?_
 refine WL_end [(0, _), (1, _), (7, _)] ⟨rfl, rfl, rfl, trivial⟩ ?_
 refine WP_seq ?_
 refine WP_region ?_
 refine O_move rfl rfl rfl ?_
 refine O_move rfl rfl rfl ?_
 refine O_call enters122 rfl rfl rfl (rdiv_c (ha.ext e1) h1 (by (try simp only [lens]); omega) (by (try simp only [lens]); omega)) (fun v2 w2 e2 h2 => ?_)
 have z2 := e2.size
 try simp only [val_dig] at h2
 refine O_move rfl rfl rfl ?_
 refine O_move rfl rfl rfl ?_
 refine O_call enters122 rfl rfl rfl (rdiv_c (hb.ext (e1.trans e2)) (h1.ext e2) (by (try simp only [lens]); omega) (by (try simp only [lens]); omega)) (fun v3 w3 e3 h3 => ?_)
 have z3 := e3.size
 try simp only [val_dig] at h3
 refine O_assign rfl rfl rfl ?_
 refine O_assign rfl rfl rfl ?_
 refine O_assign rfl rfl rfl ?_
 refine WL_end [(4, _), (5, _), (6, _)] ⟨rfl, rfl, rfl, trivial⟩ ?_
 refine WP_ret ?_
 refine ret3 Tryd.results110 rfl rfl rfl ?_
 exact ⟨_, rfl, ((e1.trans e2).trans e3), _, _, rfl, (h2.ext e3).mono (by omega), h3.mono (by omega)⟩

theorem rmake07_c {w : World} {vx vy : Value} {x y : Int} {bx by_ : Bool} (hbx : bx = decide (x < 0)) (hx : Nl w vx (dig x.natAbs)) (hby : by_ = decide (y < 0)) (hy : Nl w vy (dig y.natAbs)) (hlx : (dig x.natAbs).length ≤ 90000) (hly : (dig y.natAbs).length ≤ 90000) (h0 : y ≠ 0) :
    Calls Tryd.prog 77 #[.agg #[.bool bx, vx], .agg #[.bool by_, vy]] w (Ret w fun r w' => ∃ q s, r = .tuple #[.agg #[.bool (decide (mk (!(decide (x < 0) == decide (y < 0))) (x.natAbs / x.natAbs.gcd y.natAbs) < 0)), q, s], .int .i64 0] ∧ No w.heap.size 89 w' q (dig (mk (!(decide (x < 0) == decide (y < 0))) (x.natAbs / x.natAbs.gcd y.natAbs)).natAbs) ∧ No w.heap.size 89 w' s (dig (y.natAbs / x.natAbs.gcd y.natAbs))) := by
 subst hbx
 subst hby
 have hLa := dig_len_mono (Nat.div_le_self x.natAbs (x.natAbs.gcd y.natAbs))
 refine enter (args := [_, _]) Tryd.func77 rfl Tryd.ntmps77 rfl ?_
 refine WP_seq ?_
 refine WP_region ?_
 refine O_box _ rfl rfl rfl rfl (fun g1 w1 b1 e1 gl1 gh1 => ?_)
 have z1 := e1.size
 refine O_box _ rfl rfl rfl rfl (fun g2 w2 b2 e2 gl2 gh2 => ?_)
 have z2 := e2.size
 refine O_alloc S51 rfl rfl (fun g3 w3 b3 e3 gl3 gh3 => ?_)
 have z3 := e3.size
 refine O_assign rfl rfl rfl ?_
 refine WL_end [(2, _), (3, _), (4, _)] ⟨rfl, rfl, rfl, trivial⟩ ?_
 refine WP_seq ?_
 refine WP_region ?_
 refine O_field F24_1 rfl rfl rfl ?_
 refine O_loadC Tryd.underlying22 rfl rfl rfl rfl ((b1.ext e2).ext e3) rfl ?_
 refine O_field F24_1 rfl rfl rfl ?_
 refine O_loadC Tryd.underlying22 rfl rfl rfl rfl (b2.ext e3) rfl ?_
 refine O_call enters110 rfl rfl rfl (rlowest_c (hx.ext ((e1.trans e2).trans e3)) (hy.ext ((e1.trans e2).trans e3)) (by (try simp only [lens]); omega) (by (try simp only [lens]); omega) (by (try simp only [lens]); omega)) (fun v4 w4 e4 h4 => ?_)
 have z4 := e4.size
 try simp only [val_dig] at h4
 obtain ⟨q4, r4, rfl, hq4, hr4⟩ := h4
 refine O_move rfl rfl rfl ?_
 refine O_extract rfl rfl rfl rfl ?_
 refine O_extract rfl rfl rfl rfl ?_
 refine O_extract rfl rfl rfl rfl ?_
 refine O_assign rfl rfl rfl ?_
 refine O_assign rfl rfl rfl ?_
 refine O_assign rfl rfl rfl ?_
 refine WL_end [(2, _), (3, _), (4, _), (6, _), (7, _), (8, _)] ⟨rfl, rfl, rfl, rfl, rfl, rfl, trivial⟩ ?_
 refine WP_seq ?_
 refine WP_seq ?_
 refine WP_region ?_
 refine O_move rfl rfl rfl ?_
 refine O_not rfl rfl rfl rfl ?_
 refine WL_end [(2, _), (3, _), (4, _), (6, _), (7, _), (19, _)] ⟨rfl, rfl, rfl, rfl, rfl, rfl, trivial⟩ ?_
 refine WP_condF rfl ?_
 refine WP_skip ?_
 refine WP_seq ?_
 refine WP_region ?_
 refine O_field F24_0 rfl rfl rfl ?_
 refine O_loadC Tryd.underlying4 rfl rfl rfl rfl (((b1.ext e2).ext e3).ext e4) rfl ?_
 refine O_field F24_0 rfl rfl rfl ?_
 refine O_loadC Tryd.underlying4 rfl rfl rfl rfl ((b2.ext e3).ext e4) rfl ?_
 refine O_bneq Tryd.underlying4 rfl rfl rfl rfl rfl ?_
 refine O_move rfl rfl rfl ?_
 refine O_call enters47 rfl rfl rfl (rinat_c hq4.nl (by (try simp only [lens]); omega)) (fun v5 w5 e5 h5 => ?_)
 have z5 := e5.size
 try simp only [val_dig] at h5
 obtain ⟨q5, rfl, hq5⟩ := h5
 refine O_move rfl rfl rfl ?_
 refine O_build (cs := [_, _, _]) B51 rfl rfl rfl (cells_cons rfl (cells_cons ((hr4.ext e5).nl).cells1 cells_nil)) rfl ?_
 refine O_storeA (cs' := [_, _, _]) S51 rfl rfl rfl ((b3.ext e4).ext e5) rfl rfl (one_cons rfl (one_cons (hq5.nl).one (one_cons ((hr4.ext e5).nl).one one_nil))) rfl (fun w6 b6 q6 => ?_)
 have z6 := Nat.le_of_eq q6.size.symm
 have e6 : Ext w w6 := q6.ext ((((e1.trans e2).trans e3).trans e4).trans e5) (by omega)
 refine O_assign rfl rfl rfl ?_
 refine WL_end [(4, _), (5, _)] ⟨rfl, rfl, trivial⟩ ?_
 refine WP_ret ?_
 refine retL Tryd.results77 (.cell rfl S51 b6 rfl (.tmp rfl .nil)) ?_
 exact ⟨_, rfl, e6, _, _, rfl, (hq5.chgBk ((b3.ext e4).ext e5) (by decide) q6).mono (by omega), ((hr4.ext e5).chgBk ((b3.ext e4).ext e5) (by decide) q6).mono (by omega)⟩

theorem gcd_cop {a d : Nat} (hd : 0 < d) : 0 < d / a.gcd d ∧ Nat.gcd (a / a.gcd d) (d / a.gcd d) = 1 := by
  have hg := Nat.gcd_pos_of_pos_right a hd
  exact ⟨Nat.div_pos (Nat.gcd_le_right _ hd) hg, Nat.gcd_div_gcd_div_gcd_of_pos_right hd⟩

theorem mrat_T {w : World} {vp vq : Value} {lp lq : List Nat} {bp : Bool} {n : Nat} (hp : Nl w vp lp) (hq : Nl w vq lq) (hn : n ≤ 1000) (hn1 : 1 ≤ n) (h1 : lp.length ≤ n) (h2 : lq.length ≤ n) :
    Calls Tryd.prog 32 #[.agg #[.bool bp, vp, vq], .int .i64 (n : Nat)] w (Ret w fun r w' => ∃ (p : Int) (q : Nat) (vn vd : Value) (b : Bool), r = .tuple #[.agg #[.bool (decide (p < 0)), vn, vd], .bool b] ∧ No w.heap.size 89 w' vn (dig p.natAbs) ∧ No w.heap.size 89 w' vd (dig q) ∧ (b = true → 0 < q ∧ Nat.gcd p.natAbs q = 1) ∧ (dig p.natAbs).length ≤ n ∧ (dig q).length ≤ n) := by
 have hd1 : (dig 1).length ≤ 1 := dig_len_of_lt (by decide)
 have hd1i : (dig (1 : Int).natAbs).length ≤ 1 := hd1
 have hd1j : (dig ((1 : Nat) : Int).natAbs).length ≤ 1 := hd1
 refine enter (args := [_, _]) Tryd.func32 rfl Tryd.ntmps32 rfl ?_
 refine WP_seq ?_
 refine WP_region ?_
 refine O_box _ rfl rfl rfl rfl (fun g1 w1 b1 e1 gl1 gh1 => ?_)
 have z1 := e1.size
 refine O_alloc S51 rfl rfl (fun g2 w2 b2 e2 gl2 gh2 => ?_)
 have z2 := e2.size
 refine O_assign rfl rfl rfl ?_
 refine WL_end [(1, _), (2, _), (4, _)] ⟨rfl, rfl, rfl, trivial⟩ ?_
 refine WP_seq ?_
 refine WP_region ?_
 refine O_field F51_0 rfl rfl rfl ?_
 refine O_loadA (vs := [_, _]) S24 rfl rfl rfl (b1.ext e2) rfl rfl ?_
 refine O_move rfl rfl rfl ?_
 refine O_call enters20 rfl rfl rfl (mint_T (hp.ext (e1.trans e2)) (by (try simp only [lens]); omega) (by (try simp only [lens]); omega)) (fun v3 w3 e3 h3 => ?_)
 have z3 := e3.size
 try simp only [val_dig] at h3
 obtain ⟨q3, rfl, hq3⟩ := h3
 have hlX := mk_len (a := n) bp hp (by omega)
 generalize mk bp (val lp) = X at hq3 hlX ⊢
 refine O_move rfl rfl rfl ?_
 refine O_extract rfl rfl rfl rfl ?_
 refine O_extract rfl rfl rfl rfl ?_
 refine O_alloc S24 rfl rfl (fun g4 w4 b4 e4 gl4 gh4 => ?_)
 have z4 := e4.size
 refine O_storeA (cs' := [_, _]) S24 rfl rfl rfl b4 rfl rfl (one_cons rfl (one_cons ((hq3.ext e4).nl).one one_nil)) rfl (fun w5 b5 q5 => ?_)
 have z5 := Nat.le_of_eq q5.size.symm
 have e5 : Ext w w5 := q5.ext (((e1.trans e2).trans e3).trans e4) (by omega)
 refine O_assign rfl rfl rfl ?_
 refine WL_end [(1, _), (2, _), (4, _), (6, _), (7, _)] ⟨rfl, rfl, rfl, rfl, rfl, trivial⟩ ?_
 refine WP_seq ?_
 refine WP_region ?_
 refine O_field F51_1 rfl rfl rfl ?_
 refine O_loadC Tryd.underlying22 rfl rfl rfl rfl ((((b1.ext e2).ext e3).ext e4).chg q5 (by first | assumption | omega)) rfl ?_
 refine O_move rfl rfl rfl ?_
 refine O_call enters75 rfl rfl rfl (mnat_c (hq.ext e5) (by (try simp only [lens]); omega) (by (try simp only [lens]); omega)) (fun v6 w6 e6 h6 => ?_)
 have z6 := e6.size
 try simp only [val_dig] at h6
 obtain ⟨q6, rfl, hq6⟩ := h6
 have hlD : (dig (val lq)).length ≤ n := Nat.le_trans (dig_len_le hq.d) (by omega)
 generalize val lq = d at hq6 hlD ⊢
 have hlDi : (dig (d : Int).natAbs).length ≤ n := hlD
 have hd0 := dig_len_zero (n := d)
 refine O_move rfl rfl rfl ?_
 refine O_extract rfl rfl rfl rfl ?_
 refine O_extract rfl rfl rfl rfl ?_
 refine O_assign rfl rfl rfl ?_
 refine O_assign rfl rfl rfl ?_
 refine WL_end [(4, _), (6, _), (7, _), (8, _), (9, _)] ⟨rfl, rfl, rfl, rfl, rfl, trivial⟩ ?_
 refine WP_seq ?_
 refine WP_seq ?_
 refine WP_region ?_
 refine O_move rfl rfl rfl ?_
 refine O_not rfl rfl rfl rfl ?_
 refine O_move rfl rfl rfl ?_
 refine O_move rfl rfl rfl ?_
 refine O_not rfl rfl rfl rfl ?_
 refine O_pickF rfl rfl rfl rfl ?_
 refine WL_end [(4, _), (6, _), (8, _), (31, _)] ⟨rfl, rfl, rfl, rfl, trivial⟩ ?_
 refine WP_condF rfl ?_
 refine WP_skip ?_
 refine WP_seq ?_
 refine WP_seq ?_
 refine WP_region ?_
 refine O_move rfl rfl rfl ?_
 refine N_len T22 rfl rfl rfl hq6.nl ?_
 refine O_eql rfl rfl rfl rfl rfl ?_
 refine WL_end [(4, _), (6, _), (8, _), (35, _)] ⟨rfl, rfl, rfl, rfl, trivial⟩ ?_
 refine WP_condD rfl (fun c35 => ?_) (fun c35 => ?_)
 · --
  refine WP_region ?_
  refine O_call enters76 rfl rfl rfl (rof_c 1 (by decide)) (fun v7 w7 e7 h7 => ?_)
  have z7 := e7.size
  try simp only [val_dig] at h7
  refine O_assign rfl rfl rfl ?_
  refine WL_end [(4, _), (6, _), (8, _)] ⟨rfl, rfl, rfl, trivial⟩ ?_
  refine WP_seq ?_
  refine WP_sub [(4, _), (6, _), (8, _)] ⟨rfl, rfl, rfl, trivial⟩ ?_
  have hS8n : ∀ g T, (g, T) ∈ (⟨[], [(51, 3)], (w7).heap.size⟩ : SS) → 89 ≠ T.1 := by
    intro g T hm; rw [mem_SS] at hm; simp only [List.mem_cons, Prod.mk.injEq, List.not_mem_nil, or_false, false_or, and_false] at hm
    rcases hm with ⟨_, rfl⟩
    · decide
  refine WP_anySR (⟨[], [(51, 3)], (w7).heap.size⟩ : SS) 9 [4, 6, 8] mixed rfl (by kernel_rfl) (Nat.le_refl _) ?_
  apply AnySR_val [6] rfl (by kernel_rfl)
  · --
   intro y9 hy9
   have zy9 := hy9.size
   have hx9 := hy9.toExt
   refine AllS_nil ?_
   refine O_loadA (vs := [_, _]) S24 rfl rfl rfl (((b5.ext e6).ext e7).ext hx9) rfl rfl ?_
   exact WL_nil ⟨(Ext.refl _), rfl⟩
  apply AnySR_val [8] rfl (by kernel_rfl)
  · --
   intro y10 hy10
   have zy10 := hy10.size
   have hx10 := hy10.toExt
   refine AllS_nil ?_
   refine O_move rfl rfl rfl ?_
   exact WL_nil ⟨(Ext.refl _), rfl⟩
  apply AnySR_rel (RelP (pAgg [pEq _, pNo w7.heap.size 89 _])) [39] rfl (RelP.monoS (pAgg_monoS (PsS.cons pEq_monoS (PsS.cons (pNo_monoS hS8n) PsS.nil)))) (by kernel_rfl)
  · --
   intro y11 hy11
   have zy11 := hy11.size
   have hx11 := hy11.toExt
   refine AllS_v ?_
   refine AllS_nil ?_
   refine O_call enters47 rfl rfl rfl (rinat_c (h7.ext hx11).nl (by (try simp only [lens]); omega)) (fun v12 w12 e12 h12 => ?_)
   have z12 := e12.size
   try simp only [val_dig] at h12
   obtain ⟨q12, rfl, hq12⟩ := h12
   simp only [val_dig, mkf, Int.natAbs_natCast] at hq12 ⊢
   exact WL_nil ⟨e12, _, rfl, ⟨_, rfl, (AllP.cons rfl (AllP.cons (hq12.mono (by omega)) AllP.nil))⟩⟩
  apply AnySR_rel (RelP (pTup [pAgg [pEq _, pNo w7.heap.size 89 _, pNo w7.heap.size 89 _], pEq _])) [38, 40] rfl (RelP.monoS (pTup_monoS (PsS.cons (pAgg_monoS (PsS.cons pEq_monoS (PsS.cons (pNo_monoS hS8n) (PsS.cons (pNo_monoS hS8n) PsS.nil)))) (PsS.cons pEq_monoS PsS.nil)))) (by kernel_rfl)
  · --
   intro y13 hy13
   have zy13 := hy13.size
   have hx13 := hy13.toExt
   refine AllS_v ?_
   refine AllS_r fun a14 b14 v14 la14 lb14 lc14 h14 ap14 => ?_
   clear ap14
   obtain ⟨_, rfl, v14_0, _, rfl, rfl, v14_1, _, rfl, h14_1, rfl⟩ := h14
   refine AllS_nil ?_
   refine O_call enters77 rfl rfl rfl (rmake07_c rfl (((((hq3.ext e4).chgBk b4 (by decide) q5).ext e6).ext e7).ext hx13).nl rfl h14_1.nl (by (try simp only [lens]); omega) (by (try simp only [lens]); omega) (by (try simp only [lens]); omega)) (fun v15 w15 e15 h15 => ?_)
   have z15 := e15.size
   try simp only [val_dig] at h15
   obtain ⟨q15, s15, rfl, hq15, hs15⟩ := h15
   exact WL_nil ⟨e15, _, rfl, ⟨_, rfl, (AllP.cons ⟨_, rfl, (AllP.cons rfl (AllP.cons (hq15.mono (by omega)) (AllP.cons (hs15.mono (by omega)) AllP.nil)))⟩ (AllP.cons rfl AllP.nil))⟩⟩
  apply AnySR_rel (RelP (pTup [pAgg [pEq _, pNo w7.heap.size 89 _, pNo w7.heap.size 89 _], pEq _])) [41] rfl (RelP.monoS (pTup_monoS (PsS.cons (pAgg_monoS (PsS.cons pEq_monoS (PsS.cons (pNo_monoS hS8n) (PsS.cons (pNo_monoS hS8n) PsS.nil)))) (PsS.cons pEq_monoS PsS.nil)))) (by kernel_rfl)
  · --
   intro y16 hy16
   have zy16 := hy16.size
   have hx16 := hy16.toExt
   refine AllS_r fun a17 b17 v17 la17 lb17 lc17 h17 ap17 => ?_
   clear ap17
   obtain ⟨_, rfl, v17_0, _, rfl, ⟨_, rfl, v17_0_0, _, rfl, rfl, v17_0_1, _, rfl, h17_0_1, v17_0_2, _, rfl, h17_0_2, rfl⟩, v17_1, _, rfl, rfl, rfl⟩ := h17
   refine AllS_nil ?_
   refine O_move rfl rfl rfl ?_
   exact WL_nil ⟨(Ext.refl _), _, rfl, ⟨_, rfl, (AllP.cons ⟨_, rfl, (AllP.cons rfl (AllP.cons (h17_0_1.mono (by omega)) (AllP.cons (h17_0_2.mono (by omega)) AllP.nil)))⟩ (AllP.cons rfl AllP.nil))⟩⟩
  apply AnySR_rel (RelP (pAgg [pEq _, pNo w7.heap.size 89 _, pNo w7.heap.size 89 _])) [37] rfl (RelP.monoS (pAgg_monoS (PsS.cons pEq_monoS (PsS.cons (pNo_monoS hS8n) (PsS.cons (pNo_monoS hS8n) PsS.nil))))) (by kernel_rfl)
  · --
   intro y18 hy18
   have zy18 := hy18.size
   have hx18 := hy18.toExt
   refine AllS_r fun a19 b19 v19 la19 lb19 lc19 h19 ap19 => ?_
   clear ap19
   obtain ⟨_, rfl, v19_0, _, rfl, ⟨_, rfl, v19_0_0, _, rfl, rfl, v19_0_1, _, rfl, h19_0_1, v19_0_2, _, rfl, h19_0_2, rfl⟩, v19_1, _, rfl, rfl, rfl⟩ := h19
   refine AllS_nil ?_
   refine O_extract rfl rfl rfl rfl ?_
   exact WL_nil ⟨(Ext.refl _), _, rfl, ⟨_, rfl, (AllP.cons rfl (AllP.cons (h19_0_1.mono (by omega)) (AllP.cons (h19_0_2.mono (by omega)) AllP.nil)))⟩⟩
  apply AnySR_val [37] rfl (by kernel_rfl)
  · --
   intro y20 hy20
   have zy20 := hy20.size
   have hx20 := hy20.toExt
   refine AllS_r fun a21 b21 v21 la21 lb21 lc21 h21 ap21 => ?_
   clear ap21
   obtain ⟨_, rfl, v21_0, _, rfl, ⟨_, rfl, v21_0_0, _, rfl, rfl, v21_0_1, _, rfl, h21_0_1, v21_0_2, _, rfl, h21_0_2, rfl⟩, v21_1, _, rfl, rfl, rfl⟩ := h21
   refine AllS_nil ?_
   refine O_extract rfl rfl rfl rfl ?_
   exact WL_nil ⟨(Ext.refl _), rfl⟩
  apply AnySR_rel (BkTR (51, 3)) [] rfl BkTR.monoS (by kernel_rfl)
  · --
   intro y22 hy22
   have zy22 := hy22.size
   have hx22 := hy22.toExt
   refine AllS_nil ?_
   refine O_alloc S51 rfl rfl (fun g23 w23 b23 e23 gl23 gh23 => ?_)
   have z23 := e23.size
   exact WL_nil ⟨e23, _, rfl, g23, rfl, gl23, gh23, _, b23, rfl⟩
  apply AnySR_stv 10 (51, 3) (pStv 51 [pEq _, pNo w7.heap.size 89 _, pNo w7.heap.size 89 _]) [10, 42] rfl (by simp) rfl rfl ⟨BkTR (51, 3), (by repeat first | exact List.Mem.head _ | apply List.Mem.tail), BkTR.ptr⟩ (pStv_monoS (PsS.cons pEq_monoS (PsS.cons (pNo_monoS hS8n) (PsS.cons (pNo_monoS hS8n) PsS.nil)))) (by exact (compat_cons ⟨trivial, trivial⟩ (compat_cons ⟨trivial, trivial⟩ (compat_cons ⟨trivial, trivial⟩ (compat_cons ⟨trivial, trivial⟩ (compat_cons ⟨trivial, trivial⟩ (compat_cons ⟨trivial, trivial⟩ (compat_cons ⟨trivial, trivial⟩ (compat_cons ⟨trivial, trivial⟩ compat_nil))))))))) (by kernel_rfl)
  · --
   intro y24 hy24
   have zy24 := hy24.size
   have hx24 := hy24.toExt
   refine AllS_r fun a25 b25 v25 la25 lb25 lc25 h25 ap25 => ?_
   clear ap25
   obtain ⟨_, rfl, v25_0, _, rfl, rfl, v25_1, _, rfl, h25_1, v25_2, _, rfl, h25_2, rfl⟩ := h25
   refine AllS_r fun a26 b26 v26 la26 lb26 lc26 h26 ap26 => ?_
   clear ap26
   obtain ⟨g26, rfl, gl26, gh26, hB26⟩ := h26
   refine AllS_nil ?_
   have hB24 := hB26
   refine O_storeW S51 rfl rfl rfl hB24 rfl (one_cons rfl (one_cons (h25_1.nl).one (one_cons (h25_2.nl).one one_nil))) (fun w24 b24 q24 => ?_)
   obtain ⟨cs24, hk24, hl24⟩ := hB24
   exact WL_nil ⟨g26, rfl, ⟨⟨cs24, hk24, hl24⟩, q24, ⟨_, b24, rfl⟩⟩, fun g' e' => by cases e'; exact ⟨_, b24, (AllP.cons rfl (AllP.cons (((h25_1).mono (by omega)).chgBk hk24 (by decide) q24) (AllP.cons (((h25_2).mono (by omega)).chgBk hk24 (by decide) q24) AllP.nil)))⟩⟩
  refine AnySR_nil fun y27 hy27 => ?_
  have zy27 := hy27.size
  have hx27 := hy27.toExt
  refine AllS_v ?_
  refine AllS_v ?_
  refine AllS_r fun a28 b28 v28 la28 lb28 lc28 h28 ap28 => ?_
  clear ap28
  obtain ⟨_, rfl, v28_0, _, rfl, rfl, v28_1, _, rfl, h28_1, rfl⟩ := h28
  refine AllS_r fun a29 b29 v29 la29 lb29 lc29 h29 ap29 => ?_
  clear ap29
  obtain ⟨_, rfl, v29_0, _, rfl, ⟨_, rfl, v29_0_0, _, rfl, rfl, v29_0_1, _, rfl, h29_0_1, v29_0_2, _, rfl, h29_0_2, rfl⟩, v29_1, _, rfl, rfl, rfl⟩ := h29
  refine AllS_r fun a30 b30 v30 la30 lb30 lc30 h30 ap30 => ?_
  clear ap30
  obtain ⟨_, rfl, v30_0, _, rfl, ⟨_, rfl, v30_0_0, _, rfl, rfl, v30_0_1, _, rfl, h30_0_1, v30_0_2, _, rfl, h30_0_2, rfl⟩, v30_1, _, rfl, rfl, rfl⟩ := h30
  refine AllS_r fun a31 b31 v31 la31 lb31 lc31 h31 ap31 => ?_
  clear ap31
  obtain ⟨_, rfl, v31_0, _, rfl, rfl, v31_1, _, rfl, h31_1, v31_2, _, rfl, h31_2, rfl⟩ := h31
  refine AllS_v ?_
  refine AllS_r fun a32 b32 v32 la32 lb32 lc32 h32 ap32 => ?_
  clear ap32
  obtain ⟨g32, rfl, gl32, gh32, hB32⟩ := h32
  refine AllS_qv rfl fun hq33 => ?_
  obtain ⟨_, hb33, u33_0, _, rfl, rfl, u33_1, _, rfl, hu33_1, u33_2, _, rfl, hu33_2, rfl⟩ := hq33 g32 rfl
  refine AllS_nil ?_
  refine O_assign rfl rfl rfl ?_
  refine WL_end [(4, _), (10, _)] ⟨rfl, rfl, trivial⟩ ?_
  refine WP_seq ?_
  refine WP_region ?_
  refine O_loadA (vs := [_, _, _]) S51 rfl rfl rfl hb33 rfl rfl ?_
  refine O_storeA (cs' := [_, _, _]) S51 rfl rfl rfl ((((((b2.ext e3).ext e4).chg q5 (by first | assumption | omega)).ext e6).ext e7).ext hx27) rfl rfl (one_cons rfl (one_cons (hu33_1.nl).one (one_cons (hu33_2.nl).one one_nil))) rfl (fun w34 b34 q34 => ?_)
  have z34 := Nat.le_of_eq q34.size.symm
  have e34 : Ext w w34 := q34.ext (((e5.trans e6).trans e7).trans hx27) (by omega)
  refine O_assign rfl rfl rfl ?_
  refine WL_end [(4, _), (5, _)] ⟨rfl, rfl, trivial⟩ ?_
  refine WP_ret ?_
  refine retL Tryd.results32 (.cell rfl S51 b34 rfl (.tmp rfl .nil)) ?_
  first
    | (refine ⟨_, rfl, e34, _, _, _, _, _, rfl, (hu33_1.chgBk ((((((b2.ext e3).ext e4).chg q5 (by first | assumption | omega)).ext e6).ext e7).ext hx27) (by decide) q34).mono (by omega), (hu33_2.chgBk ((((((b2.ext e3).ext e4).chg q5 (by first | assumption | omega)).ext e6).ext e7).ext hx27) (by decide) q34).mono (by omega), fun _ => ?_, ?_, ?_⟩
       · rw [mk_abs]; exact gcd_cop (by omega)
       · rw [mk_abs]; exact Nat.le_trans (dig_len_mono (Nat.div_le_self _ _)) (by omega)
       · exact Nat.le_trans (dig_len_mono (Nat.div_le_self _ _)) (by omega))
 · --
  refine WP_skip ?_
  refine WP_seq ?_
  refine WP_sub [(4, _), (6, _), (8, _)] ⟨rfl, rfl, rfl, trivial⟩ ?_
  have hS35n : ∀ g T, (g, T) ∈ (⟨[], [(51, 3)], (w6).heap.size⟩ : SS) → 89 ≠ T.1 := by
    intro g T hm; rw [mem_SS] at hm; simp only [List.mem_cons, Prod.mk.injEq, List.not_mem_nil, or_false, false_or, and_false] at hm
    rcases hm with ⟨_, rfl⟩
    · decide
  refine WP_anySR (⟨[], [(51, 3)], (w6).heap.size⟩ : SS) 9 [4, 6, 8] mixed rfl (by kernel_rfl) (Nat.le_refl _) ?_
  apply AnySR_val [6] rfl (by kernel_rfl)
  · --
   intro y36 hy36
   have zy36 := hy36.size
   have hx36 := hy36.toExt
   refine AllS_nil ?_
   refine O_loadA (vs := [_, _]) S24 rfl rfl rfl ((b5.ext e6).ext hx36) rfl rfl ?_
   exact WL_nil ⟨(Ext.refl _), rfl⟩
  apply AnySR_val [8] rfl (by kernel_rfl)
  · --
   intro y37 hy37
   have zy37 := hy37.size
   have hx37 := hy37.toExt
   refine AllS_nil ?_
   refine O_move rfl rfl rfl ?_
   exact WL_nil ⟨(Ext.refl _), rfl⟩
  apply AnySR_rel (RelP (pAgg [pEq _, pNo w6.heap.size 89 _])) [39] rfl (RelP.monoS (pAgg_monoS (PsS.cons pEq_monoS (PsS.cons (pNo_monoS hS35n) PsS.nil)))) (by kernel_rfl)
  · --
   intro y38 hy38
   have zy38 := hy38.size
   have hx38 := hy38.toExt
   refine AllS_v ?_
   refine AllS_nil ?_
   refine O_call enters47 rfl rfl rfl (rinat_c (hq6.ext hx38).nl (by (try simp only [lens]); omega)) (fun v39 w39 e39 h39 => ?_)
   have z39 := e39.size
   try simp only [val_dig] at h39
   obtain ⟨q39, rfl, hq39⟩ := h39
   simp only [val_dig, mkf, Int.natAbs_natCast] at hq39 ⊢
   exact WL_nil ⟨e39, _, rfl, ⟨_, rfl, (AllP.cons rfl (AllP.cons (hq39.mono (by omega)) AllP.nil))⟩⟩
  apply AnySR_rel (RelP (pTup [pAgg [pEq _, pNo w6.heap.size 89 _, pNo w6.heap.size 89 _], pEq _])) [38, 40] rfl (RelP.monoS (pTup_monoS (PsS.cons (pAgg_monoS (PsS.cons pEq_monoS (PsS.cons (pNo_monoS hS35n) (PsS.cons (pNo_monoS hS35n) PsS.nil)))) (PsS.cons pEq_monoS PsS.nil)))) (by kernel_rfl)
  · --
   intro y40 hy40
   have zy40 := hy40.size
   have hx40 := hy40.toExt
   refine AllS_v ?_
   refine AllS_r fun a41 b41 v41 la41 lb41 lc41 h41 ap41 => ?_
   clear ap41
   obtain ⟨_, rfl, v41_0, _, rfl, rfl, v41_1, _, rfl, h41_1, rfl⟩ := h41
   refine AllS_nil ?_
   refine O_call enters77 rfl rfl rfl (rmake07_c rfl ((((hq3.ext e4).chgBk b4 (by decide) q5).ext e6).ext hx40).nl rfl h41_1.nl (by (try simp only [lens]); omega) (by (try simp only [lens]); omega) (by (try simp only [lens]); omega)) (fun v42 w42 e42 h42 => ?_)
   have z42 := e42.size
   try simp only [val_dig] at h42
   obtain ⟨q42, s42, rfl, hq42, hs42⟩ := h42
   exact WL_nil ⟨e42, _, rfl, ⟨_, rfl, (AllP.cons ⟨_, rfl, (AllP.cons rfl (AllP.cons (hq42.mono (by omega)) (AllP.cons (hs42.mono (by omega)) AllP.nil)))⟩ (AllP.cons rfl AllP.nil))⟩⟩
  apply AnySR_rel (RelP (pTup [pAgg [pEq _, pNo w6.heap.size 89 _, pNo w6.heap.size 89 _], pEq _])) [41] rfl (RelP.monoS (pTup_monoS (PsS.cons (pAgg_monoS (PsS.cons pEq_monoS (PsS.cons (pNo_monoS hS35n) (PsS.cons (pNo_monoS hS35n) PsS.nil)))) (PsS.cons pEq_monoS PsS.nil)))) (by kernel_rfl)
  · --
   intro y43 hy43
   have zy43 := hy43.size
   have hx43 := hy43.toExt
   refine AllS_r fun a44 b44 v44 la44 lb44 lc44 h44 ap44 => ?_
   clear ap44
   obtain ⟨_, rfl, v44_0, _, rfl, ⟨_, rfl, v44_0_0, _, rfl, rfl, v44_0_1, _, rfl, h44_0_1, v44_0_2, _, rfl, h44_0_2, rfl⟩, v44_1, _, rfl, rfl, rfl⟩ := h44
   refine AllS_nil ?_
   refine O_move rfl rfl rfl ?_
   exact WL_nil ⟨(Ext.refl _), _, rfl, ⟨_, rfl, (AllP.cons ⟨_, rfl, (AllP.cons rfl (AllP.cons (h44_0_1.mono (by omega)) (AllP.cons (h44_0_2.mono (by omega)) AllP.nil)))⟩ (AllP.cons rfl AllP.nil))⟩⟩
  apply AnySR_rel (RelP (pAgg [pEq _, pNo w6.heap.size 89 _, pNo w6.heap.size 89 _])) [37] rfl (RelP.monoS (pAgg_monoS (PsS.cons pEq_monoS (PsS.cons (pNo_monoS hS35n) (PsS.cons (pNo_monoS hS35n) PsS.nil))))) (by kernel_rfl)
  · --
   intro y45 hy45
   have zy45 := hy45.size
   have hx45 := hy45.toExt
   refine AllS_r fun a46 b46 v46 la46 lb46 lc46 h46 ap46 => ?_
   clear ap46
   obtain ⟨_, rfl, v46_0, _, rfl, ⟨_, rfl, v46_0_0, _, rfl, rfl, v46_0_1, _, rfl, h46_0_1, v46_0_2, _, rfl, h46_0_2, rfl⟩, v46_1, _, rfl, rfl, rfl⟩ := h46
   refine AllS_nil ?_
   refine O_extract rfl rfl rfl rfl ?_
   exact WL_nil ⟨(Ext.refl _), _, rfl, ⟨_, rfl, (AllP.cons rfl (AllP.cons (h46_0_1.mono (by omega)) (AllP.cons (h46_0_2.mono (by omega)) AllP.nil)))⟩⟩
  apply AnySR_val [37] rfl (by kernel_rfl)
  · --
   intro y47 hy47
   have zy47 := hy47.size
   have hx47 := hy47.toExt
   refine AllS_r fun a48 b48 v48 la48 lb48 lc48 h48 ap48 => ?_
   clear ap48
   obtain ⟨_, rfl, v48_0, _, rfl, ⟨_, rfl, v48_0_0, _, rfl, rfl, v48_0_1, _, rfl, h48_0_1, v48_0_2, _, rfl, h48_0_2, rfl⟩, v48_1, _, rfl, rfl, rfl⟩ := h48
   refine AllS_nil ?_
   refine O_extract rfl rfl rfl rfl ?_
   exact WL_nil ⟨(Ext.refl _), rfl⟩
  apply AnySR_rel (BkTR (51, 3)) [] rfl BkTR.monoS (by kernel_rfl)
  · --
   intro y49 hy49
   have zy49 := hy49.size
   have hx49 := hy49.toExt
   refine AllS_nil ?_
   refine O_alloc S51 rfl rfl (fun g50 w50 b50 e50 gl50 gh50 => ?_)
   have z50 := e50.size
   exact WL_nil ⟨e50, _, rfl, g50, rfl, gl50, gh50, _, b50, rfl⟩
  apply AnySR_stv 10 (51, 3) (pStv 51 [pEq _, pNo w6.heap.size 89 _, pNo w6.heap.size 89 _]) [10, 42] rfl (by simp) rfl rfl ⟨BkTR (51, 3), (by repeat first | exact List.Mem.head _ | apply List.Mem.tail), BkTR.ptr⟩ (pStv_monoS (PsS.cons pEq_monoS (PsS.cons (pNo_monoS hS35n) (PsS.cons (pNo_monoS hS35n) PsS.nil)))) (by exact (compat_cons ⟨trivial, trivial⟩ (compat_cons ⟨trivial, trivial⟩ (compat_cons ⟨trivial, trivial⟩ (compat_cons ⟨trivial, trivial⟩ (compat_cons ⟨trivial, trivial⟩ (compat_cons ⟨trivial, trivial⟩ (compat_cons ⟨trivial, trivial⟩ (compat_cons ⟨trivial, trivial⟩ compat_nil))))))))) (by kernel_rfl)
  · --
   intro y51 hy51
   have zy51 := hy51.size
   have hx51 := hy51.toExt
   refine AllS_r fun a52 b52 v52 la52 lb52 lc52 h52 ap52 => ?_
   clear ap52
   obtain ⟨_, rfl, v52_0, _, rfl, rfl, v52_1, _, rfl, h52_1, v52_2, _, rfl, h52_2, rfl⟩ := h52
   refine AllS_r fun a53 b53 v53 la53 lb53 lc53 h53 ap53 => ?_
   clear ap53
   obtain ⟨g53, rfl, gl53, gh53, hB53⟩ := h53
   refine AllS_nil ?_
   have hB51 := hB53
   refine O_storeW S51 rfl rfl rfl hB51 rfl (one_cons rfl (one_cons (h52_1.nl).one (one_cons (h52_2.nl).one one_nil))) (fun w51 b51 q51 => ?_)
   obtain ⟨cs51, hk51, hl51⟩ := hB51
   exact WL_nil ⟨g53, rfl, ⟨⟨cs51, hk51, hl51⟩, q51, ⟨_, b51, rfl⟩⟩, fun g' e' => by cases e'; exact ⟨_, b51, (AllP.cons rfl (AllP.cons (((h52_1).mono (by omega)).chgBk hk51 (by decide) q51) (AllP.cons (((h52_2).mono (by omega)).chgBk hk51 (by decide) q51) AllP.nil)))⟩⟩
  refine AnySR_nil fun y54 hy54 => ?_
  have zy54 := hy54.size
  have hx54 := hy54.toExt
  refine AllS_v ?_
  refine AllS_v ?_
  refine AllS_r fun a55 b55 v55 la55 lb55 lc55 h55 ap55 => ?_
  clear ap55
  obtain ⟨_, rfl, v55_0, _, rfl, rfl, v55_1, _, rfl, h55_1, rfl⟩ := h55
  refine AllS_r fun a56 b56 v56 la56 lb56 lc56 h56 ap56 => ?_
  clear ap56
  obtain ⟨_, rfl, v56_0, _, rfl, ⟨_, rfl, v56_0_0, _, rfl, rfl, v56_0_1, _, rfl, h56_0_1, v56_0_2, _, rfl, h56_0_2, rfl⟩, v56_1, _, rfl, rfl, rfl⟩ := h56
  refine AllS_r fun a57 b57 v57 la57 lb57 lc57 h57 ap57 => ?_
  clear ap57
  obtain ⟨_, rfl, v57_0, _, rfl, ⟨_, rfl, v57_0_0, _, rfl, rfl, v57_0_1, _, rfl, h57_0_1, v57_0_2, _, rfl, h57_0_2, rfl⟩, v57_1, _, rfl, rfl, rfl⟩ := h57
  refine AllS_r fun a58 b58 v58 la58 lb58 lc58 h58 ap58 => ?_
  clear ap58
  obtain ⟨_, rfl, v58_0, _, rfl, rfl, v58_1, _, rfl, h58_1, v58_2, _, rfl, h58_2, rfl⟩ := h58
  refine AllS_v ?_
  refine AllS_r fun a59 b59 v59 la59 lb59 lc59 h59 ap59 => ?_
  clear ap59
  obtain ⟨g59, rfl, gl59, gh59, hB59⟩ := h59
  refine AllS_qv rfl fun hq60 => ?_
  obtain ⟨_, hb60, u60_0, _, rfl, rfl, u60_1, _, rfl, hu60_1, u60_2, _, rfl, hu60_2, rfl⟩ := hq60 g59 rfl
  refine AllS_nil ?_
  refine O_assign rfl rfl rfl ?_
  refine WL_end [(4, _), (10, _)] ⟨rfl, rfl, trivial⟩ ?_
  refine WP_seq ?_
  refine WP_region ?_
  refine O_loadA (vs := [_, _, _]) S51 rfl rfl rfl hb60 rfl rfl ?_
  refine O_storeA (cs' := [_, _, _]) S51 rfl rfl rfl (((((b2.ext e3).ext e4).chg q5 (by first | assumption | omega)).ext e6).ext hx54) rfl rfl (one_cons rfl (one_cons (hu60_1.nl).one (one_cons (hu60_2.nl).one one_nil))) rfl (fun w61 b61 q61 => ?_)
  have z61 := Nat.le_of_eq q61.size.symm
  have e61 : Ext w w61 := q61.ext ((e5.trans e6).trans hx54) (by omega)
  refine O_assign rfl rfl rfl ?_
  refine WL_end [(4, _), (5, _)] ⟨rfl, rfl, trivial⟩ ?_
  refine WP_ret ?_
  refine retL Tryd.results32 (.cell rfl S51 b61 rfl (.tmp rfl .nil)) ?_
  first
    | (refine ⟨_, rfl, e61, _, _, _, _, _, rfl, (hu60_1.chgBk (((((b2.ext e3).ext e4).chg q5 (by first | assumption | omega)).ext e6).ext hx54) (by decide) q61).mono (by omega), (hu60_2.chgBk (((((b2.ext e3).ext e4).chg q5 (by first | assumption | omega)).ext e6).ext hx54) (by decide) q61).mono (by omega), fun _ => ?_, ?_, ?_⟩
       · rw [mk_abs]; exact gcd_cop (by omega)
       · rw [mk_abs]; exact Nat.le_trans (dig_len_mono (Nat.div_le_self _ _)) (by omega)
       · exact Nat.le_trans (dig_len_mono (Nat.div_le_self _ _)) (by omega))

theorem mrat_FT {w : World} {vp vq : Value} {lp lq : List Nat} {bp : Bool} {n : Nat} (hp : Nl w vp lp) (hq : Nl w vq lq) (hn : n ≤ 1000) (hn1 : 1 ≤ n) (h1 : n < lp.length) (h2 : lq.length ≤ n) :
    Calls Tryd.prog 32 #[.agg #[.bool bp, vp, vq], .int .i64 (n : Nat)] w (Ret w fun r w' => ∃ (p : Int) (q : Nat) (vn vd : Value) (b : Bool), r = .tuple #[.agg #[.bool (decide (p < 0)), vn, vd], .bool b] ∧ No w.heap.size 89 w' vn (dig p.natAbs) ∧ No w.heap.size 89 w' vd (dig q) ∧ (b = true → 0 < q ∧ Nat.gcd p.natAbs q = 1) ∧ (dig p.natAbs).length ≤ n ∧ (dig q).length ≤ n) := by
 refine enter (args := [_, _]) Tryd.func32 rfl Tryd.ntmps32 rfl ?_
 refine WP_seq ?_
 refine WP_region ?_
 refine O_box _ rfl rfl rfl rfl (fun g1 w1 b1 e1 gl1 gh1 => ?_)
 have z1 := e1.size
 refine O_alloc S51 rfl rfl (fun g2 w2 b2 e2 gl2 gh2 => ?_)
 have z2 := e2.size
 refine O_assign rfl rfl rfl ?_
 refine WL_end [(1, _), (2, _), (4, _)] ⟨rfl, rfl, rfl, trivial⟩ ?_
 refine WP_seq ?_
 refine WP_region ?_
 refine O_field F51_0 rfl rfl rfl ?_
 refine O_loadA (vs := [_, _]) S24 rfl rfl rfl (b1.ext e2) rfl rfl ?_
 refine O_move rfl rfl rfl ?_
 refine O_call enters20 rfl rfl rfl (mint_F (hp.ext (e1.trans e2)) (by (try simp only [lens]); omega) (by (try simp only [lens]); omega)) (fun v3 w3 e3 h3 => ?_)
 have z3 := e3.size
 try simp only [val_dig] at h3
 obtain rfl := h3
 refine O_move rfl rfl rfl ?_
 refine O_extract rfl rfl rfl rfl ?_
 refine O_extract rfl rfl rfl rfl ?_
 refine O_alloc S24 rfl rfl (fun g4 w4 b4 e4 gl4 gh4 => ?_)
 have z4 := e4.size
 refine O_storeA (cs' := [_, _]) S24 rfl rfl rfl b4 rfl rfl (one_cons rfl (one_cons rfl one_nil)) rfl (fun w5 b5 q5 => ?_)
 have z5 := Nat.le_of_eq q5.size.symm
 have e5 : Ext w w5 := q5.ext (((e1.trans e2).trans e3).trans e4) (by omega)
 refine O_assign rfl rfl rfl ?_
 refine WL_end [(1, _), (2, _), (4, _), (6, _), (7, _)] ⟨rfl, rfl, rfl, rfl, rfl, trivial⟩ ?_
 refine WP_seq ?_
 refine WP_region ?_
 refine O_field F51_1 rfl rfl rfl ?_
 refine O_loadC Tryd.underlying22 rfl rfl rfl rfl ((((b1.ext e2).ext e3).ext e4).chg q5 (by first | assumption | omega)) rfl ?_
 refine O_move rfl rfl rfl ?_
 refine O_call enters75 rfl rfl rfl (mnat_c (hq.ext e5) (by (try simp only [lens]); omega) (by (try simp only [lens]); omega)) (fun v6 w6 e6 h6 => ?_)
 have z6 := e6.size
 try simp only [val_dig] at h6
 obtain ⟨q6, rfl, hq6⟩ := h6
 refine O_move rfl rfl rfl ?_
 refine O_extract rfl rfl rfl rfl ?_
 refine O_extract rfl rfl rfl rfl ?_
 refine O_assign rfl rfl rfl ?_
 refine O_assign rfl rfl rfl ?_
 refine WL_end [(4, _), (6, _), (7, _), (8, _), (9, _)] ⟨rfl, rfl, rfl, rfl, rfl, trivial⟩ ?_
 refine WP_seq ?_
 refine WP_seq ?_
 refine WP_region ?_
 refine O_move rfl rfl rfl ?_
 refine O_not rfl rfl rfl rfl ?_
 refine O_move rfl rfl rfl ?_
 refine O_skip rfl rfl ?_
 refine O_skip rfl rfl ?_
 refine O_pickT rfl rfl rfl rfl ?_
 refine WL_end [(4, _), (6, _), (8, _), (31, _)] ⟨rfl, rfl, rfl, rfl, trivial⟩ ?_
 refine WP_condT rfl ?_
 refine WP_seq ?_
 refine WP_region ?_
 refine O_build (cs := [_, _, _]) B51 rfl rfl rfl cells_nil rfl ?_
 refine O_storeA (cs' := [_, _, _]) S51 rfl rfl rfl ((((b2.ext e3).ext e4).chg q5 (by first | assumption | omega)).ext e6) rfl rfl (one_cons rfl (one_cons rfl (one_cons rfl one_nil))) rfl (fun w7 b7 q7 => ?_)
 have z7 := Nat.le_of_eq q7.size.symm
 have e7 : Ext w w7 := q7.ext (e5.trans e6) (by omega)
 refine O_assign rfl rfl rfl ?_
 refine WL_end [(4, _), (5, _)] ⟨rfl, rfl, trivial⟩ ?_
 refine WP_ret ?_
 refine retL Tryd.results32 (.cell rfl S51 b7 rfl (.tmp rfl .nil)) ?_
 exact ⟨_, rfl, e7, 0, 0, _, _, _, rfl, by rw [dig0]; exact No.nil _ _ _, by rw [dig_zero]; exact No.nil _ _ _, (fun h => by cases h), by rw [dig0]; exact Nat.zero_le _, by rw [dig_zero]; exact Nat.zero_le _⟩

theorem mrat_FF {w : World} {vp vq : Value} {lp lq : List Nat} {bp : Bool} {n : Nat} (hp : Nl w vp lp) (hq : Nl w vq lq) (hn : n ≤ 1000) (hn1 : 1 ≤ n) (h1 : n < lp.length) (h2 : n < lq.length) :
    Calls Tryd.prog 32 #[.agg #[.bool bp, vp, vq], .int .i64 (n : Nat)] w (Ret w fun r w' => ∃ (p : Int) (q : Nat) (vn vd : Value) (b : Bool), r = .tuple #[.agg #[.bool (decide (p < 0)), vn, vd], .bool b] ∧ No w.heap.size 89 w' vn (dig p.natAbs) ∧ No w.heap.size 89 w' vd (dig q) ∧ (b = true → 0 < q ∧ Nat.gcd p.natAbs q = 1) ∧ (dig p.natAbs).length ≤ n ∧ (dig q).length ≤ n) := by
 refine enter (args := [_, _]) Tryd.func32 rfl Tryd.ntmps32 rfl ?_
 refine WP_seq ?_
 refine WP_region ?_
 refine O_box _ rfl rfl rfl rfl (fun g1 w1 b1 e1 gl1 gh1 => ?_)
 have z1 := e1.size
 refine O_alloc S51 rfl rfl (fun g2 w2 b2 e2 gl2 gh2 => ?_)
 have z2 := e2.size
 refine O_assign rfl rfl rfl ?_
 refine WL_end [(1, _), (2, _), (4, _)] ⟨rfl, rfl, rfl, trivial⟩ ?_
 refine WP_seq ?_
 refine WP_region ?_
 refine O_field F51_0 rfl rfl rfl ?_
 refine O_loadA (vs := [_, _]) S24 rfl rfl rfl (b1.ext e2) rfl rfl ?_
 refine O_move rfl rfl rfl ?_
 refine O_call enters20 rfl rfl rfl (mint_F (hp.ext (e1.trans e2)) (by (try simp only [lens]); omega) (by (try simp only [lens]); omega)) (fun v3 w3 e3 h3 => ?_)
 have z3 := e3.size
 try simp only [val_dig] at h3
 obtain rfl := h3
 refine O_move rfl rfl rfl ?_
 refine O_extract rfl rfl rfl rfl ?_
 refine O_extract rfl rfl rfl rfl ?_
 refine O_alloc S24 rfl rfl (fun g4 w4 b4 e4 gl4 gh4 => ?_)
 have z4 := e4.size
 refine O_storeA (cs' := [_, _]) S24 rfl rfl rfl b4 rfl rfl (one_cons rfl (one_cons rfl one_nil)) rfl (fun w5 b5 q5 => ?_)
 have z5 := Nat.le_of_eq q5.size.symm
 have e5 : Ext w w5 := q5.ext (((e1.trans e2).trans e3).trans e4) (by omega)
 refine O_assign rfl rfl rfl ?_
 refine WL_end [(1, _), (2, _), (4, _), (6, _), (7, _)] ⟨rfl, rfl, rfl, rfl, rfl, trivial⟩ ?_
 refine WP_seq ?_
 refine WP_region ?_
 refine O_field F51_1 rfl rfl rfl ?_
 refine O_loadC Tryd.underlying22 rfl rfl rfl rfl ((((b1.ext e2).ext e3).ext e4).chg q5 (by first | assumption | omega)) rfl ?_
 refine O_move rfl rfl rfl ?_
 refine O_call enters75 rfl rfl rfl (mnat_no (hq.ext e5) (by (try simp only [lens]); omega)) (fun v6 w6 e6 h6 => ?_)
 have z6 := e6.size
 try simp only [val_dig] at h6
 obtain rfl := h6
 refine O_move rfl rfl rfl ?_
 refine O_extract rfl rfl rfl rfl ?_
 refine O_extract rfl rfl rfl rfl ?_
 refine O_assign rfl rfl rfl ?_
 refine O_assign rfl rfl rfl ?_
 refine WL_end [(4, _), (6, _), (7, _), (8, _), (9, _)] ⟨rfl, rfl, rfl, rfl, rfl, trivial⟩ ?_
 refine WP_seq ?_
 refine WP_seq ?_
 refine WP_region ?_
 refine O_move rfl rfl rfl ?_
 refine O_not rfl rfl rfl rfl ?_
 refine O_move rfl rfl rfl ?_
 refine O_skip rfl rfl ?_
 refine O_skip rfl rfl ?_
 refine O_pickT rfl rfl rfl rfl ?_
 refine WL_end [(4, _), (6, _), (8, _), (31, _)] ⟨rfl, rfl, rfl, rfl, trivial⟩ ?_
 refine WP_condT rfl ?_
 refine WP_seq ?_
 refine WP_region ?_
 refine O_build (cs := [_, _, _]) B51 rfl rfl rfl cells_nil rfl ?_
 refine O_storeA (cs' := [_, _, _]) S51 rfl rfl rfl ((((b2.ext e3).ext e4).chg q5 (by first | assumption | omega)).ext e6) rfl rfl (one_cons rfl (one_cons rfl (one_cons rfl one_nil))) rfl (fun w7 b7 q7 => ?_)
 have z7 := Nat.le_of_eq q7.size.symm
 have e7 : Ext w w7 := q7.ext (e5.trans e6) (by omega)
 refine O_assign rfl rfl rfl ?_
 refine WL_end [(4, _), (5, _)] ⟨rfl, rfl, trivial⟩ ?_
 refine WP_ret ?_
 refine retL Tryd.results32 (.cell rfl S51 b7 rfl (.tmp rfl .nil)) ?_
 exact ⟨_, rfl, e7, 0, 0, _, _, _, rfl, by rw [dig0]; exact No.nil _ _ _, by rw [dig_zero]; exact No.nil _ _ _, (fun h => by cases h), by rw [dig0]; exact Nat.zero_le _, by rw [dig_zero]; exact Nat.zero_le _⟩

theorem mrat_TF {w : World} {vp vq : Value} {lp lq : List Nat} {bp : Bool} {n : Nat} (hp : Nl w vp lp) (hq : Nl w vq lq) (hn : n ≤ 1000) (hn1 : 1 ≤ n) (h1 : lp.length ≤ n) (h2 : n < lq.length) :
    Calls Tryd.prog 32 #[.agg #[.bool bp, vp, vq], .int .i64 (n : Nat)] w (Ret w fun r w' => ∃ (p : Int) (q : Nat) (vn vd : Value) (b : Bool), r = .tuple #[.agg #[.bool (decide (p < 0)), vn, vd], .bool b] ∧ No w.heap.size 89 w' vn (dig p.natAbs) ∧ No w.heap.size 89 w' vd (dig q) ∧ (b = true → 0 < q ∧ Nat.gcd p.natAbs q = 1) ∧ (dig p.natAbs).length ≤ n ∧ (dig q).length ≤ n) := by
 refine enter (args := [_, _]) Tryd.func32 rfl Tryd.ntmps32 rfl ?_
 refine WP_seq ?_
 refine WP_region ?_
 refine O_box _ rfl rfl rfl rfl (fun g1 w1 b1 e1 gl1 gh1 => ?_)
 have z1 := e1.size
 refine O_alloc S51 rfl rfl (fun g2 w2 b2 e2 gl2 gh2 => ?_)
 have z2 := e2.size
 refine O_assign rfl rfl rfl ?_
 refine WL_end [(1, _), (2, _), (4, _)] ⟨rfl, rfl, rfl, trivial⟩ ?_
 refine WP_seq ?_
 refine WP_region ?_
 refine O_field F51_0 rfl rfl rfl ?_
 refine O_loadA (vs := [_, _]) S24 rfl rfl rfl (b1.ext e2) rfl rfl ?_
 refine O_move rfl rfl rfl ?_
 refine O_call enters20 rfl rfl rfl (mint_T (hp.ext (e1.trans e2)) (by (try simp only [lens]); omega) (by (try simp only [lens]); omega)) (fun v3 w3 e3 h3 => ?_)
 have z3 := e3.size
 try simp only [val_dig] at h3
 obtain ⟨q3, rfl, hq3⟩ := h3
 refine O_move rfl rfl rfl ?_
 refine O_extract rfl rfl rfl rfl ?_
 refine O_extract rfl rfl rfl rfl ?_
 refine O_alloc S24 rfl rfl (fun g4 w4 b4 e4 gl4 gh4 => ?_)
 have z4 := e4.size
 refine O_storeA (cs' := [_, _]) S24 rfl rfl rfl b4 rfl rfl (one_cons rfl (one_cons ((hq3.ext e4).nl).one one_nil)) rfl (fun w5 b5 q5 => ?_)
 have z5 := Nat.le_of_eq q5.size.symm
 have e5 : Ext w w5 := q5.ext (((e1.trans e2).trans e3).trans e4) (by omega)
 refine O_assign rfl rfl rfl ?_
 refine WL_end [(1, _), (2, _), (4, _), (6, _), (7, _)] ⟨rfl, rfl, rfl, rfl, rfl, trivial⟩ ?_
 refine WP_seq ?_
 refine WP_region ?_
 refine O_field F51_1 rfl rfl rfl ?_
 refine O_loadC Tryd.underlying22 rfl rfl rfl rfl ((((b1.ext e2).ext e3).ext e4).chg q5 (by first | assumption | omega)) rfl ?_
 refine O_move rfl rfl rfl ?_
 refine O_call enters75 rfl rfl rfl (mnat_no (hq.ext e5) (by (try simp only [lens]); omega)) (fun v6 w6 e6 h6 => ?_)
 have z6 := e6.size
 try simp only [val_dig] at h6
 obtain rfl := h6
 refine O_move rfl rfl rfl ?_
 refine O_extract rfl rfl rfl rfl ?_
 refine O_extract rfl rfl rfl rfl ?_
 refine O_assign rfl rfl rfl ?_
 refine O_assign rfl rfl rfl ?_
 refine WL_end [(4, _), (6, _), (7, _), (8, _), (9, _)] ⟨rfl, rfl, rfl, rfl, rfl, trivial⟩ ?_
 refine WP_seq ?_
 refine WP_seq ?_
 refine WP_region ?_
 refine O_move rfl rfl rfl ?_
 refine O_not rfl rfl rfl rfl ?_
 refine O_move rfl rfl rfl ?_
 refine O_move rfl rfl rfl ?_
 refine O_not rfl rfl rfl rfl ?_
 refine O_pickF rfl rfl rfl rfl ?_
 refine WL_end [(4, _), (6, _), (8, _), (31, _)] ⟨rfl, rfl, rfl, rfl, trivial⟩ ?_
 refine WP_condT rfl ?_
 refine WP_seq ?_
 refine WP_region ?_
 refine O_build (cs := [_, _, _]) B51 rfl rfl rfl cells_nil rfl ?_
 refine O_storeA (cs' := [_, _, _]) S51 rfl rfl rfl ((((b2.ext e3).ext e4).chg q5 (by first | assumption | omega)).ext e6) rfl rfl (one_cons rfl (one_cons rfl (one_cons rfl one_nil))) rfl (fun w7 b7 q7 => ?_)
 have z7 := Nat.le_of_eq q7.size.symm
 have e7 : Ext w w7 := q7.ext (e5.trans e6) (by omega)
 refine O_assign rfl rfl rfl ?_
 refine WL_end [(4, _), (5, _)] ⟨rfl, rfl, trivial⟩ ?_
 refine WP_ret ?_
 refine retL Tryd.results32 (.cell rfl S51 b7 rfl (.tmp rfl .nil)) ?_
 exact ⟨_, rfl, e7, 0, 0, _, _, _, rfl, by rw [dig0]; exact No.nil _ _ _, by rw [dig_zero]; exact No.nil _ _ _, (fun h => by cases h), by rw [dig0]; exact Nat.zero_le _, by rw [dig_zero]; exact Nat.zero_le _⟩

theorem mrat_c {w : World} {vp vq : Value} {lp lq : List Nat} {bp : Bool} {n : Nat} (hp : Nl w vp lp) (hq : Nl w vq lq) (hn : n ≤ 1000) (hn1 : 1 ≤ n) : Calls Tryd.prog 32 #[.agg #[.bool bp, vp, vq], .int .i64 (n : Nat)] w (Ret w fun r w' => ∃ (p : Int) (q : Nat) (vn vd : Value) (b : Bool), r = .tuple #[.agg #[.bool (decide (p < 0)), vn, vd], .bool b] ∧ No w.heap.size 89 w' vn (dig p.natAbs) ∧ No w.heap.size 89 w' vd (dig q) ∧ (b = true → 0 < q ∧ Nat.gcd p.natAbs q = 1) ∧ (dig p.natAbs).length ≤ n ∧ (dig q).length ≤ n) := by
  by_cases h1 : lp.length ≤ n
  · by_cases h2 : lq.length ≤ n
    · exact mrat_T hp hq hn hn1 h1 h2
    · exact mrat_TF hp hq hn hn1 h1 (by omega)
  · by_cases h2 : lq.length ≤ n
    · exact mrat_FT hp hq hn hn1 (by omega) h2
    · exact mrat_FF hp hq hn hn1 (by omega) (by omega)

theorem tz_two (k : Nat) : tz (2 ^ k) = k := by
  have h := tz_mul 1 k (by decide)
  rw [Nat.one_mul, tz_odd (show 1 % 2 = 1 from rfl)] at h
  omega
theorem bl_two (k : Nat) : bl (2 ^ k) = k + 1 := by
  have h := bl_mul_two (n := 1) (k := k) (by decide)
  rw [Nat.one_mul, show bl 1 = 1 from bl_eq (b := 0) (by decide) (by decide)] at h
  omega
theorem tz_nlen {n k : Nat} (h : (dig n).length ≤ k) : tz n ≤ 32 * k := by
  have h1 := tz_len (n : Int)
  rw [Int.natAbs_natCast] at h1
  omega
def twop (q : Nat) : Prop := bl q = tz q + 1
instance (q : Nat) : Decidable (twop q) := by unfold twop; exact inferInstance
def fman (p : Int) (q : Nat) : Int := if twop q then dman p (-(tz q : Int)) else 0
def fexp (p : Int) (q : Nat) : Int := if twop q then dexp p (-(tz q : Int)) else 0
def fok (p : Int) (q : Nat) : Bool := if twop q then decide (dcode p (-(tz q : Int)) = 0) else false
theorem fr_yes {p : Int} {q : Nat} (h : twop q) : fman p q = dman p (-(tz q : Int)) ∧ fexp p q = dexp p (-(tz q : Int)) ∧ fok p q = decide (dcode p (-(tz q : Int)) = 0) := ⟨if_pos h, if_pos h, if_pos h⟩
theorem fr_no {p : Int} {q : Nat} (h : ¬ twop q) : fman p q = 0 ∧ fexp p q = 0 ∧ fok p q = false := ⟨if_neg h, if_neg h, if_neg h⟩
theorem fman_len {p : Int} {q a : Nat} (h : (dig p.natAbs).length ≤ a) : (dig (fman p q).natAbs).length ≤ a := by
  by_cases h2 : twop q
  · rw [(fr_yes h2).1]; exact dman_len h
  · rw [(fr_no h2).1]; simp [dig_zero]
theorem from_rat {x e : Int} (h : dval x e = true) : fman (rnum x e) (rden e) = x ∧ fexp (rnum x e) (rden e) = e ∧ fok (rnum x e) (rden e) = true := by
  have hr := dval_range h
  obtain ⟨m1, m2, m3⟩ := dval_made h
  by_cases h0 : 0 ≤ e
  · have hd : rden e = 1 := if_pos h0
    have hn : rnum x e = x * 2 ^ e.toNat := if_pos h0
    have ht : tz 1 = 0 := tz_odd rfl
    have h2 : twop (rden e) := by unfold twop; rw [hd, ht]; exact bl_eq (b := 0) (by decide) (by decide)
    obtain ⟨k1, k2, k3⟩ := fr_yes (p := rnum x e) h2
    have hs := dcode_shl (x := x) (e := e) (k := e.toNat) (by omega) (by omega) (by omega)
    rw [show e - (e.toNat : Int) = 0 from by omega] at hs
    rw [k1, k2, k3, hd, ht, hn, show (-((0 : Nat) : Int)) = 0 from rfl, hs.1, hs.2.1, hs.2.2, m1, m2, m3]
    exact ⟨rfl, rfl, rfl⟩
  · have hd : rden e = 2 ^ (-e).toNat := if_neg h0
    have hn : rnum x e = x := if_neg h0
    have h2 : twop (rden e) := by unfold twop; rw [hd, tz_two]; exact bl_two _
    obtain ⟨k1, k2, k3⟩ := fr_yes (p := rnum x e) h2
    rw [k1, k2, k3, hd, hn, tz_two, show (-(((-e).toNat : Nat) : Int)) = e from by omega, m1, m2, m3]
    exact ⟨rfl, rfl, rfl⟩

set_option maxHeartbeats 1000000 in
theorem from_c {w : World} {vp vq : Value} {p : Int} {q : Nat} {bp : Bool} (hbp : bp = decide (p < 0)) (hp : Nl w vp (dig p.natAbs)) (hq : Nl w vq (dig q)) (hlp : (dig p.natAbs).length ≤ 30000) (hlq : (dig q).length ≤ 4000) (hT : Tab w) :
    Calls Tryd.prog 33 #[.agg #[.bool bp, vp, vq]] w (Ret w fun r w' => ∃ u, r = .tuple #[.agg #[.bool (decide ((fman p q) < 0)), u, .int .i64 (fexp p q)], .bool (fok p q)] ∧ No w.heap.size 89 w' u (dig (fman p q).natAbs)) := by
 subst hbp
 have htz := tz_nlen hlq
 have hbl := bl_dig q
 refine enter (args := [_]) Tryd.func33 rfl Tryd.ntmps33 rfl ?_
 refine WP_seq ?_
 refine WP_region ?_
 refine O_box _ rfl rfl rfl rfl (fun g1 w1 b1 e1 gl1 gh1 => ?_)
 have z1 := e1.size
 refine O_alloc S26 rfl rfl (fun g2 w2 b2 e2 gl2 gh2 => ?_)
 have z2 := e2.size
 refine O_assign rfl rfl rfl ?_
 refine WL_end [(1, _), (2, _)] ⟨rfl, rfl, trivial⟩ ?_
 refine WP_seq ?_
 refine WP_region ?_
 refine O_field F51_1 rfl rfl rfl ?_
 refine O_loadC Tryd.underlying22 rfl rfl rfl rfl (b1.ext e2) rfl ?_
 refine O_call enters59 rfl rfl rfl (zeros_c (hT.ext (e1.trans e2)) (hq.ext (e1.trans e2)) (by (try simp only [lens]); omega)) (fun v3 w3 e3 h3 => ?_)
 have z3 := e3.size
 obtain rfl := h3
 simp only [val_dig]
 refine O_assign rfl rfl rfl ?_
 refine WL_end [(1, _), (2, _), (4, _)] ⟨rfl, rfl, rfl, trivial⟩ ?_
 refine WP_seq ?_
 refine WP_seq ?_
 by_cases h2 : twop q
 · --
  have h3 := h2
  unfold twop at h3
  refine WP_region ?_
  refine O_field F51_1 rfl rfl rfl ?_
  refine O_loadC Tryd.underlying22 rfl rfl rfl rfl ((b1.ext e2).ext e3) rfl ?_
  refine O_call enters63 rfl rfl rfl (bits_c (hq.ext ((e1.trans e2).trans e3)) (by (try simp only [lens]); omega)) (fun v4 w4 e4 h4 => ?_)
  have z4 := e4.size
  obtain rfl := h4
  simp only [val_dig]
  refine O_move rfl rfl rfl ?_
  refine O_add (r := ((tz q : Int) + 1)) rfl rfl rfl rfl (by rw [IntKind.wrap_i64]; omega) ?_
  refine O_neq (t := false) rfl rfl rfl rfl (decide_eq_false (by omega)) ?_
  refine WL_end [(1, _), (2, _), (4, _), (15, _)] ⟨rfl, rfl, rfl, rfl, trivial⟩ ?_
  refine WP_condF rfl ?_
  refine WP_skip ?_
  refine WP_seq ?_
  refine WP_region ?_
  refine O_field F51_0 rfl rfl rfl ?_
  refine O_loadA (vs := [_, _]) S24 rfl rfl rfl (((b1.ext e2).ext e3).ext e4) rfl rfl ?_
  refine O_move rfl rfl rfl ?_
  refine O_min (r := (tz q : Int)) rfl rfl rfl rfl (by omega) ?_
  refine O_neg (r := (-(tz q : Int))) rfl rfl rfl (by rw [IntKind.wrap_i64]; omega) ?_
  refine O_call enters22 rfl rfl rfl (dmake_c rfl (hp.ext (((e1.trans e2).trans e3).trans e4)) (by (try simp only [lens]); omega) (hT.ext (((e1.trans e2).trans e3).trans e4))) (fun v5 w5 e5 h5 => ?_)
  have z5 := e5.size
  try simp only [val_dig] at h5
  obtain ⟨q5, rfl, hq5⟩ := h5
  refine O_move rfl rfl rfl ?_
  refine O_extract rfl rfl rfl rfl ?_
  refine O_extract rfl rfl rfl rfl ?_
  refine O_alloc S26 rfl rfl (fun g6 w6 b6 e6 gl6 gh6 => ?_)
  have z6 := e6.size
  refine O_storeA (cs' := [_, _, _]) S26 rfl rfl rfl b6 rfl rfl (one_cons rfl (one_cons ((hq5.ext e6).nl).one (one_cons rfl one_nil))) rfl (fun w7 b7 q7 => ?_)
  have z7 := Nat.le_of_eq q7.size.symm
  have e7 : Ext w w7 := q7.ext (((((e1.trans e2).trans e3).trans e4).trans e5).trans e6) (by omega)
  refine O_assign rfl rfl rfl ?_
  refine WL_end [(2, _), (5, _), (6, _)] ⟨rfl, rfl, rfl, trivial⟩ ?_
  refine WP_seq ?_
  refine WP_region ?_
  refine O_loadA (vs := [_, _, _]) S26 rfl rfl rfl b7 rfl rfl ?_
  refine O_move rfl rfl rfl ?_
  refine O_eql rfl rfl rfl rfl rfl ?_
  refine O_storeA (cs' := [_, _, _]) S26 rfl rfl rfl (((((b2.ext e3).ext e4).ext e5).ext e6).chg q7 (by first | assumption | omega)) rfl rfl (one_cons rfl (one_cons (((hq5.ext e6).chgBk b6 (by decide) q7).nl).one (one_cons rfl one_nil))) rfl (fun w8 b8 q8 => ?_)
  have z8 := Nat.le_of_eq q8.size.symm
  have e8 : Ext w w8 := q8.ext e7 (by omega)
  refine O_assign rfl rfl rfl ?_
  refine WL_end [(2, _), (3, _)] ⟨rfl, rfl, trivial⟩ ?_
  refine WP_ret ?_
  refine retL Tryd.results33 (.cell rfl S26 b8 rfl (.tmp rfl .nil)) ?_
  obtain ⟨k1, k2, k3⟩ := fr_yes (p := p) h2
  rw [k1, k2, k3]
  exact ⟨_, rfl, e8, _, rfl, (((hq5.ext e6).chgBk b6 (by decide) q7).chgBk (((((b2.ext e3).ext e4).ext e5).ext e6).chg q7 (by first | assumption | omega)) (by decide) q8).mono (by omega)⟩
 · --
  have h3 := h2
  unfold twop at h3
  refine WP_region ?_
  refine O_field F51_1 rfl rfl rfl ?_
  refine O_loadC Tryd.underlying22 rfl rfl rfl rfl ((b1.ext e2).ext e3) rfl ?_
  refine O_call enters63 rfl rfl rfl (bits_c (hq.ext ((e1.trans e2).trans e3)) (by (try simp only [lens]); omega)) (fun v9 w9 e9 h9 => ?_)
  have z9 := e9.size
  obtain rfl := h9
  simp only [val_dig]
  refine O_move rfl rfl rfl ?_
  refine O_add (r := ((tz q : Int) + 1)) rfl rfl rfl rfl (by rw [IntKind.wrap_i64]; omega) ?_
  refine O_neq (t := true) rfl rfl rfl rfl (decide_eq_true (by omega)) ?_
  refine WL_end [(1, _), (2, _), (4, _), (15, _)] ⟨rfl, rfl, rfl, rfl, trivial⟩ ?_
  refine WP_condT rfl ?_
  refine WP_seq ?_
  refine WP_region ?_
  refine O_build (cs := [_, _, _]) B26 rfl rfl rfl cells_nil rfl ?_
  refine O_storeA (cs' := [_, _, _]) S26 rfl rfl rfl ((b2.ext e3).ext e9) rfl rfl (one_cons rfl (one_cons rfl (one_cons rfl one_nil))) rfl (fun w10 b10 q10 => ?_)
  have z10 := Nat.le_of_eq q10.size.symm
  have e10 : Ext w w10 := q10.ext (((e1.trans e2).trans e3).trans e9) (by omega)
  refine O_assign rfl rfl rfl ?_
  refine WL_end [(2, _), (3, _)] ⟨rfl, rfl, trivial⟩ ?_
  refine WP_ret ?_
  refine retL Tryd.results33 (.cell rfl S26 b10 rfl (.tmp rfl .nil)) ?_
  obtain ⟨k1, k2, k3⟩ := fr_no (p := p) h2
  rw [k1, k2, k3]
  exact ⟨_, rfl, e10, _, rfl, by rw [dig0]; exact No.nil _ _ _⟩

set_option maxHeartbeats 1000000 in
theorem rfrom_c {w : World} {vp vq : Value} {p : Int} {q : Nat} {bp : Bool} (hbp : bp = decide (p < 0)) (hp : Nl w vp (dig p.natAbs)) (hq : Nl w vq (dig q)) (hlp : (dig p.natAbs).length ≤ 30000) (hlq : (dig q).length ≤ 4000) :
    Calls Tryd.prog 35 #[.agg #[.bool bp, vp, vq]] w (Ret w fun r w' => ∃ u, r = .tuple #[.agg #[.bool (decide ((fman p q) < 0)), u, .int .i64 (fexp p q)], .bool (fok p q)] ∧ No w.heap.size 89 w' u (dig (fman p q).natAbs)) := by
 subst hbp
 have htz := tz_nlen hlq
 have hbl := bl_dig q
 refine enter (args := [_]) Tryd.func35 rfl Tryd.ntmps35 rfl ?_
 refine WP_seq ?_
 refine WP_region ?_
 refine O_box _ rfl rfl rfl rfl (fun g1 w1 b1 e1 gl1 gh1 => ?_)
 have z1 := e1.size
 refine O_alloc S26 rfl rfl (fun g2 w2 b2 e2 gl2 gh2 => ?_)
 have z2 := e2.size
 refine O_assign rfl rfl rfl ?_
 refine WL_end [(1, _), (2, _)] ⟨rfl, rfl, trivial⟩ ?_
 refine WP_seq ?_
 refine WP_region ?_
 refine O_field F51_1 rfl rfl rfl ?_
 refine O_loadC Tryd.underlying22 rfl rfl rfl rfl (b1.ext e2) rfl ?_
 refine O_call enters66 rfl rfl rfl (rbits_c (hq.ext (e1.trans e2)) (by (try simp only [lens]); omega)) (fun v3 w3 e3 h3 => ?_)
 have z3 := e3.size
 obtain rfl := h3
 simp only [val_dig]
 refine O_sub (r := ((bl q : Int) - 1)) rfl rfl rfl rfl (by rw [IntKind.wrap_i64]; omega) ?_
 refine O_assign rfl rfl rfl ?_
 refine WL_end [(1, _), (2, _), (4, _)] ⟨rfl, rfl, rfl, trivial⟩ ?_
 refine WP_seq ?_
 refine WP_seq ?_
 by_cases h2 : twop q
 · --
  have h3 := h2
  unfold twop at h3
  refine WP_region ?_
  refine O_field F51_1 rfl rfl rfl ?_
  refine O_loadC Tryd.underlying22 rfl rfl rfl rfl ((b1.ext e2).ext e3) rfl ?_
  refine O_call enters46 rfl rfl rfl (rzeros_c (hq.ext ((e1.trans e2).trans e3)) (by (try simp only [lens]); omega)) (fun v4 w4 e4 h4 => ?_)
  have z4 := e4.size
  obtain rfl := h4
  simp only [val_dig]
  refine O_move rfl rfl rfl ?_
  refine O_neq (t := false) rfl rfl rfl rfl (decide_eq_false (by omega)) ?_
  refine O_move rfl rfl rfl ?_
  refine O_move rfl rfl rfl ?_
  refine O_gtr (t := false) rfl rfl rfl rfl (decide_eq_false (by omega)) ?_
  refine O_pickF rfl rfl rfl rfl ?_
  refine WL_end [(1, _), (2, _), (4, _), (19, _)] ⟨rfl, rfl, rfl, rfl, trivial⟩ ?_
  refine WP_condF rfl ?_
  refine WP_skip ?_
  refine WP_seq ?_
  refine WP_region ?_
  refine O_field F51_0 rfl rfl rfl ?_
  refine O_loadA (vs := [_, _]) S24 rfl rfl rfl (((b1.ext e2).ext e3).ext e4) rfl rfl ?_
  refine O_move rfl rfl rfl ?_
  refine O_neg (r := (-(tz q : Int))) rfl rfl rfl (by rw [IntKind.wrap_i64]; omega) ?_
  refine O_call enters11 rfl rfl rfl (rdmake_c rfl (hp.ext (((e1.trans e2).trans e3).trans e4)) (by (try simp only [lens]); omega)) (fun v5 w5 e5 h5 => ?_)
  have z5 := e5.size
  try simp only [val_dig] at h5
  obtain ⟨q5, rfl, hq5⟩ := h5
  refine O_move rfl rfl rfl ?_
  refine O_extract rfl rfl rfl rfl ?_
  refine O_extract rfl rfl rfl rfl ?_
  refine O_alloc S26 rfl rfl (fun g6 w6 b6 e6 gl6 gh6 => ?_)
  have z6 := e6.size
  refine O_storeA (cs' := [_, _, _]) S26 rfl rfl rfl b6 rfl rfl (one_cons rfl (one_cons ((hq5.ext e6).nl).one (one_cons rfl one_nil))) rfl (fun w7 b7 q7 => ?_)
  have z7 := Nat.le_of_eq q7.size.symm
  have e7 : Ext w w7 := q7.ext (((((e1.trans e2).trans e3).trans e4).trans e5).trans e6) (by omega)
  refine O_assign rfl rfl rfl ?_
  refine WL_end [(2, _), (5, _), (6, _)] ⟨rfl, rfl, rfl, trivial⟩ ?_
  refine WP_seq ?_
  refine WP_region ?_
  refine O_loadA (vs := [_, _, _]) S26 rfl rfl rfl b7 rfl rfl ?_
  refine O_move rfl rfl rfl ?_
  refine O_eql rfl rfl rfl rfl rfl ?_
  refine O_storeA (cs' := [_, _, _]) S26 rfl rfl rfl (((((b2.ext e3).ext e4).ext e5).ext e6).chg q7 (by first | assumption | omega)) rfl rfl (one_cons rfl (one_cons (((hq5.ext e6).chgBk b6 (by decide) q7).nl).one (one_cons rfl one_nil))) rfl (fun w8 b8 q8 => ?_)
  have z8 := Nat.le_of_eq q8.size.symm
  have e8 : Ext w w8 := q8.ext e7 (by omega)
  refine O_assign rfl rfl rfl ?_
  refine WL_end [(2, _), (3, _)] ⟨rfl, rfl, trivial⟩ ?_
  refine WP_ret ?_
  refine retL Tryd.results35 (.cell rfl S26 b8 rfl (.tmp rfl .nil)) ?_
  obtain ⟨k1, k2, k3⟩ := fr_yes (p := p) h2
  rw [k1, k2, k3]
  exact ⟨_, rfl, e8, _, rfl, (((hq5.ext e6).chgBk b6 (by decide) q7).chgBk (((((b2.ext e3).ext e4).ext e5).ext e6).chg q7 (by first | assumption | omega)) (by decide) q8).mono (by omega)⟩
 · --
  have h3 := h2
  unfold twop at h3
  refine WP_region ?_
  refine O_field F51_1 rfl rfl rfl ?_
  refine O_loadC Tryd.underlying22 rfl rfl rfl rfl ((b1.ext e2).ext e3) rfl ?_
  refine O_call enters46 rfl rfl rfl (rzeros_c (hq.ext ((e1.trans e2).trans e3)) (by (try simp only [lens]); omega)) (fun v9 w9 e9 h9 => ?_)
  have z9 := e9.size
  obtain rfl := h9
  simp only [val_dig]
  refine O_move rfl rfl rfl ?_
  refine O_neq (t := true) rfl rfl rfl rfl (decide_eq_true (by omega)) ?_
  refine O_move rfl rfl rfl ?_
  refine O_skip rfl rfl ?_
  refine O_skip rfl rfl ?_
  refine O_pickT rfl rfl rfl rfl ?_
  refine WL_end [(1, _), (2, _), (4, _), (19, _)] ⟨rfl, rfl, rfl, rfl, trivial⟩ ?_
  refine WP_condT rfl ?_
  refine WP_seq ?_
  refine WP_region ?_
  refine O_build (cs := [_, _, _]) B26 rfl rfl rfl cells_nil rfl ?_
  refine O_storeA (cs' := [_, _, _]) S26 rfl rfl rfl ((b2.ext e3).ext e9) rfl rfl (one_cons rfl (one_cons rfl (one_cons rfl one_nil))) rfl (fun w10 b10 q10 => ?_)
  have z10 := Nat.le_of_eq q10.size.symm
  have e10 : Ext w w10 := q10.ext (((e1.trans e2).trans e3).trans e9) (by omega)
  refine O_assign rfl rfl rfl ?_
  refine WL_end [(2, _), (3, _)] ⟨rfl, rfl, trivial⟩ ?_
  refine WP_ret ?_
  refine retL Tryd.results35 (.cell rfl S26 b10 rfl (.tmp rfl .nil)) ?_
  obtain ⟨k1, k2, k3⟩ := fr_no (p := p) h2
  rw [k1, k2, k3]
  exact ⟨_, rfl, e10, _, rfl, by rw [dig0]; exact No.nil _ _ _⟩


theorem fromT_c {w : World} {vp vq : Value} {x e : Int} {bp : Bool} (hbp : bp = decide (rnum x e < 0)) (hp : Nl w vp (dig (rnum x e).natAbs)) (hq : Nl w vq (dig (rden e))) (hlp : (dig (rnum x e).natAbs).length ≤ 30000) (hlq : (dig (rden e)).length ≤ 4000) (hv : dval x e = true) (hT : Tab w) :
    Calls Tryd.prog 33 #[.agg #[.bool bp, vp, vq]] w (Ret w fun r w' => ∃ u, r = .tuple #[.agg #[.bool (decide ((x) < 0)), u, .int .i64 (e)], .bool true] ∧ No w.heap.size 89 w' u (dig x.natAbs)) :=
  (from_c hbp hp hq hlp hlq hT).mono fun _ w' ⟨r, he, hx, u, hr, hu⟩ => ⟨r, he, hx, u, by rw [hr, (from_rat hv).1, (from_rat hv).2.1, (from_rat hv).2.2], by rw [(from_rat hv).1] at hu; exact hu⟩

theorem rsameR_c {w : World} {vp vq : Value} {p : Int} {q : Nat} {bp : Bool} (hbp : bp = decide (p < 0)) (hp : Nl w vp (dig p.natAbs)) (hq : Nl w vq (dig q))  {vs vt : Value} (hs : Nl w vs (dig p.natAbs)) (ht : Nl w vt (dig q)) (hlp : (dig p.natAbs).length ≤ 30000) (hlq : (dig q).length ≤ 30000) :
    Calls Tryd.prog 36 #[.agg #[.bool bp, vp, vq], .agg #[.bool bp, vs, vt]] w (Ret w fun r _ => r = .bool true) := by
 subst hbp
 refine enter (args := [_, _]) Tryd.func36 rfl Tryd.ntmps36 rfl ?_
 refine WP_seq ?_
 refine WP_region ?_
 refine O_box _ rfl rfl rfl rfl (fun g1 w1 b1 e1 gl1 gh1 => ?_)
 have z1 := e1.size
 refine O_box _ rfl rfl rfl rfl (fun g2 w2 b2 e2 gl2 gh2 => ?_)
 have z2 := e2.size
 refine O_assign rfl rfl rfl ?_
 refine WL_end [(2, _), (3, _)] ⟨rfl, rfl, trivial⟩ ?_
 refine WP_seq ?_
 refine WP_region ?_
 refine O_field F51_0 rfl rfl rfl ?_
 refine O_loadA (vs := [_, _]) S24 rfl rfl rfl (b1.ext e2) rfl rfl ?_
 refine O_field F51_0 rfl rfl rfl ?_
 refine O_loadA (vs := [_, _]) S24 rfl rfl rfl b2 rfl rfl ?_
 refine O_call enters44 rfl rfl rfl (isame_c rfl (hp.ext (e1.trans e2)) (hs.ext (e1.trans e2)) (by (try simp only [lens]); omega) (by (try simp only [lens]); omega) rfl) (fun v3 w3 e3 h3 => ?_)
 have z3 := e3.size
 obtain rfl := h3
 refine O_move rfl rfl rfl ?_
 refine O_field F51_1 rfl rfl rfl ?_
 refine O_loadC Tryd.underlying22 rfl rfl rfl rfl ((b1.ext e2).ext e3) rfl ?_
 refine O_field F51_1 rfl rfl rfl ?_
 refine O_loadC Tryd.underlying22 rfl rfl rfl rfl (b2.ext e3) rfl ?_
 refine O_call enters81 rfl rfl rfl (rsame_c (hq.ext ((e1.trans e2).trans e3)) (ht.ext ((e1.trans e2).trans e3)) (by (try simp only [lens]); omega) (by (try simp only [lens]); omega) rfl) (fun v4 w4 e4 h4 => ?_)
 have z4 := e4.size
 obtain rfl := h4
 refine O_pickT rfl rfl rfl rfl ?_
 refine O_assign rfl rfl rfl ?_
 refine WL_end [(4, _)] ⟨rfl, trivial⟩ ?_
 refine WP_ret ?_
 refine ret1 Tryd.results36 rfl ?_
 exact ⟨_, rfl, (((e1.trans e2).trans e3).trans e4), rfl⟩

end Go.Proofs.YtnfnadhbjdcbnaaDoor
