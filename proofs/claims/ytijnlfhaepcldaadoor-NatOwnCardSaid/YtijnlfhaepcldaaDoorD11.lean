/-
  Walks.
-/
import Derived.Test.YtijnlfhaepcldaaDoorD10
import Derived.Test.YtijnlfhaepcldaaDoorD5
set_option linter.unusedVariables false
set_option linter.unusedSimpArgs false
set_option maxRecDepth 100000
namespace Go.Proofs.YtijnlfhaepcldaaDoor
open Go Go.RowKit
section
variable {P : Program} {n : Nat} {ops rest : List Oper} {K : Rho → World → Prop} {ρ : Rho} {w : World} {d : Nat} {ty : TypeId} {pos : String} {after : Array Edge}
/-- An operation whose guard was passed over itself. -/
theorem O_skipU {op : Op} {j t : Nat} {want : Bool} (hj : (ops[j]?).bind (·.dst) = some t) (hl : look ρ t = some undef) (hd : Nat.blt d n = true) (h : WL P n ops rest K ((d, undef) :: ρ) w) :
    WL P n ops (⟨some d, op, ty, pos, after, some (j, want)⟩ :: rest) K ρ w := by
  intro a ha Q hQ
  unfold wpList
  have hw : Region.wanted ⟨some d, op, ty, pos, after, some (j, want)⟩ (yielded ops.toArray a.tmps) = false := by
    have hv := ha.at_ t undef hl
    simp [Region.wanted, yielded, hj, hv, undef]
  rw [if_neg (by rw [hw]; simp)]
  exact h _ (ha.put hd undef) Q hQ
end
theorem TDint : ElT Tryd.prog 28 3 (.int .i64 0) 8 := ElT.mk' Tryd.underlying28 (by kernel_rfl)
theorem bit_top {n : Nat} (h : bl n ≠ 0) : bitv n ((bl n : Nat) - 1 : Int) = true := by
  have hn : n ≠ 0 := fun e => h (by subst e; rfl)
  obtain ⟨h1, h2, h3⟩ := bl_spec hn
  rw [show ((bl n : Nat) - 1 : Int) = ((bl n - 1 : Nat) : Int) from by omega, bitv_nat, Nat.testBit_eq_decide_div_mod_eq]
  have h4 : n / 2 ^ (bl n - 1) = 1 := by
    apply Nat.div_eq_of_lt_le
    · rw [Nat.one_mul]; exact h1
    · have e : 2 ^ bl n = 2 * 2 ^ (bl n - 1) := by rw [← Nat.pow_succ', show (bl n - 1).succ = bl n from by omega]
      rw [e] at h2; exact h2
  rw [h4]; rfl
theorem bit_low {n : Nat} (h : bl n ≠ 0) : bitv n (tz n : Nat) = true := by
  have hn : n ≠ 0 := fun e => h (by subst e; rfl)
  obtain ⟨q, hq⟩ := tz_spec n hn
  rw [bitv_nat]
  conv => lhs; arg 1; rw [hq]
  rw [Nat.testBit_two_pow_mul]; simp
theorem tz_le_bits {l : List Nat} (hd : D l) : tz (val l) ≤ 32 * l.length := by
  rcases Nat.eq_zero_or_pos (val l) with h | h
  · rw [h, show tz 0 = 0 from by rw [tz]; simp]; omega
  · rcases Nat.lt_or_ge (tz (val l)) (32 * l.length) with h1 | h1
    · omega
    · have h2 := bit_low (n := val l) (by intro e; exact absurd (bl_pos (by omega : val l ≠ 0)) (by omega))
      rw [bitv_nat, bit_above hd h1] at h2; cases h2
theorem bitT_c {w : World} {v : Value} {l : List Nat} {i : Int} (hs : Nl w v l) (hi : i ≤ 9223372036854775807) (h : bitv (val l) i = true) : Calls Tryd.prog 14 #[v, .int .i64 i] w (Ret w fun r _ => r = .bool true) :=
  (bit_c hs hi).mono fun e w' ⟨r, he, hx, hr⟩ => ⟨r, he, hx, by rw [hr, h]⟩
theorem law_NatBits {w : World} {va : Value} {la : List Nat} {i : Int} (hT : Tab w) (ha : Nl w va la) (hi : i ≤ 9223372036854775807) :
    Calls Tryd.prog 3 #[va, .int .i64 i] w (Ret w fun r _ => r = .bool true) := by
  refine enter (args := [va, _]) Tryd.func3 rfl Tryd.ntmps3 rfl ?_
  refine WP_seq ?_
  refine WP_region ?_
  refine O_assign rfl rfl rfl ?_
  refine WL_end [(0, _), (1, _)] ⟨rfl, rfl, trivial⟩ ?_
  refine WP_seq ?_
  refine WP_seq ?_
  refine WP_region ?_
  refine O_call enters9 rfl rfl rfl (awake_c hT) (fun v1 w1 e1 h1 => ?_)
  have z1 := e1.size
  obtain rfl := h1
  refine O_not rfl rfl rfl rfl ?_
  refine WL_end [(0, _), (1, _), (11, _)] ⟨rfl, rfl, rfl, trivial⟩ ?_
  refine WP_condF rfl ?_
  refine WP_skip ?_
  refine WP_seq ?_
  refine WP_region ?_
  refine O_move rfl rfl rfl ?_
  refine O_call enters10 rfl rfl rfl (mnat_any (ha.ext e1) (by (try simp only [val_dig, List.length_take, List.length_nil, List.length_cons, List.length_append, List.length_replicate, List.length_set, List.length_map, List.length_drop]); omega)) (fun v2 w2 e2 h2 => ?_)
  have z2 := e2.size
  obtain ⟨q2, rfl, hq2⟩ := h2
  refine O_move rfl rfl rfl ?_
  refine O_extract rfl rfl rfl rfl ?_
  refine O_extract rfl rfl rfl rfl ?_
  refine O_assign rfl rfl rfl ?_
  refine O_assign rfl rfl rfl ?_
  refine WL_end [(1, _), (5, _), (6, _)] ⟨rfl, rfl, rfl, trivial⟩ ?_
  refine WP_seq ?_
  refine WP_seq ?_
  refine WP_region ?_
  refine O_move rfl rfl rfl ?_
  refine O_not rfl rfl rfl (decide_not).symm ?_
  refine WL_end [(1, _), (5, _), (18, _)] ⟨rfl, rfl, rfl, trivial⟩ ?_
  refine WP_condN rfl (fun c18 => ?_) (fun c18 => ?_)
  · --
    refine WP_seq ?_
    refine WP_region ?_
    refine O_assign rfl rfl rfl ?_
    refine WL_end [(4, _)] ⟨rfl, trivial⟩ ?_
    refine WP_ret ?_
    refine ret1 Tryd.results3 rfl ?_
    exact ⟨_, rfl, (e1.trans e2), rfl⟩
  · --
    refine WP_skip ?_
    refine WP_seq ?_
    refine WP_region ?_
    refine O_move rfl rfl rfl ?_
    have dA := dig_len_le ha.d
    have b1 : bl (val la) ≤ 32 * (dig (val la)).length := bl_dig _
    have t1 := tz_le_bits (D_dig (val la))
    rw [val_dig] at t1
    refine O_call enters11 rfl rfl rfl (bits_c (hq2 (by omega)).nl (by (try simp only [val_dig, List.length_take, List.length_nil, List.length_cons, List.length_append, List.length_replicate, List.length_set, List.length_map, List.length_drop]); omega)) (fun v3 w3 e3 h3 => ?_)
    have z3 := e3.size
    obtain rfl := h3
    simp only [val_dig]
    refine O_assign rfl rfl rfl ?_
    refine WL_end [(1, _), (5, _), (7, _)] ⟨rfl, rfl, rfl, trivial⟩ ?_
    refine WP_seq ?_
    refine WP_seq ?_
    refine WP_region ?_
    refine O_move rfl rfl rfl ?_
    refine O_move rfl rfl rfl ?_
    refine O_call enters12 rfl rfl rfl (mod_c (by (try simp only [val_dig, List.length_take, List.length_nil, List.length_cons, List.length_append, List.length_replicate, List.length_set, List.length_map, List.length_drop]); omega) (by (try simp only [val_dig, List.length_take, List.length_nil, List.length_cons, List.length_append, List.length_replicate, List.length_set, List.length_map, List.length_drop]); omega)) (fun v4 w4 e4 h4 => ?_)
    have z4 := e4.size
    obtain rfl := h4
    refine O_move rfl rfl rfl ?_
    refine O_sub rfl rfl rfl rfl (wrap_i64_id (by omega) (by omega)) ?_
    refine O_move rfl rfl rfl ?_
    refine O_move rfl rfl rfl ?_
    refine O_call enters13 rfl rfl rfl (zeros_c (hT.ext (((e1.trans e2).trans e3).trans e4)) (((hq2 (by omega)).ext e3).ext e4).nl (by (try simp only [val_dig, List.length_take, List.length_nil, List.length_cons, List.length_append, List.length_replicate, List.length_set, List.length_map, List.length_drop]); omega)) (fun v5 w5 e5 h5 => ?_)
    have z5 := e5.size
    obtain rfl := h5
    simp only [val_dig]
    refine V_lit TDint rfl rfl [Value.int .i64 i, Value.int .i64 (i % 2000), Value.int .i64 (((bl (val la)) : Nat) - 1 : Int), Value.int .i64 ((bl (val la)) : Nat), Value.int .i64 ((tz (val la)) : Nat)] (by intro u hu; simp only [List.mem_cons, List.mem_nil_iff, or_false] at hu; rcases hu with rfl | rfl | rfl | rfl | rfl <;> rfl) rfl (by decide) (by decide) rfl rfl (fun vt wt ot et => ?_)
    have zt := et.size
    refine V_len TDint rfl rfl rfl ot.sl ?_
    refine O_move rfl rfl rfl ?_
    refine WL_end [(5, _), (7, _), (29, _), (30, _), (31, _)] ⟨rfl, rfl, rfl, rfl, rfl, trivial⟩ ?_
    refine WP_block ?_
    have hX := (((((hq2 (by omega)).ext e3).ext e4).ext e5).ext et)
    have hall : ∀ (k : Nat) (u : Value), [Value.int .i64 i, Value.int .i64 (i % 2000), Value.int .i64 (((bl (val la)) : Nat) - 1 : Int), Value.int .i64 ((bl (val la)) : Nat), Value.int .i64 ((tz (val la)) : Nat)][k]? = some u → ∃ z : Int, u = .int .i64 z ∧ z ≤ 9223372036854775807 := by
      intro k u hu
      match k with
      | 0 => simp at hu; subst hu; exact ⟨_, rfl, hi⟩
      | 1 => simp at hu; subst hu; exact ⟨_, rfl, by omega⟩
      | 2 => simp at hu; subst hu; exact ⟨_, rfl, by omega⟩
      | 3 => simp at hu; subst hu; exact ⟨_, rfl, by omega⟩
      | 4 => simp at hu; subst hu; exact ⟨_, rfl, by omega⟩
      | k + 5 => simp at hu
    refine WP_loop (S := Nat) (fun k => [(5, q2), (7, .int .i64 ((bl (val la)) : Nat)), (29, vt), (30, .int .i64 (5 : Nat)), (31, .int .i64 (k : Nat))]) (fun k w' => Ext wt w' ∧ k ≤ 5) (fun k => 5 - k) 0 ⟨rfl, rfl, rfl, rfl, rfl, trivial⟩ ⟨Ext.refl _, by omega⟩ ?_
    rintro k w9 ⟨hE, hk⟩
    refine WP_seq ?_
    refine WP_region ?_
    refine O_lss rfl rfl rfl rfl rfl ?_
    refine WL_end [(5, _), (7, _), (29, _), (30, _), (31, _), (32, _)] ⟨rfl, rfl, rfl, rfl, rfl, rfl, trivial⟩ ?_
    refine WP_seq ?_
    refine WP_condD rfl (fun c32 => ?_) (fun c32 => ?_)
    · --
      refine WP_skip ?_
      refine WP_seq ?_
      refine WP_block ?_
      refine WP_seq ?_
      refine WP_region ?_
      refine V_index TDint rfl rfl rfl rfl (ot.sl.ext hE) _ rfl (by simp only [List.length_cons, List.length_nil]; omega) ?_
      obtain ⟨u, hu⟩ : ∃ u, [Value.int .i64 i, Value.int .i64 (i % 2000), Value.int .i64 (((bl (val la)) : Nat) - 1 : Int), Value.int .i64 ((bl (val la)) : Nat), Value.int .i64 ((tz (val la)) : Nat)][k]? = some u := ⟨_, List.getElem?_eq_getElem (by simp only [List.length_cons, List.length_nil]; omega)⟩
      obtain ⟨z, rfl, hz2⟩ := hall k u hu
      refine O_load Tryd.underlying3 rfl rfl rfl rfl ((ot.sl.ext hE).cell hu) ?_
      refine O_assign rfl rfl rfl ?_
      refine WL_end [(5, _), (7, _), (9, _), (29, _), (30, _), (31, _)] ⟨rfl, rfl, rfl, rfl, rfl, rfl, trivial⟩ ?_
      refine WP_seq ?_
      refine WP_region ?_
      refine O_move rfl rfl rfl ?_
      refine O_move rfl rfl rfl ?_
      refine O_call enters14 rfl rfl rfl (bit_c (hX.ext hE).nl (by (try simp only [val_dig, List.length_take, List.length_nil, List.length_cons, List.length_append, List.length_replicate, List.length_set, List.length_map, List.length_drop]); omega)) (fun v6 w6 e6 h6 => ?_)
      have z6 := e6.size
      obtain rfl := h6
      refine O_move rfl rfl rfl ?_
      refine O_move rfl rfl rfl ?_
      refine O_call enters15 rfl rfl rfl (rbit_c ((hX.ext hE).ext e6).nl (by (try simp only [val_dig, List.length_take, List.length_nil, List.length_cons, List.length_append, List.length_replicate, List.length_set, List.length_map, List.length_drop]); omega)) (fun v7 w7 e7 h7 => ?_)
      have z7 := e7.size
      obtain rfl := h7
      refine O_bneq Tryd.underlying4 (t := false) rfl rfl rfl rfl (by simp) ?_
      refine WL_end [(5, _), (7, _), (29, _), (30, _), (31, _), (41, _)] ⟨rfl, rfl, rfl, rfl, rfl, rfl, trivial⟩ ?_
      refine WP_condF rfl ?_
      refine WP_skip ?_
      refine WP_region ?_
      refine O_add rfl rfl rfl rfl (wrap_i64_id (by omega) (by omega)) ?_
      refine O_move rfl rfl rfl ?_
      refine WL_end [(5, _), (7, _), (29, _), (30, _), (31, _)] ⟨rfl, rfl, rfl, rfl, rfl, trivial⟩ ?_
      exact ⟨k + 1, ⟨rfl, rfl, rfl, rfl, rfl, trivial⟩, ⟨hE.trans ((e6).trans e7), by omega⟩, by omega⟩
    · --
      refine WP_exit ?_
      refine inBlk_hit ?_
      refine WP_seq ?_
      refine WP_region ?_
      refine O_move rfl rfl rfl ?_
      refine O_move rfl rfl rfl ?_
      refine O_call enters16 rfl rfl rfl (rbits_c (hX.ext hE).nl (by (try simp only [val_dig, List.length_take, List.length_nil, List.length_cons, List.length_append, List.length_replicate, List.length_set, List.length_map, List.length_drop]); omega)) (fun v8 w8 e8 h8 => ?_)
      have z8 := e8.size
      obtain rfl := h8
      simp only [val_dig]
      refine O_eql (t := true) rfl rfl rfl rfl (decide_eq_true rfl) ?_
      refine O_move rfl rfl rfl ?_
      refine O_move rfl rfl rfl ?_
      refine O_call enters13 rfl rfl rfl (zeros_c (hT.ext (((((((e1.trans e2).trans e3).trans e4).trans e5).trans et).trans hE).trans e8)) ((hX.ext hE).ext e8).nl (by (try simp only [val_dig, List.length_take, List.length_nil, List.length_cons, List.length_append, List.length_replicate, List.length_set, List.length_map, List.length_drop]); omega)) (fun v9 w9 e9 h9 => ?_)
      have z9 := e9.size
      obtain rfl := h9
      simp only [val_dig]
      refine O_move rfl rfl rfl ?_
      refine O_call enters17 rfl rfl rfl (rzeros_c (((hX.ext hE).ext e8).ext e9).nl (by (try simp only [val_dig, List.length_take, List.length_nil, List.length_cons, List.length_append, List.length_replicate, List.length_set, List.length_map, List.length_drop]); omega)) (fun v10 w10 e10 h10 => ?_)
      have z10 := e10.size
      obtain rfl := h10
      simp only [val_dig]
      refine O_eql (t := true) rfl rfl rfl rfl (decide_eq_true rfl) ?_
      refine O_pickT rfl rfl rfl rfl ?_
      refine O_move rfl rfl rfl ?_
      refine O_move rfl rfl rfl ?_
      refine O_eql rfl rfl rfl rfl rfl ?_
      refine O_move rfl rfl rfl ?_
      refine WL_dec 57 rfl (fun g57 => ?_) (fun g57 => ?_)
      · --
        refine O_skip rfl rfl ?_
        refine O_skip rfl rfl ?_
        refine O_skip rfl rfl ?_
        refine O_skip rfl rfl ?_
        refine O_skip rfl rfl ?_
        refine O_skipU rfl rfl rfl ?_
        refine O_skipU rfl rfl rfl ?_
        refine O_skipU rfl rfl rfl ?_
        refine O_skipU rfl rfl rfl ?_
        refine O_skip rfl rfl ?_
        refine O_pickT rfl rfl rfl rfl ?_
        refine O_pickT rfl rfl rfl rfl ?_
        refine O_assign rfl rfl rfl ?_
        refine WL_end [(4, _)] ⟨rfl, trivial⟩ ?_
        refine WP_ret ?_
        refine ret1 Tryd.results3 rfl ?_
        exact ⟨_, rfl, (((((((((e1.trans e2).trans e3).trans e4).trans e5).trans et).trans hE).trans e8).trans e9).trans e10), rfl⟩
      · --
        refine O_move rfl rfl rfl ?_
        refine O_move rfl rfl rfl ?_
        refine O_sub rfl rfl rfl rfl (wrap_i64_id (by omega) (by omega)) ?_
        refine O_call enters14 rfl rfl rfl (bitT_c ((((hX.ext hE).ext e8).ext e9).ext e10).nl (by (try simp only [val_dig, List.length_take, List.length_nil, List.length_cons, List.length_append, List.length_replicate, List.length_set, List.length_map, List.length_drop]); omega) (by rw [val_dig]; exact bit_top (by omega))) (fun v11 w11 e11 h11 => ?_)
        have z11 := e11.size
        obtain rfl := h11
        refine O_move rfl rfl rfl ?_
        refine O_move rfl rfl rfl ?_
        refine O_move rfl rfl rfl ?_
        refine O_call enters13 rfl rfl rfl (zeros_c (hT.ext ((((((((((e1.trans e2).trans e3).trans e4).trans e5).trans et).trans hE).trans e8).trans e9).trans e10).trans e11)) (((((hX.ext hE).ext e8).ext e9).ext e10).ext e11).nl (by (try simp only [val_dig, List.length_take, List.length_nil, List.length_cons, List.length_append, List.length_replicate, List.length_set, List.length_map, List.length_drop]); omega)) (fun v12 w12 e12 h12 => ?_)
        have z12 := e12.size
        obtain rfl := h12
        simp only [val_dig]
        refine O_call enters14 rfl rfl rfl (bitT_c ((((((hX.ext hE).ext e8).ext e9).ext e10).ext e11).ext e12).nl (by (try simp only [val_dig, List.length_take, List.length_nil, List.length_cons, List.length_append, List.length_replicate, List.length_set, List.length_map, List.length_drop]); omega) (by rw [val_dig]; exact bit_low (by omega))) (fun v13 w13 e13 h13 => ?_)
        have z13 := e13.size
        obtain rfl := h13
        refine O_pickT rfl rfl rfl rfl ?_
        refine O_pickF rfl rfl rfl rfl ?_
        refine O_pickT rfl rfl rfl rfl ?_
        refine O_assign rfl rfl rfl ?_
        refine WL_end [(4, _)] ⟨rfl, trivial⟩ ?_
        refine WP_ret ?_
        refine ret1 Tryd.results3 rfl ?_
        exact ⟨_, rfl, ((((((((((((e1.trans e2).trans e3).trans e4).trans e5).trans et).trans hE).trans e8).trans e9).trans e10).trans e11).trans e12).trans e13), rfl⟩

end Go.Proofs.YtijnlfhaepcldaaDoor
