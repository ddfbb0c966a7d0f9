/-
  Walks.
-/
import Derived.Test.YthbbcnlpfjbleaaS5
set_option linter.unusedVariables false
set_option linter.unusedSimpArgs false
set_option maxRecDepth 100000
namespace Go.Proofs.Ythbbcnlpfjbleaa
open Go Go.RowKit
theorem hi32 (z : Nat) : (z : Int).fdiv (2 ^ (min (Int.toNat 32) IntKind.u64.bits)) = ((z / 4294967296 : Nat) : Int) := by
  rw [show min (Int.toNat 32) IntKind.u64.bits = 32 from rfl, Int.fdiv_eq_ediv_of_nonneg _ (by decide)]; rfl
theorem lo32 (n : Nat) : IntKind.u32.wrap (n : Int) = ((n % 4294967296 : Nat) : Int) := by rw [wrap_u32]; omega

theorem law_IntegerEnds {w : World} {n h : Int} {neg : Bool} (h1 : 0 ≤ n) (h2 : n < 18446744073709551616) (h3 : 0 ≤ h) (h4 : h < 4294967296) :
    Calls Try.prog 5 #[.int .u64 n, .int .u32 h, .bool neg] w (Ret w fun r _ => r = .bool true) := by
  obtain ⟨m, rfl⟩ : ∃ k : Nat, h = (k : Int) := ⟨h.toNat, by omega⟩
  obtain ⟨k0, rfl⟩ : ∃ k : Nat, n = (k : Int) := ⟨n.toNat, by omega⟩
  refine enter (args := [_, _, _]) Try.func5 rfl Try.ntmps5 rfl ?_
  refine WP_seq ?_
  refine WP_region ?_
  refine O_assign rfl rfl rfl ?_
  refine WL_end [(0, _), (1, _), (2, _)] ⟨rfl, rfl, rfl, trivial⟩ ?_
  refine WP_seq ?_
  refine WP_seq ?_
  refine WP_region ?_
  refine O_call enters9 rfl rfl rfl (awake5_c) (fun v1 w1 e1 h1 => ?_)
  have z1 := e1.size
  obtain rfl := h1
  refine O_not rfl rfl rfl rfl ?_
  refine WL_end [(0, _), (1, _), (2, _), (17, _)] ⟨rfl, rfl, rfl, rfl, trivial⟩ ?_
  refine WP_condF rfl ?_
  refine WP_skip ?_
  refine WP_seq ?_
  refine WP_seq ?_
  refine WP_region ?_
  refine O_move rfl rfl rfl ?_
  refine V_lit TDu64 rfl rfl [Value.int .u64 (k0 : Nat), Value.int .u64 9223372036854775808, Value.int .u64 9223372036854775807, Value.int .u64 9223372036854775809, Value.int .u64 18446744073709551615] (by intro u hu; simp only [List.mem_cons, List.mem_nil_iff, or_false] at hu; rcases hu with rfl | rfl | rfl | rfl | rfl <;> rfl) rfl (by decide) (by decide) rfl rfl (fun vt wt ot et => ?_)
  have zt := et.size
  refine V_len TDu64 rfl rfl rfl ot.sl ?_
  refine O_move rfl rfl rfl ?_
  refine WL_end [(1, _), (2, _), (19, _), (20, _), (21, _)] ⟨rfl, rfl, rfl, rfl, rfl, trivial⟩ ?_
  refine WP_block ?_
  have hall : ∀ (k : Nat) (u : Value), [Value.int .u64 (k0 : Nat), Value.int .u64 9223372036854775808, Value.int .u64 9223372036854775807, Value.int .u64 9223372036854775809, Value.int .u64 18446744073709551615][k]? = some u → ∃ z : Nat, u = .int .u64 (z : Nat) ∧ z < 18446744073709551616 := by
    intro k u hu
    match k with
    | 0 => simp at hu; subst hu; exact ⟨k0, rfl, by omega⟩
    | 1 => simp at hu; subst hu; exact ⟨9223372036854775808, rfl, by omega⟩
    | 2 => simp at hu; subst hu; exact ⟨9223372036854775807, rfl, by omega⟩
    | 3 => simp at hu; subst hu; exact ⟨9223372036854775809, rfl, by omega⟩
    | 4 => simp at hu; subst hu; exact ⟨18446744073709551615, rfl, by omega⟩
    | k + 5 => simp at hu
  refine WP_loop (S := Nat) (fun i => [(1, .int .u32 (m : Nat)), (2, .bool neg), (19, vt), (20, .int .i64 (5 : Nat)), (21, .int .i64 (i : Nat))]) (fun i w' => Ext wt w' ∧ i ≤ 5) (fun i => 5 - i) 0 ⟨rfl, rfl, rfl, rfl, rfl, trivial⟩ ⟨Ext.refl _, by omega⟩ ?_
  rintro i w9 ⟨hE, hi⟩
  have zE := hE.size
  refine WP_seq ?_
  refine WP_region ?_
  refine O_lss rfl rfl rfl rfl rfl ?_
  refine WL_end [(1, _), (2, _), (19, _), (20, _), (21, _), (22, _)] ⟨rfl, rfl, rfl, rfl, rfl, rfl, trivial⟩ ?_
  refine WP_seq ?_
  refine WP_condD rfl (fun c22 => ?_) (fun c22 => ?_)
  · --
    refine WP_skip ?_
    refine WP_seq ?_
    refine WP_block ?_
    refine WP_seq ?_
    refine WP_region ?_
    refine V_index TDu64 rfl rfl rfl rfl (ot.sl.ext hE) _ rfl (by simp only [List.length_cons, List.length_nil]; omega) ?_
    obtain ⟨u, hu⟩ : ∃ u, [Value.int .u64 (k0 : Nat), Value.int .u64 9223372036854775808, Value.int .u64 9223372036854775807, Value.int .u64 9223372036854775809, Value.int .u64 18446744073709551615][i]? = some u := ⟨_, List.getElem?_eq_getElem (by simp only [List.length_cons, List.length_nil]; omega)⟩
    obtain ⟨z, rfl, hz⟩ := hall i u hu
    refine O_load Try.underlying40 rfl rfl rfl rfl ((ot.sl.ext hE).cell hu) ?_
    refine O_assign rfl rfl rfl ?_
    refine WL_end [(1, _), (2, _), (8, _), (19, _), (20, _), (21, _)] ⟨rfl, rfl, rfl, rfl, rfl, rfl, trivial⟩ ?_
    refine WP_seq ?_
    refine WP_region ?_
    refine O_move rfl rfl rfl ?_
    refine O_conv Try.underlying40 Try.underlying41 (r := ((z % 4294967296 : Nat) : Int)) rfl rfl rfl (lo32 _) ?_
    refine O_move rfl rfl rfl ?_
    refine O_shr (r := ((z / 4294967296 : Nat) : Int)) rfl rfl rfl rfl (by decide) (hi32 _) ?_
    refine O_conv Try.underlying40 Try.underlying41 (r := ((z / 4294967296 : Nat) : Int)) rfl rfl rfl (by rw [wrap_u32]; omega) ?_
    refine N_lit T22 rfl rfl [z % 4294967296, z / 4294967296] (D.cons (by omega) (D.cons (by omega) D.nil)) rfl (by decide) rfl rfl (fun v2 w2 o2 e2 => ?_)
    have z2 := e2.size
    refine O_move rfl rfl rfl ?_
    refine O_conv Try.underlying40 Try.underlying41 (r := ((z % 4294967296 : Nat) : Int)) rfl rfl rfl (lo32 _) ?_
    refine O_move rfl rfl rfl ?_
    refine O_shr (r := ((z / 4294967296 : Nat) : Int)) rfl rfl rfl rfl (by decide) (hi32 _) ?_
    refine O_conv Try.underlying40 Try.underlying41 (r := ((z / 4294967296 : Nat) : Int)) rfl rfl rfl (by rw [wrap_u32]; omega) ?_
    refine O_move rfl rfl rfl ?_
    refine N_lit T22 rfl rfl [z % 4294967296, z / 4294967296, m] (D.cons (by omega) (D.cons (by omega) (D.cons (by omega) D.nil))) rfl (by decide) rfl rfl (fun v3 w3 o3 e3 => ?_)
    have z3 := e3.size
    refine V_lit2 T44 rfl rfl rfl rfl (Nl.cells1 (o2.ext e3).nl) (Nl.cells1 o3.nl) (fun vr wr orr er => ?_)
    have zr := er.size
    refine V_len T44 rfl rfl rfl orr.sl ?_
    refine O_move rfl rfl rfl ?_
    refine WL_end [(1, _), (2, _), (19, _), (20, _), (21, _), (38, _), (39, _), (40, _)] ⟨rfl, rfl, rfl, rfl, rfl, rfl, rfl, rfl, trivial⟩ ?_
    refine WP_block ?_
    have hA := ((o2.ext e3).ext er).nl
    have hB := (o3.ext er).nl
    have hall2 : ∀ (k : Nat) (u : Value), [v2, v3][k]? = some u → ∃ l, Nl wr u l ∧ l.length ≤ 3 := by
      intro k u hu
      match k with
      | 0 => simp at hu; subst hu; exact ⟨_, hA, by simp⟩
      | 1 => simp at hu; subst hu; exact ⟨_, hB, by simp⟩
      | k + 2 => simp at hu
    refine WP_loop (S := Nat) (fun j => [(1, .int .u32 (m : Nat)), (2, .bool neg), (19, vt), (20, .int .i64 (5 : Nat)), (21, .int .i64 (i : Nat)), (38, vr), (39, .int .i64 (2 : Nat)), (40, .int .i64 (j : Nat))]) (fun j w' => Ext wr w' ∧ j ≤ 2) (fun j => 2 - j) 0 ⟨rfl, rfl, rfl, rfl, rfl, rfl, rfl, rfl, trivial⟩ ⟨Ext.refl _, by omega⟩ ?_
    rintro j w8 ⟨hF, hj⟩
    have zF := hF.size
    refine WP_seq ?_
    refine WP_region ?_
    refine O_lss rfl rfl rfl rfl rfl ?_
    refine WL_end [(1, _), (2, _), (19, _), (20, _), (21, _), (38, _), (39, _), (40, _), (41, _)] ⟨rfl, rfl, rfl, rfl, rfl, rfl, rfl, rfl, rfl, trivial⟩ ?_
    refine WP_seq ?_
    refine WP_condD rfl (fun c41 => ?_) (fun c41 => ?_)
    · --
      refine WP_skip ?_
      refine WP_seq ?_
      refine WP_block ?_
      refine WP_seq ?_
      refine WP_region ?_
      refine V_index T44 rfl rfl rfl rfl (orr.sl.ext hF) _ rfl (by simp only [List.length_cons, List.length_nil]; omega) ?_
      obtain ⟨u2, hu2⟩ : ∃ u, [v2, v3][j]? = some u := ⟨_, List.getElem?_eq_getElem (by simp only [List.length_cons, List.length_nil]; omega)⟩
      obtain ⟨l2, hN, hl2⟩ := hall2 j u2 hu2
      refine O_load Try.underlying22 rfl rfl rfl rfl ((orr.sl.ext hF).cell hu2) ?_
      refine O_assign rfl rfl rfl ?_
      refine WL_end [(1, _), (2, _), (10, _), (19, _), (20, _), (21, _), (38, _), (39, _), (40, _)] ⟨rfl, rfl, rfl, rfl, rfl, rfl, rfl, rfl, rfl, trivial⟩ ?_
      refine WP_seq ?_
      refine WP_region ?_
      refine O_move rfl rfl rfl ?_
      refine O_move rfl rfl rfl ?_
      refine O_call enters24 rfl rfl rfl (rinat_c (hN.ext hF) (by (try simp only [val_dig, List.length_take, List.length_nil, List.length_cons, List.length_append, List.length_replicate, List.length_set, List.length_map, List.length_drop]); omega)) (fun v4 w4 e4 h4 => ?_)
      have z4 := e4.size
      try simp only [val_dig] at h4
      obtain ⟨q4, rfl, hq4⟩ := h4
      have hlX := mk_len (a := 3) neg hN hl2
      generalize mk neg (val l2) = X at hq4 hlX ⊢
      refine O_alloc S24 rfl rfl (fun g5 w5 b5 e5 gl5 gh5 => ?_)
      have z5 := e5.size
      refine O_storeA (cs' := [_, _]) S24 rfl rfl rfl b5 rfl rfl (one_cons rfl (one_cons ((hq4.ext e5).nl).one one_nil)) rfl (fun w6 b6 q6 => ?_)
      have z6 := Nat.le_of_eq q6.size.symm
      have e6 : Ext wr w6 := q6.ext ((hF.trans e4).trans e5) (by omega)
      refine WL_end [(1, _), (2, _), (11, _), (19, _), (20, _), (21, _), (38, _), (39, _), (40, _)] ⟨rfl, rfl, rfl, rfl, rfl, rfl, rfl, rfl, rfl, trivial⟩ ?_
      refine WP_seq ?_
      refine WP_region ?_
      refine O_loadA (vs := [_, _]) S24 rfl rfl rfl b6 rfl rfl ?_
      refine O_call enters25 rfl rfl rfl (intv_c rfl ((hq4.ext e5).chgBk b5 (by decide) q6).nl (by (try simp only [val_dig, List.length_take, List.length_nil, List.length_cons, List.length_append, List.length_replicate, List.length_set, List.length_map, List.length_drop]); omega)) (fun v7 w7 e7 h7 => ?_)
      have z7 := e7.size
      try simp only [val_dig] at h7
      obtain rfl := h7
      refine O_move rfl rfl rfl ?_
      refine O_extract rfl rfl rfl rfl ?_
      refine O_extract rfl rfl rfl rfl ?_
      refine O_assign rfl rfl rfl ?_
      refine O_assign rfl rfl rfl ?_
      refine WL_end [(1, _), (2, _), (11, _), (12, _), (13, _), (19, _), (20, _), (21, _), (38, _), (39, _), (40, _)] ⟨rfl, rfl, rfl, rfl, rfl, rfl, rfl, rfl, rfl, rfl, rfl, trivial⟩ ?_
      refine WP_seq ?_
      refine WP_region ?_
      refine O_loadA (vs := [_, _]) S24 rfl rfl rfl (b6.ext e7) rfl rfl ?_
      refine O_call enters26 rfl rfl rfl (rintv_c rfl (((hq4.ext e5).chgBk b5 (by decide) q6).ext e7).nl (by (try simp only [val_dig, List.length_take, List.length_nil, List.length_cons, List.length_append, List.length_replicate, List.length_set, List.length_map, List.length_drop]); omega)) (fun v8 w8 e8 h8 => ?_)
      have z8 := e8.size
      try simp only [val_dig] at h8
      obtain rfl := h8
      refine O_move rfl rfl rfl ?_
      refine O_extract rfl rfl rfl rfl ?_
      refine O_extract rfl rfl rfl rfl ?_
      refine O_assign rfl rfl rfl ?_
      refine O_assign rfl rfl rfl ?_
      refine WL_end [(1, _), (2, _), (12, _), (13, _), (14, _), (15, _), (19, _), (20, _), (21, _), (38, _), (39, _), (40, _)] ⟨rfl, rfl, rfl, rfl, rfl, rfl, rfl, rfl, rfl, rfl, rfl, rfl, trivial⟩ ?_
      refine WP_seq ?_
      refine WP_region ?_
      refine O_move rfl rfl rfl ?_
      refine O_move rfl rfl rfl ?_
      refine O_neq (t := false) rfl rfl rfl rfl (decide_eq_false (by simp)) ?_
      refine O_move rfl rfl rfl ?_
      refine O_move rfl rfl rfl ?_
      refine O_move rfl rfl rfl ?_
      refine O_bneq Try.underlying4 (t := false) rfl rfl rfl rfl (by simp) ?_
      refine O_pickF rfl rfl rfl rfl ?_
      refine WL_end [(1, _), (2, _), (19, _), (20, _), (21, _), (38, _), (39, _), (40, _), (64, _)] ⟨rfl, rfl, rfl, rfl, rfl, rfl, rfl, rfl, rfl, trivial⟩ ?_
      refine WP_condF rfl ?_
      refine WP_skip ?_
      refine WP_region ?_
      refine O_add rfl rfl rfl rfl (wrap_i64_id (by omega) (by omega)) ?_
      refine O_move rfl rfl rfl ?_
      refine WL_end [(1, _), (2, _), (19, _), (20, _), (21, _), (38, _), (39, _), (40, _)] ⟨rfl, rfl, rfl, rfl, rfl, rfl, rfl, rfl, trivial⟩ ?_
      exact ⟨j + 1, ⟨rfl, rfl, rfl, rfl, rfl, rfl, rfl, rfl, trivial⟩, ⟨((e6.trans e7).trans e8), by omega⟩, by omega⟩
    · --
      refine WP_exit ?_
      refine inBlk_hit ?_
      refine WP_region ?_
      refine O_add rfl rfl rfl rfl (wrap_i64_id (by omega) (by omega)) ?_
      refine O_move rfl rfl rfl ?_
      refine WL_end [(1, _), (2, _), (19, _), (20, _), (21, _)] ⟨rfl, rfl, rfl, rfl, rfl, trivial⟩ ?_
      exact ⟨i + 1, ⟨rfl, rfl, rfl, rfl, rfl, trivial⟩, ⟨((((hE.trans e2).trans e3).trans er)).trans hF, by omega⟩, by omega⟩
  · --
    refine WP_exit ?_
    refine inBlk_hit ?_
    refine WP_seq ?_
    refine WP_region ?_
    refine O_assign rfl rfl rfl ?_
    refine WL_end [(6, _)] ⟨rfl, trivial⟩ ?_
    refine WP_ret ?_
    refine ret1 Try.results5 rfl ?_
    exact ⟨_, rfl, ((e1.trans et)).trans hE, rfl⟩

end Go.Proofs.Ythbbcnlpfjbleaa
