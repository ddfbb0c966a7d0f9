/-
  Walks.
-/
import Derived.Test.YtijnlfhaepcldaaNat5
import Derived.Test.YtijnlfhaepcldaaAny
set_option linter.unusedVariables false
set_option linter.unusedSimpArgs false
set_option maxRecDepth 100000
namespace Go.Proofs.Ytijnlfhaepcldaa
open Go Go.RowKit
theorem fill_set (i n x : Nat) (h : i < n) : (List.replicate i x ++ List.replicate (n - i) 0).set i x = List.replicate (i + 1) x ++ List.replicate (n - (i + 1)) 0 := by
  rw [List.set_append, if_neg (by simp), List.length_replicate, Nat.sub_self]
  obtain ⟨k, hk⟩ : ∃ k, n - i = k + 1 := ⟨n - i - 1, by omega⟩
  rw [hk, show n - (i + 1) = k from by omega, List.replicate_succ (n := k), List.replicate_succ' (n := i), List.set_cons_zero, List.append_assoc]
  rfl
theorem fill_zero (n x : Nat) : List.replicate 0 x ++ List.replicate (n - 0) 0 = List.replicate n 0 := by simp
theorem fill_all (n x : Nat) : List.replicate n x ++ List.replicate (n - n) 0 = List.replicate n x := by simp
theorem law_ProductLong {w : World} {n m xi yi : Int} (hx0 : 0 ≤ xi ∧ xi < 4294967296) (hy0 : 0 ≤ yi ∧ yi < 4294967296) :
    Calls Try.prog 4 #[.int .i64 n, .int .i64 m, .int .u32 xi, .int .u32 yi] w (Ret w fun r _ => r = .bool true) := by
  obtain ⟨x, rfl⟩ := Int.eq_ofNat_of_zero_le hx0.1
  obtain ⟨y, rfl⟩ := Int.eq_ofNat_of_zero_le hy0.1
  have hx1 : x < 4294967296 := by omega
  have hy1 : y < 4294967296 := by omega
  obtain ⟨n1, hn1⟩ : ∃ n1 : Nat, 1 + n % 150 = (n1 : Int) := ⟨(1 + n % 150).toNat, by omega⟩
  obtain ⟨n2, hn2⟩ : ∃ n2 : Nat, 1 + m % 150 = (n2 : Int) := ⟨(1 + m % 150).toNat, by omega⟩
  have hn1p : n1 ≠ 0 := by omega
  have hn2p : n2 ≠ 0 := by omega
  have hn1b : n1 ≤ 150 := by omega
  have hn2b : n2 ≤ 150 := by omega
  refine enter (args := [_, _, _, _]) Try.func4 rfl Try.ntmps4 rfl ?_
  refine WP_seq ?_
  refine WP_region ?_
  refine O_assign rfl rfl rfl ?_
  refine WL_end [(0, _), (1, _), (2, _), (3, _)] ⟨rfl, rfl, rfl, rfl, trivial⟩ ?_
  refine WP_seq ?_
  refine WP_seq ?_
  refine WP_region ?_
  refine O_call enters9 rfl rfl rfl (awake_c) (fun v1 w1 e1 h1 => ?_)
  have z1 := e1.size
  obtain rfl := h1
  refine O_not rfl rfl rfl rfl ?_
  refine WL_end [(0, _), (1, _), (2, _), (3, _), (14, _)] ⟨rfl, rfl, rfl, rfl, rfl, trivial⟩ ?_
  refine WP_condF rfl ?_
  refine WP_skip ?_
  refine WP_seq ?_
  refine WP_sub [(0, _), (1, _), (2, _), (3, _)] ⟨rfl, rfl, rfl, rfl, trivial⟩ ?_
  refine WP_any 9 [0, 1, 2, 3] mixed rfl (by kernel_rfl) ?_
  apply Any_val rfl
  · --
    intro y2 hy2
    have zy2 := hy2.size
    refine AllV_nil ?_
    refine O_move rfl rfl rfl ?_
    exact WL_nil ⟨(Ext.refl _), rfl⟩
  apply Any_val rfl
  · --
    intro y3 hy3
    have zy3 := hy3.size
    refine AllV_v ?_
    refine AllV_nil ?_
    refine O_call enters15 rfl rfl rfl (mod_c (by (try simp only [val_dig, List.length_take, List.length_nil, List.length_cons, List.length_append, List.length_replicate, List.length_set, List.length_map, List.length_drop]); omega) (by (try simp only [val_dig, List.length_take, List.length_nil, List.length_cons, List.length_append, List.length_replicate, List.length_set, List.length_map, List.length_drop]); omega)) (fun v4 w4 e4 h4 => ?_)
    have z4 := e4.size
    obtain rfl := h4
    exact WL_nil ⟨e4, rfl⟩
  apply Any_val rfl
  · --
    intro y5 hy5
    have zy5 := hy5.size
    refine AllV_v ?_
    refine AllV_nil ?_
    refine O_add rfl rfl rfl rfl (wrap_i64_id (by omega) (by omega)) ?_
    exact WL_nil ⟨(Ext.refl _), rfl⟩
  apply Any_no rfl
  · --
    intro y6 hy6
    have zy6 := hy6.size
    refine AllV_v ?_
    refine AllV_nil ?_
    refine N_make T22 (by decide) rfl rfl rfl rfl n1 (by omega) (by omega) (by omega) (fun v7 w7 o7 e7 => ?_)
    have z7 := e7.size
    exact WL_nil ⟨e7, _, rfl, NoR.mk' o7⟩
  apply Any_val rfl
  · --
    intro y8 hy8
    have zy8 := hy8.size
    refine AllV_nil ?_
    refine O_move rfl rfl rfl ?_
    exact WL_nil ⟨(Ext.refl _), rfl⟩
  apply Any_val rfl
  · --
    intro y9 hy9
    have zy9 := hy9.size
    refine AllV_v ?_
    refine AllV_nil ?_
    refine O_call enters15 rfl rfl rfl (mod_c (by (try simp only [val_dig, List.length_take, List.length_nil, List.length_cons, List.length_append, List.length_replicate, List.length_set, List.length_map, List.length_drop]); omega) (by (try simp only [val_dig, List.length_take, List.length_nil, List.length_cons, List.length_append, List.length_replicate, List.length_set, List.length_map, List.length_drop]); omega)) (fun v10 w10 e10 h10 => ?_)
    have z10 := e10.size
    obtain rfl := h10
    exact WL_nil ⟨e10, rfl⟩
  apply Any_val rfl
  · --
    intro y11 hy11
    have zy11 := hy11.size
    refine AllV_v ?_
    refine AllV_nil ?_
    refine O_add rfl rfl rfl rfl (wrap_i64_id (by omega) (by omega)) ?_
    exact WL_nil ⟨(Ext.refl _), rfl⟩
  apply Any_no rfl
  · --
    intro y12 hy12
    have zy12 := hy12.size
    refine AllV_v ?_
    refine AllV_nil ?_
    refine N_make T22 (by decide) rfl rfl rfl rfl n2 (by omega) (by omega) (by omega) (fun v13 w13 o13 e13 => ?_)
    have z13 := e13.size
    exact WL_nil ⟨e13, _, rfl, NoR.mk' o13⟩
  apply Any_same 18 rfl rfl rfl
  · --
    intro y14 hy14
    have zy14 := hy14.size
    refine AllV_r fun a15 b15 v15 la15 lb15 lc15 h15 ap15 => ?_
    clear ap15
    refine AllV_nil ?_
    refine O_assign rfl rfl rfl ?_
    exact WL_nil ⟨(Ext.refl _), _, rfl, rfl⟩
  refine Any_nil fun y16 hy16 => ?_
  have zy16 := hy16.size
  refine AllV_v ?_
  refine AllV_v ?_
  refine AllV_v ?_
  refine AllV_r fun a17 b17 v17 la17 lb17 lc17 h17 ap17 => ?_
  clear ap17
  refine AllV_v ?_
  refine AllV_v ?_
  refine AllV_v ?_
  refine AllV_r fun a18 b18 v18 la18 lb18 lc18 h18 ap18 => ?_
  obtain ⟨p18_17, _⟩ := ap18
  refine AllV_s rfl ?_
  refine AllV_nil ?_
  refine O_assign rfl rfl rfl ?_
  refine WL_end [(2, _), (3, _), (9, _), (10, _)] ⟨rfl, rfl, rfl, rfl, trivial⟩ ?_
  refine WP_seq ?_
  refine WP_seq ?_
  refine WP_region ?_
  refine O_move rfl rfl rfl ?_
  refine N_len T22 rfl rfl rfl h17.1.nl ?_
  rw [List.length_replicate]
  refine O_move rfl rfl rfl ?_
  refine WL_end [(2, _), (3, _), (9, _), (10, _), (24, _), (25, _)] ⟨rfl, rfl, rfl, rfl, rfl, rfl, trivial⟩ ?_
  refine WP_block ?_
  have k1 := h17.1.blk (by simp [hn1p])
  have k2 := h18.1.blk (by simp [hn2p])
  have q1 := h17.2 (by simp [hn1p])
  have q2 := h18.2 (by simp [hn2p])
  have hne : vblk v17 ≠ vblk v18 := by omega
  refine WP_loop (S := Nat) (fun i => [(2, .int .u32 (x : Nat)), (3, .int .u32 (y : Nat)), (9, v17), (10, v18), (24, .int .i64 (n1 : Nat)), (25, .int .i64 (i : Nat))]) (fun i w' => Ext w w' ∧ i ≤ n1 ∧ No w.heap.size 29 w' v17 (List.replicate i x ++ List.replicate (n1 - i) 0) ∧ No w.heap.size 29 w' v18 (List.replicate n2 0)) (fun i => n1 - i) 0 ⟨rfl, rfl, rfl, rfl, rfl, rfl, trivial⟩ ⟨(e1.trans hy16), Nat.zero_le _, by rw [fill_zero]; exact h17.1.mono (by omega), h18.1.mono (by omega)⟩ ?_
  rintro i w1 ⟨hE, hi, ho1, ho2⟩
  have hl1 : (List.replicate i x ++ List.replicate (n1 - i) 0).length = n1 := by simp; omega
  refine WP_seq ?_
  refine WP_region ?_
  refine O_lss rfl rfl rfl rfl rfl ?_
  refine WL_end [(2, _), (3, _), (9, _), (10, _), (24, _), (25, _), (26, _)] ⟨rfl, rfl, rfl, rfl, rfl, rfl, rfl, trivial⟩ ?_
  refine WP_seq ?_
  refine WP_condD rfl (fun c26 => ?_) (fun c26 => ?_)
  · --
    refine WP_skip ?_
    refine WP_seq ?_
    refine WP_block ?_
    refine WP_seq ?_
    refine WP_region ?_
    refine O_move rfl rfl rfl ?_
    refine O_assign rfl rfl rfl ?_
    refine WL_end [(2, _), (3, _), (9, _), (10, _), (11, _), (24, _), (25, _)] ⟨rfl, rfl, rfl, rfl, rfl, rfl, rfl, trivial⟩ ?_
    refine WP_region ?_
    refine O_move rfl rfl rfl ?_
    refine O_move rfl rfl rfl ?_
    refine O_move rfl rfl rfl ?_
    refine N_index T22 rfl rfl rfl rfl ho1.nl i rfl (by omega) ?_
    refine N_store T22 rfl rfl rfl ho1 (by omega) x rfl (by omega) (fun w19 o19 q19 a19 b19 => ?_)
    have z19 := q19.size
    have e19 : Ext w w19 := q19.ext hE (by omega)
    refine WL_end [(2, _), (3, _), (9, _), (10, _), (24, _), (25, _)] ⟨rfl, rfl, rfl, rfl, rfl, rfl, trivial⟩ ?_
    refine WP_region ?_
    refine O_add rfl rfl rfl rfl (wrap_i64_id (by omega) (by omega)) ?_
    refine O_move rfl rfl rfl ?_
    refine WL_end [(2, _), (3, _), (9, _), (10, _), (24, _), (25, _)] ⟨rfl, rfl, rfl, rfl, rfl, rfl, trivial⟩ ?_
    rw [fill_set i n1 x (by omega)] at o19
    exact ⟨i + 1, ⟨rfl, rfl, rfl, rfl, rfl, rfl, trivial⟩, ⟨e19, by omega, o19, (ho2.chg q19 (by omega))⟩, by omega⟩
  · --
    refine WP_exit ?_
    refine inBlk_hit ?_
    refine WP_seq ?_
    refine WP_seq ?_
    refine WP_region ?_
    have hi' : i = n1 := by omega
    rw [hi', fill_all] at ho1
    refine O_move rfl rfl rfl ?_
    refine N_len T22 rfl rfl rfl ho2.nl ?_
    rw [List.length_replicate]
    refine O_move rfl rfl rfl ?_
    refine WL_end [(3, _), (9, _), (10, _), (34, _), (35, _)] ⟨rfl, rfl, rfl, rfl, rfl, trivial⟩ ?_
    refine WP_block ?_
    refine WP_loop (S := Nat) (fun j => [(3, .int .u32 (y : Nat)), (9, v17), (10, v18), (34, .int .i64 (n2 : Nat)), (35, .int .i64 (j : Nat))]) (fun j w' => Ext w w' ∧ j ≤ n2 ∧ No w.heap.size 29 w' v17 (List.replicate n1 x) ∧ No w.heap.size 29 w' v18 (List.replicate j y ++ List.replicate (n2 - j) 0)) (fun j => n2 - j) 0 ⟨rfl, rfl, rfl, rfl, rfl, trivial⟩ ⟨hE, Nat.zero_le _, ho1, by rw [fill_zero]; exact ho2⟩ ?_
    rintro j w2 ⟨hE2, hj, ho3, ho4⟩
    have hl2 : (List.replicate j y ++ List.replicate (n2 - j) 0).length = n2 := by simp; omega
    refine WP_seq ?_
    refine WP_region ?_
    refine O_lss rfl rfl rfl rfl rfl ?_
    refine WL_end [(3, _), (9, _), (10, _), (34, _), (35, _), (36, _)] ⟨rfl, rfl, rfl, rfl, rfl, rfl, trivial⟩ ?_
    refine WP_seq ?_
    refine WP_condD rfl (fun c36 => ?_) (fun c36 => ?_)
    · --
      refine WP_skip ?_
      refine WP_seq ?_
      refine WP_block ?_
      refine WP_seq ?_
      refine WP_region ?_
      refine O_move rfl rfl rfl ?_
      refine O_assign rfl rfl rfl ?_
      refine WL_end [(3, _), (9, _), (10, _), (12, _), (34, _), (35, _)] ⟨rfl, rfl, rfl, rfl, rfl, rfl, trivial⟩ ?_
      refine WP_region ?_
      refine O_move rfl rfl rfl ?_
      refine O_move rfl rfl rfl ?_
      refine O_move rfl rfl rfl ?_
      refine N_index T22 rfl rfl rfl rfl ho4.nl j rfl (by omega) ?_
      refine N_store T22 rfl rfl rfl ho4 (by omega) y rfl (by omega) (fun w20 o20 q20 a20 b20 => ?_)
      have z20 := q20.size
      have e20 : Ext w w20 := q20.ext hE2 (by omega)
      refine WL_end [(3, _), (9, _), (10, _), (34, _), (35, _)] ⟨rfl, rfl, rfl, rfl, rfl, trivial⟩ ?_
      refine WP_region ?_
      refine O_add rfl rfl rfl rfl (wrap_i64_id (by omega) (by omega)) ?_
      refine O_move rfl rfl rfl ?_
      refine WL_end [(3, _), (9, _), (10, _), (34, _), (35, _)] ⟨rfl, rfl, rfl, rfl, rfl, trivial⟩ ?_
      rw [fill_set j n2 y (by omega)] at o20
      exact ⟨j + 1, ⟨rfl, rfl, rfl, rfl, rfl, trivial⟩, ⟨e20, by omega, (ho3.chg q20 (by omega)), o20⟩, by omega⟩
    · --
      refine WP_exit ?_
      refine inBlk_hit ?_
      refine WP_seq ?_
      refine WP_region ?_
      have hj' : j = n2 := by omega
      rw [hj', fill_all] at ho4
      have dA := dig_len_le ho3.d
      have dB := dig_len_le ho4.d
      rw [List.length_replicate] at dA dB
      have d1 := dig_len_mul (val (List.replicate n1 x)) (val (List.replicate n2 y))
      have d3 := dig_len_mul (val (List.replicate n1 x)) (val (List.replicate n1 x))
      refine O_move rfl rfl rfl ?_
      refine O_call enters16 rfl rfl rfl (rtrim_c ho3.nl (by simp; omega)) (fun v21 w21 e21 h21 => ?_)
      have z21 := e21.size
      try simp only [val_dig] at h21
      refine O_move rfl rfl rfl ?_
      refine O_call enters16 rfl rfl rfl (rtrim_c (ho4.ext e21).nl (by simp; omega)) (fun v22 w22 e22 h22 => ?_)
      have z22 := e22.size
      try simp only [val_dig] at h22
      refine O_assign rfl rfl rfl ?_
      refine O_assign rfl rfl rfl ?_
      refine WL_end [(9, _), (10, _)] ⟨rfl, rfl, trivial⟩ ?_
      refine WP_seq ?_
      refine WP_region ?_
      refine O_move rfl rfl rfl ?_
      refine O_move rfl rfl rfl ?_
      refine O_call enters11 rfl rfl rfl (mul_c (h21.ext e22).nl h22.nl (by (try simp only [val_dig, List.length_take, List.length_nil, List.length_cons, List.length_append, List.length_replicate, List.length_set, List.length_map, List.length_drop]); omega) (by (try simp only [val_dig, List.length_take, List.length_nil, List.length_cons, List.length_append, List.length_replicate, List.length_set, List.length_map, List.length_drop]); omega)) (fun v23 w23 e23 h23 => ?_)
      have z23 := e23.size
      try simp only [val_dig] at h23
      refine O_move rfl rfl rfl ?_
      refine O_move rfl rfl rfl ?_
      refine O_call enters13 rfl rfl rfl (rmul_c ((h21.ext e22).ext e23).nl (h22.ext e23).nl (by (try simp only [val_dig, List.length_take, List.length_nil, List.length_cons, List.length_append, List.length_replicate, List.length_set, List.length_map, List.length_drop]); omega) (by (try simp only [val_dig, List.length_take, List.length_nil, List.length_cons, List.length_append, List.length_replicate, List.length_set, List.length_map, List.length_drop]); omega)) (fun v24 w24 e24 h24 => ?_)
      have z24 := e24.size
      try simp only [val_dig] at h24
      refine O_call enters12 rfl rfl rfl (rsame_c (h23.ext e24).nl h24.nl (by (try simp only [val_dig, List.length_take, List.length_nil, List.length_cons, List.length_append, List.length_replicate, List.length_set, List.length_map, List.length_drop]); omega) (by (try simp only [val_dig, List.length_take, List.length_nil, List.length_cons, List.length_append, List.length_replicate, List.length_set, List.length_map, List.length_drop]); omega) rfl) (fun v25 w25 e25 h25 => ?_)
      have z25 := e25.size
      obtain rfl := h25
      refine O_move rfl rfl rfl ?_
      refine O_move rfl rfl rfl ?_
      refine O_call enters14 rfl rfl rfl (square_c ((((h21.ext e22).ext e23).ext e24).ext e25).nl (by (try simp only [val_dig, List.length_take, List.length_nil, List.length_cons, List.length_append, List.length_replicate, List.length_set, List.length_map, List.length_drop]); omega)) (fun v26 w26 e26 h26 => ?_)
      have z26 := e26.size
      try simp only [val_dig] at h26
      refine O_move rfl rfl rfl ?_
      refine O_move rfl rfl rfl ?_
      refine O_call enters13 rfl rfl rfl (rmul_c (((((h21.ext e22).ext e23).ext e24).ext e25).ext e26).nl (((((h21.ext e22).ext e23).ext e24).ext e25).ext e26).nl (by (try simp only [val_dig, List.length_take, List.length_nil, List.length_cons, List.length_append, List.length_replicate, List.length_set, List.length_map, List.length_drop]); omega) (by (try simp only [val_dig, List.length_take, List.length_nil, List.length_cons, List.length_append, List.length_replicate, List.length_set, List.length_map, List.length_drop]); omega)) (fun v27 w27 e27 h27 => ?_)
      have z27 := e27.size
      try simp only [val_dig] at h27
      refine O_call enters12 rfl rfl rfl (rsame_c (h26.ext e27).nl h27.nl (by (try simp only [val_dig, List.length_take, List.length_nil, List.length_cons, List.length_append, List.length_replicate, List.length_set, List.length_map, List.length_drop]); omega) (by (try simp only [val_dig, List.length_take, List.length_nil, List.length_cons, List.length_append, List.length_replicate, List.length_set, List.length_map, List.length_drop]); omega) rfl) (fun v28 w28 e28 h28 => ?_)
      have z28 := e28.size
      obtain rfl := h28
      refine O_pickT rfl rfl rfl rfl ?_
      refine O_assign rfl rfl rfl ?_
      refine WL_end [(8, _)] ⟨rfl, trivial⟩ ?_
      refine WP_ret ?_
      refine ret1 Try.results4 rfl ?_
      exact ⟨_, rfl, ((((((((hE2.trans e21).trans e22).trans e23).trans e24).trans e25).trans e26).trans e27).trans e28), rfl⟩

end Go.Proofs.Ytijnlfhaepcldaa
