/-
  Walks.
-/
import Derived.Test.YtijnlfhaepcldaaDoorDops
set_option linter.unusedVariables false
set_option linter.unusedSimpArgs false
set_option maxRecDepth 100000
namespace Go.Proofs.YtijnlfhaepcldaaDoor
open Go Go.RowKit
theorem tz32_c {w : World} {x : Nat} (hT : Tab w) (hx0 : x ≠ 0) (hx : x < 4294967296) :
    Calls Tryd.prog 41 #[.int .u32 (x : Nat)] w (Ret w fun r _ => r = .int .i64 (tz x : Nat)) := by
  have htz := tz_lt hx0 hx
  refine enter (args := [_]) Tryd.func41 rfl Tryd.ntmps41 rfl ?_
  refine WP_seq ?_
  refine WP_region ?_
  refine O_assign rfl rfl rfl ?_
  refine WL_end [(0, _)] ⟨rfl, trivial⟩ ?_
  refine WP_seq ?_
  refine WP_seq ?_
  refine WP_region ?_
  refine O_move rfl rfl rfl ?_
  refine O_eql (t := false) rfl rfl rfl rfl (decide_eq_false (by omega)) ?_
  refine WL_end [(0, _), (4, _)] ⟨rfl, rfl, trivial⟩ ?_
  refine WP_condF rfl ?_
  refine WP_skip ?_
  refine WP_seq ?_
  refine WP_region ?_
  refine O_move rfl rfl rfl ?_
  refine O_move rfl rfl rfl ?_
  refine O_neg (r := ((4294967296 - x : Nat) : Int)) rfl rfl rfl (by rw [wrap_u32]; omega) ?_
  refine O_and rfl rfl rfl rfl (u32_and_nat _ _ hx (by omega)) ?_
  rw [and_neg hx0 hx]
  refine O_mul (r := ((2 ^ tz x * 125613361 % 4294967296 : Nat) : Int)) rfl rfl rfl rfl (by rw [wrap_u32]; generalize 2 ^ tz x = z; omega) ?_
  refine O_shr rfl rfl rfl rfl (by decide) (shrU32 (m := 27) (by decide)) ?_
  refine O_indexArr Tryd.underlying52 (by kernel_rfl) rfl rfl rfl rfl _ rfl (tab_lt _) ?_
  refine O_load Tryd.underlying5 rfl rfl rfl rfl (hT _ _ (tztab_at _ htz)) ?_
  refine O_conv Tryd.underlying5 Tryd.underlying3 rfl rfl rfl (wrap_i64_id (by omega) (by omega)) ?_
  refine O_assign rfl rfl rfl ?_
  refine WL_end [(2, _)] ⟨rfl, trivial⟩ ?_
  refine WP_ret ?_
  refine ret1 Tryd.results41 rfl ?_
  exact ⟨_, rfl, Ext.refl _, rfl⟩

theorem zeros_c {w : World} {v : Value} {l : List Nat} (hT : Tab w) (hs : Nl w v l) (hl : l.length ≤ 100000000) :
    Calls Tryd.prog 13 #[v] w (Ret w fun r _ => r = .int .i64 (tz (val l) : Nat)) := by
  refine enter (args := [v]) Tryd.func13 rfl Tryd.ntmps13 rfl ?_
  refine WP_seq ?_
  refine WP_region ?_
  refine O_assign rfl rfl rfl ?_
  refine WL_end [(0, _)] ⟨rfl, trivial⟩ ?_
  refine WP_seq ?_
  refine WP_seq ?_
  refine WP_region ?_
  refine O_move rfl rfl rfl ?_
  refine N_len T22 rfl rfl rfl hs ?_
  refine O_move rfl rfl rfl ?_
  refine WL_end [(5, _), (6, _), (7, _)] ⟨rfl, rfl, rfl, trivial⟩ ?_
  refine WP_block ?_
  refine WP_loop (S := Nat) (fun k => [(5, v), (6, .int .i64 (l.length : Nat)), (7, .int .i64 (k : Nat))]) (fun k w' => w = w' ∧ k ≤ l.length ∧ ∀ j, j < k → l.getD j 0 = 0) (fun k => l.length - k) 0 ⟨rfl, rfl, rfl, trivial⟩ ⟨rfl, Nat.zero_le _, fun j hj => absurd hj (Nat.not_lt_zero _)⟩ ?_
  rintro k w1 ⟨rfl, hk, hz⟩
  have hdk := hs.d.getD k
  refine WP_seq ?_
  refine WP_region ?_
  refine O_lss rfl rfl rfl rfl rfl ?_
  refine WL_end [(5, _), (6, _), (7, _), (8, _)] ⟨rfl, rfl, rfl, rfl, trivial⟩ ?_
  refine WP_seq ?_
  refine WP_condD rfl (fun c8 => ?_) (fun c8 => ?_)
  · --
    refine WP_skip ?_
    refine WP_seq ?_
    refine WP_block ?_
    refine WP_seq ?_
    refine WP_region ?_
    refine O_move rfl rfl rfl ?_
    refine N_index T22 rfl rfl rfl rfl hs k rfl (by omega) ?_
    refine N_load Tryd.underlying44 rfl rfl rfl hs (by omega) (fun d11 => ?_)
    refine O_assign rfl rfl rfl ?_
    refine O_assign rfl rfl rfl ?_
    refine WL_end [(3, _), (4, _), (5, _), (6, _), (7, _)] ⟨rfl, rfl, rfl, rfl, rfl, trivial⟩ ?_
    refine WP_seq ?_
    refine WP_region ?_
    refine O_move rfl rfl rfl ?_
    refine O_neq rfl rfl rfl rfl rfl ?_
    refine WL_end [(3, _), (4, _), (5, _), (6, _), (7, _), (13, _)] ⟨rfl, rfl, rfl, rfl, rfl, rfl, trivial⟩ ?_
    refine WP_condN rfl (fun c13 => ?_) (fun c13 => ?_)
    · --
      refine WP_seq ?_
      refine WP_region ?_
      refine O_move rfl rfl rfl ?_
      refine O_mul rfl rfl rfl rfl (wrap_i64_id (by omega) (by omega)) ?_
      refine O_move rfl rfl rfl ?_
      refine O_call enters41 rfl rfl rfl (tz32_c hT (by (try simp only [val_dig, List.length_take, List.length_nil, List.length_cons, List.length_append, List.length_replicate, List.length_set, List.length_map, List.length_drop]); omega) (hs.d.getD k)) (fun v1 w1 e1 h1 => ?_)
      have z1 := e1.size
      obtain rfl := h1
      have htk := tz_lt (n := l.getD k 0) (by omega) (hs.d.getD k)
      refine O_add rfl rfl rfl rfl (wrap_i64_id (by omega) (by omega)) ?_
      refine O_assign rfl rfl rfl ?_
      refine WL_end [(2, _)] ⟨rfl, trivial⟩ ?_
      refine WP_ret ?_
      refine inBlk_ret ?_
      refine inBlk_ret ?_
      refine ret1 Tryd.results13 rfl ?_
      have h1 := val_split l k
      rw [val_zeros hz, val_drop, Nat.zero_add, B_two] at h1
      exact ⟨_, rfl, e1, by rw [h1, tz_shift (by omega) (hs.d.getD k)]; first | rfl | (congr 1; omega)⟩
    · --
      refine WP_skip ?_
      refine WP_region ?_
      refine O_add rfl rfl rfl rfl (wrap_i64_id (by omega) (by omega)) ?_
      refine O_move rfl rfl rfl ?_
      refine WL_end [(5, _), (6, _), (7, _)] ⟨rfl, rfl, rfl, trivial⟩ ?_
      exact ⟨k + 1, ⟨rfl, rfl, rfl, trivial⟩, ⟨rfl, by omega, fun j hj => by
        by_cases hj2 : j = k
        · rw [hj2]; omega
        · exact hz j (by omega)⟩, by omega⟩
  · --
    refine WP_exit ?_
    refine inBlk_hit ?_
    refine WP_seq ?_
    refine WP_region ?_
    refine O_assign rfl rfl rfl ?_
    refine WL_end [(2, _)] ⟨rfl, trivial⟩ ?_
    refine WP_ret ?_
    refine ret1 Tryd.results13 rfl ?_
    have h1 := val_zeros (l := l) (k := l.length) (fun j hj => hz j (by omega))
    rw [List.take_length] at h1
    exact ⟨_, rfl, (Ext.refl _), by rw [h1, show tz 0 = 0 from by rw [tz]; simp]; rfl⟩

theorem awake_c {w : World} (hT : Tab w) :
    Calls Tryd.prog 9 #[] w (Ret w fun r _ => r = .bool true) := by
  have d8 : dig 8 = [8] := dig_eq (by simp [D]) (by simp [Can]) (by simp [val])
  refine enter (args := []) Tryd.func9 rfl Tryd.ntmps9 rfl ?_
  refine WP_seq ?_
  refine WP_region ?_
  refine O_assign rfl rfl rfl ?_
  refine WL_end [] trivial ?_
  refine WP_seq ?_
  refine WP_region ?_
  refine N_lit T22 rfl rfl [5, 0, 0] (by simp [D]) rfl (by decide) rfl rfl (fun v1 w1 o1 e1 => ?_)
  have z1 := e1.size
  refine O_call enters18 rfl rfl rfl (trim_c o1.nl (by (try simp only [val_dig, List.length_take, List.length_nil, List.length_cons, List.length_append, List.length_replicate, List.length_set, List.length_map, List.length_drop]); omega)) (fun v2 w2 e2 h2 => ?_)
  have z2 := e2.size
  try simp only [val_dig] at h2
  rw [show dig (val [5, 0, 0]) = [5] from dig_eq (by simp [D]) (by simp [Can]) (by simp [val])] at h2
  refine N_lit T22 rfl rfl [5] (by simp [D]) rfl (by decide) rfl rfl (fun v3 w3 o3 e3 => ?_)
  have z3 := e3.size
  refine O_call enters24 rfl rfl rfl (rsame_c (h2.ext e3).nl o3.nl (by (try simp only [val_dig, List.length_take, List.length_nil, List.length_cons, List.length_append, List.length_replicate, List.length_set, List.length_map, List.length_drop]); omega) (by (try simp only [val_dig, List.length_take, List.length_nil, List.length_cons, List.length_append, List.length_replicate, List.length_set, List.length_map, List.length_drop]); omega) rfl) (fun v4 w4 e4 h4 => ?_)
  have z4 := e4.size
  obtain rfl := h4
  refine O_move rfl rfl rfl ?_
  refine N_lit T22 rfl rfl [4294967295] (by simp [D]) rfl (by decide) rfl rfl (fun v5 w5 o5 e5 => ?_)
  have z5 := e5.size
  refine N_lit T22 rfl rfl [1] (by simp [D]) rfl (by decide) rfl rfl (fun v6 w6 o6 e6 => ?_)
  have z6 := e6.size
  refine O_call enters29 rfl rfl rfl (add_c (o5.ext e6).nl o6.nl (by decide) (by decide)) (fun v7 w7 e7 h7 => ?_)
  have z7 := e7.size
  try simp only [val_dig] at h7
  rw [show dig (val [4294967295] + val [1]) = [0, 1] from dig_eq (by simp [D]) (by simp [Can]) (by simp [val])] at h7
  refine N_lit T22 rfl rfl [0, 1] (by simp [D]) rfl (by decide) rfl rfl (fun v8 w8 o8 e8 => ?_)
  have z8 := e8.size
  refine O_call enters24 rfl rfl rfl (rsame_c (h7.ext e8).nl o8.nl (by (try simp only [val_dig, List.length_take, List.length_nil, List.length_cons, List.length_append, List.length_replicate, List.length_set, List.length_map, List.length_drop]); omega) (by (try simp only [val_dig, List.length_take, List.length_nil, List.length_cons, List.length_append, List.length_replicate, List.length_set, List.length_map, List.length_drop]); omega) rfl) (fun v9 w9 e9 h9 => ?_)
  have z9 := e9.size
  obtain rfl := h9
  refine O_pickT rfl rfl rfl rfl ?_
  refine O_move rfl rfl rfl ?_
  refine O_call enters21 rfl rfl rfl (of_c _ (by (try simp only [val_dig, List.length_take, List.length_nil, List.length_cons, List.length_append, List.length_replicate, List.length_set, List.length_map, List.length_drop]); omega)) (fun v10 w10 e10 h10 => ?_)
  have z10 := e10.size
  try simp only [val_dig] at h10
  refine O_call enters11 rfl rfl rfl (bits_c h10.nl (by rw [d8]; decide)) (fun v11 w11 e11 h11 => ?_)
  have z11 := e11.size
  obtain rfl := h11
  rw [show bl (val (dig 8)) = 4 from by rw [val_dig]; decide +kernel]
  refine O_eql (t := true) rfl rfl rfl rfl (decide_eq_true rfl) ?_
  refine O_pickT rfl rfl rfl rfl ?_
  refine O_move rfl rfl rfl ?_
  refine O_call enters21 rfl rfl rfl (of_c _ (by (try simp only [val_dig, List.length_take, List.length_nil, List.length_cons, List.length_append, List.length_replicate, List.length_set, List.length_map, List.length_drop]); omega)) (fun v12 w12 e12 h12 => ?_)
  have z12 := e12.size
  try simp only [val_dig] at h12
  refine O_call enters13 rfl rfl rfl (zeros_c (hT.ext (((((((((((e1.trans e2).trans e3).trans e4).trans e5).trans e6).trans e7).trans e8).trans e9).trans e10).trans e11).trans e12)) h12.nl (by rw [d8]; decide)) (fun v13 w13 e13 h13 => ?_)
  have z13 := e13.size
  obtain rfl := h13
  rw [show tz (val (dig 8)) = 3 from by rw [val_dig]; exact tz_unique (q := 0) rfl]
  refine O_eql (t := true) rfl rfl rfl rfl (decide_eq_true rfl) ?_
  refine O_pickT rfl rfl rfl rfl ?_
  refine O_assign rfl rfl rfl ?_
  refine WL_end [(0, _)] ⟨rfl, trivial⟩ ?_
  refine WP_ret ?_
  refine ret1 Tryd.results9 rfl ?_
  exact ⟨_, rfl, ((((((((((((e1.trans e2).trans e3).trans e4).trans e5).trans e6).trans e7).trans e8).trans e9).trans e10).trans e11).trans e12).trans e13), rfl⟩

theorem cmp_c {w : World} {va vb : Value} {la lb : List Nat} (ha : Nl w va la) (hb : Nl w vb lb) :
    Calls Tryd.prog 27 #[va, vb] w (Ret w fun r _ => r = .int .i64 (cmpv (val la) (val lb))) := by
  have hsa := sz_le ha.d
  have hsb := sz_le hb.d
  have hla := ha.len_le
  have hlb := hb.len_le
  refine enter (args := [va, vb]) Tryd.func27 rfl Tryd.ntmps27 rfl ?_
  refine WP_seq ?_
  refine WP_region ?_
  refine O_assign rfl rfl rfl ?_
  refine WL_end [(0, _), (1, _)] ⟨rfl, rfl, trivial⟩ ?_
  refine WP_seq ?_
  refine WP_region ?_
  refine O_move rfl rfl rfl ?_
  refine O_call enters39 rfl rfl rfl (size_c ha) (fun v1 w1 e1 h1 => ?_)
  have z1 := e1.size
  obtain rfl := h1
  refine O_move rfl rfl rfl ?_
  refine O_call enters39 rfl rfl rfl (size_c (hb.ext e1)) (fun v2 w2 e2 h2 => ?_)
  have z2 := e2.size
  obtain rfl := h2
  refine O_assign rfl rfl rfl ?_
  refine O_assign rfl rfl rfl ?_
  refine WL_end [(0, _), (1, _), (5, _), (6, _)] ⟨rfl, rfl, rfl, rfl, trivial⟩ ?_
  refine WP_seq ?_
  refine WP_block ?_
  refine WP_seq ?_
  refine WP_region ?_
  refine O_move rfl rfl rfl ?_
  refine O_move rfl rfl rfl ?_
  refine O_lss rfl rfl rfl rfl rfl ?_
  refine O_assign rfl rfl rfl ?_
  refine WL_end [(0, _), (1, _), (5, _), (6, _), (12, _)] ⟨rfl, rfl, rfl, rfl, rfl, trivial⟩ ?_
  refine WP_condD rfl (fun c12 => ?_) (fun c12 => ?_)
  · --
    refine WP_seq ?_
    refine WP_region ?_
    refine O_assign rfl rfl rfl ?_
    refine WL_end [(4, _)] ⟨rfl, trivial⟩ ?_
    refine WP_ret ?_
    refine inBlk_ret ?_
    refine ret1 Tryd.results27 rfl ?_
    exact ⟨_, rfl, (e1.trans e2), by rw [cmpv_lt (sz_lt_val (by omega))]⟩
  · --
    refine WP_seq ?_
    refine WP_region ?_
    refine O_move rfl rfl rfl ?_
    refine O_move rfl rfl rfl ?_
    refine O_gtr rfl rfl rfl rfl rfl ?_
    refine O_assign rfl rfl rfl ?_
    refine WL_end [(0, _), (1, _), (5, _), (16, _)] ⟨rfl, rfl, rfl, rfl, trivial⟩ ?_
    refine WP_condD rfl (fun c16 => ?_) (fun c16 => ?_)
    · --
      refine WP_seq ?_
      refine WP_region ?_
      refine O_assign rfl rfl rfl ?_
      refine WL_end [(4, _)] ⟨rfl, trivial⟩ ?_
      refine WP_ret ?_
      refine inBlk_ret ?_
      refine ret1 Tryd.results27 rfl ?_
      exact ⟨_, rfl, (e1.trans e2), by rw [cmpv_gt (sz_lt_val (by omega))]⟩
    · --
      refine WP_skip ?_
      refine WP_seq ?_
      refine WP_seq ?_
      refine WP_region ?_
      refine O_move rfl rfl rfl ?_
      refine O_sub rfl rfl rfl rfl (wrap_i64_id (by omega) (by omega)) ?_
      refine O_assign rfl rfl rfl ?_
      refine WL_end [(0, _), (1, _), (7, _)] ⟨rfl, rfl, rfl, trivial⟩ ?_
      refine WP_block ?_
      refine WP_loop (S := Nat) (fun k => [(0, va), (1, vb), (7, .int .i64 (((k : Nat) : Int) - 1))]) (fun k w' => Ext w w' ∧ k ≤ sz la ∧ sz la = sz lb ∧ ∀ j, k ≤ j → la.getD j 0 = lb.getD j 0) (fun k => k) (sz la) ⟨rfl, rfl, rfl, trivial⟩ ⟨(e1.trans e2), Nat.le_refl _, by omega, fun j hj => by rw [getD_sz ha.d hj, getD_sz hb.d (by omega)]⟩ ?_
      rintro k w3 ⟨hE, hk, hss, hag⟩
      refine WP_seq ?_
      refine WP_seq ?_
      refine WP_region ?_
      refine O_move rfl rfl rfl ?_
      refine O_geq rfl rfl rfl rfl rfl ?_
      refine WL_end [(0, _), (1, _), (7, _), (23, _)] ⟨rfl, rfl, rfl, rfl, trivial⟩ ?_
      refine WP_condD rfl (fun c23 => ?_) (fun c23 => ?_)
      · --
        refine WP_skip ?_
        refine WP_seq ?_
        refine WP_block ?_
        refine WP_block ?_
        refine WP_seq ?_
        refine WP_sub [(0, _), (1, _), (7, _)] ⟨rfl, rfl, rfl, trivial⟩ ?_
        refine WP_any 10 [0, 1, 7] mixed rfl (by kernel_rfl) ?_
        apply Any_val rfl
        · --
          intro y3 hy3
          have zy3 := hy3.size
          refine AllV_nil ?_
          refine O_move rfl rfl rfl ?_
          exact WL_nil ⟨(Ext.refl _), rfl⟩
        apply Any_val rfl
        · --
          intro y4 hy4
          have zy4 := hy4.size
          refine AllV_nil ?_
          refine O_move rfl rfl rfl ?_
          exact WL_nil ⟨(Ext.refl _), rfl⟩
        apply Any_val rfl
        · --
          intro y5 hy5
          have zy5 := hy5.size
          refine AllV_v ?_
          refine AllV_v ?_
          refine AllV_nil ?_
          refine N_index T22 rfl rfl rfl rfl (ha.ext (hE.trans hy5)) (k - 1) (by omega) (by omega) ?_
          exact WL_nil ⟨(Ext.refl _), rfl⟩
        apply Any_val rfl
        · --
          intro y6 hy6
          have zy6 := hy6.size
          refine AllV_v ?_
          refine AllV_nil ?_
          refine N_load Tryd.underlying44 rfl rfl rfl (ha.ext (hE.trans hy6)) (by omega) (fun d30 => ?_)
          exact WL_nil ⟨(Ext.refl _), rfl⟩
        apply Any_val rfl
        · --
          intro y7 hy7
          have zy7 := hy7.size
          refine AllV_nil ?_
          refine O_move rfl rfl rfl ?_
          exact WL_nil ⟨(Ext.refl _), rfl⟩
        apply Any_val rfl
        · --
          intro y8 hy8
          have zy8 := hy8.size
          refine AllV_nil ?_
          refine O_move rfl rfl rfl ?_
          exact WL_nil ⟨(Ext.refl _), rfl⟩
        apply Any_val rfl
        · --
          intro y9 hy9
          have zy9 := hy9.size
          refine AllV_v ?_
          refine AllV_v ?_
          refine AllV_nil ?_
          refine N_index T22 rfl rfl rfl rfl (hb.ext (hE.trans hy9)) (k - 1) (by omega) (by omega) ?_
          exact WL_nil ⟨(Ext.refl _), rfl⟩
        apply Any_val rfl
        · --
          intro y10 hy10
          have zy10 := hy10.size
          refine AllV_v ?_
          refine AllV_nil ?_
          refine N_load Tryd.underlying44 rfl rfl rfl (hb.ext (hE.trans hy10)) (by omega) (fun d34 => ?_)
          exact WL_nil ⟨(Ext.refl _), rfl⟩
        apply Any_val rfl
        · --
          intro y11 hy11
          have zy11 := hy11.size
          refine AllV_v ?_
          refine AllV_v ?_
          refine AllV_nil ?_
          refine O_lss rfl rfl rfl rfl rfl ?_
          exact WL_nil ⟨(Ext.refl _), rfl⟩
        apply Any_val rfl
        · --
          intro y12 hy12
          have zy12 := hy12.size
          refine AllV_v ?_
          refine AllV_nil ?_
          refine O_assign rfl rfl rfl ?_
          exact WL_nil ⟨(Ext.refl _), rfl⟩
        refine Any_nil fun y13 hy13 => ?_
        have zy13 := hy13.size
        refine AllV_v ?_
        refine AllV_v ?_
        refine AllV_v ?_
        refine AllV_v ?_
        refine AllV_v ?_
        refine AllV_v ?_
        refine AllV_v ?_
        refine AllV_v ?_
        refine AllV_v ?_
        refine AllV_v ?_
        refine AllV_nil ?_
        refine WL_end [(0, _), (1, _), (7, _), (26, _)] ⟨rfl, rfl, rfl, rfl, trivial⟩ ?_
        refine WP_condD rfl (fun c26 => ?_) (fun c26 => ?_)
        · --
          refine WP_seq ?_
          refine WP_region ?_
          refine O_assign rfl rfl rfl ?_
          refine WL_end [(4, _)] ⟨rfl, trivial⟩ ?_
          refine WP_ret ?_
          refine inBlk_ret ?_
          refine inBlk_ret ?_
          refine inBlk_ret ?_
          refine ret1 Tryd.results27 rfl ?_
          have hlt := val_lt_of_top ha.d (k := k - 1) (fun j hj => hag j (by omega)) (show la.getD (k - 1) 0 < lb.getD (k - 1) 0 by omega)
          exact ⟨_, rfl, (hE.trans hy13), by rw [cmpv_lt hlt]⟩
        · --
          refine WP_seq ?_
          refine WP_sub [(0, _), (1, _), (7, _)] ⟨rfl, rfl, rfl, trivial⟩ ?_
          refine WP_any 10 [0, 1, 7] mixed rfl (by kernel_rfl) ?_
          apply Any_val rfl
          · --
            intro y14 hy14
            have zy14 := hy14.size
            refine AllV_nil ?_
            refine O_move rfl rfl rfl ?_
            exact WL_nil ⟨(Ext.refl _), rfl⟩
          apply Any_val rfl
          · --
            intro y15 hy15
            have zy15 := hy15.size
            refine AllV_nil ?_
            refine O_move rfl rfl rfl ?_
            exact WL_nil ⟨(Ext.refl _), rfl⟩
          apply Any_val rfl
          · --
            intro y16 hy16
            have zy16 := hy16.size
            refine AllV_v ?_
            refine AllV_v ?_
            refine AllV_nil ?_
            refine N_index T22 rfl rfl rfl rfl (ha.ext ((hE.trans hy13).trans hy16)) (k - 1) (by omega) (by omega) ?_
            exact WL_nil ⟨(Ext.refl _), rfl⟩
          apply Any_val rfl
          · --
            intro y17 hy17
            have zy17 := hy17.size
            refine AllV_v ?_
            refine AllV_nil ?_
            refine N_load Tryd.underlying44 rfl rfl rfl (ha.ext ((hE.trans hy13).trans hy17)) (by omega) (fun d40 => ?_)
            exact WL_nil ⟨(Ext.refl _), rfl⟩
          apply Any_val rfl
          · --
            intro y18 hy18
            have zy18 := hy18.size
            refine AllV_nil ?_
            refine O_move rfl rfl rfl ?_
            exact WL_nil ⟨(Ext.refl _), rfl⟩
          apply Any_val rfl
          · --
            intro y19 hy19
            have zy19 := hy19.size
            refine AllV_nil ?_
            refine O_move rfl rfl rfl ?_
            exact WL_nil ⟨(Ext.refl _), rfl⟩
          apply Any_val rfl
          · --
            intro y20 hy20
            have zy20 := hy20.size
            refine AllV_v ?_
            refine AllV_v ?_
            refine AllV_nil ?_
            refine N_index T22 rfl rfl rfl rfl (hb.ext ((hE.trans hy13).trans hy20)) (k - 1) (by omega) (by omega) ?_
            exact WL_nil ⟨(Ext.refl _), rfl⟩
          apply Any_val rfl
          · --
            intro y21 hy21
            have zy21 := hy21.size
            refine AllV_v ?_
            refine AllV_nil ?_
            refine N_load Tryd.underlying44 rfl rfl rfl (hb.ext ((hE.trans hy13).trans hy21)) (by omega) (fun d44 => ?_)
            exact WL_nil ⟨(Ext.refl _), rfl⟩
          apply Any_val rfl
          · --
            intro y22 hy22
            have zy22 := hy22.size
            refine AllV_v ?_
            refine AllV_v ?_
            refine AllV_nil ?_
            refine O_gtr rfl rfl rfl rfl rfl ?_
            exact WL_nil ⟨(Ext.refl _), rfl⟩
          apply Any_val rfl
          · --
            intro y23 hy23
            have zy23 := hy23.size
            refine AllV_v ?_
            refine AllV_nil ?_
            refine O_assign rfl rfl rfl ?_
            exact WL_nil ⟨(Ext.refl _), rfl⟩
          refine Any_nil fun y24 hy24 => ?_
          have zy24 := hy24.size
          refine AllV_v ?_
          refine AllV_v ?_
          refine AllV_v ?_
          refine AllV_v ?_
          refine AllV_v ?_
          refine AllV_v ?_
          refine AllV_v ?_
          refine AllV_v ?_
          refine AllV_v ?_
          refine AllV_v ?_
          refine AllV_nil ?_
          refine WL_end [(0, _), (1, _), (7, _), (36, _)] ⟨rfl, rfl, rfl, rfl, trivial⟩ ?_
          refine WP_condD rfl (fun c36 => ?_) (fun c36 => ?_)
          · --
            refine WP_seq ?_
            refine WP_region ?_
            refine O_assign rfl rfl rfl ?_
            refine WL_end [(4, _)] ⟨rfl, trivial⟩ ?_
            refine WP_ret ?_
            refine inBlk_ret ?_
            refine inBlk_ret ?_
            refine inBlk_ret ?_
            refine ret1 Tryd.results27 rfl ?_
            have hlt := val_lt_of_top hb.d (k := k - 1) (fun j hj => (hag j (by omega)).symm) (show lb.getD (k - 1) 0 < la.getD (k - 1) 0 by omega)
            exact ⟨_, rfl, ((hE.trans hy13).trans hy24), by rw [cmpv_gt hlt]⟩
          · --
            refine WP_skip ?_
            refine WP_region ?_
            refine O_move rfl rfl rfl ?_
            refine O_sub rfl rfl rfl rfl (wrap_i64_id (by omega) (by omega)) ?_
            refine O_assign rfl rfl rfl ?_
            refine WL_end [(0, _), (1, _), (7, _)] ⟨rfl, rfl, rfl, trivial⟩ ?_
            refine ⟨k - 1, ⟨rfl, rfl, (by simp only [look]; congr 3; omega), trivial⟩, ⟨((hE.trans hy13).trans hy24), by omega, hss, fun j hj => ?_⟩, by omega⟩
            by_cases hj2 : j = k - 1
            · rw [hj2]; omega
            · exact hag j (by omega)
      · --
        refine WP_exit ?_
        refine inBlk_hit ?_
        refine WP_seq ?_
        refine WP_region ?_
        refine O_assign rfl rfl rfl ?_
        refine WL_end [(4, _)] ⟨rfl, trivial⟩ ?_
        refine WP_ret ?_
        refine ret1 Tryd.results27 rfl ?_
        have heq : val la = val lb := val_congr fun j => hag j (by omega)
        exact ⟨_, rfl, hE, by rw [heq, cmpv_self]⟩

end Go.Proofs.YtijnlfhaepcldaaDoor
