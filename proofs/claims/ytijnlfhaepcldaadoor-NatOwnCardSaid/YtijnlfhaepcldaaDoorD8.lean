/-
  Walks.
-/
import Derived.Test.YtijnlfhaepcldaaDoorD6
set_option linter.unusedVariables false
set_option linter.unusedSimpArgs false
set_option maxRecDepth 100000
namespace Go.Proofs.YtijnlfhaepcldaaDoor
open Go Go.RowKit
theorem borrow_step {A O Y c c' x y d k : Nat} (h : A + 4294967296 ^ k * c = O + Y) (hd : x + 4294967296 * c' = d + y + c) :
    A + 4294967296 ^ k * x + 4294967296 ^ (k + 1) * c' = O + 4294967296 ^ k * d + (Y + 4294967296 ^ k * y) := by
  rw [Nat.pow_succ]
  generalize 4294967296 ^ k = P at *
  have h1 : P * (x + 4294967296 * c') = P * (d + y + c) := by rw [hd]
  rw [Nat.mul_add, Nat.mul_add, Nat.mul_add, ← Nat.mul_assoc] at h1
  omega
theorem take_all_sz {l : List Nat} (hd : D l) {k : Nat} (h : sz l ≤ k) : val (l.take k) = val l := by
  have h1 := val_split l k
  rw [val_drop_sz hd h] at h1
  rw [h1]; simp
theorem no_borrow {la lb lo : List Nat} {k c : Nat} (ha : D la) (hb : D lb) (ho : D lo) (hk : lo.length ≤ k) (hka : sz la ≤ k) (hle : val lb ≤ val la) (hc : c ≤ 1)
    (h : val (la.take k) + 4294967296 ^ k * c = val lo + val (lb.take k)) : val lo = val la - val lb := by
  have hkb : sz lb ≤ k := Nat.le_trans (by unfold sz; exact dig_len_mono hle) hka
  rw [take_all_sz ha hka, take_all_sz hb hkb] at h
  have h1 := val_lt_pow ho hk
  generalize 4294967296 ^ k = P at *
  rcases Nat.lt_or_ge c 1 with h2 | h2
  · obtain rfl : c = 0 := by omega
    omega
  · obtain rfl : c = 1 := by omega
    omega
theorem cmpv_nlt {a b : Nat} (h : ¬ cmpv a b < 0) : b ≤ a := by
  rcases Nat.lt_or_ge a b with h1 | h1
  · exact absurd (cmpv_lt_zero.2 h1) h
  · exact h1
theorem sub32_c {w : World} {x y c : Nat} (hx : x < 4294967296) (hy : y < 4294967296) (hc : c ≤ 1) :
    Calls Tryd.prog 44 #[.int .u32 (x : Nat), .int .u32 (y : Nat), .int .u32 (c : Nat)] w (Ret w fun r _ => r = .tuple #[.int .u32 (((x + 8589934592 - y - c) % 4294967296 : Nat) : Int), .int .u32 ((if x < y + c then 1 else 0 : Nat) : Int)]) := by
  have hd : (x + 8589934592 - y - c) % 4294967296 < 4294967296 := Nat.mod_lt _ (by decide)
  refine enter (args := [_, _, _]) Tryd.func44 rfl Tryd.ntmps44 rfl ?_
  refine WP_seq ?_
  refine WP_region ?_
  refine O_assign rfl rfl rfl ?_
  refine O_assign rfl rfl rfl ?_
  refine WL_end [(0, _), (1, _), (2, _)] ⟨rfl, rfl, rfl, trivial⟩ ?_
  refine WP_seq ?_
  refine WP_region ?_
  refine O_move rfl rfl rfl ?_
  refine O_move rfl rfl rfl ?_
  refine O_sub (r := (((x + 4294967296 - y) % 4294967296 : Nat) : Int)) rfl rfl rfl rfl (by rw [wrap_u32]; omega) ?_
  refine O_move rfl rfl rfl ?_
  refine O_sub (r := ((((x + 8589934592 - y - c) % 4294967296) : Nat) : Int)) rfl rfl rfl rfl (by rw [wrap_u32]; omega) ?_
  refine O_assign rfl rfl rfl ?_
  refine WL_end [(0, _), (1, _), (6, _)] ⟨rfl, rfl, rfl, trivial⟩ ?_
  refine WP_seq ?_
  refine WP_region ?_
  refine O_move rfl rfl rfl ?_
  refine O_compl rfl rfl rfl (u32_xor_nat 4294967295 x (by decide) hx) ?_
  refine O_move rfl rfl rfl ?_
  refine O_and rfl rfl rfl rfl (u32_and_nat _ _ (xl hx) hy) ?_
  refine O_move rfl rfl rfl ?_
  refine O_move rfl rfl rfl ?_
  refine O_xor rfl rfl rfl rfl (u32_xor_nat _ _ hx hy) ?_
  refine O_compl rfl rfl rfl (u32_xor_nat 4294967295 _ (by decide) (xl2 hx hy)) ?_
  refine O_move rfl rfl rfl ?_
  refine O_and rfl rfl rfl rfl (u32_and_nat _ _ (xl (xl2 hx hy)) hd) ?_
  refine O_or rfl rfl rfl rfl (u32_or_nat _ _ (al hy) (al hd)) ?_
  refine O_shr rfl rfl rfl rfl (by decide) (shrN (s := 31) rfl (subb hx hy hc)) ?_
  refine O_assign rfl rfl rfl ?_
  refine WL_end [(6, _), (7, _)] ⟨rfl, rfl, trivial⟩ ?_
  refine WP_ret ?_
  refine ret2 Tryd.results44 rfl rfl ?_
  exact ⟨_, rfl, (Ext.refl _), rfl⟩

theorem sub_c {w : World} {va vb : Value} {la lb : List Nat} (ha : Nl w va la) (hb : Nl w vb lb) (hla : la.length ≤ 100000000) :
    Calls Tryd.prog 30 #[va, vb] w (Ret w fun r w' => ∃ q, r = .tuple #[q, .bool (decide (val lb ≤ val la))] ∧ No w.heap.size 44 w' q (dig (val la - val lb))) := by
  have hsa := sz_le ha.d
  refine enter (args := [va, vb]) Tryd.func30 rfl Tryd.ntmps30 rfl ?_
  refine WP_seq ?_
  refine WP_region ?_
  refine O_assign rfl rfl rfl ?_
  refine O_assign rfl rfl rfl ?_
  refine WL_end [(0, _), (1, _)] ⟨rfl, rfl, trivial⟩ ?_
  refine WP_seq ?_
  refine WP_seq ?_
  refine WP_region ?_
  refine O_move rfl rfl rfl ?_
  refine O_move rfl rfl rfl ?_
  refine O_call enters27 rfl rfl rfl (cmp_c ha hb) (fun v1 w1 e1 h1 => ?_)
  have z1 := e1.size
  obtain rfl := h1
  refine O_lss rfl rfl rfl rfl rfl ?_
  refine WL_end [(0, _), (1, _), (13, _)] ⟨rfl, rfl, rfl, trivial⟩ ?_
  refine WP_condD rfl (fun c13 => ?_) (fun c13 => ?_)
  · --
    refine WP_seq ?_
    refine WP_region ?_
    refine O_assign rfl rfl rfl ?_
    refine O_assign rfl rfl rfl ?_
    refine WL_end [(4, _), (5, _)] ⟨rfl, rfl, trivial⟩ ?_
    refine WP_ret ?_
    refine ret2 Tryd.results30 rfl rfl ?_
    have hlt := cmpv_lt_zero.1 c13
    exact ⟨_, rfl, e1, _, by rw [decide_eq_false (by omega : ¬ val lb ≤ val la)], by rw [show val la - val lb = 0 from by omega, dig_zero]; exact No.nil _ _ _⟩
  · --
    refine WP_skip ?_
    refine WP_seq ?_
    refine WP_region ?_
    refine O_move rfl rfl rfl ?_
    refine O_call enters39 rfl rfl rfl (size_c (ha.ext e1)) (fun v2 w2 e2 h2 => ?_)
    have z2 := e2.size
    obtain rfl := h2
    refine N_make T22 (by decide) rfl rfl rfl rfl (sz la) rfl rfl (by omega) (fun v3 w3 o3 e3 => ?_)
    have z3 := e3.size
    refine O_assign rfl rfl rfl ?_
    refine WL_end [(0, _), (1, _), (6, _)] ⟨rfl, rfl, rfl, trivial⟩ ?_
    refine WP_seq ?_
    refine WP_region ?_
    refine O_assign rfl rfl rfl ?_
    refine WL_end [(0, _), (1, _), (6, _), (7, _)] ⟨rfl, rfl, rfl, rfl, trivial⟩ ?_
    refine WP_seq ?_
    refine WP_seq ?_
    refine WP_region ?_
    refine O_move rfl rfl rfl ?_
    refine N_len T22 rfl rfl rfl o3.nl ?_
    rw [List.length_replicate]
    refine O_move rfl rfl rfl ?_
    refine WL_end [(0, _), (1, _), (6, _), (7, _), (18, _), (19, _)] ⟨rfl, rfl, rfl, rfl, rfl, rfl, trivial⟩ ?_
    refine WP_block ?_
    refine WP_loop (S := Nat × Nat × List Nat) (fun (k, c, lo) => [(0, va), (1, vb), (6, v3), (7, .int .u32 (c : Nat)), (18, .int .i64 (sz la : Nat)), (19, .int .i64 (k : Nat))]) (fun (k, c, lo) w' => Ext w w' ∧ No w.heap.size 44 w' v3 lo ∧ lo.length = sz la ∧ k ≤ sz la ∧ c ≤ 1 ∧ val (la.take k) + 4294967296 ^ k * c = val (lo.take k) + val (lb.take k)) (fun (k, c, lo) => sz la - k) (0, 0, List.replicate (sz la) 0) ⟨rfl, rfl, rfl, rfl, rfl, rfl, trivial⟩ ⟨((e1.trans e2).trans e3), o3.mono (by omega), by simp, by omega, by omega, by simp [val]⟩ ?_
    rintro ⟨k, c, lo⟩ w4 ⟨hE, ho, hlo, hk, hc, hv⟩
    show WP _ _ _ _ _ [(0, va), (1, vb), (6, v3), (7, .int .u32 (c : Nat)), (18, .int .i64 (sz la : Nat)), (19, .int .i64 (k : Nat))] _
    have hz := hE.size
    have hxd := ha.d.getD k
    have hyd := hb.d.getD k
    refine WP_seq ?_
    refine WP_region ?_
    refine O_lss rfl rfl rfl rfl rfl ?_
    refine WL_end [(0, _), (1, _), (6, _), (7, _), (18, _), (19, _), (20, _)] ⟨rfl, rfl, rfl, rfl, rfl, rfl, rfl, trivial⟩ ?_
    refine WP_seq ?_
    refine WP_condD rfl (fun c20 => ?_) (fun c20 => ?_)
    · --
      refine WP_skip ?_
      refine WP_seq ?_
      refine WP_block ?_
      refine WP_seq ?_
      refine WP_region ?_
      refine O_move rfl rfl rfl ?_
      refine O_assign rfl rfl rfl ?_
      refine WL_end [(0, _), (1, _), (6, _), (7, _), (8, _), (18, _), (19, _)] ⟨rfl, rfl, rfl, rfl, rfl, rfl, rfl, trivial⟩ ?_
      refine WP_seq ?_
      refine WP_region ?_
      refine O_assign rfl rfl rfl ?_
      refine WL_end [(0, _), (1, _), (6, _), (7, _), (8, _), (9, _), (18, _), (19, _)] ⟨rfl, rfl, rfl, rfl, rfl, rfl, rfl, rfl, trivial⟩ ?_
      refine WP_seq ?_
      refine WP_seq ?_
      refine WP_region ?_
      refine O_move rfl rfl rfl ?_
      refine O_move rfl rfl rfl ?_
      refine N_len T22 rfl rfl rfl (hb.ext hE) ?_
      refine O_lss rfl rfl rfl rfl rfl ?_
      refine WL_end [(0, _), (1, _), (6, _), (7, _), (8, _), (9, _), (18, _), (19, _), (25, _)] ⟨rfl, rfl, rfl, rfl, rfl, rfl, rfl, rfl, rfl, trivial⟩ ?_
      refine WP_joinK (S := Unit) (fun u => [(0, va), (1, vb), (6, v3), (7, .int .u32 (c : Nat)), (8, .int .i64 (k : Nat)), (9, .int .u32 (lb.getD k 0 : Nat)), (18, .int .i64 (sz la : Nat)), (19, .int .i64 (k : Nat))]) (fun u w' => Ext w w' ∧ No w.heap.size 44 w' v3 lo) ?_ ?_
      · --
        refine WP_condD rfl (fun c25 => ?_) (fun c25 => ?_)
        · --
          refine WP_region ?_
          refine O_move rfl rfl rfl ?_
          refine O_move rfl rfl rfl ?_
          refine N_index T22 rfl rfl rfl rfl (hb.ext hE) k rfl (by omega) ?_
          refine N_load Tryd.underlying44 rfl rfl rfl (hb.ext hE) (by omega) (fun d29 => ?_)
          refine O_assign rfl rfl rfl ?_
          refine WL_end [(0, _), (1, _), (6, _), (7, _), (8, _), (9, _), (18, _), (19, _)] ⟨rfl, rfl, rfl, rfl, rfl, rfl, rfl, rfl, trivial⟩ ?_
          exact ⟨(), ⟨rfl, rfl, rfl, rfl, rfl, rfl, rfl, rfl, trivial⟩, hE, ho⟩
        · --
          refine WP_skip ?_
          have h0 := getD_ge (l := lb) (j := k) (by omega)
          exact ⟨(), ⟨rfl, rfl, rfl, rfl, rfl, by rw [h0]; rfl, rfl, rfl, trivial⟩, hE, ho⟩
      · rintro ⟨⟩ w5 ⟨hE5, ho5⟩
        refine WP_region ?_
        refine O_move rfl rfl rfl ?_
        refine O_move rfl rfl rfl ?_
        refine O_move rfl rfl rfl ?_
        refine O_move rfl rfl rfl ?_
        refine N_index T22 rfl rfl rfl rfl (ha.ext hE5) k rfl (by omega) ?_
        refine N_load Tryd.underlying44 rfl rfl rfl (ha.ext hE5) (by omega) (fun d36 => ?_)
        refine O_move rfl rfl rfl ?_
        refine O_move rfl rfl rfl ?_
        refine O_call enters44 rfl rfl rfl (sub32_c (ha.d.getD k) (hb.d.getD k) (by (try simp only [val_dig, List.length_take, List.length_nil, List.length_cons, List.length_append, List.length_replicate, List.length_set, List.length_map, List.length_drop]); omega)) (fun v4 w4 e4 h4 => ?_)
        have z4 := e4.size
        obtain rfl := h4
        refine O_move rfl rfl rfl ?_
        refine O_extract rfl rfl rfl rfl ?_
        refine O_extract rfl rfl rfl rfl ?_
        refine N_index T22 rfl rfl rfl rfl (ho5.ext e4).nl k rfl (by omega) ?_
        refine N_store T22 rfl rfl rfl (ho5.ext e4) (by omega) ((la.getD k 0 + 8589934592 - lb.getD k 0 - c) % 4294967296) rfl (by omega) (fun w5 o5 q5 a5 b5 => ?_)
        have z5 := q5.size
        have e5 : Ext w w5 := q5.ext (hE5.trans e4) (by omega)
        refine O_assign rfl rfl rfl ?_
        refine WL_end [(0, _), (1, _), (6, _), (7, _), (18, _), (19, _)] ⟨rfl, rfl, rfl, rfl, rfl, rfl, trivial⟩ ?_
        refine WP_region ?_
        refine O_add rfl rfl rfl rfl (wrap_i64_id (by omega) (by omega)) ?_
        refine O_move rfl rfl rfl ?_
        refine WL_end [(0, _), (1, _), (6, _), (7, _), (18, _), (19, _)] ⟨rfl, rfl, rfl, rfl, rfl, rfl, trivial⟩ ?_
        refine ⟨(k + 1, (if la.getD k 0 < lb.getD k 0 + c then 1 else 0), lo.set k ((la.getD k 0 + 8589934592 - lb.getD k 0 - c) % 4294967296)), ⟨rfl, rfl, rfl, rfl, rfl, rfl, trivial⟩, ⟨e5, by assumption, by simp [hlo], by omega, by split <;> omega, ?_⟩, by dsimp only; omega⟩
        rw [val_take_set (by omega), val_take_succ', val_take_succ']
        exact borrow_step hv (by split <;> omega)
    · --
      refine WP_exit ?_
      refine inBlk_hit ?_
      refine WP_seq ?_
      refine WP_region ?_
      refine O_move rfl rfl rfl ?_
      refine O_move rfl rfl rfl ?_
      refine O_call enters39 rfl rfl rfl (size_c ho.nl) (fun v6 w6 e6 h6 => ?_)
      have z6 := e6.size
      obtain rfl := h6
      refine N_sliceTo T22 rfl rfl rfl rfl (ho.ext e6).nl (sz lo) rfl (sz_le ho.d) ?_
      have hu := (ho.ext e6).take (sz lo) (sz_le ho.d)
      generalize slTake _ _ = u at hu ⊢
      refine O_assign rfl rfl rfl ?_
      refine O_assign rfl rfl rfl ?_
      refine WL_end [(4, _), (5, _)] ⟨rfl, rfl, trivial⟩ ?_
      refine WP_ret ?_
      refine ret2 Tryd.results30 rfl rfl ?_
      have hk2 : k = sz la := by omega
      rw [hk2, List.take_of_length_le (l := lo) (by omega)] at hv
      have hu2 := val_take_sz ho.d
      rw [hu2, no_borrow ha.d hb.d ho.d (by omega) (Nat.le_refl _) (cmpv_nlt c13) hc hv] at hu
      exact ⟨_, rfl, (hE.trans e6), _, by rw [decide_eq_true (cmpv_nlt c13)], hu⟩
theorem subT_c {w : World} {va vb : Value} {la lb : List Nat} (ha : Nl w va la) (hb : Nl w vb lb) (hla : la.length ≤ 100000000) (h : val lb ≤ val la) :
    Calls Tryd.prog 30 #[va, vb] w (Ret w fun r w' => ∃ q, r = .tuple #[q, .bool true] ∧ No w.heap.size 44 w' q (dig (val la - val lb))) :=
  (sub_c ha hb hla).mono fun e w' ⟨r, he, hx, q, hr, hq⟩ => ⟨r, he, hx, q, by rw [hr, decide_eq_true h], hq⟩

theorem rsub_c {w : World} {va vb : Value} {la lb : List Nat} (ha : Nl w va la) (hb : Nl w vb lb) (hla : la.length ≤ 100000000) (hlb : lb.length ≤ 100000000) :
    Calls Tryd.prog 31 #[va, vb] w (Ret w fun r w' => ∃ q, r = .tuple #[q, .bool (decide (val lb ≤ val la))] ∧ No w.heap.size 44 w' q (dig (val la - val lb))) := by
  refine enter (args := [va, vb]) Tryd.func31 rfl Tryd.ntmps31 rfl ?_
  refine WP_seq ?_
  refine WP_region ?_
  refine O_assign rfl rfl rfl ?_
  refine O_assign rfl rfl rfl ?_
  refine WL_end [(0, _), (1, _)] ⟨rfl, rfl, trivial⟩ ?_
  refine WP_seq ?_
  refine WP_seq ?_
  refine WP_region ?_
  refine O_move rfl rfl rfl ?_
  refine O_move rfl rfl rfl ?_
  refine O_call enters28 rfl rfl rfl (rcmp_c ha hb (by (try simp only [val_dig, List.length_take, List.length_nil, List.length_cons, List.length_append, List.length_replicate, List.length_set, List.length_map, List.length_drop]); omega) (by (try simp only [val_dig, List.length_take, List.length_nil, List.length_cons, List.length_append, List.length_replicate, List.length_set, List.length_map, List.length_drop]); omega)) (fun v1 w1 e1 h1 => ?_)
  have z1 := e1.size
  obtain rfl := h1
  refine O_lss rfl rfl rfl rfl rfl ?_
  refine WL_end [(0, _), (1, _), (14, _)] ⟨rfl, rfl, rfl, trivial⟩ ?_
  refine WP_condD rfl (fun c14 => ?_) (fun c14 => ?_)
  · --
    refine WP_seq ?_
    refine WP_region ?_
    refine O_assign rfl rfl rfl ?_
    refine O_assign rfl rfl rfl ?_
    refine WL_end [(4, _), (5, _)] ⟨rfl, rfl, trivial⟩ ?_
    refine WP_ret ?_
    refine ret2 Tryd.results31 rfl rfl ?_
    have hlt := cmpv_lt_zero.1 c14
    exact ⟨_, rfl, e1, _, by rw [decide_eq_false (by omega : ¬ val lb ≤ val la)], by rw [show val la - val lb = 0 from by omega, dig_zero]; exact No.nil _ _ _⟩
  · --
    refine WP_skip ?_
    refine WP_seq ?_
    refine WP_region ?_
    refine O_assign rfl rfl rfl ?_
    refine WL_end [(0, _), (1, _), (6, _)] ⟨rfl, rfl, rfl, trivial⟩ ?_
    refine WP_seq ?_
    refine WP_region ?_
    refine O_assign rfl rfl rfl ?_
    refine WL_end [(0, _), (1, _), (6, _), (7, _)] ⟨rfl, rfl, rfl, rfl, trivial⟩ ?_
    refine WP_seq ?_
    refine WP_seq ?_
    refine WP_region ?_
    refine O_assign rfl rfl rfl ?_
    refine WL_end [(0, _), (1, _), (6, _), (7, _), (8, _)] ⟨rfl, rfl, rfl, rfl, rfl, trivial⟩ ?_
    refine WP_block ?_
    refine WP_loop (S := Nat × Nat × List Nat × Value) (fun (k, c, lo, out) => [(0, va), (1, vb), (6, out), (7, .int .u64 (c : Nat)), (8, .int .i64 (k : Nat))]) (fun (k, c, lo, out) w' => Ext w w' ∧ No w.heap.size 44 w' out lo ∧ lo.length = k ∧ k ≤ la.length ∧ c ≤ 1 ∧ val (la.take k) + 4294967296 ^ k * c = val lo + val (lb.take k)) (fun (k, c, lo, out) => la.length - k) (0, 0, [], .slice none 0 0) ⟨rfl, rfl, rfl, rfl, rfl, trivial⟩ ⟨e1, No.nil _ _ _, rfl, by omega, by omega, by simp [val]⟩ ?_
    rintro ⟨k, c, lo, out⟩ w1 ⟨hE, ho, hlo, hk, hc, hv⟩
    show WP _ _ _ _ _ [(0, va), (1, vb), (6, out), (7, .int .u64 (c : Nat)), (8, .int .i64 (k : Nat))] _
    have hz := hE.size
    have hda := ha.d.getD k
    have hdb := hb.d.getD k
    refine WP_seq ?_
    refine WP_seq ?_
    refine WP_region ?_
    refine O_move rfl rfl rfl ?_
    refine O_move rfl rfl rfl ?_
    refine N_len T22 rfl rfl rfl (ha.ext hE) ?_
    refine O_lss rfl rfl rfl rfl rfl ?_
    refine WL_end [(0, _), (1, _), (6, _), (7, _), (8, _), (18, _)] ⟨rfl, rfl, rfl, rfl, rfl, rfl, trivial⟩ ?_
    refine WP_condD rfl (fun c18 => ?_) (fun c18 => ?_)
    · --
      refine WP_skip ?_
      refine WP_seq ?_
      refine WP_block ?_
      refine WP_seq ?_
      refine WP_region ?_
      refine O_move rfl rfl rfl ?_
      refine O_move rfl rfl rfl ?_
      refine O_call enters42 rfl rfl rfl (at_c (ha.ext hE) k rfl) (fun v2 w2 e2 h2 => ?_)
      have z2 := e2.size
      obtain rfl := h2
      refine O_move rfl rfl rfl ?_
      refine O_move rfl rfl rfl ?_
      refine O_call enters42 rfl rfl rfl (at_c (hb.ext (hE.trans e2)) k rfl) (fun v3 w3 e3 h3 => ?_)
      have z3 := e3.size
      obtain rfl := h3
      refine O_move rfl rfl rfl ?_
      refine O_add rfl rfl rfl rfl (wrap_u64_id (by omega) (by omega)) ?_
      refine O_assign rfl rfl rfl ?_
      refine O_assign rfl rfl rfl ?_
      refine WL_end [(0, _), (1, _), (6, _), (8, _), (9, _), (10, _)] ⟨rfl, rfl, rfl, rfl, rfl, rfl, trivial⟩ ?_
      refine WP_seq ?_
      refine WP_region ?_
      refine O_assign rfl rfl rfl ?_
      refine WL_end [(0, _), (1, _), (6, _), (7, _), (8, _), (9, _), (10, _)] ⟨rfl, rfl, rfl, rfl, rfl, rfl, rfl, trivial⟩ ?_
      refine WP_seq ?_
      refine WP_seq ?_
      refine WP_region ?_
      refine O_move rfl rfl rfl ?_
      refine O_move rfl rfl rfl ?_
      refine O_lss rfl rfl rfl rfl rfl ?_
      refine WL_end [(0, _), (1, _), (6, _), (7, _), (8, _), (9, _), (10, _), (31, _)] ⟨rfl, rfl, rfl, rfl, rfl, rfl, rfl, rfl, trivial⟩ ?_
      refine WP_condD rfl (fun c31 => ?_) (fun c31 => ?_)
      · --
        refine WP_seq ?_
        refine WP_region ?_
        refine O_move rfl rfl rfl ?_
        refine O_add rfl rfl rfl rfl (wrap_u64_id (by omega) (by omega)) ?_
        refine O_assign rfl rfl rfl ?_
        refine WL_end [(0, _), (1, _), (6, _), (8, _), (9, _), (10, _)] ⟨rfl, rfl, rfl, rfl, rfl, rfl, trivial⟩ ?_
        refine WP_region ?_
        refine O_assign rfl rfl rfl ?_
        refine WL_end [(0, _), (1, _), (6, _), (7, _), (8, _), (9, _), (10, _)] ⟨rfl, rfl, rfl, rfl, rfl, rfl, rfl, trivial⟩ ?_
        refine WP_region ?_
        refine O_move rfl rfl rfl ?_
        refine O_move rfl rfl rfl ?_
        refine O_move rfl rfl rfl ?_
        refine O_sub rfl rfl rfl rfl (wrap_u64_id (by omega) (by omega)) ?_
        refine O_conv Tryd.underlying30 Tryd.underlying44 (r := ((((la.getD k 0 + 8589934592 - lb.getD k 0 - c) % 4294967296) : Nat) : Int)) rfl rfl rfl (by rw [wrap_u32]; omega) ?_
        refine N_lit T22 rfl rfl [((la.getD k 0 + 8589934592 - lb.getD k 0 - c) % 4294967296)] (D.cons (by omega) D.nil) rfl (by decide) rfl rfl (fun v4 w4 o4 e4 => ?_)
        have z4 := e4.size
        refine N_append T22 rfl (by decide) rfl rfl rfl rfl (((ho.ext e2).ext e3).ext e4) o4.nl (by (try simp only [val_dig, List.length_take, List.length_nil, List.length_cons, List.length_append, List.length_replicate, List.length_set, List.length_map, List.length_drop]); omega) (by omega) (fun v5 w5 o5 r5 => ?_)
        have e5 : Ext w w5 := (((ho.ext e2).ext e3).ext e4).ext_grown r5 (((hE.trans e2).trans e3).trans e4) (by omega)
        have z5 := r5.size
        refine O_assign rfl rfl rfl ?_
        refine WL_end [(0, _), (1, _), (6, _), (7, _), (8, _)] ⟨rfl, rfl, rfl, rfl, rfl, trivial⟩ ?_
        refine WP_region ?_
        refine O_move rfl rfl rfl ?_
        refine O_add rfl rfl rfl rfl (wrap_i64_id (by omega) (by omega)) ?_
        refine O_assign rfl rfl rfl ?_
        refine WL_end [(0, _), (1, _), (6, _), (7, _), (8, _)] ⟨rfl, rfl, rfl, rfl, rfl, trivial⟩ ?_
        refine ⟨(k + 1, 1, lo ++ [((la.getD k 0 + 8589934592 - lb.getD k 0 - c) % 4294967296)], _), ⟨rfl, rfl, rfl, rfl, rfl, trivial⟩, ⟨by assumption, by assumption, by simp [hlo], by omega, by omega, ?_⟩, by dsimp only; omega⟩
        rw [val_snoc, hlo, val_take_succ', val_take_succ']
        exact borrow_step hv (by omega)
      · --
        refine WP_skip ?_
        refine WP_region ?_
        refine O_move rfl rfl rfl ?_
        refine O_move rfl rfl rfl ?_
        refine O_move rfl rfl rfl ?_
        refine O_sub rfl rfl rfl rfl (wrap_u64_id (by omega) (by omega)) ?_
        refine O_conv Tryd.underlying30 Tryd.underlying44 (r := ((((la.getD k 0 + 8589934592 - lb.getD k 0 - c) % 4294967296) : Nat) : Int)) rfl rfl rfl (by rw [wrap_u32]; omega) ?_
        refine N_lit T22 rfl rfl [((la.getD k 0 + 8589934592 - lb.getD k 0 - c) % 4294967296)] (D.cons (by omega) D.nil) rfl (by decide) rfl rfl (fun v6 w6 o6 e6 => ?_)
        have z6 := e6.size
        refine N_append T22 rfl (by decide) rfl rfl rfl rfl (((ho.ext e2).ext e3).ext e6) o6.nl (by (try simp only [val_dig, List.length_take, List.length_nil, List.length_cons, List.length_append, List.length_replicate, List.length_set, List.length_map, List.length_drop]); omega) (by omega) (fun v7 w7 o7 r7 => ?_)
        have e7 : Ext w w7 := (((ho.ext e2).ext e3).ext e6).ext_grown r7 (((hE.trans e2).trans e3).trans e6) (by omega)
        have z7 := r7.size
        refine O_assign rfl rfl rfl ?_
        refine WL_end [(0, _), (1, _), (6, _), (7, _), (8, _)] ⟨rfl, rfl, rfl, rfl, rfl, trivial⟩ ?_
        refine WP_region ?_
        refine O_move rfl rfl rfl ?_
        refine O_add rfl rfl rfl rfl (wrap_i64_id (by omega) (by omega)) ?_
        refine O_assign rfl rfl rfl ?_
        refine WL_end [(0, _), (1, _), (6, _), (7, _), (8, _)] ⟨rfl, rfl, rfl, rfl, rfl, trivial⟩ ?_
        refine ⟨(k + 1, 0, lo ++ [((la.getD k 0 + 8589934592 - lb.getD k 0 - c) % 4294967296)], _), ⟨rfl, rfl, rfl, rfl, rfl, trivial⟩, ⟨by assumption, by assumption, by simp [hlo], by omega, by omega, ?_⟩, by dsimp only; omega⟩
        rw [val_snoc, hlo, val_take_succ', val_take_succ']
        exact borrow_step hv (by omega)
    · --
      refine WP_exit ?_
      refine inBlk_hit ?_
      refine WP_seq ?_
      refine WP_region ?_
      refine O_move rfl rfl rfl ?_
      refine O_call enters25 rfl rfl rfl (rtrim_c ho.nl (by (try simp only [val_dig, List.length_take, List.length_nil, List.length_cons, List.length_append, List.length_replicate, List.length_set, List.length_map, List.length_drop]); omega)) (fun v8 w8 e8 h8 => ?_)
      have z8 := e8.size
      try simp only [val_dig] at h8
      refine O_assign rfl rfl rfl ?_
      refine O_assign rfl rfl rfl ?_
      refine WL_end [(4, _), (5, _)] ⟨rfl, rfl, trivial⟩ ?_
      refine WP_ret ?_
      refine ret2 Tryd.results31 rfl rfl ?_
      have hk2 : k = la.length := by omega
      rw [hk2] at hv
      have hr := no_borrow ha.d hb.d ho.d (by omega) (sz_le ha.d) (cmpv_nlt c14) hc hv
      have hq := h8
      rw [hr] at hq
      exact ⟨_, rfl, (hE.trans e8), _, by rw [decide_eq_true (cmpv_nlt c14)], hq.mono (by omega)⟩

end Go.Proofs.YtijnlfhaepcldaaDoor
