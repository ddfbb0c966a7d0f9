/-
  Walks.
-/
import Derived.Test.YtijnlfhaepcldaaDoorD14
import Derived.Test.YtijnlfhaepcldaaDoorD11
set_option linter.unusedVariables false
set_option linter.unusedSimpArgs false
set_option maxRecDepth 100000
namespace Go.Proofs.YtijnlfhaepcldaaDoor
open Go Go.RowKit
/-- Rows of one's own, apart from one another; their digits may have turned. -/
def RowsOk (zs : List (Value × List Nat)) (B : Nat) (E : TypeId) (w : World) : Prop :=
  ∀ (i : Nat) (z : Value × List Nat), zs[i]? = some z → ∃ l : List Nat, l.length = z.2.length ∧ Nl w z.1 l ∧ (l ≠ [] → No B E w z.1 l)
abbrev ApartR (a b : Value × List Nat) : Prop := a.2 ≠ [] → b.2 ≠ [] → vblk a.1 ≠ vblk b.1
theorem RowsOk.ext {zs : List (Value × List Nat)} {B : Nat} {E : TypeId} {w w' : World} (h : RowsOk zs B E w) (he : Ext w w') : RowsOk zs B E w' := fun i z hz => by
  obtain ⟨l, h1, h2, h3⟩ := h i z hz
  exact ⟨l, h1, h2.ext he, fun hne => (h3 hne).ext he⟩
theorem RowsOk.chg {zs : List (Value × List Nat)} {B : Nat} {E : TypeId} {w w' : World} {k : Nat} {z : Value × List Nat} {l : List Nat} (hpw : zs.Pairwise ApartR) (h : RowsOk zs B E w) (hz : zs[k]? = some z)
    (hq : Chg (vblk z.1) w w') (ho : No B E w' z.1 l) (hl : l.length = z.2.length) (hne : z.2 ≠ []) : RowsOk zs B E w' := fun i y hy => by
  by_cases hik : i = k
  · subst hik
    rw [hz] at hy; cases hy
    exact ⟨l, hl, ho.nl, fun _ => ho⟩
  · obtain ⟨m, h1, h2, h3⟩ := h i y hy
    have hb : m ≠ [] → vblk y.1 ≠ vblk z.1 := fun hm => by
      have hy2 : y.2 ≠ [] := fun e => hm (List.eq_nil_of_length_eq_zero (by rw [h1, e]; rfl))
      rw [List.pairwise_iff_getElem] at hpw
      obtain ⟨i1, i2⟩ := List.getElem?_eq_some_iff.1 hy
      obtain ⟨k1, k2⟩ := List.getElem?_eq_some_iff.1 hz
      rcases Nat.lt_or_ge i k with hlt | hge
      · have := hpw i k i1 k1 hlt
        rw [i2, k2] at this
        exact this hy2 hne
      · have := hpw k i k1 i1 (by omega)
        rw [i2, k2] at this
        exact fun e => this hne hy2 e.symm
    exact ⟨m, h1, h2.chg hq hb, fun hm => (h3 hm).chg hq (hb hm)⟩
theorem No.some {B : Nat} {E : TypeId} {w : World} {v : Value} {l : List Nat} (h : No B E w v l) : ∃ l', No B E w v l' := ⟨l, h⟩
theorem low_s {w : World} {va : Value} {la : List Nat} (k : Nat) (ha : Nl w va la) (hla : la.length ≤ 100000000) (hk : k ≤ 1048576) :
    Calls Tryd.prog 35 #[va, .int .i64 (k : Nat)] w (Ret w fun r w' => ∃ l, No w.heap.size 44 w' r l) :=
  (low_c ha hla hk).mono fun e w' ⟨r, he, hx, hr⟩ => ⟨r, he, hx, _, hr⟩
theorem law_NatOwn {w : World} {va vb : Value} {la lb : List Nat} {n : Int} (hT : Tab w) (ha : Nl w va la) (hb : Nl w vb lb) :
    Calls Tryd.prog 8 #[va, vb, .int .i64 n] w (Ret w fun r _ => r = .bool true) := by
  refine enter (args := [va, vb, _]) Tryd.func8 rfl Tryd.ntmps8 rfl ?_
  refine WP_seq ?_
  refine WP_region ?_
  refine O_assign rfl rfl rfl ?_
  refine WL_end [(0, _), (1, _), (2, _)] ⟨rfl, rfl, rfl, trivial⟩ ?_
  refine WP_seq ?_
  refine WP_seq ?_
  refine WP_region ?_
  refine O_call enters9 rfl rfl rfl (awake_c hT) (fun v1 w1 e1 h1 => ?_)
  have z1 := e1.size
  obtain rfl := h1
  refine O_not rfl rfl rfl rfl ?_
  refine WL_end [(0, _), (1, _), (2, _), (19, _)] ⟨rfl, rfl, rfl, rfl, trivial⟩ ?_
  refine WP_condF rfl ?_
  refine WP_skip ?_
  refine WP_seq ?_
  refine WP_region ?_
  refine O_move rfl rfl rfl ?_
  refine O_call enters10 rfl rfl rfl (mnat_any (ha.ext e1) (by (try simp only [val_dig, List.length_take, List.length_nil, List.length_cons, List.length_append, List.length_replicate, List.length_set, List.length_map, List.length_drop]); omega)) (fun v2 w2 e2 h2 => ?_)
  have z2 := e2.size
  obtain ⟨q2, rfl, hq2⟩ := h2
  refine O_move rfl rfl rfl ?_
  refine O_extract rfl rfl rfl rfl ?_
  refine O_extract rfl rfl rfl rfl ?_
  refine O_assign rfl rfl rfl ?_
  refine O_assign rfl rfl rfl ?_
  refine WL_end [(1, _), (2, _), (7, _), (8, _)] ⟨rfl, rfl, rfl, rfl, trivial⟩ ?_
  refine WP_seq ?_
  refine WP_region ?_
  refine O_move rfl rfl rfl ?_
  refine O_call enters10 rfl rfl rfl (mnat_any (hb.ext (e1.trans e2)) (by (try simp only [val_dig, List.length_take, List.length_nil, List.length_cons, List.length_append, List.length_replicate, List.length_set, List.length_map, List.length_drop]); omega)) (fun v3 w3 e3 h3 => ?_)
  have z3 := e3.size
  obtain ⟨q3, rfl, hq3⟩ := h3
  refine O_move rfl rfl rfl ?_
  refine O_extract rfl rfl rfl rfl ?_
  refine O_extract rfl rfl rfl rfl ?_
  refine O_assign rfl rfl rfl ?_
  refine O_assign rfl rfl rfl ?_
  refine WL_end [(2, _), (7, _), (8, _), (9, _), (10, _)] ⟨rfl, rfl, rfl, rfl, rfl, trivial⟩ ?_
  refine WP_seq ?_
  refine WP_seq ?_
  refine WP_region ?_
  refine O_move rfl rfl rfl ?_
  refine O_not rfl rfl rfl (decide_not).symm ?_
  refine O_move rfl rfl rfl ?_
  refine WL_ndec 32 rfl (fun g32 => ?_) (fun g32 => ?_)
  · --
    refine O_skip rfl rfl ?_
    refine O_skip rfl rfl ?_
    refine O_pickT rfl rfl rfl rfl ?_
    refine WL_end [(2, _), (7, _), (9, _), (35, _)] ⟨rfl, rfl, rfl, rfl, trivial⟩ ?_
    refine WP_condT rfl ?_
    refine WP_seq ?_
    refine WP_region ?_
    refine O_assign rfl rfl rfl ?_
    refine WL_end [(6, _)] ⟨rfl, trivial⟩ ?_
    refine WP_ret ?_
    refine ret1 Tryd.results8 rfl ?_
    exact ⟨_, rfl, ((e1.trans e2).trans e3), rfl⟩
  · --
    refine O_move rfl rfl rfl ?_
    refine O_not rfl rfl rfl (decide_not).symm ?_
    refine O_pickF rfl rfl rfl rfl ?_
    refine WL_end [(2, _), (7, _), (9, _), (35, _)] ⟨rfl, rfl, rfl, rfl, trivial⟩ ?_
    refine WP_condN rfl (fun c35 => ?_) (fun c35 => ?_)
    · --
      refine WP_seq ?_
      refine WP_region ?_
      refine O_assign rfl rfl rfl ?_
      refine WL_end [(6, _)] ⟨rfl, trivial⟩ ?_
      refine WP_ret ?_
      refine ret1 Tryd.results8 rfl ?_
      exact ⟨_, rfl, ((e1.trans e2).trans e3), rfl⟩
    · --
      refine WP_skip ?_
      refine WP_seq ?_
      refine WP_region ?_
      have hx0 := (hq2 (by omega)).ext e3
      have hy0 := hq3 (by omega)
      have E2 := (e1.trans e2).trans e3
      have dA := dig_len_le ha.d
      have dB := dig_len_le hb.d
      obtain ⟨s32, hs32⟩ : ∃ s : Nat, n % 3 * 32 = (s : Int) := ⟨(n % 3 * 32).toNat, by omega⟩
      refine O_move rfl rfl rfl ?_
      refine O_call enters12 rfl rfl rfl (mod_c (by (try simp only [val_dig, List.length_take, List.length_nil, List.length_cons, List.length_append, List.length_replicate, List.length_set, List.length_map, List.length_drop]); omega) (by (try simp only [val_dig, List.length_take, List.length_nil, List.length_cons, List.length_append, List.length_replicate, List.length_set, List.length_map, List.length_drop]); omega)) (fun v4 w4 e4 h4 => ?_)
      have z4 := e4.size
      obtain rfl := h4
      refine O_mul (r := ((s32 : Nat) : Int)) rfl rfl rfl rfl (by rw [IntKind.wrap_i64]; omega) ?_
      refine O_assign rfl rfl rfl ?_
      refine WL_end [(2, _), (7, _), (9, _)] ⟨rfl, rfl, rfl, trivial⟩ ?_
      refine WP_seq ?_
      refine WP_region ?_
      refine N_lit0 T22 rfl rfl (fun v5 w5 o5 e5 => ?_)
      have z5 := e5.size
      refine O_move rfl rfl rfl ?_
      refine N_append T22 rfl (by decide) rfl rfl rfl rfl o5 (hx0.ext (e4.trans e5)).nl (by (try simp only [val_dig, List.length_take, List.length_nil, List.length_cons, List.length_append, List.length_replicate, List.length_set, List.length_map, List.length_drop]); omega) (by omega) (fun v6 w6 o6 r6 => ?_)
      have e6 : Ext w3 w6 := o5.ext_grown r6 (e4.trans e5) (by omega)
      have z6 := r6.size
      have EB1 := e6
      have hx1 := hx0.ext EB1
      have hy1 := hy0.ext EB1
      have hwas := o6
      simp only [List.nil_append] at hwas
      refine N_lit0 T22 rfl rfl (fun v7 w7 o7 e7 => ?_)
      have z7 := e7.size
      refine O_move rfl rfl rfl ?_
      refine N_append T22 rfl (by decide) rfl rfl rfl rfl o7 (hy1.ext e7).nl (by (try simp only [val_dig, List.length_take, List.length_nil, List.length_cons, List.length_append, List.length_replicate, List.length_set, List.length_map, List.length_drop]); omega) (by omega) (fun v8 w8 o8 r8 => ?_)
      have e8 : Ext w6 w8 := o7.ext_grown r8 e7 (by omega)
      have z8 := r8.size
      refine O_assign rfl rfl rfl ?_
      refine O_assign rfl rfl rfl ?_
      refine WL_end [(2, _), (7, _), (9, _), (11, _), (12, _)] ⟨rfl, rfl, rfl, rfl, rfl, trivial⟩ ?_
      refine WP_seq ?_
      refine WP_region ?_
      have EB2 := e8
      have hx2 := hx1.ext EB2
      have hy2 := hy1.ext EB2
      have hwas2 := hwas.ext EB2
      have htoo := o8
      simp only [List.nil_append] at htoo
      refine O_move rfl rfl rfl ?_
      refine O_move rfl rfl rfl ?_
      refine O_call enters30 rfl rfl rfl (sub_c hx2.nl hy2.nl (by (try simp only [val_dig, List.length_take, List.length_nil, List.length_cons, List.length_append, List.length_replicate, List.length_set, List.length_map, List.length_drop]); omega)) (fun v9 w9 e9 h9 => ?_)
      have z9 := e9.size
      obtain ⟨q9, rfl, hq9⟩ := h9
      obtain ⟨lq9, hq9⟩ := No.some hq9
      refine O_move rfl rfl rfl ?_
      refine O_extract rfl rfl rfl rfl ?_
      refine O_extract rfl rfl rfl rfl ?_
      refine O_assign rfl rfl rfl ?_
      refine O_assign rfl rfl rfl ?_
      refine WL_end [(2, _), (7, _), (9, _), (11, _), (12, _), (13, _)] ⟨rfl, rfl, rfl, rfl, rfl, rfl, trivial⟩ ?_
      refine WP_seq ?_
      refine WP_seq ?_
      refine WP_region ?_
      refine O_move rfl rfl rfl ?_
      refine O_call enters18 rfl rfl rfl (trim_c (hx2.ext e9).nl (by (try simp only [val_dig, List.length_take, List.length_nil, List.length_cons, List.length_append, List.length_replicate, List.length_set, List.length_map, List.length_drop]); omega)) (fun v10 w10 e10 h10 => ?_)
      have z10 := e10.size
      try simp only [val_dig] at h10
      obtain ⟨l10, h10⟩ := No.some h10
      refine O_move rfl rfl rfl ?_
      refine O_move rfl rfl rfl ?_
      refine O_call enters29 rfl rfl rfl (add_c (hx2.ext (e9.trans e10)).nl (hy2.ext (e9.trans e10)).nl (by (try simp only [val_dig, List.length_take, List.length_nil, List.length_cons, List.length_append, List.length_replicate, List.length_set, List.length_map, List.length_drop]); omega) (by (try simp only [val_dig, List.length_take, List.length_nil, List.length_cons, List.length_append, List.length_replicate, List.length_set, List.length_map, List.length_drop]); omega)) (fun v11 w11 e11 h11 => ?_)
      have z11 := e11.size
      try simp only [val_dig] at h11
      obtain ⟨l11, h11⟩ := No.some h11
      refine O_move rfl rfl rfl ?_
      refine O_call enters29 rfl rfl rfl (add_c (hx2.ext ((e9.trans e10).trans e11)).nl (Nl.nil _) (by (try simp only [val_dig, List.length_take, List.length_nil, List.length_cons, List.length_append, List.length_replicate, List.length_set, List.length_map, List.length_drop]); omega) (by (try simp only [val_dig, List.length_take, List.length_nil, List.length_cons, List.length_append, List.length_replicate, List.length_set, List.length_map, List.length_drop]); omega)) (fun v12 w12 e12 h12 => ?_)
      have z12 := e12.size
      try simp only [val_dig] at h12
      obtain ⟨l12, h12⟩ := No.some h12
      refine O_move rfl rfl rfl ?_
      refine O_call enters33 rfl rfl rfl (shl_c (k := 0) (hx2.ext (((e9.trans e10).trans e11).trans e12)).nl (by (try simp only [val_dig, List.length_take, List.length_nil, List.length_cons, List.length_append, List.length_replicate, List.length_set, List.length_map, List.length_drop]); omega) (by (try simp only [val_dig, List.length_take, List.length_nil, List.length_cons, List.length_append, List.length_replicate, List.length_set, List.length_map, List.length_drop]); omega)) (fun v13 w13 e13 h13 => ?_)
      have z13 := e13.size
      try simp only [val_dig] at h13
      obtain ⟨l13, h13⟩ := No.some h13
      refine O_move rfl rfl rfl ?_
      refine O_call enters34 rfl rfl rfl (shr_c (k := 0) (hx2.ext ((((e9.trans e10).trans e11).trans e12).trans e13)).nl (by (try simp only [val_dig, List.length_take, List.length_nil, List.length_cons, List.length_append, List.length_replicate, List.length_set, List.length_map, List.length_drop]); omega) (by (try simp only [val_dig, List.length_take, List.length_nil, List.length_cons, List.length_append, List.length_replicate, List.length_set, List.length_map, List.length_drop]); omega)) (fun v14 w14 e14 h14 => ?_)
      have z14 := e14.size
      try simp only [val_dig] at h14
      obtain ⟨l14, h14⟩ := No.some h14
      refine O_move rfl rfl rfl ?_
      refine O_call enters35 rfl rfl rfl (low_s 4000 (hx2.ext (((((e9.trans e10).trans e11).trans e12).trans e13).trans e14)).nl (by (try simp only [val_dig, List.length_take, List.length_nil, List.length_cons, List.length_append, List.length_replicate, List.length_set, List.length_map, List.length_drop]); omega) (by decide)) (fun v15 w15 e15 h15 => ?_)
      have z15 := e15.size
      obtain ⟨l15, h15⟩ := h15
      refine O_move rfl rfl rfl ?_
      refine O_move rfl rfl rfl ?_
      refine O_call enters34 rfl rfl rfl (shr_c (k := s32) (hx2.ext ((((((e9.trans e10).trans e11).trans e12).trans e13).trans e14).trans e15)).nl (by (try simp only [val_dig, List.length_take, List.length_nil, List.length_cons, List.length_append, List.length_replicate, List.length_set, List.length_map, List.length_drop]); omega) (by (try simp only [val_dig, List.length_take, List.length_nil, List.length_cons, List.length_append, List.length_replicate, List.length_set, List.length_map, List.length_drop]); omega)) (fun v16 w16 e16 h16 => ?_)
      have z16 := e16.size
      try simp only [val_dig] at h16
      obtain ⟨l16, h16⟩ := No.some h16
      refine O_move rfl rfl rfl ?_
      refine V_lit T43 rfl rfl [v10, v11, v12, v13, v14, v15, v16, q9] ?_ rfl (by decide) (by decide) rfl rfl (fun vt wt ot et => ?_)
      · intro u hu
        simp only [List.mem_cons, List.mem_nil_iff, or_false] at hu
        rcases hu with h | h | h | h | h | h | h | h
        · rw [h]; exact Nl.cells1 ((((((h10.ext e11).ext e12).ext e13).ext e14).ext e15).ext e16).nl
        · rw [h]; exact Nl.cells1 (((((h11.ext e12).ext e13).ext e14).ext e15).ext e16).nl
        · rw [h]; exact Nl.cells1 ((((h12.ext e13).ext e14).ext e15).ext e16).nl
        · rw [h]; exact Nl.cells1 (((h13.ext e14).ext e15).ext e16).nl
        · rw [h]; exact Nl.cells1 ((h14.ext e15).ext e16).nl
        · rw [h]; exact Nl.cells1 (h15.ext e16).nl
        · rw [h]; exact Nl.cells1 h16.nl
        · rw [h]; exact Nl.cells1 (((((((hq9.ext e10).ext e11).ext e12).ext e13).ext e14).ext e15).ext e16).nl
      have zt := et.size
      refine V_len T43 rfl rfl rfl ot.sl ?_
      refine O_move rfl rfl rfl ?_
      refine WL_end [(7, _), (9, _), (11, _), (12, _), (68, _), (69, _), (70, _)] ⟨rfl, rfl, rfl, rfl, rfl, rfl, rfl, trivial⟩ ?_
      refine WP_block ?_
      have hW := ((((((((e9.trans e10).trans e11).trans e12).trans e13).trans e14).trans e15).trans e16).trans et)
      have b10 := fun (hne : l10 ≠ []) => No.blk h10 hne
      have b11 := fun (hne : l11 ≠ []) => No.blk h11 hne
      have b12 := fun (hne : l12 ≠ []) => No.blk h12 hne
      have b13 := fun (hne : l13 ≠ []) => No.blk h13 hne
      have b14 := fun (hne : l14 ≠ []) => No.blk h14 hne
      have b15 := fun (hne : l15 ≠ []) => No.blk h15 hne
      have b16 := fun (hne : l16 ≠ []) => No.blk h16 hne
      have bq9 := fun (hne : lq9 ≠ []) => No.blk hq9 hne
      have hpw : List.Pairwise ApartR [(v10, l10), (v11, l11), (v12, l12), (v13, l13), (v14, l14), (v15, l15), (v16, l16), (q9, lq9)] := by
        refine List.Pairwise.cons ?_ (List.Pairwise.cons ?_ (List.Pairwise.cons ?_ (List.Pairwise.cons ?_ (List.Pairwise.cons ?_ (List.Pairwise.cons ?_ (List.Pairwise.cons ?_ (List.Pairwise.cons ?_ (List.Pairwise.nil))))))))
        · intro z hz
          simp only [List.mem_cons, List.mem_nil_iff, or_false] at hz
          rcases hz with rfl | rfl | rfl | rfl | rfl | rfl | rfl
          · intro h1 h2; have k1 := b10 h1; have k2 := b11 h2; show vblk v10 ≠ vblk v11; omega
          · intro h1 h2; have k1 := b10 h1; have k2 := b12 h2; show vblk v10 ≠ vblk v12; omega
          · intro h1 h2; have k1 := b10 h1; have k2 := b13 h2; show vblk v10 ≠ vblk v13; omega
          · intro h1 h2; have k1 := b10 h1; have k2 := b14 h2; show vblk v10 ≠ vblk v14; omega
          · intro h1 h2; have k1 := b10 h1; have k2 := b15 h2; show vblk v10 ≠ vblk v15; omega
          · intro h1 h2; have k1 := b10 h1; have k2 := b16 h2; show vblk v10 ≠ vblk v16; omega
          · intro h1 h2; have k1 := b10 h1; have k2 := bq9 h2; show vblk v10 ≠ vblk q9; omega
        · intro z hz
          simp only [List.mem_cons, List.mem_nil_iff, or_false] at hz
          rcases hz with rfl | rfl | rfl | rfl | rfl | rfl
          · intro h1 h2; have k1 := b11 h1; have k2 := b12 h2; show vblk v11 ≠ vblk v12; omega
          · intro h1 h2; have k1 := b11 h1; have k2 := b13 h2; show vblk v11 ≠ vblk v13; omega
          · intro h1 h2; have k1 := b11 h1; have k2 := b14 h2; show vblk v11 ≠ vblk v14; omega
          · intro h1 h2; have k1 := b11 h1; have k2 := b15 h2; show vblk v11 ≠ vblk v15; omega
          · intro h1 h2; have k1 := b11 h1; have k2 := b16 h2; show vblk v11 ≠ vblk v16; omega
          · intro h1 h2; have k1 := b11 h1; have k2 := bq9 h2; show vblk v11 ≠ vblk q9; omega
        · intro z hz
          simp only [List.mem_cons, List.mem_nil_iff, or_false] at hz
          rcases hz with rfl | rfl | rfl | rfl | rfl
          · intro h1 h2; have k1 := b12 h1; have k2 := b13 h2; show vblk v12 ≠ vblk v13; omega
          · intro h1 h2; have k1 := b12 h1; have k2 := b14 h2; show vblk v12 ≠ vblk v14; omega
          · intro h1 h2; have k1 := b12 h1; have k2 := b15 h2; show vblk v12 ≠ vblk v15; omega
          · intro h1 h2; have k1 := b12 h1; have k2 := b16 h2; show vblk v12 ≠ vblk v16; omega
          · intro h1 h2; have k1 := b12 h1; have k2 := bq9 h2; show vblk v12 ≠ vblk q9; omega
        · intro z hz
          simp only [List.mem_cons, List.mem_nil_iff, or_false] at hz
          rcases hz with rfl | rfl | rfl | rfl
          · intro h1 h2; have k1 := b13 h1; have k2 := b14 h2; show vblk v13 ≠ vblk v14; omega
          · intro h1 h2; have k1 := b13 h1; have k2 := b15 h2; show vblk v13 ≠ vblk v15; omega
          · intro h1 h2; have k1 := b13 h1; have k2 := b16 h2; show vblk v13 ≠ vblk v16; omega
          · intro h1 h2; have k1 := b13 h1; have k2 := bq9 h2; show vblk v13 ≠ vblk q9; omega
        · intro z hz
          simp only [List.mem_cons, List.mem_nil_iff, or_false] at hz
          rcases hz with rfl | rfl | rfl
          · intro h1 h2; have k1 := b14 h1; have k2 := b15 h2; show vblk v14 ≠ vblk v15; omega
          · intro h1 h2; have k1 := b14 h1; have k2 := b16 h2; show vblk v14 ≠ vblk v16; omega
          · intro h1 h2; have k1 := b14 h1; have k2 := bq9 h2; show vblk v14 ≠ vblk q9; omega
        · intro z hz
          simp only [List.mem_cons, List.mem_nil_iff, or_false] at hz
          rcases hz with rfl | rfl
          · intro h1 h2; have k1 := b15 h1; have k2 := b16 h2; show vblk v15 ≠ vblk v16; omega
          · intro h1 h2; have k1 := b15 h1; have k2 := bq9 h2; show vblk v15 ≠ vblk q9; omega
        · intro z hz
          simp only [List.mem_cons, List.mem_nil_iff, or_false] at hz
          rcases hz with rfl
          · intro h1 h2; have k1 := b16 h1; have k2 := bq9 h2; show vblk v16 ≠ vblk q9; omega
        · intro z hz
          cases hz
      have hR0 : RowsOk [(v10, l10), (v11, l11), (v12, l12), (v13, l13), (v14, l14), (v15, l15), (v16, l16), (q9, lq9)] w8.heap.size 44 wt := by
        intro i z hz
        match i with
        | 0 => simp only [List.getElem?_cons_succ, List.getElem?_cons_zero, Option.some.injEq] at hz; subst hz; exact ⟨_, rfl, (((((((h10.ext e11).ext e12).ext e13).ext e14).ext e15).ext e16).ext et).nl, fun _ => (((((((h10.ext e11).ext e12).ext e13).ext e14).ext e15).ext e16).ext et).mono (by omega)⟩
        | 1 => simp only [List.getElem?_cons_succ, List.getElem?_cons_zero, Option.some.injEq] at hz; subst hz; exact ⟨_, rfl, ((((((h11.ext e12).ext e13).ext e14).ext e15).ext e16).ext et).nl, fun _ => ((((((h11.ext e12).ext e13).ext e14).ext e15).ext e16).ext et).mono (by omega)⟩
        | 2 => simp only [List.getElem?_cons_succ, List.getElem?_cons_zero, Option.some.injEq] at hz; subst hz; exact ⟨_, rfl, (((((h12.ext e13).ext e14).ext e15).ext e16).ext et).nl, fun _ => (((((h12.ext e13).ext e14).ext e15).ext e16).ext et).mono (by omega)⟩
        | 3 => simp only [List.getElem?_cons_succ, List.getElem?_cons_zero, Option.some.injEq] at hz; subst hz; exact ⟨_, rfl, ((((h13.ext e14).ext e15).ext e16).ext et).nl, fun _ => ((((h13.ext e14).ext e15).ext e16).ext et).mono (by omega)⟩
        | 4 => simp only [List.getElem?_cons_succ, List.getElem?_cons_zero, Option.some.injEq] at hz; subst hz; exact ⟨_, rfl, (((h14.ext e15).ext e16).ext et).nl, fun _ => (((h14.ext e15).ext e16).ext et).mono (by omega)⟩
        | 5 => simp only [List.getElem?_cons_succ, List.getElem?_cons_zero, Option.some.injEq] at hz; subst hz; exact ⟨_, rfl, ((h15.ext e16).ext et).nl, fun _ => ((h15.ext e16).ext et).mono (by omega)⟩
        | 6 => simp only [List.getElem?_cons_succ, List.getElem?_cons_zero, Option.some.injEq] at hz; subst hz; exact ⟨_, rfl, (h16.ext et).nl, fun _ => (h16.ext et).mono (by omega)⟩
        | 7 => simp only [List.getElem?_cons_succ, List.getElem?_cons_zero, Option.some.injEq] at hz; subst hz; exact ⟨_, rfl, ((((((((hq9.ext e10).ext e11).ext e12).ext e13).ext e14).ext e15).ext e16).ext et).nl, fun _ => ((((((((hq9.ext e10).ext e11).ext e12).ext e13).ext e14).ext e15).ext e16).ext et).mono (by omega)⟩
        | i + 8 => simp at hz
      have hbt := ot.blk (by simp)
      have hlow : ∀ (i : Nat) (z : Value × List Nat), [(v10, l10), (v11, l11), (v12, l12), (v13, l13), (v14, l14), (v15, l15), (v16, l16), (q9, lq9)][i]? = some z → z.2 ≠ [] → w8.heap.size ≤ vblk z.1 ∧ vblk z.1 < w16.heap.size := by
        intro i z hz hne
        match i with
        | 0 => simp only [List.getElem?_cons_succ, List.getElem?_cons_zero, Option.some.injEq] at hz; subst hz; have k1 := b10 hne; show _ ≤ vblk v10 ∧ vblk v10 < _; omega
        | 1 => simp only [List.getElem?_cons_succ, List.getElem?_cons_zero, Option.some.injEq] at hz; subst hz; have k1 := b11 hne; show _ ≤ vblk v11 ∧ vblk v11 < _; omega
        | 2 => simp only [List.getElem?_cons_succ, List.getElem?_cons_zero, Option.some.injEq] at hz; subst hz; have k1 := b12 hne; show _ ≤ vblk v12 ∧ vblk v12 < _; omega
        | 3 => simp only [List.getElem?_cons_succ, List.getElem?_cons_zero, Option.some.injEq] at hz; subst hz; have k1 := b13 hne; show _ ≤ vblk v13 ∧ vblk v13 < _; omega
        | 4 => simp only [List.getElem?_cons_succ, List.getElem?_cons_zero, Option.some.injEq] at hz; subst hz; have k1 := b14 hne; show _ ≤ vblk v14 ∧ vblk v14 < _; omega
        | 5 => simp only [List.getElem?_cons_succ, List.getElem?_cons_zero, Option.some.injEq] at hz; subst hz; have k1 := b15 hne; show _ ≤ vblk v15 ∧ vblk v15 < _; omega
        | 6 => simp only [List.getElem?_cons_succ, List.getElem?_cons_zero, Option.some.injEq] at hz; subst hz; have k1 := b16 hne; show _ ≤ vblk v16 ∧ vblk v16 < _; omega
        | 7 => simp only [List.getElem?_cons_succ, List.getElem?_cons_zero, Option.some.injEq] at hz; subst hz; have k1 := bq9 hne; show _ ≤ vblk q9 ∧ vblk q9 < _; omega
        | i + 8 => simp at hz
      generalize hzs : [(v10, l10), (v11, l11), (v12, l12), (v13, l13), (v14, l14), (v15, l15), (v16, l16), (q9, lq9)] = zs at hpw hR0 hlow
      have hmap : [v10, v11, v12, v13, v14, v15, v16, q9] = zs.map (·.1) := by rw [← hzs]; rfl
      have hlen8 : zs.length = 8 := by rw [← hzs]; rfl
      rw [hmap] at ot
      refine WP_loop (S := Nat) (fun k => [(7, q2), (9, q3), (11, v6), (12, v8), (68, vt), (69, .int .i64 (8 : Nat)), (70, .int .i64 (k : Nat))]) (fun k w' => Ext w8 w' ∧ k ≤ 8 ∧ Own w16.heap.size 22 w' vt (zs.map (·.1)) ∧ RowsOk zs w8.heap.size 44 w') (fun k => 8 - k) 0 ⟨rfl, rfl, rfl, rfl, rfl, rfl, rfl, trivial⟩ ⟨((((((((e9.trans e10).trans e11).trans e12).trans e13).trans e14).trans e15).trans e16).trans et), by omega, ot, hR0⟩ ?_
      rintro k w6 ⟨hE, hk, hO, hR⟩
      refine WP_seq ?_
      refine WP_region ?_
      refine O_lss rfl rfl rfl rfl rfl ?_
      refine WL_end [(7, _), (9, _), (11, _), (12, _), (68, _), (69, _), (70, _), (71, _)] ⟨rfl, rfl, rfl, rfl, rfl, rfl, rfl, rfl, trivial⟩ ?_
      refine WP_seq ?_
      refine WP_condD rfl (fun c71 => ?_) (fun c71 => ?_)
      · --
        refine WP_skip ?_
        refine WP_seq ?_
        refine WP_block ?_
        refine WP_seq ?_
        refine WP_region ?_
        refine V_index T43 rfl rfl rfl rfl hO.sl _ rfl (by rw [List.length_map]; omega) ?_
        obtain ⟨z, hz⟩ : ∃ z, zs[k]? = some z := ⟨_, List.getElem?_eq_getElem (by omega)⟩
        obtain ⟨m0, hm01, hm02, hm03⟩ := hR k z hz
        refine O_load Tryd.underlying22 rfl rfl rfl rfl (hO.sl.cell (by rw [List.getElem?_map, hz]; rfl)) ?_
        refine O_assign rfl rfl rfl ?_
        refine WL_end [(7, _), (9, _), (11, _), (12, _), (16, _), (68, _), (69, _), (70, _)] ⟨rfl, rfl, rfl, rfl, rfl, rfl, rfl, rfl, trivial⟩ ?_
        refine WP_seq ?_
        refine WP_region ?_
        refine O_move rfl rfl rfl ?_
        refine N_len T22 rfl rfl rfl hm02 ?_
        rw [hm01]
        refine O_move rfl rfl rfl ?_
        refine WL_end [(7, _), (9, _), (11, _), (12, _), (16, _), (68, _), (69, _), (70, _), (75, _), (76, _)] ⟨rfl, rfl, rfl, rfl, rfl, rfl, rfl, rfl, rfl, rfl, trivial⟩ ?_
        refine WP_block ?_
        have hvz : vblk vt ≥ w16.heap.size := by have := hbt; omega
        refine WP_loop (S := Nat) (fun i => [(7, q2), (9, q3), (11, v6), (12, v8), (16, z.1), (68, vt), (69, .int .i64 (8 : Nat)), (70, .int .i64 (k : Nat)), (75, .int .i64 (z.2.length : Nat)), (76, .int .i64 (i : Nat))]) (fun i w' => Ext w8 w' ∧ i ≤ z.2.length ∧ Own w16.heap.size 22 w' vt (zs.map (·.1)) ∧ RowsOk zs w8.heap.size 44 w') (fun i => z.2.length - i) 0 ⟨rfl, rfl, rfl, rfl, rfl, rfl, rfl, rfl, rfl, rfl, trivial⟩ ⟨hE, by omega, hO, hR⟩ ?_
        rintro i w7 ⟨hE7, hi, hO7, hR7⟩
        obtain ⟨m, hm1, hm2, hm3⟩ := hR7 k z hz
        have hmx := hm2.len_le
        refine WP_seq ?_
        refine WP_region ?_
        refine O_lss rfl rfl rfl rfl rfl ?_
        refine WL_end [(7, _), (9, _), (11, _), (12, _), (16, _), (68, _), (69, _), (70, _), (75, _), (76, _), (77, _)] ⟨rfl, rfl, rfl, rfl, rfl, rfl, rfl, rfl, rfl, rfl, rfl, trivial⟩ ?_
        refine WP_seq ?_
        refine WP_condD rfl (fun c77 => ?_) (fun c77 => ?_)
        · --
          refine WP_skip ?_
          refine WP_seq ?_
          refine WP_block ?_
          refine WP_seq ?_
          refine WP_region ?_
          refine O_move rfl rfl rfl ?_
          refine O_assign rfl rfl rfl ?_
          refine WL_end [(7, _), (9, _), (11, _), (12, _), (16, _), (17, _), (68, _), (69, _), (70, _), (75, _), (76, _)] ⟨rfl, rfl, rfl, rfl, rfl, rfl, rfl, rfl, rfl, rfl, rfl, trivial⟩ ?_
          refine WP_region ?_
          refine O_move rfl rfl rfl ?_
          refine O_move rfl rfl rfl ?_
          refine O_move rfl rfl rfl ?_
          refine O_move rfl rfl rfl ?_
          refine N_index T22 rfl rfl rfl rfl hm2 i rfl (by omega) ?_
          refine N_load Tryd.underlying44 rfl rfl rfl hm2 (by omega) (fun d84 => ?_)
          refine O_add (r := (((m.getD i 0 + 1) % 4294967296 : Nat) : Int)) rfl rfl rfl rfl (by rw [wrap_u32]; omega) ?_
          refine N_index T22 rfl rfl rfl rfl hm2 i rfl (by omega) ?_
          have hz2 : z.2 ≠ [] := fun e => by rw [e] at c77; simp at c77; omega
          have hmne : m ≠ [] := fun e => by subst e; simp at hm1; exact hz2 (List.eq_nil_of_length_eq_zero hm1.symm)
          have hlz := hlow k z hz hz2
          refine N_store T22 rfl rfl rfl (hm3 hmne) (by omega) _ rfl (Nat.mod_lt _ (by decide)) (fun w9 o9 q9 a9 b9 => ?_)
          have e9 : Ext w8 w9 := q9.ext hE7 (by omega)
          refine WL_end [(7, _), (9, _), (11, _), (12, _), (16, _), (68, _), (69, _), (70, _), (75, _), (76, _)] ⟨rfl, rfl, rfl, rfl, rfl, rfl, rfl, rfl, rfl, rfl, trivial⟩ ?_
          refine WP_region ?_
          refine O_add rfl rfl rfl rfl (wrap_i64_id (by omega) (by omega)) ?_
          refine O_move rfl rfl rfl ?_
          refine WL_end [(7, _), (9, _), (11, _), (12, _), (16, _), (68, _), (69, _), (70, _), (75, _), (76, _)] ⟨rfl, rfl, rfl, rfl, rfl, rfl, rfl, rfl, rfl, rfl, trivial⟩ ?_
          exact ⟨i + 1, ⟨rfl, rfl, rfl, rfl, rfl, rfl, rfl, rfl, rfl, rfl, trivial⟩, ⟨e9, by omega, hO7.chg q9 (by omega), RowsOk.chg hpw hR7 hz q9 o9 (by simp [hm1]) hz2⟩, by omega⟩
        · --
          refine WP_exit ?_
          refine inBlk_hit ?_
          refine WP_region ?_
          refine O_add rfl rfl rfl rfl (wrap_i64_id (by omega) (by omega)) ?_
          refine O_move rfl rfl rfl ?_
          refine WL_end [(7, _), (9, _), (11, _), (12, _), (68, _), (69, _), (70, _)] ⟨rfl, rfl, rfl, rfl, rfl, rfl, rfl, trivial⟩ ?_
          exact ⟨k + 1, ⟨rfl, rfl, rfl, rfl, rfl, rfl, rfl, trivial⟩, ⟨hE7, by omega, hO7, hR7⟩, by omega⟩
      · --
        refine WP_exit ?_
        refine inBlk_hit ?_
        refine WP_seq ?_
        refine WP_region ?_
        refine O_move rfl rfl rfl ?_
        refine O_move rfl rfl rfl ?_
        refine O_call enters24 rfl rfl rfl (rsame_c (hx2.ext hE).nl (hwas2.ext hE).nl (by (try simp only [val_dig, List.length_take, List.length_nil, List.length_cons, List.length_append, List.length_replicate, List.length_set, List.length_map, List.length_drop]); omega) (by (try simp only [val_dig, List.length_take, List.length_nil, List.length_cons, List.length_append, List.length_replicate, List.length_set, List.length_map, List.length_drop]); omega) rfl) (fun v17 w17 e17 h17 => ?_)
        have z17 := e17.size
        obtain rfl := h17
        refine O_move rfl rfl rfl ?_
        refine O_move rfl rfl rfl ?_
        refine O_move rfl rfl rfl ?_
        refine O_call enters24 rfl rfl rfl (rsame_c (hy2.ext (hE.trans e17)).nl (htoo.ext (hE.trans e17)).nl (by (try simp only [val_dig, List.length_take, List.length_nil, List.length_cons, List.length_append, List.length_replicate, List.length_set, List.length_map, List.length_drop]); omega) (by (try simp only [val_dig, List.length_take, List.length_nil, List.length_cons, List.length_append, List.length_replicate, List.length_set, List.length_map, List.length_drop]); omega) rfl) (fun v18 w18 e18 h18 => ?_)
        have z18 := e18.size
        obtain rfl := h18
        refine O_pickT rfl rfl rfl rfl ?_
        refine O_assign rfl rfl rfl ?_
        refine WL_end [(6, _)] ⟨rfl, trivial⟩ ?_
        refine WP_ret ?_
        refine ret1 Tryd.results8 rfl ?_
        exact ⟨_, rfl, ((E2.trans EB1).trans EB2).trans ((hE.trans e17).trans e18), rfl⟩

end Go.Proofs.YtijnlfhaepcldaaDoor
