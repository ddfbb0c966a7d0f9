/-
  Walks.
-/
import Derived.Test.YtnfnadhbjdcbnaaDoorFacts
import Derived.Test.YtnfnadhbjdcbnaaDoorPlain
set_option linter.unusedVariables false
set_option linter.unusedSimpArgs false
set_option maxRecDepth 100000
namespace Go.Proofs.YtnfnadhbjdcbnaaDoor
open Go Go.RowKit
theorem size_c {w : World} {v : Value} {l : List Nat} (hs : Nl w v l) :
    Calls Tryd.prog 99 #[v] w (Ret w fun r _ => r = .int .i64 (sz l : Nat)) := by
 have hmx := hs.len_le
 refine enter (args := [v]) Tryd.func99 rfl Tryd.ntmps99 rfl ?_
 refine WP_seq ?_
 refine WP_region ?_
 refine O_assign rfl rfl rfl ?_
 refine WL_end [(0, _)] ⟨rfl, trivial⟩ ?_
 refine WP_seq ?_
 refine WP_region ?_
 refine O_move rfl rfl rfl ?_
 refine N_len T22 rfl rfl rfl hs ?_
 refine O_assign rfl rfl rfl ?_
 refine WL_end [(0, _), (3, _)] ⟨rfl, rfl, trivial⟩ ?_
 refine WP_seq ?_
 refine WP_block ?_
 refine WP_loop (S := Nat) (fun k => [(0, v), (3, .int .i64 (k : Nat))]) (fun k w' => w = w' ∧ k ≤ l.length ∧ sz (l.take k) = sz l) (fun k => k) l.length ⟨rfl, rfl, trivial⟩ ⟨rfl, Nat.le_refl _, by rw [List.take_length]⟩ ?_
 rintro k w1 ⟨rfl, hk, hz⟩
 refine WP_seq ?_
 refine WP_seq ?_
 refine WP_region ?_
 refine O_move rfl rfl rfl ?_
 refine O_gtr rfl rfl rfl rfl rfl ?_
 refine O_move rfl rfl rfl ?_
 refine WL_dec 8 rfl (fun g8 => ?_) (fun g8 => ?_)
 · --
  refine O_move rfl rfl rfl ?_
  refine O_move rfl rfl rfl ?_
  refine O_sub (r := ((k - 1 : Nat) : Int)) rfl rfl rfl rfl (by rw [IntKind.wrap_i64]; omega) ?_
  refine N_index T22 rfl rfl rfl rfl hs (k - 1) rfl (by omega) ?_
  refine N_load Tryd.underlying89 rfl rfl rfl hs (by omega) (fun d13 => ?_)
  refine O_eql rfl rfl rfl rfl rfl ?_
  refine O_pickT rfl rfl rfl rfl ?_
  refine WL_end [(0, _), (3, _), (15, _)] ⟨rfl, rfl, rfl, trivial⟩ ?_
  refine WP_condD rfl (fun c15 => ?_) (fun c15 => ?_)
  · --
   refine WP_skip ?_
   refine WP_block ?_
   refine WP_region ?_
   refine O_move rfl rfl rfl ?_
   refine O_sub (r := ((k - 1 : Nat) : Int)) rfl rfl rfl rfl (by rw [IntKind.wrap_i64]; omega) ?_
   refine O_assign rfl rfl rfl ?_
   refine WL_end [(0, _), (3, _)] ⟨rfl, rfl, trivial⟩ ?_
   have h0 : l.getD (k - 1) 0 = 0 := by omega
   have h1 := sz_take_zero (l := l) (k := k - 1) (by omega) h0
   rw [show k - 1 + 1 = k from by omega] at h1
   exact ⟨k - 1, ⟨rfl, rfl, trivial⟩, ⟨rfl, by omega, by rw [← h1]; exact hz⟩, by omega⟩
  · --
   refine WP_exit ?_
   refine inBlk_hit ?_
   refine WP_seq ?_
   refine WP_region ?_
   refine O_move rfl rfl rfl ?_
   refine O_assign rfl rfl rfl ?_
   refine WL_end [(2, _)] ⟨rfl, trivial⟩ ?_
   refine WP_ret ?_
   refine ret1 Tryd.results99 rfl ?_
   have h1 := sz_take_pos hs.d (k := k - 1) (by omega) (by omega)
   rw [show k - 1 + 1 = k from by omega, hz] at h1
   exact ⟨_, rfl, Ext.refl _, by rw [h1]⟩
 · --
  refine O_skip rfl rfl ?_
  refine O_skip rfl rfl ?_
  refine O_skip rfl rfl ?_
  refine O_skip rfl rfl ?_
  refine O_skip rfl rfl ?_
  refine O_skip rfl rfl ?_
  refine O_pickF rfl rfl rfl rfl ?_
  refine WL_end [(0, _), (3, _), (15, _)] ⟨rfl, rfl, rfl, trivial⟩ ?_
  refine WP_condF rfl ?_
  refine WP_exit ?_
  refine inBlk_hit ?_
  refine WP_seq ?_
  refine WP_region ?_
  refine O_move rfl rfl rfl ?_
  refine O_assign rfl rfl rfl ?_
  refine WL_end [(2, _)] ⟨rfl, trivial⟩ ?_
  refine WP_ret ?_
  refine ret1 Tryd.results99 rfl ?_
  have h0 : k = 0 := by omega
  subst h0
  have h1 : sz l = 0 := by rw [← hz]; simp [sz, val, dig_zero]
  exact ⟨_, rfl, Ext.refl _, by rw [h1]⟩

theorem clone_c {w : World} {v : Value} {l : List Nat} (hs : Nl w v l) (hl : l.length ≤ 500000000) :
    Calls Tryd.prog 114 #[v] w (Ret w fun r w' => No w.heap.size 89 w' r (l)) := by
 refine enter (args := [v]) Tryd.func114 rfl Tryd.ntmps114 rfl ?_
 refine WP_seq ?_
 refine WP_region ?_
 refine O_assign rfl rfl rfl ?_
 refine WL_end [(0, _)] ⟨rfl, trivial⟩ ?_
 refine WP_seq ?_
 refine WP_seq ?_
 refine WP_region ?_
 refine O_move rfl rfl rfl ?_
 refine N_isNil T22 rfl rfl rfl hs ?_
 refine WL_end [(0, _), (4, _)] ⟨rfl, rfl, trivial⟩ ?_
 refine WP_cond rfl (fun c4 => ?_) (fun c4 => ?_)
 · --
  refine WP_seq ?_
  refine WP_region ?_
  refine O_assign rfl rfl rfl ?_
  refine WL_end [(2, _)] ⟨rfl, trivial⟩ ?_
  refine WP_ret ?_
  refine ret1 Tryd.results114 rfl ?_
  have h0 := hs.nilL c4
  subst h0
  exact ⟨_, rfl, Ext.refl _, No.nil _ _ _⟩
 · --
  refine WP_skip ?_
  refine WP_seq ?_
  refine WP_region ?_
  refine N_lit0 T22 rfl rfl (fun v1 w1 o1 e1 => ?_)
  have z1 := e1.size
  refine O_move rfl rfl rfl ?_
  refine N_append T22 rfl (by decide) rfl rfl rfl rfl o1 (hs.ext e1) (by (try simp only [lens]); omega) (by omega) (fun v2 w2 o2 r2 => ?_)
  have e2 : Ext w w2 := o1.ext_grown r2 e1 (by omega)
  have z2 := r2.size
  refine O_assign rfl rfl rfl ?_
  refine WL_end [(2, _)] ⟨rfl, trivial⟩ ?_
  refine WP_ret ?_
  refine ret1 Tryd.results114 rfl ?_
  exact ⟨_, rfl, e2, by simpa using o2⟩

theorem trim_c {w : World} {v : Value} {l : List Nat} (hs : Nl w v l) (hl : l.length ≤ 500000000) :
    Calls Tryd.prog 97 #[v] w (Ret w fun r w' => No w.heap.size 89 w' r (dig (val l))) := by
 have hsz := sz_le hs.d
 refine enter (args := [v]) Tryd.func97 rfl Tryd.ntmps97 rfl ?_
 refine WP_seq ?_
 refine WP_region ?_
 refine O_assign rfl rfl rfl ?_
 refine WL_end [(0, _)] ⟨rfl, trivial⟩ ?_
 refine WP_seq ?_
 refine WP_region ?_
 refine O_move rfl rfl rfl ?_
 refine O_move rfl rfl rfl ?_
 refine O_call enters99 rfl rfl rfl (size_c hs) (fun v1 w1 e1 h1 => ?_)
 have z1 := e1.size
 obtain rfl := h1
 refine N_sliceTo T22 rfl rfl rfl rfl (hs.ext e1) (sz l) rfl (sz_le hs.d) ?_
 have hu := (hs.ext e1).take (sz l) (sz_le hs.d)
 generalize slTake _ _ = u at hu ⊢
 refine O_call enters114 rfl rfl rfl (clone_c hu (by (try simp only [lens]); omega)) (fun v2 w2 e2 h2 => ?_)
 have z2 := e2.size
 try simp only [val_dig] at h2
 refine O_assign rfl rfl rfl ?_
 refine WL_end [(2, _)] ⟨rfl, trivial⟩ ?_
 refine WP_ret ?_
 refine ret1 Tryd.results97 rfl ?_
 have hu2 := val_take_sz hs.d
 rw [hu2] at h2
 exact ⟨_, rfl, e1.trans e2, h2.mono e1.size⟩

theorem of_c {w : World} (n : Nat) (hn : n < 18446744073709551616) :
    Calls Tryd.prog 79 #[.int .u64 (n : Nat)] w (Ret w fun r w' => No w.heap.size 89 w' r (dig n)) := by
 refine enter (args := [_]) Tryd.func79 rfl Tryd.ntmps79 rfl ?_
 refine WP_seq ?_
 refine WP_region ?_
 refine O_assign rfl rfl rfl ?_
 refine WL_end [(0, _)] ⟨rfl, trivial⟩ ?_
 refine WP_seq ?_
 refine WP_region ?_
 refine O_move rfl rfl rfl ?_
 refine O_conv Tryd.underlying82 Tryd.underlying89 (r := ((n % 4294967296 : Nat) : Int)) rfl rfl rfl (by rw [wrap_u32]; omega) ?_
 refine O_move rfl rfl rfl ?_
 refine O_shr rfl rfl rfl rfl (by decide) (shr32 n) ?_
 refine O_conv Tryd.underlying82 Tryd.underlying89 (r := ((n / 4294967296 : Nat) : Int)) rfl rfl rfl (by rw [wrap_u32]; omega) ?_
 refine N_lit T22 rfl rfl [n % 4294967296, n / 4294967296] (D.cons (by omega) (D.cons (by omega) D.nil)) rfl (by decide) rfl rfl (fun v1 w1 o1 e1 => ?_)
 have z1 := e1.size
 refine O_call enters97 rfl rfl rfl (trim_c o1.nl (by (try simp only [lens]); omega)) (fun v2 w2 e2 h2 => ?_)
 have z2 := e2.size
 try simp only [val_dig] at h2
 refine O_assign rfl rfl rfl ?_
 refine WL_end [(2, _)] ⟨rfl, trivial⟩ ?_
 refine WP_ret ?_
 refine ret1 Tryd.results79 rfl ?_
 rw [val_two n hn] at h2
 exact ⟨_, rfl, e1.trans e2, h2.mono e1.size⟩

theorem at_c {w : World} {v : Value} {l : List Nat} {i : Int} (hs : Nl w v l) (j : Nat) (hj : i = (j : Int)) :
    Calls Tryd.prog 86 #[v, .int .i64 i] w (Ret w fun r w' => r = .int .u64 (l.getD j 0 : Nat)) := by
 refine enter (args := [v, _]) Tryd.func86 rfl Tryd.ntmps86 rfl ?_
 refine WP_seq ?_
 refine WP_region ?_
 refine O_assign rfl rfl rfl ?_
 refine WL_end [(0, _), (1, _)] ⟨rfl, rfl, trivial⟩ ?_
 refine WP_seq ?_
 refine WP_seq ?_
 refine WP_region ?_
 refine O_move rfl rfl rfl ?_
 refine O_lss (t := false) rfl rfl rfl rfl (decide_eq_false (by omega)) ?_
 refine O_move rfl rfl rfl ?_
 refine O_move rfl rfl rfl ?_
 refine O_move rfl rfl rfl ?_
 refine N_len T22 rfl rfl rfl hs ?_
 refine O_geq rfl rfl rfl rfl rfl ?_
 refine O_pickF rfl rfl rfl rfl ?_
 refine WL_end [(0, _), (1, _), (12, _)] ⟨rfl, rfl, rfl, trivial⟩ ?_
 refine WP_condD rfl (fun c12 => ?_) (fun c12 => ?_)
 · --
  refine WP_seq ?_
  refine WP_region ?_
  refine O_assign rfl rfl rfl ?_
  refine WL_end [(4, _)] ⟨rfl, trivial⟩ ?_
  refine WP_ret ?_
  refine ret1 Tryd.results86 rfl ?_
  have h0 := getD_ge (l := l) (j := j) (by omega)
  exact ⟨_, rfl, Ext.refl _, by rw [h0]; rfl⟩
 · --
  refine WP_skip ?_
  refine WP_seq ?_
  refine WP_region ?_
  refine O_move rfl rfl rfl ?_
  refine O_move rfl rfl rfl ?_
  refine N_index T22 rfl rfl rfl rfl hs j hj (by omega) ?_
  refine N_load Tryd.underlying89 rfl rfl rfl hs (by omega) (fun d16 => ?_)
  refine O_conv Tryd.underlying89 Tryd.underlying82 rfl rfl rfl (wrap_u64_id (by omega) (by omega)) ?_
  refine O_assign rfl rfl rfl ?_
  refine WL_end [(4, _)] ⟨rfl, trivial⟩ ?_
  refine WP_ret ?_
  refine ret1 Tryd.results86 rfl ?_
  exact ⟨_, rfl, Ext.refl _, rfl⟩

theorem rtrim_c {w : World} {v : Value} {l : List Nat} (hs : Nl w v l) (hl : l.length ≤ 500000000) :
    Calls Tryd.prog 85 #[v] w (Ret w fun r w' => No w.heap.size 89 w' r (dig (val l))) := by
 refine enter (args := [v]) Tryd.func85 rfl Tryd.ntmps85 rfl ?_
 refine WP_seq ?_
 refine WP_region ?_
 refine O_assign rfl rfl rfl ?_
 refine WL_end [(0, _)] ⟨rfl, trivial⟩ ?_
 refine WP_seq ?_
 refine WP_region ?_
 refine O_move rfl rfl rfl ?_
 refine N_len T22 rfl rfl rfl hs ?_
 refine O_assign rfl rfl rfl ?_
 refine WL_end [(0, _), (3, _)] ⟨rfl, rfl, trivial⟩ ?_
 refine WP_seq ?_
 refine WP_block ?_
 refine WP_loop (S := Nat) (fun k => [(0, v), (3, .int .i64 (k : Nat))]) (fun k w' => w = w' ∧ k ≤ l.length ∧ sz (l.take k) = sz l) (fun k => k) l.length ⟨rfl, rfl, trivial⟩ ⟨rfl, Nat.le_refl _, by rw [List.take_length]⟩ ?_
 rintro k w1 ⟨rfl, hk, hz⟩
 refine WP_seq ?_
 refine WP_seq ?_
 refine WP_region ?_
 refine O_move rfl rfl rfl ?_
 refine O_gtr rfl rfl rfl rfl rfl ?_
 refine O_move rfl rfl rfl ?_
 refine WL_dec 8 rfl (fun g8 => ?_) (fun g8 => ?_)
 · --
  refine O_move rfl rfl rfl ?_
  refine O_move rfl rfl rfl ?_
  refine O_sub (r := ((k - 1 : Nat) : Int)) rfl rfl rfl rfl (by rw [IntKind.wrap_i64]; omega) ?_
  refine N_index T22 rfl rfl rfl rfl hs (k - 1) rfl (by omega) ?_
  refine N_load Tryd.underlying89 rfl rfl rfl hs (by omega) (fun d13 => ?_)
  refine O_eql rfl rfl rfl rfl rfl ?_
  refine O_pickT rfl rfl rfl rfl ?_
  refine WL_end [(0, _), (3, _), (15, _)] ⟨rfl, rfl, rfl, trivial⟩ ?_
  refine WP_condD rfl (fun c15 => ?_) (fun c15 => ?_)
  · --
   refine WP_skip ?_
   refine WP_block ?_
   refine WP_region ?_
   refine O_move rfl rfl rfl ?_
   refine O_sub (r := ((k - 1 : Nat) : Int)) rfl rfl rfl rfl (by rw [IntKind.wrap_i64]; omega) ?_
   refine O_assign rfl rfl rfl ?_
   refine WL_end [(0, _), (3, _)] ⟨rfl, rfl, trivial⟩ ?_
   have h0 : l.getD (k - 1) 0 = 0 := by omega
   have h1 := sz_take_zero (l := l) (k := k - 1) (by omega) h0
   rw [show k - 1 + 1 = k from by omega] at h1
   exact ⟨k - 1, ⟨rfl, rfl, trivial⟩, ⟨rfl, by omega, by rw [← h1]; exact hz⟩, by omega⟩
  · --
   refine WP_exit ?_
   refine inBlk_hit ?_
   refine WP_seq ?_
   refine WP_region ?_
   refine N_lit0 T22 rfl rfl (fun v1 w1 o1 e1 => ?_)
   have z1 := e1.size
   refine O_move rfl rfl rfl ?_
   refine O_move rfl rfl rfl ?_
   refine N_sliceTo T22 rfl rfl rfl rfl (hs.ext e1) k rfl (by omega) ?_
   have hu := (hs.ext e1).take k (by omega)
   generalize slTake _ _ = u at hu ⊢
   refine N_append T22 rfl (by decide) rfl rfl rfl rfl o1 hu (by (try simp only [lens]); omega) (by omega) (fun v2 w2 o2 r2 => ?_)
   have e2 : Ext w w2 := o1.ext_grown r2 e1 (by omega)
   have z2 := r2.size
   refine O_assign rfl rfl rfl ?_
   refine WL_end [(2, _)] ⟨rfl, trivial⟩ ?_
   refine WP_ret ?_
   refine ret1 Tryd.results85 rfl ?_
   have h1 := sz_take_pos hs.d (k := k - 1) (by omega) (by omega)
   rw [show k - 1 + 1 = k from by omega, hz] at h1
   have hu2 := val_take_sz hs.d
   rw [h1] at hu2
   simp only [List.nil_append] at o2
   rw [hu2] at o2
   exact ⟨_, rfl, e2, o2⟩
 · --
  refine O_skip rfl rfl ?_
  refine O_skip rfl rfl ?_
  refine O_skip rfl rfl ?_
  refine O_skip rfl rfl ?_
  refine O_skip rfl rfl ?_
  refine O_skip rfl rfl ?_
  refine O_pickF rfl rfl rfl rfl ?_
  refine WL_end [(0, _), (3, _), (15, _)] ⟨rfl, rfl, rfl, trivial⟩ ?_
  refine WP_condF rfl ?_
  refine WP_exit ?_
  refine inBlk_hit ?_
  refine WP_seq ?_
  refine WP_region ?_
  refine N_lit0 T22 rfl rfl (fun v3 w3 o3 e3 => ?_)
  have z3 := e3.size
  refine O_move rfl rfl rfl ?_
  refine O_move rfl rfl rfl ?_
  refine N_sliceTo T22 rfl rfl rfl rfl (hs.ext e3) k rfl (by omega) ?_
  have hu := (hs.ext e3).take k (by omega)
  generalize slTake _ _ = u at hu ⊢
  refine N_append T22 rfl (by decide) rfl rfl rfl rfl o3 hu (by (try simp only [lens]); omega) (by omega) (fun v4 w4 o4 r4 => ?_)
  have e4 : Ext w w4 := o3.ext_grown r4 e3 (by omega)
  have z4 := r4.size
  refine O_assign rfl rfl rfl ?_
  refine WL_end [(2, _)] ⟨rfl, trivial⟩ ?_
  refine WP_ret ?_
  refine ret1 Tryd.results85 rfl ?_
  have h0 : k = 0 := by omega
  have h1 : sz l = k := by subst h0; rw [← hz]; simp [sz, val, dig_zero]
  have hu2 := val_take_sz hs.d
  rw [h1] at hu2
  simp only [List.nil_append] at o4
  rw [hu2] at o4
  exact ⟨_, rfl, e4, o4⟩

theorem rof_c {w : World} (n : Nat) (hn : n < 18446744073709551616) :
    Calls Tryd.prog 76 #[.int .u64 (n : Nat)] w (Ret w fun r w' => No w.heap.size 89 w' r (dig n)) := by
 refine enter (args := [_]) Tryd.func76 rfl Tryd.ntmps76 rfl ?_
 refine WP_seq ?_
 refine WP_region ?_
 refine O_assign rfl rfl rfl ?_
 refine WL_end [(0, _)] ⟨rfl, trivial⟩ ?_
 refine WP_seq ?_
 refine WP_region ?_
 refine O_move rfl rfl rfl ?_
 refine O_conv Tryd.underlying82 Tryd.underlying89 (r := ((n % 4294967296 : Nat) : Int)) rfl rfl rfl (by rw [wrap_u32]; omega) ?_
 refine O_move rfl rfl rfl ?_
 refine O_shr rfl rfl rfl rfl (by decide) (shr32 n) ?_
 refine O_conv Tryd.underlying82 Tryd.underlying89 (r := ((n / 4294967296 : Nat) : Int)) rfl rfl rfl (by rw [wrap_u32]; omega) ?_
 refine N_lit T22 rfl rfl [n % 4294967296, n / 4294967296] (D.cons (by omega) (D.cons (by omega) D.nil)) rfl (by decide) rfl rfl (fun v1 w1 o1 e1 => ?_)
 have z1 := e1.size
 refine O_call enters85 rfl rfl rfl (rtrim_c o1.nl (by (try simp only [lens]); omega)) (fun v2 w2 e2 h2 => ?_)
 have z2 := e2.size
 try simp only [val_dig] at h2
 refine O_assign rfl rfl rfl ?_
 refine WL_end [(2, _)] ⟨rfl, trivial⟩ ?_
 refine WP_ret ?_
 refine ret1 Tryd.results76 rfl ?_
 rw [val_two n hn] at h2
 exact ⟨_, rfl, e1.trans e2, h2.mono e1.size⟩

end Go.Proofs.YtnfnadhbjdcbnaaDoor
