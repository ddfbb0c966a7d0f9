/-
  Walks.
-/
import Derived.Test.YtnfnadhbjdcbnaaDoorQ2
set_option linter.unusedVariables false
set_option linter.unusedSimpArgs false
set_option maxRecDepth 100000
namespace Go.Proofs.YtnfnadhbjdcbnaaDoor
open Go Go.RowKit
theorem tz32_c {w : World} {x : Nat} (hT : Tab w) (hx0 : x ≠ 0) (hx : x < 4294967296) :
    Calls Tryd.prog 96 #[.int .u32 (x : Nat)] w (Ret w fun r _ => r = .int .i64 (tz x : Nat)) := by
 have htz := tz_lt hx0 hx
 refine enter (args := [_]) Tryd.func96 rfl Tryd.ntmps96 rfl ?_
 refine WP_seq ?_
 refine WP_region ?_
 refine O_assign rfl rfl rfl ?_
 refine WL_end [(0, _)] ⟨rfl, trivial⟩ ?_
 refine WP_seq ?_
 refine WP_seq ?_
 refine WP_region ?_
 refine O_move rfl rfl rfl ?_
 refine O_eql (t := false) rfl rfl rfl rfl (decide_eq_false (by omega)) ?_
 refine WL_end [(0, _), (4, _)] ⟨rfl, rfl, trivial⟩ ?_
 refine WP_condF rfl ?_
 refine WP_skip ?_
 refine WP_seq ?_
 refine WP_region ?_
 refine O_move rfl rfl rfl ?_
 refine O_move rfl rfl rfl ?_
 refine O_neg (r := ((4294967296 - x : Nat) : Int)) rfl rfl rfl (by rw [wrap_u32]; omega) ?_
 refine O_and rfl rfl rfl rfl (u32_and_nat _ _ hx (by omega)) ?_
 rw [and_neg hx0 hx]
 refine O_mul (r := ((2 ^ tz x * 125613361 % 4294967296 : Nat) : Int)) rfl rfl rfl rfl (by rw [wrap_u32]; generalize 2 ^ tz x = z; omega) ?_
 refine O_shr rfl rfl rfl rfl (by decide) (shrU32 (m := 27) (by decide)) ?_
 refine O_indexArr Tryd.underlying108 (by kernel_rfl) rfl rfl rfl rfl _ rfl (tab_lt _) ?_
 refine O_load Tryd.underlying5 rfl rfl rfl rfl (hT _ _ (tztab_at _ htz)) ?_
 refine O_conv Tryd.underlying5 Tryd.underlying3 rfl rfl rfl (wrap_i64_id (by omega) (by omega)) ?_
 refine O_assign rfl rfl rfl ?_
 refine WL_end [(2, _)] ⟨rfl, trivial⟩ ?_
 refine WP_ret ?_
 refine ret1 Tryd.results96 rfl ?_
 exact ⟨_, rfl, Ext.refl _, rfl⟩

theorem zeros_c {w : World} {v : Value} {l : List Nat} (hT : Tab w) (hs : Nl w v l) (hl : l.length ≤ 100000000) :
    Calls Tryd.prog 59 #[v] w (Ret w fun r _ => r = .int .i64 (tz (val l) : Nat)) := by
 refine enter (args := [v]) Tryd.func59 rfl Tryd.ntmps59 rfl ?_
 refine WP_seq ?_
 refine WP_region ?_
 refine O_assign rfl rfl rfl ?_
 refine WL_end [(0, _)] ⟨rfl, trivial⟩ ?_
 refine WP_seq ?_
 refine WP_seq ?_
 refine WP_region ?_
 refine O_move rfl rfl rfl ?_
 refine N_len T22 rfl rfl rfl hs ?_
 refine O_move rfl rfl rfl ?_
 refine WL_end [(5, _), (6, _), (7, _)] ⟨rfl, rfl, rfl, trivial⟩ ?_
 refine WP_block ?_
 refine WP_loop (S := Nat) (fun k => [(5, v), (6, .int .i64 (l.length : Nat)), (7, .int .i64 (k : Nat))]) (fun k w' => w = w' ∧ k ≤ l.length ∧ ∀ j, j < k → l.getD j 0 = 0) (fun k => l.length - k) 0 ⟨rfl, rfl, rfl, trivial⟩ ⟨rfl, Nat.zero_le _, fun j hj => absurd hj (Nat.not_lt_zero _)⟩ ?_
 rintro k w1 ⟨rfl, hk, hz⟩
 have hdk := hs.d.getD k
 refine WP_seq ?_
 refine WP_region ?_
 refine O_lss rfl rfl rfl rfl rfl ?_
 refine WL_end [(5, _), (6, _), (7, _), (8, _)] ⟨rfl, rfl, rfl, rfl, trivial⟩ ?_
 refine WP_seq ?_
 refine WP_condD rfl (fun c8 => ?_) (fun c8 => ?_)
 · --
  refine WP_skip ?_
  refine WP_seq ?_
  refine WP_block ?_
  refine WP_seq ?_
  refine WP_region ?_
  refine O_move rfl rfl rfl ?_
  refine N_index T22 rfl rfl rfl rfl hs k rfl (by omega) ?_
  refine N_load Tryd.underlying89 rfl rfl rfl hs (by omega) (fun d11 => ?_)
  refine O_assign rfl rfl rfl ?_
  refine O_assign rfl rfl rfl ?_
  refine WL_end [(3, _), (4, _), (5, _), (6, _), (7, _)] ⟨rfl, rfl, rfl, rfl, rfl, trivial⟩ ?_
  refine WP_seq ?_
  refine WP_region ?_
  refine O_move rfl rfl rfl ?_
  refine O_neq rfl rfl rfl rfl rfl ?_
  refine WL_end [(3, _), (4, _), (5, _), (6, _), (7, _), (13, _)] ⟨rfl, rfl, rfl, rfl, rfl, rfl, trivial⟩ ?_
  refine WP_condN rfl (fun c13 => ?_) (fun c13 => ?_)
  · --
   refine WP_seq ?_
   refine WP_region ?_
   refine O_move rfl rfl rfl ?_
   refine O_mul rfl rfl rfl rfl (wrap_i64_id (by omega) (by omega)) ?_
   refine O_move rfl rfl rfl ?_
   refine O_call enters96 rfl rfl rfl (tz32_c hT (by (try simp only [lens]); omega) (hs.d.getD k)) (fun v1 w1 e1 h1 => ?_)
   have z1 := e1.size
   obtain rfl := h1
   have htk := tz_lt (n := l.getD k 0) (by omega) (hs.d.getD k)
   refine O_add rfl rfl rfl rfl (wrap_i64_id (by omega) (by omega)) ?_
   refine O_assign rfl rfl rfl ?_
   refine WL_end [(2, _)] ⟨rfl, trivial⟩ ?_
   refine WP_ret ?_
   refine inBlk_ret ?_
   refine inBlk_ret ?_
   refine ret1 Tryd.results59 rfl ?_
   have h1 := val_split l k
   rw [val_zeros hz, val_drop, Nat.zero_add, B_two] at h1
   exact ⟨_, rfl, e1, by rw [h1, tz_shift (by omega) (hs.d.getD k)]; first | rfl | (congr 1; omega)⟩
  · --
   refine WP_skip ?_
   refine WP_region ?_
   refine O_add rfl rfl rfl rfl (wrap_i64_id (by omega) (by omega)) ?_
   refine O_move rfl rfl rfl ?_
   refine WL_end [(5, _), (6, _), (7, _)] ⟨rfl, rfl, rfl, trivial⟩ ?_
   exact ⟨k + 1, ⟨rfl, rfl, rfl, trivial⟩, ⟨rfl, by omega, fun j hj => by
     by_cases hj2 : j = k
     · rw [hj2]; omega
     · exact hz j (by omega)⟩, by omega⟩
 · --
  refine WP_exit ?_
  refine inBlk_hit ?_
  refine WP_seq ?_
  refine WP_region ?_
  refine O_assign rfl rfl rfl ?_
  refine WL_end [(2, _)] ⟨rfl, trivial⟩ ?_
  refine WP_ret ?_
  refine ret1 Tryd.results59 rfl ?_
  have h1 := val_zeros (l := l) (k := l.length) (fun j hj => hz j (by omega))
  rw [List.take_length] at h1
  exact ⟨_, rfl, (Ext.refl _), by rw [h1, show tz 0 = 0 from by rw [tz]; simp]; rfl⟩

theorem rzeros_c {w : World} {v : Value} {l : List Nat} (hs : Nl w v l) (hl : l.length ≤ 100000000) :
    Calls Tryd.prog 46 #[v] w (Ret w fun r _ => r = .int .i64 (tz (val l) : Nat)) := by
 refine enter (args := [v]) Tryd.func46 rfl Tryd.ntmps46 rfl ?_
 refine WP_seq ?_
 refine WP_region ?_
 refine O_assign rfl rfl rfl ?_
 refine WL_end [(0, _)] ⟨rfl, trivial⟩ ?_
 refine WP_seq ?_
 refine WP_seq ?_
 refine WP_region ?_
 refine O_assign rfl rfl rfl ?_
 refine WL_end [(0, _), (3, _)] ⟨rfl, rfl, trivial⟩ ?_
 refine WP_block ?_
 refine WP_loop (S := Nat) (fun k => [(0, v), (3, .int .i64 (k : Nat))]) (fun k w' => Ext w w' ∧ k ≤ 32 * l.length ∧ ∀ j, j < k → (val l).testBit j = false) (fun k => 32 * l.length - k) 0 ⟨rfl, rfl, trivial⟩ ⟨Ext.refl _, Nat.zero_le _, fun j hj => absurd hj (Nat.not_lt_zero _)⟩ ?_
 rintro k w1 ⟨hE, hk, hz⟩
 refine WP_seq ?_
 refine WP_seq ?_
 refine WP_region ?_
 refine O_move rfl rfl rfl ?_
 refine O_move rfl rfl rfl ?_
 refine N_len T22 rfl rfl rfl (hs.ext hE) ?_
 refine O_mul (r := ((32 * l.length : Nat) : Int)) rfl rfl rfl rfl (by rw [IntKind.wrap_i64]; omega) ?_
 refine O_lss rfl rfl rfl rfl rfl ?_
 refine WL_end [(0, _), (3, _), (8, _)] ⟨rfl, rfl, rfl, trivial⟩ ?_
 refine WP_condD rfl (fun c8 => ?_) (fun c8 => ?_)
 · --
  refine WP_skip ?_
  refine WP_seq ?_
  refine WP_block ?_
  refine WP_seq ?_
  refine WP_region ?_
  refine O_move rfl rfl rfl ?_
  refine O_move rfl rfl rfl ?_
  refine O_call enters67 rfl rfl rfl (rbit_c (hs.ext hE) (by (try simp only [lens]); omega)) (fun v1 w1 e1 h1 => ?_)
  have z1 := e1.size
  obtain rfl := h1
  rw [bitv_nat]
  refine WL_end [(0, _), (3, _), (13, _)] ⟨rfl, rfl, rfl, trivial⟩ ?_
  refine WP_cond rfl (fun c13 => ?_) (fun c13 => ?_)
  · --
   refine WP_seq ?_
   refine WP_region ?_
   refine O_move rfl rfl rfl ?_
   refine O_assign rfl rfl rfl ?_
   refine WL_end [(2, _)] ⟨rfl, trivial⟩ ?_
   refine WP_ret ?_
   refine inBlk_ret ?_
   refine inBlk_ret ?_
   refine ret1 Tryd.results46 rfl ?_
   have h1 := tz_of_bits hz c13
   exact ⟨_, rfl, (hE.trans e1), by rw [h1]⟩
  · --
   refine WP_skip ?_
   refine WP_region ?_
   refine O_move rfl rfl rfl ?_
   refine O_add rfl rfl rfl rfl (wrap_i64_id (by omega) (by omega)) ?_
   refine O_assign rfl rfl rfl ?_
   refine WL_end [(0, _), (3, _)] ⟨rfl, rfl, trivial⟩ ?_
   exact ⟨k + 1, ⟨rfl, rfl, trivial⟩, ⟨(hE.trans e1), by omega, fun j hj => by
     by_cases hj2 : j = k
     · rw [hj2]; exact c13
     · exact hz j (by omega)⟩, by omega⟩
 · --
  refine WP_exit ?_
  refine inBlk_hit ?_
  refine WP_seq ?_
  refine WP_region ?_
  refine O_assign rfl rfl rfl ?_
  refine WL_end [(2, _)] ⟨rfl, trivial⟩ ?_
  refine WP_ret ?_
  refine ret1 Tryd.results46 rfl ?_
  have h1 := zero_of_bits (k := 32 * l.length) (fun j hj => hz j (by omega)) (val_lt_bits hs.d)
  exact ⟨_, rfl, hE, by rw [h1, show tz 0 = 0 from by rw [tz]; simp]; rfl⟩

end Go.Proofs.YtnfnadhbjdcbnaaDoor
