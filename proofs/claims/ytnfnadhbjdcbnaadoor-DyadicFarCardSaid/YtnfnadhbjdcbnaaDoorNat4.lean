/-
  Walks.
-/
import Derived.Test.YtnfnadhbjdcbnaaDoorNat3
set_option linter.unusedVariables false
set_option linter.unusedSimpArgs false
set_option maxRecDepth 100000
namespace Go.Proofs.YtnfnadhbjdcbnaaDoor
open Go Go.RowKit
theorem len32_c {w : World} {x : Nat} (hx : x < 4294967296) :
    Calls Tryd.prog 101 #[.int .u32 (x : Nat)] w (Ret w fun r _ => r = .int .i64 (bl x : Nat)) := by
 have b0 : bl x ≤ 32 := bl_le hx
 have b1 : bl (x / 2 ^ 16) ≤ 32 := bl_le (by omega)
 have b2 : bl (x / 2 ^ 8) ≤ 32 := bl_le (by omega)
 have b3 : bl (x / 2 ^ 16 / 2 ^ 8) ≤ 32 := bl_le (by omega)
 refine enter (args := [_]) Tryd.func101 rfl Tryd.ntmps101 rfl ?_
 refine WP_seq ?_
 refine WP_region ?_
 refine O_assign rfl rfl rfl ?_
 refine WL_end [(0, _), (2, _)] ⟨rfl, rfl, trivial⟩ ?_
 refine WP_seq ?_
 refine WP_seq ?_
 refine WP_region ?_
 refine O_move rfl rfl rfl ?_
 refine O_geq rfl rfl rfl rfl rfl ?_
 refine WL_end [(0, _), (2, _), (4, _)] ⟨rfl, rfl, rfl, trivial⟩ ?_
 refine WP_condD rfl (fun c4 => ?_) (fun c4 => ?_)
 · --
  refine WP_seq ?_
  refine WP_region ?_
  refine O_move rfl rfl rfl ?_
  refine O_shr (r := ((x / 2 ^ 16 : Nat) : Int)) rfl rfl rfl rfl (by decide) (shrU32 (m := 16) (by decide)) ?_
  refine O_assign rfl rfl rfl ?_
  refine WL_end [(0, _)] ⟨rfl, trivial⟩ ?_
  refine WP_region ?_
  refine O_assign rfl rfl rfl ?_
  refine WL_end [(0, _), (2, _)] ⟨rfl, rfl, trivial⟩ ?_
  refine WP_seq ?_
  refine WP_seq ?_
  refine WP_region ?_
  refine O_move rfl rfl rfl ?_
  refine O_geq rfl rfl rfl rfl rfl ?_
  refine WL_end [(0, _), (2, _), (8, _)] ⟨rfl, rfl, rfl, trivial⟩ ?_
  refine WP_condD rfl (fun c8 => ?_) (fun c8 => ?_)
  · --
   refine WP_seq ?_
   refine WP_region ?_
   refine O_move rfl rfl rfl ?_
   refine O_shr (r := ((x / 2 ^ 16 / 2 ^ 8 : Nat) : Int)) rfl rfl rfl rfl (by decide) (shrU32 (m := 8) (by decide)) ?_
   refine O_assign rfl rfl rfl ?_
   refine WL_end [(0, _), (2, _)] ⟨rfl, rfl, trivial⟩ ?_
   refine WP_region ?_
   refine O_move rfl rfl rfl ?_
   refine O_add rfl rfl rfl rfl (wrap_i64_id (by omega) (by omega)) ?_
   refine O_assign rfl rfl rfl ?_
   refine WL_end [(0, _), (2, _)] ⟨rfl, rfl, trivial⟩ ?_
   refine WP_seq ?_
   refine WP_region ?_
   refine O_move rfl rfl rfl ?_
   refine O_move rfl rfl rfl ?_
   refine O_conv Tryd.underlying89 Tryd.underlying5 rfl rfl rfl (wrap_u8_id (by omega) (by omega)) ?_
   refine O_indexStr Tryd.underlying9 rfl rfl rfl rfl _ rfl (tab_at (by decide +kernel) (by omega)) ?_
   rw [bl_byte (by omega)]
   refine O_conv Tryd.underlying5 Tryd.underlying3 rfl rfl rfl (wrap_i64_id (by omega) (by omega)) ?_
   refine O_add rfl rfl rfl rfl (wrap_i64_id (by omega) (by omega)) ?_
   refine O_assign rfl rfl rfl ?_
   refine WL_end [(2, _)] ⟨rfl, trivial⟩ ?_
   refine WP_ret ?_
   refine ret1 Tryd.results101 rfl ?_
   have h1 := bl_shift (x := x) (s := 16) (by omega)
   have h2 := bl_shift (x := x / 2 ^ 16) (s := 8) (by omega)
   exact ⟨_, rfl, Ext.refl _, by rw [h1, h2]; first | rfl | (congr 1; omega)⟩
  · --
   refine WP_skip ?_
   refine WP_seq ?_
   refine WP_region ?_
   refine O_move rfl rfl rfl ?_
   refine O_move rfl rfl rfl ?_
   refine O_conv Tryd.underlying89 Tryd.underlying5 rfl rfl rfl (wrap_u8_id (by omega) (by omega)) ?_
   refine O_indexStr Tryd.underlying9 rfl rfl rfl rfl _ rfl (tab_at (by decide +kernel) (by omega)) ?_
   rw [bl_byte (by omega)]
   refine O_conv Tryd.underlying5 Tryd.underlying3 rfl rfl rfl (wrap_i64_id (by omega) (by omega)) ?_
   refine O_add rfl rfl rfl rfl (wrap_i64_id (by omega) (by omega)) ?_
   refine O_assign rfl rfl rfl ?_
   refine WL_end [(2, _)] ⟨rfl, trivial⟩ ?_
   refine WP_ret ?_
   refine ret1 Tryd.results101 rfl ?_
   have h1 := bl_shift (x := x) (s := 16) (by omega)
   exact ⟨_, rfl, Ext.refl _, by rw [h1]; first | rfl | (congr 1; omega)⟩
 · --
  refine WP_skip ?_
  refine WP_seq ?_
  refine WP_seq ?_
  refine WP_region ?_
  refine O_move rfl rfl rfl ?_
  refine O_geq rfl rfl rfl rfl rfl ?_
  refine WL_end [(0, _), (2, _), (8, _)] ⟨rfl, rfl, rfl, trivial⟩ ?_
  refine WP_condD rfl (fun c8 => ?_) (fun c8 => ?_)
  · --
   refine WP_seq ?_
   refine WP_region ?_
   refine O_move rfl rfl rfl ?_
   refine O_shr (r := ((x / 2 ^ 8 : Nat) : Int)) rfl rfl rfl rfl (by decide) (shrU32 (m := 8) (by decide)) ?_
   refine O_assign rfl rfl rfl ?_
   refine WL_end [(0, _), (2, _)] ⟨rfl, rfl, trivial⟩ ?_
   refine WP_region ?_
   refine O_move rfl rfl rfl ?_
   refine O_add rfl rfl rfl rfl (wrap_i64_id (by omega) (by omega)) ?_
   refine O_assign rfl rfl rfl ?_
   refine WL_end [(0, _), (2, _)] ⟨rfl, rfl, trivial⟩ ?_
   refine WP_seq ?_
   refine WP_region ?_
   refine O_move rfl rfl rfl ?_
   refine O_move rfl rfl rfl ?_
   refine O_conv Tryd.underlying89 Tryd.underlying5 rfl rfl rfl (wrap_u8_id (by omega) (by omega)) ?_
   refine O_indexStr Tryd.underlying9 rfl rfl rfl rfl _ rfl (tab_at (by decide +kernel) (by omega)) ?_
   rw [bl_byte (by omega)]
   refine O_conv Tryd.underlying5 Tryd.underlying3 rfl rfl rfl (wrap_i64_id (by omega) (by omega)) ?_
   refine O_add rfl rfl rfl rfl (wrap_i64_id (by omega) (by omega)) ?_
   refine O_assign rfl rfl rfl ?_
   refine WL_end [(2, _)] ⟨rfl, trivial⟩ ?_
   refine WP_ret ?_
   refine ret1 Tryd.results101 rfl ?_
   have h1 := bl_shift (x := x) (s := 8) (by omega)
   exact ⟨_, rfl, Ext.refl _, by rw [h1]; first | rfl | (congr 1; omega)⟩
  · --
   refine WP_skip ?_
   refine WP_seq ?_
   refine WP_region ?_
   refine O_move rfl rfl rfl ?_
   refine O_move rfl rfl rfl ?_
   refine O_conv Tryd.underlying89 Tryd.underlying5 rfl rfl rfl (wrap_u8_id (by omega) (by omega)) ?_
   refine O_indexStr Tryd.underlying9 rfl rfl rfl rfl _ rfl (tab_at (by decide +kernel) (by omega)) ?_
   rw [bl_byte (by omega)]
   refine O_conv Tryd.underlying5 Tryd.underlying3 rfl rfl rfl (wrap_i64_id (by omega) (by omega)) ?_
   refine O_add rfl rfl rfl rfl (wrap_i64_id (by omega) (by omega)) ?_
   refine O_assign rfl rfl rfl ?_
   refine WL_end [(2, _)] ⟨rfl, trivial⟩ ?_
   refine WP_ret ?_
   refine ret1 Tryd.results101 rfl ?_
   exact ⟨_, rfl, Ext.refl _, by first | rfl | (congr 1; omega)⟩

theorem bits_c {w : World} {v : Value} {l : List Nat} (hs : Nl w v l) (hl : l.length ≤ 100000000) :
    Calls Tryd.prog 63 #[v] w (Ret w fun r _ => r = .int .i64 (bl (val l) : Nat)) := by
 have hsz := sz_le hs.d
 have hbt : bl (l.getD (sz l - 1) 0) ≤ 32 := bl_le (hs.d.getD _)
 refine enter (args := [v]) Tryd.func63 rfl Tryd.ntmps63 rfl ?_
 refine WP_seq ?_
 refine WP_region ?_
 refine O_assign rfl rfl rfl ?_
 refine WL_end [(0, _)] ⟨rfl, trivial⟩ ?_
 refine WP_seq ?_
 refine WP_region ?_
 refine O_move rfl rfl rfl ?_
 refine O_call enters99 rfl rfl rfl (size_c hs) (fun v1 w1 e1 h1 => ?_)
 have z1 := e1.size
 obtain rfl := h1
 refine O_assign rfl rfl rfl ?_
 refine WL_end [(0, _), (3, _)] ⟨rfl, rfl, trivial⟩ ?_
 refine WP_seq ?_
 refine WP_seq ?_
 refine WP_region ?_
 refine O_move rfl rfl rfl ?_
 refine O_eql rfl rfl rfl rfl rfl ?_
 refine WL_end [(0, _), (3, _), (7, _)] ⟨rfl, rfl, rfl, trivial⟩ ?_
 refine WP_condD rfl (fun c7 => ?_) (fun c7 => ?_)
 · --
  refine WP_seq ?_
  refine WP_region ?_
  refine O_assign rfl rfl rfl ?_
  refine WL_end [(2, _)] ⟨rfl, trivial⟩ ?_
  refine WP_ret ?_
  refine ret1 Tryd.results63 rfl ?_
  have h0 := sz_zero hs.d (by omega)
  exact ⟨_, rfl, e1, by rw [h0]; rfl⟩
 · --
  refine WP_skip ?_
  refine WP_seq ?_
  refine WP_region ?_
  refine O_move rfl rfl rfl ?_
  refine O_sub (r := ((sz l - 1 : Nat) : Int)) rfl rfl rfl rfl (by rw [IntKind.wrap_i64]; omega) ?_
  refine O_mul rfl rfl rfl rfl (wrap_i64_id (by omega) (by omega)) ?_
  refine O_move rfl rfl rfl ?_
  refine O_move rfl rfl rfl ?_
  refine O_sub (r := ((sz l - 1 : Nat) : Int)) rfl rfl rfl rfl (by rw [IntKind.wrap_i64]; omega) ?_
  refine N_index T22 rfl rfl rfl rfl (hs.ext e1) (sz l - 1) rfl (by omega) ?_
  refine N_load Tryd.underlying89 rfl rfl rfl (hs.ext e1) (by omega) (fun d15 => ?_)
  refine O_call enters101 rfl rfl rfl (len32_c (by (try simp only [lens]); omega)) (fun v2 w2 e2 h2 => ?_)
  have z2 := e2.size
  obtain rfl := h2
  refine O_add rfl rfl rfl rfl (wrap_i64_id (by omega) (by omega)) ?_
  refine O_assign rfl rfl rfl ?_
  refine WL_end [(2, _)] ⟨rfl, trivial⟩ ?_
  refine WP_ret ?_
  refine ret1 Tryd.results63 rfl ?_
  have h0 := bl_val hs.d (by omega)
  exact ⟨_, rfl, e1.trans e2, by rw [h0]; first | rfl | (congr 1; omega)⟩

theorem mnat_any {w : World} {v : Value} {l : List Nat} {n : Int} (hs : Nl w v l) (hn : n ≤ 100000000) :
    Calls Tryd.prog 75 #[v, .int .i64 n] w (Ret w fun r w' => ∃ q, r = .tuple #[q, .bool (decide ((l.length : Int) ≤ n))] ∧ ((l.length : Int) ≤ n → No w.heap.size 89 w' q (dig (val l)))) := by
  by_cases h : (l.length : Int) ≤ n
  · refine (mnat_c hs hn h).mono fun e w' ⟨r, he, hx, q, hq, ho⟩ => ⟨r, he, hx, q, ?_, fun _ => ho⟩
    rw [hq, decide_eq_true h]
  · refine (mnat_no hs (by omega)).mono fun e w' ⟨r, he, hx, hq⟩ => ⟨r, he, hx, .slice none 0 0, ?_, fun h' => absurd h' h⟩
    rw [hq, decide_eq_false h]

end Go.Proofs.YtnfnadhbjdcbnaaDoor
