/-
  Walks.
-/
import Derived.Test.YthbfhljpfkicpaaQ2
set_option linter.unusedVariables false
set_option linter.unusedSimpArgs false
set_option maxRecDepth 100000
namespace Go.Proofs.Ythbfhljpfkicpaa
open Go Go.RowKit
theorem rzeros_c {w : World} {v : Value} {l : List Nat} (hs : Nl w v l) (hl : l.length ≤ 100000000) :
    Calls Try.prog 66 #[v] w (Ret w fun r _ => r = .int .i64 (tz (val l) : Nat)) := by
  refine enter (args := [v]) Try.func66 rfl Try.ntmps66 rfl ?_
  refine WP_seq ?_
  refine WP_region ?_
  refine O_assign rfl rfl rfl ?_
  refine WL_end [(0, _)] ⟨rfl, trivial⟩ ?_
  refine WP_seq ?_
  refine WP_seq ?_
  refine WP_region ?_
  refine O_assign rfl rfl rfl ?_
  refine WL_end [(0, _), (3, _)] ⟨rfl, rfl, trivial⟩ ?_
  refine WP_block ?_
  refine WP_loop (S := Nat) (fun k => [(0, v), (3, .int .i64 (k : Nat))]) (fun k w' => Ext w w' ∧ k ≤ 32 * l.length ∧ ∀ j, j < k → (val l).testBit j = false) (fun k => 32 * l.length - k) 0 ⟨rfl, rfl, trivial⟩ ⟨Ext.refl _, Nat.zero_le _, fun j hj => absurd hj (Nat.not_lt_zero _)⟩ ?_
  rintro k w1 ⟨hE, hk, hz⟩
  refine WP_seq ?_
  refine WP_seq ?_
  refine WP_region ?_
  refine O_move rfl rfl rfl ?_
  refine O_move rfl rfl rfl ?_
  refine N_len T22 rfl rfl rfl (hs.ext hE) ?_
  refine O_mul (r := ((32 * l.length : Nat) : Int)) rfl rfl rfl rfl (by rw [IntKind.wrap_i64]; omega) ?_
  refine O_lss rfl rfl rfl rfl rfl ?_
  refine WL_end [(0, _), (3, _), (8, _)] ⟨rfl, rfl, rfl, trivial⟩ ?_
  refine WP_condD rfl (fun c8 => ?_) (fun c8 => ?_)
  · --
    refine WP_skip ?_
    refine WP_seq ?_
    refine WP_block ?_
    refine WP_seq ?_
    refine WP_region ?_
    refine O_move rfl rfl rfl ?_
    refine O_move rfl rfl rfl ?_
    refine O_call enters42 rfl rfl rfl (rbit_c (hs.ext hE) (by (try simp only [val_dig, List.length_take, List.length_nil, List.length_cons, List.length_append, List.length_replicate, List.length_set, List.length_map, List.length_drop]); omega)) (fun v1 w1 e1 h1 => ?_)
    have z1 := e1.size
    obtain rfl := h1
    rw [bitv_nat]
    refine WL_end [(0, _), (3, _), (13, _)] ⟨rfl, rfl, rfl, trivial⟩ ?_
    refine WP_cond rfl (fun c13 => ?_) (fun c13 => ?_)
    · --
      refine WP_seq ?_
      refine WP_region ?_
      refine O_move rfl rfl rfl ?_
      refine O_assign rfl rfl rfl ?_
      refine WL_end [(2, _)] ⟨rfl, trivial⟩ ?_
      refine WP_ret ?_
      refine inBlk_ret ?_
      refine inBlk_ret ?_
      refine ret1 Try.results66 rfl ?_
      have h1 := tz_of_bits hz c13
      exact ⟨_, rfl, (hE.trans e1), by rw [h1]⟩
    · --
      refine WP_skip ?_
      refine WP_region ?_
      refine O_move rfl rfl rfl ?_
      refine O_add rfl rfl rfl rfl (wrap_i64_id (by omega) (by omega)) ?_
      refine O_assign rfl rfl rfl ?_
      refine WL_end [(0, _), (3, _)] ⟨rfl, rfl, trivial⟩ ?_
      exact ⟨k + 1, ⟨rfl, rfl, trivial⟩, ⟨(hE.trans e1), by omega, fun j hj => by
        by_cases hj2 : j = k
        · rw [hj2]; exact c13
        · exact hz j (by omega)⟩, by omega⟩
  · --
    refine WP_exit ?_
    refine inBlk_hit ?_
    refine WP_seq ?_
    refine WP_region ?_
    refine O_assign rfl rfl rfl ?_
    refine WL_end [(2, _)] ⟨rfl, trivial⟩ ?_
    refine WP_ret ?_
    refine ret1 Try.results66 rfl ?_
    have h1 := zero_of_bits (k := 32 * l.length) (fun j hj => hz j (by omega)) (val_lt_bits hs.d)
    exact ⟨_, rfl, hE, by rw [h1, show tz 0 = 0 from by rw [tz]; simp]; rfl⟩

end Go.Proofs.Ythbfhljpfkicpaa
