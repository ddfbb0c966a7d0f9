/-
  Walks.
-/
import Derived.Test.YtnfnadhbjdcbnaaDoorD2
set_option linter.unusedVariables false
set_option linter.unusedSimpArgs false
set_option maxRecDepth 100000
namespace Go.Proofs.YtnfnadhbjdcbnaaDoor
open Go Go.RowKit
theorem digs_sub {d : Nat} (h : d < 10) : ((([48, 49, 50, 51, 52, 53, 54, 55, 56, 57] : List UInt8).take (d + 1)).drop d) = [UInt8.ofNat (48 + d)] := by
  match d, h with
  | 0, _ => rfl
  | 1, _ => rfl
  | 2, _ => rfl
  | 3, _ => rfl
  | 4, _ => rfl
  | 5, _ => rfl
  | 6, _ => rfl
  | 7, _ => rfl
  | 8, _ => rfl
  | 9, _ => rfl
theorem dnum_dlen {l : List UInt8} (h : ∀ b ∈ l, isd b) : (dig (dnum l)).length ≤ l.length := by
  refine dig_len_of_lt (Nat.lt_of_lt_of_le (dnum_lt h) (Nat.pow_le_pow_left (by decide) _))
theorem isd_take {l : List UInt8} {i : Nat} {b : UInt8} (h : ∀ x ∈ l.take i, isd x) (hb : l[i]? = some b) (hd : isd b) : ∀ x ∈ l.take (i + 1), isd x := by
  intro x hx
  rw [List.take_add_one, hb] at hx
  rcases List.mem_append.1 hx with hx | hx
  · exact h x hx
  · simp at hx; rw [hx]; exact hd

theorem dig_getD0 {d : Nat} (h : d < 4294967296) : (dig d).getD 0 0 = d := by
  by_cases h0 : d = 0
  · subst h0; rw [dig_zero]; rfl
  · rw [dig_pos h0]
    simp
    omega
set_option maxHeartbeats 1000000 in
theorem rdigits_c {w : World} {va : Value} {a : Nat} (ha : Nl w va (dig a)) (hla : (dig a).length ≤ 100000) :
    Calls Tryd.prog 107 #[va] w (Ret w fun r _ => r = .string (bs (dstr a))) := by
 have hlr := rdg_dlen hla
 refine enter (args := [va]) Tryd.func107 rfl Tryd.ntmps107 rfl ?_
 refine WP_seq ?_
 refine WP_region ?_
 refine O_assign rfl rfl rfl ?_
 refine WL_end [(0, _)] ⟨rfl, trivial⟩ ?_
 refine WP_seq ?_
 refine WP_region ?_
 refine O_assign rfl rfl rfl ?_
 refine WL_end [(0, _), (3, _)] ⟨rfl, rfl, trivial⟩ ?_
 refine WP_seq ?_
 refine WP_block ?_
 refine WP_loop (S := Nat × List UInt8 × Value) (fun (n, o, av) => [(0, av), (3, .string (bs o))]) (fun (n, o, av) w' => Ext w w' ∧ Nl w' av (dig n) ∧ n ≤ a ∧ (rdg a).reverse = (rdg n).reverse ++ o) (fun (n, o, av) => n) (a, [], va) ⟨rfl, rfl, trivial⟩ ⟨(Ext.refl _), ha, Nat.le_refl _, by simp⟩ ?_
 rintro ⟨n, o, av⟩ w9 ⟨hE, hav, hna, hro⟩
 show WP _ _ _ _ _ [(0, av), (3, .string (bs o))] _
 have zE := hE.size
 have hln : (dig n).length ≤ 100000 := Nat.le_trans (dig_len_mono hna) hla
 have hol : o.length ≤ 1000000 := by have h := congrArg List.length hro; rw [List.length_append, List.length_reverse] at h; omega
 have hdz := dig_len_zero (n := n % 10)
 have hd10 : n % 10 < 10 := Nat.mod_lt _ (by decide)
 have hdig : (dig (n % 10)).getD 0 0 = n % 10 := dig_getD0 (by omega)
 refine WP_seq ?_
 refine WP_seq ?_
 refine WP_region ?_
 refine O_move rfl rfl rfl ?_
 refine N_len T22 rfl rfl rfl hav ?_
 refine O_gtr rfl rfl rfl rfl rfl ?_
 refine WL_end [(0, _), (3, _), (10, _)] ⟨rfl, rfl, rfl, trivial⟩ ?_
 refine WP_condD rfl (fun c10 => ?_) (fun c10 => ?_)
 · --
  refine WP_skip ?_
  refine WP_block ?_
  refine WP_seq ?_
  have hn9 : n ≠ 0 := by rintro rfl; rw [dig_zero] at c10; exact absurd c10 (by decide)
  have h10 : (dig 10).length ≤ 1 := dig_len_of_lt (by decide)
  · --
   skip
   refine WP_region ?_
   refine O_move rfl rfl rfl ?_
   refine O_call enters76 rfl rfl rfl (rof_c 10 (by decide)) (fun v1 w1 e1 h1 => ?_)
   have z1 := e1.size
   try simp only [val_dig] at h1
   refine O_call enters119 rfl rfl rfl (rdivmod_c (hav.ext e1) h1.nl (by (try simp only [lens]); omega) (by (try simp only [lens]); omega)) (fun v2 w2 e2 h2 => ?_)
   have z2 := e2.size
   try simp only [val_dig] at h2
   obtain ⟨q2, r2, rfl, hq2, hr2⟩ := h2
   simp only [rem0_pos (show (10 : Nat) ≠ 0 by decide)] at hr2
   refine O_move rfl rfl rfl ?_
   refine O_extract rfl rfl rfl rfl ?_
   refine O_extract rfl rfl rfl rfl ?_
   refine O_extract rfl rfl rfl rfl ?_
   refine O_assign rfl rfl rfl ?_
   refine O_assign rfl rfl rfl ?_
   refine O_assign rfl rfl rfl ?_
   refine WL_end [(3, _), (4, _), (5, _)] ⟨rfl, rfl, rfl, trivial⟩ ?_
   refine WP_seq ?_
   refine WP_region ?_
   refine O_assign rfl rfl rfl ?_
   refine WL_end [(3, _), (4, _), (5, _), (7, _)] ⟨rfl, rfl, rfl, rfl, trivial⟩ ?_
   refine WP_seq ?_
   refine WP_seq ?_
   refine WP_region ?_
   refine O_move rfl rfl rfl ?_
   refine N_len T22 rfl rfl rfl hr2.nl ?_
   refine O_gtr rfl rfl rfl rfl rfl ?_
   refine WL_end [(3, _), (4, _), (5, _), (7, _), (20, _)] ⟨rfl, rfl, rfl, rfl, rfl, trivial⟩ ?_
   refine WP_condD rfl (fun c20 => ?_) (fun c20 => ?_)
   · --
    refine WP_region ?_
    refine O_move rfl rfl rfl ?_
    refine N_index T22 rfl rfl rfl rfl hr2.nl 0 rfl (by omega) ?_
    refine N_load Tryd.underlying89 rfl rfl rfl hr2.nl (by omega) (fun d23 => ?_)
    refine O_conv Tryd.underlying89 Tryd.underlying3 (r := ((n % 10 : Nat) : Int)) rfl rfl rfl (by rw [hdig]; exact wrap_i64_id (by omega) (by omega)) ?_
    refine O_assign rfl rfl rfl ?_
    refine WL_end [(3, _), (4, _), (7, _)] ⟨rfl, rfl, rfl, trivial⟩ ?_
    refine WP_seq ?_
    refine WP_region ?_
    refine O_move rfl rfl rfl ?_
    refine O_move rfl rfl rfl ?_
    refine O_add (r := ((n % 10 + 1 : Nat) : Int)) rfl rfl rfl rfl (by rw [IntKind.wrap_i64]; omega) ?_
    refine S_sub Tryd.underlying9 rfl rfl rfl rfl rfl (n % 10) (n % 10 + 1) (by first | rfl | omega) rfl (by omega) (by simp only [List.length_cons, List.length_nil]; omega) ?_
    rw [digs_sub hd10]
    refine O_move rfl rfl rfl ?_
    refine S_add rfl rfl rfl rfl (by (try simp only [List.length_append, List.length_cons, List.length_nil]); omega) ?_
    refine O_assign rfl rfl rfl ?_
    refine WL_end [(3, _), (4, _)] ⟨rfl, rfl, trivial⟩ ?_
    refine WP_region ?_
    refine O_move rfl rfl rfl ?_
    refine O_assign rfl rfl rfl ?_
    refine WL_end [(0, _), (3, _)] ⟨rfl, rfl, trivial⟩ ?_
    refine ⟨(n / 10, _, _), ⟨rfl, rfl, trivial⟩, ⟨((hE.trans e1).trans e2), hq2.nl, by omega, ?_⟩, by dsimp only; omega⟩
    rw [hro, rdg_pos hn9]
    simp
   · --
    refine WP_skip ?_
    refine WP_seq ?_
    refine WP_region ?_
    refine O_move rfl rfl rfl ?_
    refine O_move rfl rfl rfl ?_
    refine O_add (r := ((n % 10 + 1 : Nat) : Int)) rfl rfl rfl rfl (by rw [IntKind.wrap_i64]; omega) ?_
    refine S_sub Tryd.underlying9 rfl rfl rfl rfl rfl (n % 10) (n % 10 + 1) (by first | rfl | omega) rfl (by omega) (by simp only [List.length_cons, List.length_nil]; omega) ?_
    rw [digs_sub hd10]
    refine O_move rfl rfl rfl ?_
    refine S_add rfl rfl rfl rfl (by (try simp only [List.length_append, List.length_cons, List.length_nil]); omega) ?_
    refine O_assign rfl rfl rfl ?_
    refine WL_end [(3, _), (4, _)] ⟨rfl, rfl, trivial⟩ ?_
    refine WP_region ?_
    refine O_move rfl rfl rfl ?_
    refine O_assign rfl rfl rfl ?_
    refine WL_end [(0, _), (3, _)] ⟨rfl, rfl, trivial⟩ ?_
    refine ⟨(n / 10, _, _), ⟨rfl, rfl, trivial⟩, ⟨((hE.trans e1).trans e2), hq2.nl, by omega, ?_⟩, by dsimp only; omega⟩
    rw [hro, rdg_pos hn9]
    simp
 · --
  refine WP_exit ?_
  refine inBlk_hit ?_
  refine WP_seq ?_
  refine WP_seq ?_
  have hn0 : n = 0 := dig_len_zero.1 (by omega)
  rw [hn0, rdg_zero, List.reverse_nil, List.nil_append] at hro
  by_cases ho0 : o = []
  · --
   have hz : a = 0 := rdg_eq_nil (by simpa using hro.trans ho0)
   refine WP_region ?_
   refine O_move rfl rfl rfl ?_
   refine S_eql (b := []) rfl rfl rfl rfl (decide_eq_true ho0) ?_
   refine WL_end [(3, _), (33, _)] ⟨rfl, rfl, trivial⟩ ?_
   refine WP_condT rfl ?_
   refine WP_seq ?_
   refine WP_region ?_
   refine O_assign rfl rfl rfl ?_
   refine WL_end [(2, _)] ⟨rfl, trivial⟩ ?_
   refine WP_ret ?_
   refine ret1 Tryd.results107 rfl ?_
   exact ⟨_, rfl, hE, by rw [dstr_zero hz]; rfl⟩
  · --
   skip
   refine WP_region ?_
   refine O_move rfl rfl rfl ?_
   refine S_eql (b := []) rfl rfl rfl rfl (decide_eq_false ho0) ?_
   refine WL_end [(3, _), (33, _)] ⟨rfl, rfl, trivial⟩ ?_
   refine WP_condF rfl ?_
   refine WP_skip ?_
   refine WP_seq ?_
   refine WP_region ?_
   refine O_move rfl rfl rfl ?_
   refine O_assign rfl rfl rfl ?_
   refine WL_end [(2, _)] ⟨rfl, trivial⟩ ?_
   refine WP_ret ?_
   refine ret1 Tryd.results107 rfl ?_
   exact ⟨_, rfl, hE, by rw [← hro]; unfold dstr; rw [if_neg (fun h => ho0 (by rw [← hro, h, rdg_zero]; rfl))]⟩

end Go.Proofs.YtnfnadhbjdcbnaaDoor
