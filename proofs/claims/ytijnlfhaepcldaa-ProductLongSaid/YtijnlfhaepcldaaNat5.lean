/-
  Walks.
-/
import Derived.Test.YtijnlfhaepcldaaNat4
set_option linter.unusedVariables false
set_option linter.unusedSimpArgs false
set_option maxRecDepth 100000
namespace Go.Proofs.Ytijnlfhaepcldaa
open Go Go.RowKit
theorem mnat_any {w : World} {v : Value} {l : List Nat} {n : Int} (hs : Nl w v l) (hn : n ≤ 100000000) :
    Calls Try.prog 10 #[v, .int .i64 n] w (Ret w fun r w' => ∃ q, r = .tuple #[q, .bool (decide ((l.length : Int) ≤ n))] ∧ ((l.length : Int) ≤ n → No w.heap.size 29 w' q (dig (val l)))) := by
  by_cases h : (l.length : Int) ≤ n
  · refine (mnat_c hs hn h).mono fun e w' ⟨r, he, hx, q, hq, ho⟩ => ⟨r, he, hx, q, ?_, fun _ => ho⟩
    rw [hq, decide_eq_true h]
  · refine (mnat_no hs (by omega)).mono fun e w' ⟨r, he, hx, hq⟩ => ⟨r, he, hx, .slice none 0 0, ?_, fun h' => absurd h' h⟩
    rw [hq, decide_eq_false h]
theorem power_i {w : World} {v : Value} {l : List Nat} {i : Int} (hs : Nl w v l) (hl : l.length ≤ 100000) (h0 : 0 ≤ i) (h1 : i ≤ 64) :
    Calls Try.prog 19 #[v, .int .i64 i] w (Ret w fun r w' => No w.heap.size 29 w' r (dig (val l ^ i.toNat))) := by
  obtain ⟨n, rfl⟩ := Int.eq_ofNat_of_zero_le h0
  simpa using power_c hs hl (n := n) (by omega)
theorem rpower_i {w : World} {v : Value} {l : List Nat} {i : Int} (hs : Nl w v l) (hl : l.length ≤ 100000) (h0 : 0 ≤ i) (h1 : i ≤ 64) :
    Calls Try.prog 20 #[v, .int .i64 i] w (Ret w fun r w' => No w.heap.size 29 w' r (dig (val l ^ i.toNat))) := by
  obtain ⟨n, rfl⟩ := Int.eq_ofNat_of_zero_le h0
  simpa using rpower_c hs hl (n := n) (by omega)
/-- A slice of slices that read as these naturals. -/
def Nls (w : World) (v : Value) (ns : List Nat) : Prop := ∃ vs, SlV w v vs ∧ vs.length = ns.length ∧ ∀ i u, vs[i]? = some u → Nl w u (dig (ns.getD i 0))
theorem Nls.nil (w : World) : Nls w (.slice none 0 0) [] := ⟨[], SlV.nil w, rfl, fun i u h => by simp at h⟩
theorem Nls.ext {w w' : World} {v : Value} {ns : List Nat} (h : Nls w v ns) (he : Ext w w') : Nls w' v ns := by
  obtain ⟨vs, h1, h2, h3⟩ := h
  exact ⟨vs, h1.ext he, h2, fun i u hu => (h3 i u hu).ext he⟩
theorem Nls_two {w : World} {v u u2 : Value} {m n : Nat} (h : SlV w v [u, u2]) (h1 : Nl w u (dig m)) (h2 : Nl w u2 (dig n)) : Nls w v [m, n] := by
  refine ⟨_, h, rfl, fun i x hx => ?_⟩
  match i with
  | 0 => simp at hx; subst hx; exact h1
  | 1 => simp at hx; subst hx; exact h2
  | i + 2 => simp at hx
theorem sum_take_succ (ns : List Nat) {i : Nat} (h : i < ns.length) : (ns.take (i + 1)).sum = (ns.take i).sum + ns.getD i 0 := by
  rw [take_succ_getD ns i h]; simp
theorem sum_take_le (ns : List Nat) (i : Nat) : (ns.take i).sum ≤ ns.sum := by
  have h := List.take_append_drop i ns
  have : (ns.take i).sum + (ns.drop i).sum = ns.sum := by rw [← List.sum_append, h]
  omega
theorem le_sum (ns : List Nat) (i : Nat) : ns.getD i 0 ≤ ns.sum := by
  induction ns generalizing i with
  | nil => simp
  | cons x l ih => cases i with
    | zero => simp
    | succ i => have := ih i; simp at this ⊢; omega
theorem psum_c {w : World} {v : Value} {ns : List Nat} (hns : Nls w v ns) (hl : (dig ns.sum).length ≤ 100000000) :
    Calls Try.prog 18 #[v] w (Ret w fun r w' => No w.heap.size 29 w' r (dig ns.sum)) := by
  obtain ⟨vs, hvs, hlen, hall⟩ := hns
  have hmx : vs.length ≤ 9223372036854775807 := Nat.le_trans hvs.le (by decide)
  refine enter (args := [v]) Try.func18 rfl Try.ntmps18 rfl ?_
  refine WP_seq ?_
  refine WP_region ?_
  refine O_assign rfl rfl rfl ?_
  refine WL_end [(0, _)] ⟨rfl, trivial⟩ ?_
  refine WP_seq ?_
  refine WP_region ?_
  refine O_assign rfl rfl rfl ?_
  refine WL_end [(0, _), (3, _)] ⟨rfl, rfl, trivial⟩ ?_
  refine WP_seq ?_
  refine WP_seq ?_
  refine WP_region ?_
  refine O_move rfl rfl rfl ?_
  refine V_len T36 rfl rfl rfl hvs ?_
  refine O_move rfl rfl rfl ?_
  refine WL_end [(3, _), (6, _), (7, _), (8, _)] ⟨rfl, rfl, rfl, rfl, trivial⟩ ?_
  refine WP_block ?_
  refine WP_loop (S := Nat × Value) (fun (i, out) => [(3, out), (6, v), (7, .int .i64 (vs.length : Nat)), (8, .int .i64 (i : Nat))]) (fun (i, out) w' => Ext w w' ∧ i ≤ vs.length ∧ No w.heap.size 29 w' out (dig (ns.take i).sum)) (fun (i, out) => vs.length - i) (0, .slice none 0 0) ⟨rfl, rfl, rfl, rfl, trivial⟩ ⟨Ext.refl _, by omega, by simpa [dig_zero] using No.nil _ _ _⟩ ?_
  rintro ⟨i, out⟩ w1 ⟨hE, hi, ho⟩
  show WP _ _ _ _ _ [(3, out), (6, v), (7, .int .i64 (vs.length : Nat)), (8, .int .i64 (i : Nat))] _
  have hz := hE.size
  refine WP_seq ?_
  refine WP_region ?_
  refine O_lss rfl rfl rfl rfl rfl ?_
  refine WL_end [(3, _), (6, _), (7, _), (8, _), (9, _)] ⟨rfl, rfl, rfl, rfl, rfl, trivial⟩ ?_
  refine WP_seq ?_
  refine WP_condD rfl (fun c9 => ?_) (fun c9 => ?_)
  · --
    refine WP_skip ?_
    refine WP_seq ?_
    refine WP_block ?_
    refine WP_seq ?_
    refine WP_region ?_
    refine V_index T36 rfl rfl rfl rfl (hvs.ext hE) _ rfl (by omega) ?_
    obtain ⟨u, hu⟩ : ∃ u, vs[i]? = some u := ⟨vs[i], List.getElem?_eq_getElem (by omega)⟩
    have hun := (hall i u hu).ext hE
    refine O_load Try.underlying22 rfl rfl rfl rfl ((hvs.ext hE).cell hu) ?_
    refine O_assign rfl rfl rfl ?_
    refine WL_end [(3, _), (5, _), (6, _), (7, _), (8, _)] ⟨rfl, rfl, rfl, rfl, rfl, trivial⟩ ?_
    refine WP_region ?_
    refine O_move rfl rfl rfl ?_
    refine O_move rfl rfl rfl ?_
    refine O_call enters17 rfl rfl rfl (add_c ho.nl hun (Nat.le_trans (dig_len_mono (sum_take_le _ _)) (by omega)) (Nat.le_trans (dig_len_mono (le_sum _ _)) (by omega))) (fun v1 w1 e1 h1 => ?_)
    have z1 := e1.size
    try simp only [val_dig] at h1
    refine O_assign rfl rfl rfl ?_
    refine WL_end [(3, _), (6, _), (7, _), (8, _)] ⟨rfl, rfl, rfl, rfl, trivial⟩ ?_
    refine WP_region ?_
    refine O_add rfl rfl rfl rfl (wrap_i64_id (by omega) (by omega)) ?_
    refine O_move rfl rfl rfl ?_
    refine WL_end [(3, _), (6, _), (7, _), (8, _)] ⟨rfl, rfl, rfl, rfl, trivial⟩ ?_
    rw [← sum_take_succ ns (by omega)] at h1
    exact ⟨(i + 1, _), ⟨rfl, rfl, rfl, rfl, trivial⟩, ⟨(hE.trans e1), by omega, h1.mono hz⟩, by dsimp only; omega⟩
  · --
    refine WP_exit ?_
    refine inBlk_hit ?_
    refine WP_seq ?_
    refine WP_region ?_
    refine O_move rfl rfl rfl ?_
    refine O_assign rfl rfl rfl ?_
    refine WL_end [(2, _)] ⟨rfl, trivial⟩ ?_
    refine WP_ret ?_
    refine ret1 Try.results18 rfl ?_
    rw [List.take_of_length_le (by omega)] at ho
    exact ⟨_, rfl, hE, ho⟩

theorem awake_c {w : World} :
    Calls Try.prog 9 #[] w (Ret w fun r _ => r = .bool true) := by
  refine enter (args := []) Try.func9 rfl Try.ntmps9 rfl ?_
  refine WP_seq ?_
  refine WP_region ?_
  refine O_assign rfl rfl rfl ?_
  refine WL_end [] trivial ?_
  refine WP_seq ?_
  refine WP_region ?_
  refine N_lit T22 rfl rfl [4294967295] (by simp [D]) rfl (by decide) rfl rfl (fun v1 w1 o1 e1 => ?_)
  have z1 := e1.size
  refine O_assign rfl rfl rfl ?_
  refine WL_end [(1, _)] ⟨rfl, trivial⟩ ?_
  refine WP_seq ?_
  refine WP_region ?_
  refine O_move rfl rfl rfl ?_
  refine O_move rfl rfl rfl ?_
  refine O_call enters11 rfl rfl rfl (mul_c o1.nl o1.nl (by (try simp only [val_dig, List.length_take, List.length_nil, List.length_cons, List.length_append, List.length_replicate, List.length_set, List.length_map, List.length_drop]); omega) (by (try simp only [val_dig, List.length_take, List.length_nil, List.length_cons, List.length_append, List.length_replicate, List.length_set, List.length_map, List.length_drop]); omega)) (fun v2 w2 e2 h2 => ?_)
  have z2 := e2.size
  try simp only [val_dig] at h2
  rw [show dig (val [4294967295] * val [4294967295]) = [1, 4294967294] from dig_eq (by simp [D]) (by simp [Can]) (by simp [val])] at h2
  refine N_lit T22 rfl rfl [1, 4294967294] (by simp [D]) rfl (by decide) rfl rfl (fun v3 w3 o3 e3 => ?_)
  have z3 := e3.size
  refine O_call enters12 rfl rfl rfl (rsame_c (h2.ext e3).nl o3.nl (by (try simp only [val_dig, List.length_take, List.length_nil, List.length_cons, List.length_append, List.length_replicate, List.length_set, List.length_map, List.length_drop]); omega) (by (try simp only [val_dig, List.length_take, List.length_nil, List.length_cons, List.length_append, List.length_replicate, List.length_set, List.length_map, List.length_drop]); omega) rfl) (fun v4 w4 e4 h4 => ?_)
  have z4 := e4.size
  obtain rfl := h4
  refine O_move rfl rfl rfl ?_
  refine O_call enters19 rfl rfl rfl (power_i (Nl.nil _) (Nat.zero_le _) (by decide) (by decide)) (fun v5 w5 e5 h5 => ?_)
  have z5 := e5.size
  try simp only [val_dig] at h5
  rw [show dig (val [] ^ (0 : Int).toNat) = [1] from dig_one] at h5
  refine N_lit T22 rfl rfl [1] (by simp [D]) rfl (by decide) rfl rfl (fun v6 w6 o6 e6 => ?_)
  have z6 := e6.size
  refine O_call enters12 rfl rfl rfl (rsame_c (h5.ext e6).nl o6.nl (by (try simp only [val_dig, List.length_take, List.length_nil, List.length_cons, List.length_append, List.length_replicate, List.length_set, List.length_map, List.length_drop]); omega) (by (try simp only [val_dig, List.length_take, List.length_nil, List.length_cons, List.length_append, List.length_replicate, List.length_set, List.length_map, List.length_drop]); omega) rfl) (fun v7 w7 e7 h7 => ?_)
  have z7 := e7.size
  obtain rfl := h7
  refine O_pickT rfl rfl rfl rfl ?_
  refine O_move rfl rfl rfl ?_
  refine O_call enters18 rfl rfl rfl (psum_c (Nls.nil _) (by rw [show ([] : List Nat).sum = 0 from rfl, dig_zero]; decide)) (fun v8 w8 e8 h8 => ?_)
  have z8 := e8.size
  try simp only [val_dig] at h8
  rw [show ([] : List Nat).sum = 0 from rfl, dig_zero] at h8
  refine N_len T22 rfl rfl rfl h8.nl ?_
  refine O_eql (t := true) rfl rfl rfl rfl (decide_eq_true rfl) ?_
  refine O_pickT rfl rfl rfl rfl ?_
  refine O_assign rfl rfl rfl ?_
  refine WL_end [(0, _)] ⟨rfl, trivial⟩ ?_
  refine WP_ret ?_
  refine ret1 Try.results9 rfl ?_
  exact ⟨_, rfl, (((((((e1.trans e2).trans e3).trans e4).trans e5).trans e6).trans e7).trans e8), rfl⟩

end Go.Proofs.Ytijnlfhaepcldaa
