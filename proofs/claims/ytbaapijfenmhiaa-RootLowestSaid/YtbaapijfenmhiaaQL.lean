/-
  Walks.
-/
import Derived.Test.YtbaapijfenmhiaaQ7
set_option linter.unusedVariables false
set_option linter.unusedSimpArgs false
set_option maxRecDepth 100000
namespace Go.Proofs.Ytbaapijfenmhiaa
open Go Go.RowKit
theorem mnat_any {w : World} {v : Value} {l : List Nat} {n : Int} (hs : Nl w v l) (hn : n ≤ 100000000) :
    Calls Try.prog 14 #[v, .int .i64 n] w (Ret w fun r w' => ∃ q, r = .tuple #[q, .bool (decide ((l.length : Int) ≤ n))] ∧ ((l.length : Int) ≤ n → No w.heap.size 27 w' q (dig (val l)))) := by
  by_cases h : (l.length : Int) ≤ n
  · refine (mnat_c hs hn h).mono fun e w' ⟨r, he, hx, q, hq, ho⟩ => ⟨r, he, hx, q, ?_, fun _ => ho⟩
    rw [hq, decide_eq_true h]
  · refine (mnat_no hs (by omega)).mono fun e w' ⟨r, he, hx, hq⟩ => ⟨r, he, hx, .slice none 0 0, ?_, fun h' => absurd h' h⟩
    rw [hq, decide_eq_false h]
/-- A slice that came in, as digits. -/
theorem Nl_of_row {w : World} {a : Option Addr} {len cap : Nat} {zs : List Int} (h : (a = none ∧ len = 0 ∧ cap = 0 ∧ zs = []) ∨
    ∃ x, a = some x ∧ len ≤ cap ∧ cap ≤ maxLen ∧ zs.length = cap ∧ (∀ i, i < zs.length → w.cell? (x.add i) = some (.int .u32 (zs.getD i 0))) ∧ ∀ n ∈ zs, (Lit.int .u32 n).wf = true) :
    Nl w (.slice a len cap) ((zs.take len).map Int.toNat) := by
  rcases h with ⟨rfl, rfl, rfl, rfl⟩ | ⟨x, rfl, h1, h2, h3, h4, h5⟩
  · exact Nl.nil w
  · have hb : ∀ n ∈ zs, 0 ≤ n ∧ n < 4294967296 := by
      intro n hn
      have := h5 n hn
      simp [Lit.wf, IntKind.has, IntKind.min, IntKind.max, IntKind.bits, IntKind.signed] at this
      omega
    have hl : ((zs.take len).map Int.toNat).length = len := by simp; omega
    refine ⟨⟨some x, cap, by simp [List.length_map] ; omega, by simp; omega, h2, by simp, fun i u hu => ⟨x, rfl, ?_⟩⟩, fun y hy => ?_⟩
    · simp only [List.map_map, List.getElem?_map, List.getElem?_take] at hu
      split at hu
      · rename_i hi
        have hiz : i < zs.length := by omega
        rw [h4 i hiz]
        rw [List.getElem?_eq_getElem hiz] at hu
        simp only [Option.map_some, Option.some.injEq, Function.comp_apply, dv] at hu
        rw [← hu, List.getD_eq_getElem?_getD, List.getElem?_eq_getElem hiz]
        have := hb zs[i] (List.getElem_mem hiz)
        simp only [Option.getD_some]
        congr 2
        omega
      · cases hu
    · obtain ⟨n, hn, rfl⟩ := List.mem_map.1 hy
      have := hb n (List.mem_of_mem_take hn)
      omega
theorem pm_le (a n m : Nat) : pm a n m ≤ m := by
  unfold pm; split
  · exact Nat.zero_le _
  · exact Nat.le_of_lt (Nat.mod_lt _ (by omega))
theorem dig_small {n : Nat} (h : n ≠ 0) (h2 : n < 4294967296) : dig n = [n] := by
  rw [dig_pos h, Nat.mod_eq_of_lt h2, Nat.div_eq_of_lt h2, dig_zero]
theorem divides_T {w : World} {va vb : Value} {la lb : List Nat} (hb : Nl w vb lb) (ha : Nl w va la) (hlb : lb.length ≤ 10000000) (hla : la.length ≤ 10000000) (h : val la % val lb = 0) :
    Calls Try.prog 28 #[vb, va] w (Ret w fun r _ => r = .bool true) :=
  (divides_c hb ha hlb hla).mono fun e w' ⟨r, he, hx, hr⟩ => ⟨r, he, hx, by rw [hr, decide_eq_true h]⟩
theorem divides_F {w : World} {va vb : Value} {la lb : List Nat} (hb : Nl w vb lb) (ha : Nl w va la) (hlb : lb.length ≤ 10000000) (hla : la.length ≤ 10000000) (h : val la % val lb ≠ 0) :
    Calls Try.prog 28 #[vb, va] w (Ret w fun r _ => r = .bool false) :=
  (divides_c hb ha hlb hla).mono fun e w' ⟨r, he, hx, hr⟩ => ⟨r, he, hx, by rw [hr, decide_eq_false h]⟩
theorem exact_T {w : World} {va vb : Value} {la lb : List Nat} (ha : Nl w va la) (hb : Nl w vb lb) (hla : la.length ≤ 10000000) (hlb : lb.length ≤ 10000000) (h0 : val lb ≠ 0) (h : val la % val lb = 0) :
    Calls Try.prog 25 #[va, vb] w (Ret w fun r w' => ∃ q, r = .tuple #[q, .bool true] ∧ No w.heap.size 27 w' q (dig (val la / val lb))) :=
  (exact_c ha hb hla hlb).mono fun e w' ⟨r, he, hx, q, hr, hq⟩ => ⟨r, he, hx, q, by rw [hr, exb_yes h0 h], by rw [exq_yes h0 h] at hq; exact hq⟩
theorem awake3_c {w : World} :
    Calls Try.prog 13 #[] w (Ret w fun r _ => r = .bool true) := by
  refine enter (args := []) Try.func13 rfl Try.ntmps13 rfl ?_
  refine WP_seq ?_
  refine WP_region ?_
  refine O_assign rfl rfl rfl ?_
  refine WL_end [] trivial ?_
  refine WP_seq ?_
  refine WP_region ?_
  refine O_call enters44 rfl rfl rfl (of_c 17 (by decide)) (fun v1 w1 e1 h1 => ?_)
  have z1 := e1.size
  try simp only [val_dig] at h1
  have hl17 : (dig 17).length ≤ 1 := dig_len_of_lt (by decide)
  refine O_call enters44 rfl rfl rfl (of_c 5 (by decide)) (fun v2 w2 e2 h2 => ?_)
  have z2 := e2.size
  try simp only [val_dig] at h2
  have hl5 : (dig 5).length ≤ 1 := dig_len_of_lt (by decide)
  refine O_call enters43 rfl rfl rfl (divmod_t (h1.ext e2).nl h2.nl (by (try simp only [val_dig, List.length_take, List.length_nil, List.length_cons, List.length_append, List.length_replicate, List.length_set, List.length_map, List.length_drop]); omega) (by (try simp only [val_dig, List.length_take, List.length_nil, List.length_cons, List.length_append, List.length_replicate, List.length_set, List.length_map, List.length_drop]); omega) (by first | assumption | rfl | omega | (simp only [val_dig]; first | assumption | omega) | (simp only [val_dig, val]; decide) | (rw [val_dig]; decide))) (fun v3 w3 e3 h3 => ?_)
  have z3 := e3.size
  try simp only [val_dig] at h3
  obtain ⟨q3, r3, rfl, hq3, hr3⟩ := h3
  rw [show dig (17 / 5) = [3] from by rw [show 17 / 5 = 3 from rfl, dig_small (by decide) (by decide)]] at hq3
  rw [show dig (17 % 5) = [2] from by rw [show 17 % 5 = 2 from rfl, dig_small (by decide) (by decide)]] at hr3
  refine O_move rfl rfl rfl ?_
  refine O_extract rfl rfl rfl rfl ?_
  refine O_extract rfl rfl rfl rfl ?_
  refine O_extract rfl rfl rfl rfl ?_
  refine O_assign rfl rfl rfl ?_
  refine O_assign rfl rfl rfl ?_
  refine O_assign rfl rfl rfl ?_
  refine WL_end [(1, _), (2, _), (3, _)] ⟨rfl, rfl, rfl, trivial⟩ ?_
  refine WP_seq ?_
  refine WP_region ?_
  refine O_call enters44 rfl rfl rfl (of_c 17 (by decide)) (fun v4 w4 e4 h4 => ?_)
  have z4 := e4.size
  try simp only [val_dig] at h4
  refine O_call enters43 rfl rfl rfl (divmod_z h4.nl (Nl.nil _) (by (try simp only [val_dig, List.length_take, List.length_nil, List.length_cons, List.length_append, List.length_replicate, List.length_set, List.length_map, List.length_drop]); omega) (by (try simp only [val_dig, List.length_take, List.length_nil, List.length_cons, List.length_append, List.length_replicate, List.length_set, List.length_map, List.length_drop]); omega) (by first | assumption | rfl | omega | (simp only [val_dig]; first | assumption | omega) | (simp only [val_dig, val]; decide) | (rw [val_dig]; decide))) (fun v5 w5 e5 h5 => ?_)
  have z5 := e5.size
  try simp only [val_dig] at h5
  obtain ⟨q5, r5, rfl, hq5, hr5⟩ := h5
  refine O_move rfl rfl rfl ?_
  refine O_extract rfl rfl rfl rfl ?_
  refine O_extract rfl rfl rfl rfl ?_
  refine O_extract rfl rfl rfl rfl ?_
  refine O_assign rfl rfl rfl ?_
  refine O_assign rfl rfl rfl ?_
  refine O_assign rfl rfl rfl ?_
  refine WL_end [(1, _), (2, _), (3, _), (6, _)] ⟨rfl, rfl, rfl, rfl, trivial⟩ ?_
  refine WP_seq ?_
  refine WP_region ?_
  refine O_move rfl rfl rfl ?_
  refine N_lit T22 rfl rfl [3] (by simp [D]) rfl (by decide) rfl rfl (fun v6 w6 o6 e6 => ?_)
  have z6 := e6.size
  refine O_call enters23 rfl rfl rfl (rsame_c (((hq3.ext e4).ext e5).ext e6).nl o6.nl (by (try simp only [val_dig, List.length_take, List.length_nil, List.length_cons, List.length_append, List.length_replicate, List.length_set, List.length_map, List.length_drop]); omega) (by (try simp only [val_dig, List.length_take, List.length_nil, List.length_cons, List.length_append, List.length_replicate, List.length_set, List.length_map, List.length_drop]); omega) rfl) (fun v7 w7 e7 h7 => ?_)
  have z7 := e7.size
  obtain rfl := h7
  refine O_move rfl rfl rfl ?_
  refine O_move rfl rfl rfl ?_
  refine N_lit T22 rfl rfl [2] (by simp [D]) rfl (by decide) rfl rfl (fun v8 w8 o8 e8 => ?_)
  have z8 := e8.size
  refine O_call enters23 rfl rfl rfl (rsame_c (((((hr3.ext e4).ext e5).ext e6).ext e7).ext e8).nl o8.nl (by (try simp only [val_dig, List.length_take, List.length_nil, List.length_cons, List.length_append, List.length_replicate, List.length_set, List.length_map, List.length_drop]); omega) (by (try simp only [val_dig, List.length_take, List.length_nil, List.length_cons, List.length_append, List.length_replicate, List.length_set, List.length_map, List.length_drop]); omega) rfl) (fun v9 w9 e9 h9 => ?_)
  have z9 := e9.size
  obtain rfl := h9
  refine O_pickT rfl rfl rfl rfl ?_
  refine O_move rfl rfl rfl ?_
  refine O_move rfl rfl rfl ?_
  refine O_pickT rfl rfl rfl rfl ?_
  refine O_move rfl rfl rfl ?_
  refine O_move rfl rfl rfl ?_
  refine O_not rfl rfl rfl rfl ?_
  refine O_pickT rfl rfl rfl rfl ?_
  refine O_move rfl rfl rfl ?_
  refine O_call enters28 rfl rfl rfl (divides_T (Nl.nil _) (Nl.nil _) (by (try simp only [val_dig, List.length_take, List.length_nil, List.length_cons, List.length_append, List.length_replicate, List.length_set, List.length_map, List.length_drop]); omega) (by (try simp only [val_dig, List.length_take, List.length_nil, List.length_cons, List.length_append, List.length_replicate, List.length_set, List.length_map, List.length_drop]); omega) (by rfl)) (fun v10 w10 e10 h10 => ?_)
  have z10 := e10.size
  obtain rfl := h10
  refine O_pickT rfl rfl rfl rfl ?_
  refine O_move rfl rfl rfl ?_
  refine O_call enters44 rfl rfl rfl (of_c 5 (by decide)) (fun v11 w11 e11 h11 => ?_)
  have z11 := e11.size
  try simp only [val_dig] at h11
  refine O_call enters28 rfl rfl rfl (divides_F (Nl.nil _) h11.nl (by (try simp only [val_dig, List.length_take, List.length_nil, List.length_cons, List.length_append, List.length_replicate, List.length_set, List.length_map, List.length_drop]); omega) (by (try simp only [val_dig, List.length_take, List.length_nil, List.length_cons, List.length_append, List.length_replicate, List.length_set, List.length_map, List.length_drop]); omega) (by rw [val_dig]; decide)) (fun v12 w12 e12 h12 => ?_)
  have z12 := e12.size
  obtain rfl := h12
  refine O_not rfl rfl rfl rfl ?_
  refine O_pickT rfl rfl rfl rfl ?_
  refine O_assign rfl rfl rfl ?_
  refine WL_end [(0, _)] ⟨rfl, trivial⟩ ?_
  refine WP_ret ?_
  refine ret1 Try.results13 rfl ?_
  exact ⟨_, rfl, (((((((((((e1.trans e2).trans e3).trans e4).trans e5).trans e6).trans e7).trans e8).trans e9).trans e10).trans e11).trans e12), rfl⟩

theorem divided_z {w : World} {va vb : Value} {a b : Nat} (ha : Nl w va (dig a)) (hb : Nl w vb (dig b)) (hla : (dig a).length ≤ 10000) (hlb : (dig b).length ≤ 10000) (h0 : b = 0) :
    Calls Try.prog 15 #[va, vb] w (Ret w fun r _ => r = .bool true) := by
  refine enter (args := [va, vb]) Try.func15 rfl Try.ntmps15 rfl ?_
  refine WP_seq ?_
  refine WP_region ?_
  refine O_assign rfl rfl rfl ?_
  refine WL_end [(0, _), (1, _)] ⟨rfl, rfl, trivial⟩ ?_
  refine WP_seq ?_
  refine WP_region ?_
  refine O_move rfl rfl rfl ?_
  refine O_move rfl rfl rfl ?_
  refine O_call enters43 rfl rfl rfl (divmod_z ha hb (by (try simp only [val_dig, List.length_take, List.length_nil, List.length_cons, List.length_append, List.length_replicate, List.length_set, List.length_map, List.length_drop]); omega) (by (try simp only [val_dig, List.length_take, List.length_nil, List.length_cons, List.length_append, List.length_replicate, List.length_set, List.length_map, List.length_drop]); omega) (by first | assumption | rfl | omega | (simp only [val_dig]; first | assumption | omega) | (simp only [val_dig, val]; decide) | (rw [val_dig]; decide))) (fun v1 w1 e1 h1 => ?_)
  have z1 := e1.size
  try simp only [val_dig] at h1
  obtain ⟨q1, r1, rfl, hq1, hr1⟩ := h1
  refine O_move rfl rfl rfl ?_
  refine O_extract rfl rfl rfl rfl ?_
  refine O_extract rfl rfl rfl rfl ?_
  refine O_extract rfl rfl rfl rfl ?_
  refine O_assign rfl rfl rfl ?_
  refine O_assign rfl rfl rfl ?_
  refine O_assign rfl rfl rfl ?_
  refine WL_end [(0, _), (1, _), (5, _), (6, _), (7, _)] ⟨rfl, rfl, rfl, rfl, rfl, trivial⟩ ?_
  refine WP_seq ?_
  refine WP_seq ?_
  refine WP_region ?_
  refine O_move rfl rfl rfl ?_
  refine N_len T22 rfl rfl rfl (hb.ext e1) ?_
  refine O_eql (t := true) rfl rfl rfl rfl (decide_eq_true (by rw [h0, dig_zero]; rfl)) ?_
  refine WL_end [(0, _), (1, _), (5, _), (6, _), (7, _), (17, _)] ⟨rfl, rfl, rfl, rfl, rfl, rfl, trivial⟩ ?_
  refine WP_condT rfl ?_
  refine WP_seq ?_
  refine WP_region ?_
  refine O_move rfl rfl rfl ?_
  refine O_not rfl rfl rfl rfl ?_
  refine O_move rfl rfl rfl ?_
  refine O_move rfl rfl rfl ?_
  refine N_len T22 rfl rfl rfl hq1.nl ?_
  refine O_eql (t := true) rfl rfl rfl rfl (decide_eq_true (by simp)) ?_
  refine O_pickT rfl rfl rfl rfl ?_
  refine O_move rfl rfl rfl ?_
  refine O_move rfl rfl rfl ?_
  refine N_len T22 rfl rfl rfl hr1.nl ?_
  refine O_eql (t := true) rfl rfl rfl rfl (decide_eq_true (by simp)) ?_
  refine O_pickT rfl rfl rfl rfl ?_
  refine O_assign rfl rfl rfl ?_
  refine WL_end [(4, _)] ⟨rfl, trivial⟩ ?_
  refine WP_ret ?_
  refine ret1 Try.results15 rfl ?_
  exact ⟨_, rfl, e1, rfl⟩

theorem divided_t {w : World} {va vb : Value} {a b : Nat} (ha : Nl w va (dig a)) (hb : Nl w vb (dig b)) (hla : (dig a).length ≤ 10000) (hlb : (dig b).length ≤ 10000) (h0 : b ≠ 0) :
    Calls Try.prog 15 #[va, vb] w (Ret w fun r _ => r = .bool true) := by
  refine enter (args := [va, vb]) Try.func15 rfl Try.ntmps15 rfl ?_
  refine WP_seq ?_
  refine WP_region ?_
  refine O_assign rfl rfl rfl ?_
  refine WL_end [(0, _), (1, _)] ⟨rfl, rfl, trivial⟩ ?_
  refine WP_seq ?_
  refine WP_region ?_
  refine O_move rfl rfl rfl ?_
  refine O_move rfl rfl rfl ?_
  refine O_call enters43 rfl rfl rfl (divmod_t ha hb (by (try simp only [val_dig, List.length_take, List.length_nil, List.length_cons, List.length_append, List.length_replicate, List.length_set, List.length_map, List.length_drop]); omega) (by (try simp only [val_dig, List.length_take, List.length_nil, List.length_cons, List.length_append, List.length_replicate, List.length_set, List.length_map, List.length_drop]); omega) (by first | assumption | rfl | omega | (simp only [val_dig]; first | assumption | omega) | (simp only [val_dig, val]; decide) | (rw [val_dig]; decide))) (fun v1 w1 e1 h1 => ?_)
  have z1 := e1.size
  try simp only [val_dig] at h1
  obtain ⟨q1, r1, rfl, hq1, hr1⟩ := h1
  refine O_move rfl rfl rfl ?_
  refine O_extract rfl rfl rfl rfl ?_
  refine O_extract rfl rfl rfl rfl ?_
  refine O_extract rfl rfl rfl rfl ?_
  refine O_assign rfl rfl rfl ?_
  refine O_assign rfl rfl rfl ?_
  refine O_assign rfl rfl rfl ?_
  refine WL_end [(0, _), (1, _), (5, _), (6, _), (7, _)] ⟨rfl, rfl, rfl, rfl, rfl, trivial⟩ ?_
  refine WP_seq ?_
  refine WP_seq ?_
  refine WP_region ?_
  refine O_move rfl rfl rfl ?_
  refine N_len T22 rfl rfl rfl (hb.ext e1) ?_
  refine O_eql (t := false) rfl rfl rfl rfl (decide_eq_false (by intro e; exact h0 (dig_len_zero.1 (by omega)))) ?_
  refine WL_end [(0, _), (1, _), (5, _), (6, _), (7, _), (17, _)] ⟨rfl, rfl, rfl, rfl, rfl, rfl, trivial⟩ ?_
  refine WP_condF rfl ?_
  refine WP_skip ?_
  refine WP_seq ?_
  refine WP_region ?_
  refine O_move rfl rfl rfl ?_
  refine O_move rfl rfl rfl ?_
  refine O_move rfl rfl rfl ?_
  refine O_call enters22 rfl rfl rfl (validT_c hq1.nl (by first | exact validv_dig _ | exact validv_nil)) (fun v2 w2 e2 h2 => ?_)
  have z2 := e2.size
  obtain rfl := h2
  refine O_pickT rfl rfl rfl rfl ?_
  refine O_move rfl rfl rfl ?_
  refine O_move rfl rfl rfl ?_
  refine O_call enters22 rfl rfl rfl (validT_c (hr1.ext e2).nl (by first | exact validv_dig _ | exact validv_nil)) (fun v3 w3 e3 h3 => ?_)
  have z3 := e3.size
  obtain rfl := h3
  refine O_pickT rfl rfl rfl rfl ?_
  refine O_move rfl rfl rfl ?_
  refine O_move rfl rfl rfl ?_
  refine O_move rfl rfl rfl ?_
  have d1 := dig_len_mono (Nat.div_le_self a b)
  have d2 := dig_len_mono (Nat.mod_le a b)
  have d3 := dig_len_mul (a / b) b
  have d4 := dig_len_add (a / b * b) (a % b)
  refine O_call enters46 rfl rfl rfl (rcmp_c ((hr1.ext e2).ext e3).nl (hb.ext ((e1.trans e2).trans e3)) (by (try simp only [val_dig, List.length_take, List.length_nil, List.length_cons, List.length_append, List.length_replicate, List.length_set, List.length_map, List.length_drop]); omega) (by (try simp only [val_dig, List.length_take, List.length_nil, List.length_cons, List.length_append, List.length_replicate, List.length_set, List.length_map, List.length_drop]); omega)) (fun v4 w4 e4 h4 => ?_)
  have z4 := e4.size
  obtain rfl := h4
  refine O_lss (t := true) rfl rfl rfl rfl (decide_eq_true (by simp only [val_dig]; exact cmpv_lt_zero.2 (Nat.mod_lt _ (by omega)))) ?_
  refine O_pickT rfl rfl rfl rfl ?_
  refine O_move rfl rfl rfl ?_
  refine O_move rfl rfl rfl ?_
  refine O_move rfl rfl rfl ?_
  refine O_call enters16 rfl rfl rfl (rmul_c (((hq1.ext e2).ext e3).ext e4).nl (hb.ext (((e1.trans e2).trans e3).trans e4)) (by (try simp only [val_dig, List.length_take, List.length_nil, List.length_cons, List.length_append, List.length_replicate, List.length_set, List.length_map, List.length_drop]); omega) (by (try simp only [val_dig, List.length_take, List.length_nil, List.length_cons, List.length_append, List.length_replicate, List.length_set, List.length_map, List.length_drop]); omega)) (fun v5 w5 e5 h5 => ?_)
  have z5 := e5.size
  try simp only [val_dig] at h5
  refine O_move rfl rfl rfl ?_
  refine O_call enters19 rfl rfl rfl (radd_c h5.nl ((((hr1.ext e2).ext e3).ext e4).ext e5).nl (by (try simp only [val_dig, List.length_take, List.length_nil, List.length_cons, List.length_append, List.length_replicate, List.length_set, List.length_map, List.length_drop]); omega) (by (try simp only [val_dig, List.length_take, List.length_nil, List.length_cons, List.length_append, List.length_replicate, List.length_set, List.length_map, List.length_drop]); omega)) (fun v6 w6 e6 h6 => ?_)
  have z6 := e6.size
  try simp only [val_dig] at h6
  refine O_move rfl rfl rfl ?_
  refine O_call enters23 rfl rfl rfl (rsame_c h6.nl (ha.ext (((((e1.trans e2).trans e3).trans e4).trans e5).trans e6)) (by (try simp only [val_dig, List.length_take, List.length_nil, List.length_cons, List.length_append, List.length_replicate, List.length_set, List.length_map, List.length_drop]); omega) (by (try simp only [val_dig, List.length_take, List.length_nil, List.length_cons, List.length_append, List.length_replicate, List.length_set, List.length_map, List.length_drop]); omega) (by rw [Nat.mul_comm, Nat.div_add_mod])) (fun v7 w7 e7 h7 => ?_)
  have z7 := e7.size
  obtain rfl := h7
  refine O_pickT rfl rfl rfl rfl ?_
  refine O_assign rfl rfl rfl ?_
  refine WL_end [(4, _)] ⟨rfl, trivial⟩ ?_
  refine WP_ret ?_
  refine ret1 Try.results15 rfl ?_
  exact ⟨_, rfl, ((((((e1.trans e2).trans e3).trans e4).trans e5).trans e6).trans e7), rfl⟩

theorem divided_c {w : World} {va vb : Value} {a b : Nat} (ha : Nl w va (dig a)) (hb : Nl w vb (dig b)) (hla : (dig a).length ≤ 10000) (hlb : (dig b).length ≤ 10000) : Calls Try.prog 15 #[va, vb] w (Ret w fun r _ => r = .bool true) := by
  by_cases h0 : b = 0
  · exact divided_z ha hb hla hlb h0
  · exact divided_t ha hb hla hlb h0

theorem law_QuotientDivides {w : World} {va vb : Value} {la lb : List Nat} (ha : Nl w va la) (hb : Nl w vb lb) :
    Calls Try.prog 3 #[va, vb] w (Ret w fun r _ => r = .bool true) := by
  have dA := dig_len_le ha.d
  have dB := dig_len_le hb.d
  refine enter (args := [va, vb]) Try.func3 rfl Try.ntmps3 rfl ?_
  refine WP_seq ?_
  refine WP_region ?_
  refine O_assign rfl rfl rfl ?_
  refine WL_end [(0, _), (1, _)] ⟨rfl, rfl, trivial⟩ ?_
  refine WP_seq ?_
  refine WP_seq ?_
  refine WP_region ?_
  refine O_call enters13 rfl rfl rfl (awake3_c) (fun v1 w1 e1 h1 => ?_)
  have z1 := e1.size
  obtain rfl := h1
  refine O_not rfl rfl rfl rfl ?_
  refine WL_end [(0, _), (1, _), (10, _)] ⟨rfl, rfl, rfl, trivial⟩ ?_
  refine WP_condF rfl ?_
  refine WP_skip ?_
  refine WP_seq ?_
  refine WP_region ?_
  refine O_move rfl rfl rfl ?_
  refine O_call enters14 rfl rfl rfl (mnat_any (ha.ext e1) (by (try simp only [val_dig, List.length_take, List.length_nil, List.length_cons, List.length_append, List.length_replicate, List.length_set, List.length_map, List.length_drop]); omega)) (fun v2 w2 e2 h2 => ?_)
  have z2 := e2.size
  try simp only [val_dig] at h2
  obtain ⟨q2, rfl, hq2⟩ := h2
  refine O_move rfl rfl rfl ?_
  refine O_extract rfl rfl rfl rfl ?_
  refine O_extract rfl rfl rfl rfl ?_
  refine O_assign rfl rfl rfl ?_
  refine O_assign rfl rfl rfl ?_
  refine WL_end [(1, _), (5, _), (6, _)] ⟨rfl, rfl, rfl, trivial⟩ ?_
  refine WP_seq ?_
  refine WP_region ?_
  refine O_move rfl rfl rfl ?_
  refine O_call enters14 rfl rfl rfl (mnat_any (hb.ext (e1.trans e2)) (by (try simp only [val_dig, List.length_take, List.length_nil, List.length_cons, List.length_append, List.length_replicate, List.length_set, List.length_map, List.length_drop]); omega)) (fun v3 w3 e3 h3 => ?_)
  have z3 := e3.size
  try simp only [val_dig] at h3
  obtain ⟨q3, rfl, hq3⟩ := h3
  refine O_move rfl rfl rfl ?_
  refine O_extract rfl rfl rfl rfl ?_
  refine O_extract rfl rfl rfl rfl ?_
  refine O_assign rfl rfl rfl ?_
  refine O_assign rfl rfl rfl ?_
  refine WL_end [(5, _), (6, _), (7, _), (8, _)] ⟨rfl, rfl, rfl, rfl, trivial⟩ ?_
  refine WP_seq ?_
  refine WP_region ?_
  refine O_move rfl rfl rfl ?_
  refine O_not rfl rfl rfl (decide_not).symm ?_
  refine O_move rfl rfl rfl ?_
  refine WL_ndec 23 rfl (fun g23 => ?_) (fun g23 => ?_)
  · --
    refine O_skip rfl rfl ?_
    refine O_skip rfl rfl ?_
    refine O_pickT rfl rfl rfl rfl ?_
    refine O_move rfl rfl rfl ?_
    refine O_skip rfl rfl ?_
    refine O_skip rfl rfl ?_
    refine O_skip rfl rfl ?_
    refine O_pickT rfl rfl rfl rfl ?_
    refine O_assign rfl rfl rfl ?_
    refine WL_end [(4, _)] ⟨rfl, trivial⟩ ?_
    refine WP_ret ?_
    refine ret1 Try.results3 rfl ?_
    exact ⟨_, rfl, ((e1.trans e2).trans e3), rfl⟩
  · --
    refine O_move rfl rfl rfl ?_
    refine O_not rfl rfl rfl (decide_not).symm ?_
    refine O_pickF rfl rfl rfl rfl ?_
    refine O_move rfl rfl rfl ?_
    refine WL_ndec 27 rfl (fun g27 => ?_) (fun g27 => ?_)
    · --
      refine O_skip rfl rfl ?_
      refine O_skip rfl rfl ?_
      refine O_skip rfl rfl ?_
      refine O_pickT rfl rfl rfl rfl ?_
      refine O_assign rfl rfl rfl ?_
      refine WL_end [(4, _)] ⟨rfl, trivial⟩ ?_
      refine WP_ret ?_
      refine ret1 Try.results3 rfl ?_
      exact ⟨_, rfl, ((e1.trans e2).trans e3), rfl⟩
    · --
      refine O_move rfl rfl rfl ?_
      refine O_move rfl rfl rfl ?_
      refine O_call enters15 rfl rfl rfl (divided_c ((hq2 (by omega)).ext e3).nl (hq3 (by omega)).nl (by (try simp only [val_dig, List.length_take, List.length_nil, List.length_cons, List.length_append, List.length_replicate, List.length_set, List.length_map, List.length_drop]); omega) (by (try simp only [val_dig, List.length_take, List.length_nil, List.length_cons, List.length_append, List.length_replicate, List.length_set, List.length_map, List.length_drop]); omega)) (fun v4 w4 e4 h4 => ?_)
      have z4 := e4.size
      obtain rfl := h4
      refine O_pickF rfl rfl rfl rfl ?_
      refine O_assign rfl rfl rfl ?_
      refine WL_end [(4, _)] ⟨rfl, trivial⟩ ?_
      refine WP_ret ?_
      refine ret1 Try.results3 rfl ?_
      exact ⟨_, rfl, (((e1.trans e2).trans e3).trans e4), rfl⟩

theorem law_qs_z {w : World} {va : Value} {la : List Nat} (ha : Nl w va la) :
    Calls Try.prog 5 #[va, .int .u32 0] w (Ret w fun r _ => r = .bool true) := by
  have dA := dig_len_le ha.d
  refine enter (args := [va, _]) Try.func5 rfl Try.ntmps5 rfl ?_
  refine WP_seq ?_
  refine WP_region ?_
  refine O_assign rfl rfl rfl ?_
  refine WL_end [(0, _), (1, _)] ⟨rfl, rfl, trivial⟩ ?_
  refine WP_seq ?_
  refine WP_seq ?_
  refine WP_region ?_
  refine O_call enters13 rfl rfl rfl (awake3_c) (fun v1 w1 e1 h1 => ?_)
  have z1 := e1.size
  obtain rfl := h1
  refine O_not rfl rfl rfl rfl ?_
  refine WL_end [(0, _), (1, _), (11, _)] ⟨rfl, rfl, rfl, trivial⟩ ?_
  refine WP_condF rfl ?_
  refine WP_skip ?_
  refine WP_seq ?_
  refine WP_region ?_
  refine O_move rfl rfl rfl ?_
  refine O_call enters14 rfl rfl rfl (mnat_any (ha.ext e1) (by (try simp only [val_dig, List.length_take, List.length_nil, List.length_cons, List.length_append, List.length_replicate, List.length_set, List.length_map, List.length_drop]); omega)) (fun v2 w2 e2 h2 => ?_)
  have z2 := e2.size
  try simp only [val_dig] at h2
  obtain ⟨q2, rfl, hq2⟩ := h2
  refine O_move rfl rfl rfl ?_
  refine O_extract rfl rfl rfl rfl ?_
  refine O_extract rfl rfl rfl rfl ?_
  refine O_assign rfl rfl rfl ?_
  refine O_assign rfl rfl rfl ?_
  refine WL_end [(1, _), (5, _), (6, _)] ⟨rfl, rfl, rfl, trivial⟩ ?_
  refine WP_seq ?_
  refine WP_seq ?_
  refine WP_region ?_
  refine O_move rfl rfl rfl ?_
  refine O_not rfl rfl rfl (decide_not).symm ?_
  refine WL_end [(1, _), (5, _), (18, _)] ⟨rfl, rfl, rfl, trivial⟩ ?_
  refine WP_condN rfl (fun c18 => ?_) (fun c18 => ?_)
  · --
    refine WP_seq ?_
    refine WP_region ?_
    refine O_assign rfl rfl rfl ?_
    refine WL_end [(4, _)] ⟨rfl, trivial⟩ ?_
    refine WP_ret ?_
    refine ret1 Try.results5 rfl ?_
    exact ⟨_, rfl, (e1.trans e2), rfl⟩
  · --
    refine WP_skip ?_
    refine WP_seq ?_
    refine WP_region ?_
    refine O_move rfl rfl rfl ?_
    refine O_move rfl rfl rfl ?_
    refine O_call enters21 rfl rfl rfl (qsmall_z) (fun v3 w3 e3 h3 => ?_)
    have z3 := e3.size
    try simp only [val_dig] at h3
    obtain rfl := h3
    refine O_move rfl rfl rfl ?_
    refine O_extract rfl rfl rfl rfl ?_
    refine O_extract rfl rfl rfl rfl ?_
    refine O_extract rfl rfl rfl rfl ?_
    refine O_assign rfl rfl rfl ?_
    refine O_assign rfl rfl rfl ?_
    refine O_assign rfl rfl rfl ?_
    refine WL_end [(1, _), (5, _), (7, _), (8, _), (9, _)] ⟨rfl, rfl, rfl, rfl, rfl, trivial⟩ ?_
    refine WP_seq ?_
    refine WP_seq ?_
    refine WP_region ?_
    refine O_move rfl rfl rfl ?_
    refine O_eql (t := true) rfl rfl rfl rfl (decide_eq_true rfl) ?_
    refine WL_end [(1, _), (5, _), (7, _), (8, _), (9, _), (27, _)] ⟨rfl, rfl, rfl, rfl, rfl, rfl, trivial⟩ ?_
    refine WP_condT rfl ?_
    refine WP_seq ?_
    refine WP_region ?_
    refine O_move rfl rfl rfl ?_
    refine O_not rfl rfl rfl rfl ?_
    refine O_move rfl rfl rfl ?_
    refine O_move rfl rfl rfl ?_
    refine N_len T22 rfl rfl rfl (Nl.nil _) ?_
    refine O_eql (t := true) rfl rfl rfl rfl (decide_eq_true rfl) ?_
    refine O_pickT rfl rfl rfl rfl ?_
    refine O_move rfl rfl rfl ?_
    refine O_move rfl rfl rfl ?_
    refine O_eql (t := true) rfl rfl rfl rfl (decide_eq_true rfl) ?_
    refine O_pickT rfl rfl rfl rfl ?_
    refine O_assign rfl rfl rfl ?_
    refine WL_end [(4, _)] ⟨rfl, trivial⟩ ?_
    refine WP_ret ?_
    refine ret1 Try.results5 rfl ?_
    exact ⟨_, rfl, ((e1.trans e2).trans e3), rfl⟩

theorem law_qs_t {w : World} {va : Value} {la : List Nat} {d : Nat} (ha : Nl w va la) (hd : d < 4294967296) (h0 : d ≠ 0) :
    Calls Try.prog 5 #[va, .int .u32 (d : Nat)] w (Ret w fun r _ => r = .bool true) := by
  have dA := dig_len_le ha.d
  refine enter (args := [va, _]) Try.func5 rfl Try.ntmps5 rfl ?_
  refine WP_seq ?_
  refine WP_region ?_
  refine O_assign rfl rfl rfl ?_
  refine WL_end [(0, _), (1, _)] ⟨rfl, rfl, trivial⟩ ?_
  refine WP_seq ?_
  refine WP_seq ?_
  refine WP_region ?_
  refine O_call enters13 rfl rfl rfl (awake3_c) (fun v1 w1 e1 h1 => ?_)
  have z1 := e1.size
  obtain rfl := h1
  refine O_not rfl rfl rfl rfl ?_
  refine WL_end [(0, _), (1, _), (11, _)] ⟨rfl, rfl, rfl, trivial⟩ ?_
  refine WP_condF rfl ?_
  refine WP_skip ?_
  refine WP_seq ?_
  refine WP_region ?_
  refine O_move rfl rfl rfl ?_
  refine O_call enters14 rfl rfl rfl (mnat_any (ha.ext e1) (by (try simp only [val_dig, List.length_take, List.length_nil, List.length_cons, List.length_append, List.length_replicate, List.length_set, List.length_map, List.length_drop]); omega)) (fun v2 w2 e2 h2 => ?_)
  have z2 := e2.size
  try simp only [val_dig] at h2
  obtain ⟨q2, rfl, hq2⟩ := h2
  refine O_move rfl rfl rfl ?_
  refine O_extract rfl rfl rfl rfl ?_
  refine O_extract rfl rfl rfl rfl ?_
  refine O_assign rfl rfl rfl ?_
  refine O_assign rfl rfl rfl ?_
  refine WL_end [(1, _), (5, _), (6, _)] ⟨rfl, rfl, rfl, trivial⟩ ?_
  refine WP_seq ?_
  refine WP_seq ?_
  refine WP_region ?_
  refine O_move rfl rfl rfl ?_
  refine O_not rfl rfl rfl (decide_not).symm ?_
  refine WL_end [(1, _), (5, _), (18, _)] ⟨rfl, rfl, rfl, trivial⟩ ?_
  refine WP_condN rfl (fun c18 => ?_) (fun c18 => ?_)
  · --
    refine WP_seq ?_
    refine WP_region ?_
    refine O_assign rfl rfl rfl ?_
    refine WL_end [(4, _)] ⟨rfl, trivial⟩ ?_
    refine WP_ret ?_
    refine ret1 Try.results5 rfl ?_
    exact ⟨_, rfl, (e1.trans e2), rfl⟩
  · --
    refine WP_skip ?_
    refine WP_seq ?_
    refine WP_region ?_
    refine O_move rfl rfl rfl ?_
    refine O_move rfl rfl rfl ?_
    have hmr := Nat.mod_lt (val la) (Nat.pos_of_ne_zero h0)
    have d1 := dig_len_mono (Nat.div_le_self (val la) d)
    have d2 := dig_len_mul (val la / d) d
    have d3 := dig_len_add (val la / d * d) (val la % d)
    have d4 : (dig d).length ≤ 1 := dig_len_of_lt (by rw [Nat.pow_one]; exact hd)
    have d5 := dig_len_mono (Nat.mod_le (val la) d)
    refine O_call enters21 rfl rfl rfl (qsmall_c (hq2 (by omega)).nl (by (try simp only [val_dig, List.length_take, List.length_nil, List.length_cons, List.length_append, List.length_replicate, List.length_set, List.length_map, List.length_drop]); omega) h0 hd) (fun v3 w3 e3 h3 => ?_)
    have z3 := e3.size
    try simp only [val_dig] at h3
    obtain ⟨q3, rfl, hq3⟩ := h3
    refine O_move rfl rfl rfl ?_
    refine O_extract rfl rfl rfl rfl ?_
    refine O_extract rfl rfl rfl rfl ?_
    refine O_extract rfl rfl rfl rfl ?_
    refine O_assign rfl rfl rfl ?_
    refine O_assign rfl rfl rfl ?_
    refine O_assign rfl rfl rfl ?_
    refine WL_end [(1, _), (5, _), (7, _), (8, _), (9, _)] ⟨rfl, rfl, rfl, rfl, rfl, trivial⟩ ?_
    refine WP_seq ?_
    refine WP_seq ?_
    refine WP_region ?_
    refine O_move rfl rfl rfl ?_
    refine O_eql (t := false) rfl rfl rfl rfl (decide_eq_false (by omega)) ?_
    refine WL_end [(1, _), (5, _), (7, _), (8, _), (9, _), (27, _)] ⟨rfl, rfl, rfl, rfl, rfl, rfl, trivial⟩ ?_
    refine WP_condF rfl ?_
    refine WP_skip ?_
    refine WP_seq ?_
    refine WP_region ?_
    refine O_move rfl rfl rfl ?_
    refine O_move rfl rfl rfl ?_
    refine O_move rfl rfl rfl ?_
    refine O_move rfl rfl rfl ?_
    refine O_lss (t := true) rfl rfl rfl rfl (decide_eq_true (by omega)) ?_
    refine O_pickT rfl rfl rfl rfl ?_
    refine O_move rfl rfl rfl ?_
    refine O_move rfl rfl rfl ?_
    refine O_call enters22 rfl rfl rfl (validT_c hq3.nl (by first | exact validv_dig _ | exact validv_nil)) (fun v4 w4 e4 h4 => ?_)
    have z4 := e4.size
    obtain rfl := h4
    refine O_pickT rfl rfl rfl rfl ?_
    refine O_move rfl rfl rfl ?_
    refine O_move rfl rfl rfl ?_
    refine O_move rfl rfl rfl ?_
    refine O_move rfl rfl rfl ?_
    refine O_call enters24 rfl rfl rfl (rsmall_c (hq3.ext e4).nl (by (try simp only [val_dig, List.length_take, List.length_nil, List.length_cons, List.length_append, List.length_replicate, List.length_set, List.length_map, List.length_drop]); omega) (by (try simp only [val_dig, List.length_take, List.length_nil, List.length_cons, List.length_append, List.length_replicate, List.length_set, List.length_map, List.length_drop]); omega) (by (try simp only [val_dig, List.length_take, List.length_nil, List.length_cons, List.length_append, List.length_replicate, List.length_set, List.length_map, List.length_drop]); omega)) (fun v5 w5 e5 h5 => ?_)
    have z5 := e5.size
    try simp only [val_dig] at h5
    refine O_move rfl rfl rfl ?_
    refine O_call enters23 rfl rfl rfl (rsame_c h5.nl ((((hq2 (by omega)).ext e3).ext e4).ext e5).nl (by (try simp only [val_dig, List.length_take, List.length_nil, List.length_cons, List.length_append, List.length_replicate, List.length_set, List.length_map, List.length_drop]); omega) (by (try simp only [val_dig, List.length_take, List.length_nil, List.length_cons, List.length_append, List.length_replicate, List.length_set, List.length_map, List.length_drop]); omega) (by rw [Nat.mul_comm, Nat.div_add_mod])) (fun v6 w6 e6 h6 => ?_)
    have z6 := e6.size
    obtain rfl := h6
    refine O_pickT rfl rfl rfl rfl ?_
    refine O_assign rfl rfl rfl ?_
    refine WL_end [(4, _)] ⟨rfl, trivial⟩ ?_
    refine WP_ret ?_
    refine ret1 Try.results5 rfl ?_
    exact ⟨_, rfl, (((((e1.trans e2).trans e3).trans e4).trans e5).trans e6), rfl⟩

theorem law_QuotientSmall {w : World} {va : Value} {la : List Nat} {di : Int} (ha : Nl w va la) (hd : 0 ≤ di ∧ di < 4294967296) : Calls Try.prog 5 #[va, .int .u32 di] w (Ret w fun r _ => r = .bool true) := by
  obtain ⟨d, rfl⟩ := Int.eq_ofNat_of_zero_le hd.1
  by_cases h0 : d = 0
  · subst h0; exact law_qs_z ha
  · exact law_qs_t ha (by omega) h0

theorem law_QuotientPowmod {w : World} {va vb vc : Value} {la lb lc : List Nat} (ha : Nl w va la) (hb : Nl w vb lb) (hc : Nl w vc lc) :
    Calls Try.prog 7 #[va, vb, vc] w (Ret w fun r _ => r = .bool true) := by
  have dA := dig_len_le ha.d
  have dB := dig_len_le hb.d
  have dC := dig_len_le hc.d
  have dP := dig_len_mono (pm_le (val la) (val lb) (val lc))
  refine enter (args := [va, vb, vc]) Try.func7 rfl Try.ntmps7 rfl ?_
  refine WP_seq ?_
  refine WP_region ?_
  refine O_assign rfl rfl rfl ?_
  refine WL_end [(0, _), (1, _), (2, _)] ⟨rfl, rfl, rfl, trivial⟩ ?_
  refine WP_seq ?_
  refine WP_seq ?_
  refine WP_region ?_
  refine O_call enters13 rfl rfl rfl (awake3_c) (fun v1 w1 e1 h1 => ?_)
  have z1 := e1.size
  obtain rfl := h1
  refine O_not rfl rfl rfl rfl ?_
  refine WL_end [(0, _), (1, _), (2, _), (18, _)] ⟨rfl, rfl, rfl, rfl, trivial⟩ ?_
  refine WP_condF rfl ?_
  refine WP_skip ?_
  refine WP_seq ?_
  refine WP_region ?_
  refine O_move rfl rfl rfl ?_
  refine O_call enters14 rfl rfl rfl (mnat_any (ha.ext e1) (by (try simp only [val_dig, List.length_take, List.length_nil, List.length_cons, List.length_append, List.length_replicate, List.length_set, List.length_map, List.length_drop]); omega)) (fun v2 w2 e2 h2 => ?_)
  have z2 := e2.size
  try simp only [val_dig] at h2
  obtain ⟨q2, rfl, hq2⟩ := h2
  refine O_move rfl rfl rfl ?_
  refine O_extract rfl rfl rfl rfl ?_
  refine O_extract rfl rfl rfl rfl ?_
  refine O_assign rfl rfl rfl ?_
  refine O_assign rfl rfl rfl ?_
  refine WL_end [(1, _), (2, _), (7, _), (8, _)] ⟨rfl, rfl, rfl, rfl, trivial⟩ ?_
  refine WP_seq ?_
  refine WP_region ?_
  refine O_move rfl rfl rfl ?_
  refine O_call enters14 rfl rfl rfl (mnat_any (hb.ext (e1.trans e2)) (by (try simp only [val_dig, List.length_take, List.length_nil, List.length_cons, List.length_append, List.length_replicate, List.length_set, List.length_map, List.length_drop]); omega)) (fun v3 w3 e3 h3 => ?_)
  have z3 := e3.size
  try simp only [val_dig] at h3
  obtain ⟨q3, rfl, hq3⟩ := h3
  refine O_move rfl rfl rfl ?_
  refine O_extract rfl rfl rfl rfl ?_
  refine O_extract rfl rfl rfl rfl ?_
  refine O_assign rfl rfl rfl ?_
  refine O_assign rfl rfl rfl ?_
  refine WL_end [(2, _), (7, _), (8, _), (9, _), (10, _)] ⟨rfl, rfl, rfl, rfl, rfl, trivial⟩ ?_
  refine WP_seq ?_
  refine WP_region ?_
  refine O_move rfl rfl rfl ?_
  refine O_call enters14 rfl rfl rfl (mnat_any (hc.ext ((e1.trans e2).trans e3)) (by (try simp only [val_dig, List.length_take, List.length_nil, List.length_cons, List.length_append, List.length_replicate, List.length_set, List.length_map, List.length_drop]); omega)) (fun v4 w4 e4 h4 => ?_)
  have z4 := e4.size
  try simp only [val_dig] at h4
  obtain ⟨q4, rfl, hq4⟩ := h4
  refine O_move rfl rfl rfl ?_
  refine O_extract rfl rfl rfl rfl ?_
  refine O_extract rfl rfl rfl rfl ?_
  refine O_assign rfl rfl rfl ?_
  refine O_assign rfl rfl rfl ?_
  refine WL_end [(7, _), (8, _), (9, _), (10, _), (11, _), (12, _)] ⟨rfl, rfl, rfl, rfl, rfl, rfl, trivial⟩ ?_
  refine WP_seq ?_
  refine WP_seq ?_
  refine WP_region ?_
  refine O_move rfl rfl rfl ?_
  refine O_not rfl rfl rfl (decide_not).symm ?_
  refine O_move rfl rfl rfl ?_
  refine WL_ndec 36 rfl (fun g36 => ?_) (fun g36 => ?_)
  · --
    refine O_skip rfl rfl ?_
    refine O_skip rfl rfl ?_
    refine O_pickT rfl rfl rfl rfl ?_
    refine O_move rfl rfl rfl ?_
    refine O_skip rfl rfl ?_
    refine O_skip rfl rfl ?_
    refine O_pickT rfl rfl rfl rfl ?_
    refine WL_end [(7, _), (9, _), (11, _), (43, _)] ⟨rfl, rfl, rfl, rfl, trivial⟩ ?_
    refine WP_condT rfl ?_
    refine WP_seq ?_
    refine WP_region ?_
    refine O_assign rfl rfl rfl ?_
    refine WL_end [(6, _)] ⟨rfl, trivial⟩ ?_
    refine WP_ret ?_
    refine ret1 Try.results7 rfl ?_
    exact ⟨_, rfl, (((e1.trans e2).trans e3).trans e4), rfl⟩
  · --
    refine O_move rfl rfl rfl ?_
    refine O_not rfl rfl rfl (decide_not).symm ?_
    refine O_pickF rfl rfl rfl rfl ?_
    refine O_move rfl rfl rfl ?_
    refine WL_ndec 40 rfl (fun g40 => ?_) (fun g40 => ?_)
    · --
      refine O_skip rfl rfl ?_
      refine O_skip rfl rfl ?_
      refine O_pickT rfl rfl rfl rfl ?_
      refine WL_end [(7, _), (9, _), (11, _), (43, _)] ⟨rfl, rfl, rfl, rfl, trivial⟩ ?_
      refine WP_condT rfl ?_
      refine WP_seq ?_
      refine WP_region ?_
      refine O_assign rfl rfl rfl ?_
      refine WL_end [(6, _)] ⟨rfl, trivial⟩ ?_
      refine WP_ret ?_
      refine ret1 Try.results7 rfl ?_
      exact ⟨_, rfl, (((e1.trans e2).trans e3).trans e4), rfl⟩
    · --
      refine O_move rfl rfl rfl ?_
      refine O_not rfl rfl rfl (decide_not).symm ?_
      refine O_pickF rfl rfl rfl rfl ?_
      refine WL_end [(7, _), (9, _), (11, _), (43, _)] ⟨rfl, rfl, rfl, rfl, trivial⟩ ?_
      refine WP_condN rfl (fun c43 => ?_) (fun c43 => ?_)
      · --
        refine WP_seq ?_
        refine WP_region ?_
        refine O_assign rfl rfl rfl ?_
        refine WL_end [(6, _)] ⟨rfl, trivial⟩ ?_
        refine WP_ret ?_
        refine ret1 Try.results7 rfl ?_
        exact ⟨_, rfl, (((e1.trans e2).trans e3).trans e4), rfl⟩
      · --
        refine WP_skip ?_
        refine WP_seq ?_
        refine WP_region ?_
        refine O_move rfl rfl rfl ?_
        refine O_move rfl rfl rfl ?_
        refine O_move rfl rfl rfl ?_
        have dA := dig_len_le ha.d
        have dB := dig_len_le hb.d
        have dC := dig_len_le hc.d
        refine O_call enters30 rfl rfl rfl (powmod_c (((hq2 (by omega)).ext e3).ext e4).nl ((hq3 (by omega)).ext e4).nl (hq4 (by omega)).nl (by (try simp only [val_dig, List.length_take, List.length_nil, List.length_cons, List.length_append, List.length_replicate, List.length_set, List.length_map, List.length_drop]); omega) (by (try simp only [val_dig, List.length_take, List.length_nil, List.length_cons, List.length_append, List.length_replicate, List.length_set, List.length_map, List.length_drop]); omega) (by (try simp only [val_dig, List.length_take, List.length_nil, List.length_cons, List.length_append, List.length_replicate, List.length_set, List.length_map, List.length_drop]); omega)) (fun v5 w5 e5 h5 => ?_)
        have z5 := e5.size
        try simp only [val_dig] at h5
        obtain ⟨q5, rfl, hq5⟩ := h5
        refine O_move rfl rfl rfl ?_
        refine O_extract rfl rfl rfl rfl ?_
        refine O_extract rfl rfl rfl rfl ?_
        refine O_assign rfl rfl rfl ?_
        refine O_assign rfl rfl rfl ?_
        refine WL_end [(7, _), (9, _), (11, _), (13, _), (14, _)] ⟨rfl, rfl, rfl, rfl, rfl, trivial⟩ ?_
        refine WP_seq ?_
        refine WP_region ?_
        refine O_move rfl rfl rfl ?_
        refine O_move rfl rfl rfl ?_
        refine O_move rfl rfl rfl ?_
        refine O_call enters31 rfl rfl rfl (rpowmod_c ((((hq2 (by omega)).ext e3).ext e4).ext e5).nl (((hq3 (by omega)).ext e4).ext e5).nl ((hq4 (by omega)).ext e5).nl (by (try simp only [val_dig, List.length_take, List.length_nil, List.length_cons, List.length_append, List.length_replicate, List.length_set, List.length_map, List.length_drop]); omega) (by (try simp only [val_dig, List.length_take, List.length_nil, List.length_cons, List.length_append, List.length_replicate, List.length_set, List.length_map, List.length_drop]); omega) (by (try simp only [val_dig, List.length_take, List.length_nil, List.length_cons, List.length_append, List.length_replicate, List.length_set, List.length_map, List.length_drop]); omega)) (fun v6 w6 e6 h6 => ?_)
        have z6 := e6.size
        try simp only [val_dig] at h6
        obtain ⟨q6, rfl, hq6⟩ := h6
        refine O_move rfl rfl rfl ?_
        refine O_extract rfl rfl rfl rfl ?_
        refine O_extract rfl rfl rfl rfl ?_
        refine O_assign rfl rfl rfl ?_
        refine O_assign rfl rfl rfl ?_
        refine WL_end [(13, _), (14, _), (15, _), (16, _)] ⟨rfl, rfl, rfl, rfl, trivial⟩ ?_
        refine WP_seq ?_
        refine WP_region ?_
        refine O_move rfl rfl rfl ?_
        refine O_move rfl rfl rfl ?_
        refine O_beql Try.underlying4 (t := true) rfl rfl rfl rfl (beq_self_eq_true _) ?_
        refine O_move rfl rfl rfl ?_
        refine O_move rfl rfl rfl ?_
        refine O_move rfl rfl rfl ?_
        refine O_call enters23 rfl rfl rfl (rsame_c (hq5.ext e6).nl hq6.nl (by (try simp only [val_dig, List.length_take, List.length_nil, List.length_cons, List.length_append, List.length_replicate, List.length_set, List.length_map, List.length_drop]); omega) (by (try simp only [val_dig, List.length_take, List.length_nil, List.length_cons, List.length_append, List.length_replicate, List.length_set, List.length_map, List.length_drop]); omega) rfl) (fun v7 w7 e7 h7 => ?_)
        have z7 := e7.size
        obtain rfl := h7
        refine O_pickT rfl rfl rfl rfl ?_
        refine O_assign rfl rfl rfl ?_
        refine WL_end [(6, _)] ⟨rfl, trivial⟩ ?_
        refine WP_ret ?_
        refine ret1 Try.results7 rfl ?_
        exact ⟨_, rfl, ((((((e1.trans e2).trans e3).trans e4).trans e5).trans e6).trans e7), rfl⟩

theorem law_QuotientHard {w : World} {va vb : Value} {la lb : List Nat} {hi : Int} {less : Bool} (ha : Nl w va la) (hb : Nl w vb lb) (hh : 0 ≤ hi ∧ hi < 4294967296) :
    Calls Try.prog 4 #[va, vb, .int .u32 hi, .bool less] w (Ret w fun r _ => r = .bool true) := by
  have dA := dig_len_le ha.d
  have dB := dig_len_le hb.d
  obtain ⟨h, rfl⟩ := Int.eq_ofNat_of_zero_le hh.1
  obtain ⟨x, hx⟩ : ∃ x, x = [1, 2147483647, 2147483648, 4294967295].getD (h % 4) 0 := ⟨_, rfl⟩
  have hx1 : x ≠ 0 ∧ x < 4294967296 := by
    have h4 : h % 4 < 4 := Nat.mod_lt _ (by decide)
    generalize h % 4 = k at hx h4
    subst hx
    match k, h4 with
    | 0, _ => decide
    | 1, _ => decide
    | 2, _ => decide
    | 3, _ => decide
  obtain ⟨hx1, hx2⟩ := hx1
  refine enter (args := [va, vb, _, _]) Try.func4 rfl Try.ntmps4 rfl ?_
  refine WP_seq ?_
  refine WP_region ?_
  refine O_assign rfl rfl rfl ?_
  refine WL_end [(0, _), (1, _), (2, _), (3, _)] ⟨rfl, rfl, rfl, rfl, trivial⟩ ?_
  refine WP_seq ?_
  refine WP_seq ?_
  refine WP_region ?_
  refine O_call enters13 rfl rfl rfl (awake3_c) (fun v1 w1 e1 h1 => ?_)
  have z1 := e1.size
  obtain rfl := h1
  refine O_not rfl rfl rfl rfl ?_
  refine WL_end [(0, _), (1, _), (2, _), (3, _), (17, _)] ⟨rfl, rfl, rfl, rfl, rfl, trivial⟩ ?_
  refine WP_condF rfl ?_
  refine WP_skip ?_
  refine WP_seq ?_
  refine WP_region ?_
  refine O_move rfl rfl rfl ?_
  refine O_call enters14 rfl rfl rfl (mnat_any (ha.ext e1) (by (try simp only [val_dig, List.length_take, List.length_nil, List.length_cons, List.length_append, List.length_replicate, List.length_set, List.length_map, List.length_drop]); omega)) (fun v2 w2 e2 h2 => ?_)
  have z2 := e2.size
  try simp only [val_dig] at h2
  obtain ⟨q2, rfl, hq2⟩ := h2
  refine O_move rfl rfl rfl ?_
  refine O_extract rfl rfl rfl rfl ?_
  refine O_extract rfl rfl rfl rfl ?_
  refine O_assign rfl rfl rfl ?_
  refine O_assign rfl rfl rfl ?_
  refine WL_end [(1, _), (2, _), (3, _), (9, _), (10, _)] ⟨rfl, rfl, rfl, rfl, rfl, trivial⟩ ?_
  refine WP_seq ?_
  refine WP_region ?_
  refine O_move rfl rfl rfl ?_
  refine O_call enters14 rfl rfl rfl (mnat_any (hb.ext (e1.trans e2)) (by (try simp only [val_dig, List.length_take, List.length_nil, List.length_cons, List.length_append, List.length_replicate, List.length_set, List.length_map, List.length_drop]); omega)) (fun v3 w3 e3 h3 => ?_)
  have z3 := e3.size
  try simp only [val_dig] at h3
  obtain ⟨q3, rfl, hq3⟩ := h3
  refine O_move rfl rfl rfl ?_
  refine O_extract rfl rfl rfl rfl ?_
  refine O_extract rfl rfl rfl rfl ?_
  refine O_assign rfl rfl rfl ?_
  refine O_assign rfl rfl rfl ?_
  refine WL_end [(2, _), (3, _), (9, _), (10, _), (11, _), (12, _)] ⟨rfl, rfl, rfl, rfl, rfl, rfl, trivial⟩ ?_
  refine WP_seq ?_
  refine WP_seq ?_
  refine WP_region ?_
  refine O_move rfl rfl rfl ?_
  refine O_not rfl rfl rfl (decide_not).symm ?_
  refine O_move rfl rfl rfl ?_
  refine WL_ndec 30 rfl (fun g30 => ?_) (fun g30 => ?_)
  · --
    refine O_skip rfl rfl ?_
    refine O_skip rfl rfl ?_
    refine O_pickT rfl rfl rfl rfl ?_
    refine WL_end [(2, _), (3, _), (9, _), (11, _), (33, _)] ⟨rfl, rfl, rfl, rfl, rfl, trivial⟩ ?_
    refine WP_condT rfl ?_
    refine WP_seq ?_
    refine WP_region ?_
    refine O_assign rfl rfl rfl ?_
    refine WL_end [(8, _)] ⟨rfl, trivial⟩ ?_
    refine WP_ret ?_
    refine ret1 Try.results4 rfl ?_
    exact ⟨_, rfl, ((e1.trans e2).trans e3), rfl⟩
  · --
    refine O_move rfl rfl rfl ?_
    refine O_not rfl rfl rfl (decide_not).symm ?_
    refine O_pickF rfl rfl rfl rfl ?_
    refine WL_end [(2, _), (3, _), (9, _), (11, _), (33, _)] ⟨rfl, rfl, rfl, rfl, rfl, trivial⟩ ?_
    refine WP_condN rfl (fun c33 => ?_) (fun c33 => ?_)
    · --
      refine WP_seq ?_
      refine WP_region ?_
      refine O_assign rfl rfl rfl ?_
      refine WL_end [(8, _)] ⟨rfl, trivial⟩ ?_
      refine WP_ret ?_
      refine ret1 Try.results4 rfl ?_
      exact ⟨_, rfl, ((e1.trans e2).trans e3), rfl⟩
    · --
      refine WP_skip ?_
      refine WP_seq ?_
      refine WP_sub [(2, _), (3, _), (9, _), (11, _)] ⟨rfl, rfl, rfl, rfl, trivial⟩ ?_
      refine WP_anyR 9 [2, 3, 9, 11] mixed rfl (by kernel_rfl) ?_
      apply AnyR_rel (NoZ 27) [] rfl NoZ.mono (by kernel_rfl)
      · --
        intro y4 hy4
        have zy4 := hy4.size
        refine AllV_nil ?_
        refine N_litZ T22 rfl rfl (fun v9 w9 o9 hZ9 e9 => ?_)
        have z9 := e9.size
        exact WL_nil ⟨e9, _, rfl, ⟨o9, hZ9⟩⟩
      apply AnyR_val [11] rfl (by kernel_rfl)
      · --
        intro y5 hy5
        have zy5 := hy5.size
        refine AllV_nil ?_
        refine O_move rfl rfl rfl ?_
        exact WL_nil ⟨(Ext.refl _), rfl⟩
      apply AnyR_rel (NoB w3.heap.size 27 (dig (val lb))) [34, 35] rfl NoB.mono (by kernel_rfl)
      · --
        intro y6 hy6
        have zy6 := hy6.size
        refine AllV_r fun a7 b7 v7 la7 lb7 lc7 h7 ap7 => ?_
        clear ap7
        obtain ⟨h7, hZz⟩ := h7
        refine AllV_v ?_
        refine AllV_nil ?_
        refine N_append0 (B := w3.heap.size) T22 rfl (by decide) (by decide) rfl rfl rfl rfl (h7.mono (by omega)) hZz ((hq3 (by omega)).ext hy6).nl (by (try simp only [val_dig, List.length_take, List.length_nil, List.length_cons, List.length_append, List.length_replicate, List.length_set, List.length_map, List.length_drop]); omega) (by omega) (fun v8 w8 o8 e8 => ?_)
        have z8 := e8.size
        exact WL_nil ⟨e8, _, rfl, o8⟩
      apply AnyR_no [] rfl (by kernel_rfl)
      · --
        intro y8 hy8
        have zy8 := hy8.size
        refine AllV_nil ?_
        refine N_lit T22 rfl rfl [1, 2147483647, 2147483648, 4294967295] (by simp [D]) rfl (by decide) rfl rfl (fun v9 w9 o9 e9 => ?_)
        have z9 := e9.size
        exact WL_nil ⟨e9, _, rfl, NoR.mk' o9⟩
      apply AnyR_val [2] rfl (by kernel_rfl)
      · --
        intro y10 hy10
        have zy10 := hy10.size
        refine AllV_nil ?_
        refine O_move rfl rfl rfl ?_
        exact WL_nil ⟨(Ext.refl _), rfl⟩
      apply AnyR_val [38] rfl (by kernel_rfl)
      · --
        intro y11 hy11
        have zy11 := hy11.size
        refine AllV_v ?_
        refine AllV_nil ?_
        refine O_rem rfl rfl rfl rfl (by decide) (remN (m := 4)) ?_
        exact WL_nil ⟨(Ext.refl _), rfl⟩
      apply AnyR_rel (PtR _) [37, 39] rfl PtR.mono (by kernel_rfl)
      · --
        intro y12 hy12
        have zy12 := hy12.size
        refine AllV_r fun a13 b13 v13 la13 lb13 lc13 h13 ap13 => ?_
        clear ap13
        refine AllV_v ?_
        refine AllV_nil ?_
        refine N_index T22 rfl rfl rfl rfl h13.1.nl (h % 4) rfl (by simp; omega) ?_
        exact WL_nil ⟨(Ext.refl _), _, rfl, _, rfl, (h13.1.nl).cell (by simp; omega)⟩
      apply AnyR_val [40] rfl (by kernel_rfl)
      · --
        intro y14 hy14
        have zy14 := hy14.size
        refine AllV_r fun a15 b15 v15 la15 lb15 lc15 h15 ap15 => ?_
        clear ap15
        obtain ⟨p15, rfl, hc15⟩ := h15
        refine AllV_nil ?_
        refine O_load Try.underlying27 rfl rfl rfl rfl hc15 ?_
        rw [← hx]
        exact WL_nil ⟨(Ext.refl _), rfl⟩
      apply AnyR_no [41] rfl (by kernel_rfl)
      · --
        intro y16 hy16
        have zy16 := hy16.size
        refine AllV_v ?_
        refine AllV_nil ?_
        refine N_lit T22 rfl rfl [x] (D.cons hx2 D.nil) rfl (by decide) rfl rfl (fun v17 w17 o17 e17 => ?_)
        have z17 := e17.size
        exact WL_nil ⟨e17, _, rfl, NoR.mk' o17⟩
      refine AnyR_nil fun y18 hy18 => ?_
      have zy18 := hy18.size
      refine AllV_r fun a19 b19 v19 la19 lb19 lc19 h19 ap19 => ?_
      clear ap19
      obtain ⟨h19, hZz⟩ := h19
      refine AllV_v ?_
      refine AllV_r fun a20 b20 v20 la20 lb20 lc20 h20 ap20 => ?_
      obtain ⟨p20_19, _⟩ := ap20
      have h20 : No _ _ _ v20 _ := h20
      refine AllV_r fun a21 b21 v21 la21 lb21 lc21 h21 ap21 => ?_
      obtain ⟨p21_20, p21_19, _⟩ := ap21
      refine AllV_v ?_
      refine AllV_v ?_
      refine AllV_r fun a22 b22 v22 la22 lb22 lc22 h22 ap22 => ?_
      obtain ⟨p22_21, p22_20, p22_19, _⟩ := ap22
      obtain ⟨p22, rfl, hc22⟩ := h22
      refine AllV_v ?_
      refine AllV_r fun a23 b23 v23 la23 lb23 lc23 h23 ap23 => ?_
      obtain ⟨p23_22, p23_21, p23_20, p23_19, _⟩ := ap23
      refine AllV_nil ?_
      refine N_append T22 rfl (by decide) rfl rfl rfl rfl h20 h23.1.nl (by (try simp only [val_dig, List.length_take, List.length_nil, List.length_cons, List.length_append, List.length_replicate, List.length_set, List.length_map, List.length_drop]); omega) (by omega) (fun v24 w24 o24 r24 => ?_)
      have e24 : Ext w w24 := h20.ext_grown r24 (((e1.trans e2).trans e3).trans hy18) (by omega)
      have z24 := r24.size
      have x24 := grown_extB r24
      refine O_assign rfl rfl rfl ?_
      refine WL_end [(3, _), (9, _), (11, _)] ⟨rfl, rfl, rfl, trivial⟩ ?_
      refine WP_seq ?_
      refine WP_region ?_
      have hyL : Nl w24 v24 (dig (val (dig (val lb) ++ [x]))) := by rw [dig_val ((D_dig _).append (D.cons hx2 D.nil)) (by simpa [Can] using hx1)]; exact o24.nl
      have hVl : (dig (val (dig (val lb) ++ [x]))).length ≤ 31 := by rw [dig_val ((D_dig _).append (D.cons hx2 D.nil)) (by simpa [Can] using hx1)]; simp; omega
      generalize val (dig (val lb) ++ [x]) = V at hyL hVl
      have d1 := dig_len_mul (val la) V
      have d2 := dig_len_mono (Nat.sub_le (val la * V) 1)
      have d3 := dig_len_mono (Nat.sub_le V 1)
      have d4 := dig_len_add (val la * V) (V - 1)
      have d5 : (dig 1).length ≤ 1 := dig_len_of_lt (by decide)
      refine O_move rfl rfl rfl ?_
      refine O_move rfl rfl rfl ?_
      refine O_call enters16 rfl rfl rfl (rmul_c ((hq2 (by omega)).ext (h20.ext_grown r24 (e3.trans hy18) (by omega))).nl hyL (by (try simp only [val_dig, List.length_take, List.length_nil, List.length_cons, List.length_append, List.length_replicate, List.length_set, List.length_map, List.length_drop]); omega) (by (try simp only [val_dig, List.length_take, List.length_nil, List.length_cons, List.length_append, List.length_replicate, List.length_set, List.length_map, List.length_drop]); omega)) (fun v25 w25 e25 h25 => ?_)
      have z25 := e25.size
      try simp only [val_dig] at h25
      refine O_assign rfl rfl rfl ?_
      refine WL_end [(3, _), (11, _), (13, _)] ⟨rfl, rfl, rfl, trivial⟩ ?_
      refine WP_seq ?_
      refine WP_seq ?_
      refine WP_region ?_
      refine O_move rfl rfl rfl ?_
      refine WL_end [(11, _), (13, _), (47, _)] ⟨rfl, rfl, rfl, trivial⟩ ?_
      refine WP_cond rfl (fun c47 => ?_) (fun c47 => ?_)
      · --
        refine WP_seq ?_
        refine WP_region ?_
        refine O_move rfl rfl rfl ?_
        refine O_call enters18 rfl rfl rfl (rof_c 1 (by decide)) (fun v26 w26 e26 h26 => ?_)
        have z26 := e26.size
        try simp only [val_dig] at h26
        refine O_call enters17 rfl rfl rfl (rsub_c (h25.ext e26).nl h26.nl (by (try simp only [val_dig, List.length_take, List.length_nil, List.length_cons, List.length_append, List.length_replicate, List.length_set, List.length_map, List.length_drop]); omega) (by (try simp only [val_dig, List.length_take, List.length_nil, List.length_cons, List.length_append, List.length_replicate, List.length_set, List.length_map, List.length_drop]); omega)) (fun v27 w27 e27 h27 => ?_)
        have z27 := e27.size
        try simp only [val_dig] at h27
        obtain ⟨q27, rfl, hq27⟩ := h27
        refine O_move rfl rfl rfl ?_
        refine O_extract rfl rfl rfl rfl ?_
        refine O_extract rfl rfl rfl rfl ?_
        refine O_assign rfl rfl rfl ?_
        refine O_assign rfl rfl rfl ?_
        refine WL_end [(11, _), (13, _), (14, _), (15, _)] ⟨rfl, rfl, rfl, rfl, trivial⟩ ?_
        refine WP_seq ?_
        refine WP_region ?_
        refine O_move rfl rfl rfl ?_
        refine WL_end [(11, _), (13, _), (14, _), (54, _)] ⟨rfl, rfl, rfl, rfl, trivial⟩ ?_
        refine WP_condD rfl (fun c54 => ?_) (fun c54 => ?_)
        · --
          refine WP_region ?_
          refine O_move rfl rfl rfl ?_
          refine O_assign rfl rfl rfl ?_
          refine WL_end [(11, _), (13, _)] ⟨rfl, rfl, trivial⟩ ?_
          refine WP_seq ?_
          refine WP_region ?_
          refine O_move rfl rfl rfl ?_
          refine O_move rfl rfl rfl ?_
          refine O_call enters15 rfl rfl rfl (divided_c hq27.nl (((hyL.ext e25).ext e26).ext e27) (by (try simp only [val_dig, List.length_take, List.length_nil, List.length_cons, List.length_append, List.length_replicate, List.length_set, List.length_map, List.length_drop]); omega) (by (try simp only [val_dig, List.length_take, List.length_nil, List.length_cons, List.length_append, List.length_replicate, List.length_set, List.length_map, List.length_drop]); omega)) (fun v28 w28 e28 h28 => ?_)
          have z28 := e28.size
          obtain rfl := h28
          refine O_assign rfl rfl rfl ?_
          refine WL_end [(8, _)] ⟨rfl, trivial⟩ ?_
          refine WP_ret ?_
          refine ret1 Try.results4 rfl ?_
          exact ⟨_, rfl, ((((e24.trans e25).trans e26).trans e27).trans e28), rfl⟩
        · --
          refine WP_skip ?_
          refine WP_seq ?_
          refine WP_region ?_
          refine O_move rfl rfl rfl ?_
          refine O_move rfl rfl rfl ?_
          refine O_call enters15 rfl rfl rfl (divided_c ((h25.ext e26).ext e27).nl (((hyL.ext e25).ext e26).ext e27) (by (try simp only [val_dig, List.length_take, List.length_nil, List.length_cons, List.length_append, List.length_replicate, List.length_set, List.length_map, List.length_drop]); omega) (by (try simp only [val_dig, List.length_take, List.length_nil, List.length_cons, List.length_append, List.length_replicate, List.length_set, List.length_map, List.length_drop]); omega)) (fun v29 w29 e29 h29 => ?_)
          have z29 := e29.size
          obtain rfl := h29
          refine O_assign rfl rfl rfl ?_
          refine WL_end [(8, _)] ⟨rfl, trivial⟩ ?_
          refine WP_ret ?_
          refine ret1 Try.results4 rfl ?_
          exact ⟨_, rfl, ((((e24.trans e25).trans e26).trans e27).trans e29), rfl⟩
      · --
        refine WP_region ?_
        refine O_move rfl rfl rfl ?_
        refine O_move rfl rfl rfl ?_
        refine O_call enters18 rfl rfl rfl (rof_c 1 (by decide)) (fun v30 w30 e30 h30 => ?_)
        have z30 := e30.size
        try simp only [val_dig] at h30
        refine O_call enters20 rfl rfl rfl (less_c ((hyL.ext e25).ext e30) h30.nl (by (try simp only [val_dig, List.length_take, List.length_nil, List.length_cons, List.length_append, List.length_replicate, List.length_set, List.length_map, List.length_drop]); omega) (by (try simp only [val_dig, List.length_take, List.length_nil, List.length_cons, List.length_append, List.length_replicate, List.length_set, List.length_map, List.length_drop]); omega)) (fun v31 w31 e31 h31 => ?_)
        have z31 := e31.size
        try simp only [val_dig] at h31
        refine O_call enters19 rfl rfl rfl (radd_c ((h25.ext e30).ext e31).nl h31.nl (by (try simp only [val_dig, List.length_take, List.length_nil, List.length_cons, List.length_append, List.length_replicate, List.length_set, List.length_map, List.length_drop]); omega) (by (try simp only [val_dig, List.length_take, List.length_nil, List.length_cons, List.length_append, List.length_replicate, List.length_set, List.length_map, List.length_drop]); omega)) (fun v32 w32 e32 h32 => ?_)
        have z32 := e32.size
        try simp only [val_dig] at h32
        refine O_assign rfl rfl rfl ?_
        refine WL_end [(11, _), (13, _)] ⟨rfl, rfl, trivial⟩ ?_
        refine WP_seq ?_
        refine WP_region ?_
        refine O_move rfl rfl rfl ?_
        refine O_move rfl rfl rfl ?_
        refine O_call enters15 rfl rfl rfl (divided_c h32.nl ((((hyL.ext e25).ext e30).ext e31).ext e32) (by (try simp only [val_dig, List.length_take, List.length_nil, List.length_cons, List.length_append, List.length_replicate, List.length_set, List.length_map, List.length_drop]); omega) (by (try simp only [val_dig, List.length_take, List.length_nil, List.length_cons, List.length_append, List.length_replicate, List.length_set, List.length_map, List.length_drop]); omega)) (fun v33 w33 e33 h33 => ?_)
        have z33 := e33.size
        obtain rfl := h33
        refine O_assign rfl rfl rfl ?_
        refine WL_end [(8, _)] ⟨rfl, trivial⟩ ?_
        refine WP_ret ?_
        refine ret1 Try.results4 rfl ?_
        exact ⟨_, rfl, (((((e24.trans e25).trans e30).trans e31).trans e32).trans e33), rfl⟩

theorem law_qe_z {w : World} {va vb : Value} {la lb : List Nat} (ha : Nl w va la) (hb : Nl w vb lb) (h0 : val lb = 0) :
    Calls Try.prog 6 #[va, vb] w (Ret w fun r _ => r = .bool true) := by
  have dA := dig_len_le ha.d
  have dB := dig_len_le hb.d
  have d1 := dig_len_mul (val la) (val lb)
  have d2 := dig_len_mono (show exq (val la) (val lb) ≤ val la from by unfold exq; split; exact Nat.div_le_self _ _; exact Nat.zero_le _)
  refine enter (args := [va, vb]) Try.func6 rfl Try.ntmps6 rfl ?_
  refine WP_seq ?_
  refine WP_region ?_
  refine O_assign rfl rfl rfl ?_
  refine WL_end [(0, _), (1, _)] ⟨rfl, rfl, trivial⟩ ?_
  refine WP_seq ?_
  refine WP_seq ?_
  refine WP_region ?_
  refine O_call enters13 rfl rfl rfl (awake3_c) (fun v1 w1 e1 h1 => ?_)
  have z1 := e1.size
  obtain rfl := h1
  refine O_not rfl rfl rfl rfl ?_
  refine WL_end [(0, _), (1, _), (16, _)] ⟨rfl, rfl, rfl, trivial⟩ ?_
  refine WP_condF rfl ?_
  refine WP_skip ?_
  refine WP_seq ?_
  refine WP_region ?_
  refine O_move rfl rfl rfl ?_
  refine O_call enters14 rfl rfl rfl (mnat_any (ha.ext e1) (by (try simp only [val_dig, List.length_take, List.length_nil, List.length_cons, List.length_append, List.length_replicate, List.length_set, List.length_map, List.length_drop]); omega)) (fun v2 w2 e2 h2 => ?_)
  have z2 := e2.size
  try simp only [val_dig] at h2
  obtain ⟨q2, rfl, hq2⟩ := h2
  refine O_move rfl rfl rfl ?_
  refine O_extract rfl rfl rfl rfl ?_
  refine O_extract rfl rfl rfl rfl ?_
  refine O_assign rfl rfl rfl ?_
  refine O_assign rfl rfl rfl ?_
  refine WL_end [(1, _), (5, _), (6, _)] ⟨rfl, rfl, rfl, trivial⟩ ?_
  refine WP_seq ?_
  refine WP_region ?_
  refine O_move rfl rfl rfl ?_
  refine O_call enters14 rfl rfl rfl (mnat_any (hb.ext (e1.trans e2)) (by (try simp only [val_dig, List.length_take, List.length_nil, List.length_cons, List.length_append, List.length_replicate, List.length_set, List.length_map, List.length_drop]); omega)) (fun v3 w3 e3 h3 => ?_)
  have z3 := e3.size
  try simp only [val_dig] at h3
  obtain ⟨q3, rfl, hq3⟩ := h3
  refine O_move rfl rfl rfl ?_
  refine O_extract rfl rfl rfl rfl ?_
  refine O_extract rfl rfl rfl rfl ?_
  refine O_assign rfl rfl rfl ?_
  refine O_assign rfl rfl rfl ?_
  refine WL_end [(5, _), (6, _), (7, _), (8, _)] ⟨rfl, rfl, rfl, rfl, trivial⟩ ?_
  refine WP_seq ?_
  refine WP_seq ?_
  refine WP_region ?_
  refine O_move rfl rfl rfl ?_
  refine O_not rfl rfl rfl (decide_not).symm ?_
  refine O_move rfl rfl rfl ?_
  refine WL_ndec 29 rfl (fun g29 => ?_) (fun g29 => ?_)
  · --
    refine O_skip rfl rfl ?_
    refine O_skip rfl rfl ?_
    refine O_pickT rfl rfl rfl rfl ?_
    refine WL_end [(5, _), (7, _), (32, _)] ⟨rfl, rfl, rfl, trivial⟩ ?_
    refine WP_condT rfl ?_
    refine WP_seq ?_
    refine WP_region ?_
    refine O_assign rfl rfl rfl ?_
    refine WL_end [(4, _)] ⟨rfl, trivial⟩ ?_
    refine WP_ret ?_
    refine ret1 Try.results6 rfl ?_
    exact ⟨_, rfl, ((e1.trans e2).trans e3), rfl⟩
  · --
    refine O_move rfl rfl rfl ?_
    refine O_not rfl rfl rfl (decide_not).symm ?_
    refine O_pickF rfl rfl rfl rfl ?_
    refine WL_end [(5, _), (7, _), (32, _)] ⟨rfl, rfl, rfl, trivial⟩ ?_
    refine WP_condN rfl (fun c32 => ?_) (fun c32 => ?_)
    · --
      refine WP_seq ?_
      refine WP_region ?_
      refine O_assign rfl rfl rfl ?_
      refine WL_end [(4, _)] ⟨rfl, trivial⟩ ?_
      refine WP_ret ?_
      refine ret1 Try.results6 rfl ?_
      exact ⟨_, rfl, ((e1.trans e2).trans e3), rfl⟩
    · --
      refine WP_skip ?_
      refine WP_seq ?_
      refine WP_region ?_
      refine O_move rfl rfl rfl ?_
      refine O_move rfl rfl rfl ?_
      refine O_call enters25 rfl rfl rfl (exact_c ((hq2 (by omega)).ext e3).nl (hq3 (by omega)).nl (by (try simp only [val_dig, List.length_take, List.length_nil, List.length_cons, List.length_append, List.length_replicate, List.length_set, List.length_map, List.length_drop]); omega) (by (try simp only [val_dig, List.length_take, List.length_nil, List.length_cons, List.length_append, List.length_replicate, List.length_set, List.length_map, List.length_drop]); omega)) (fun v4 w4 e4 h4 => ?_)
      have z4 := e4.size
      try simp only [val_dig] at h4
      obtain ⟨q4, rfl, hq4⟩ := h4
      refine O_move rfl rfl rfl ?_
      refine O_extract rfl rfl rfl rfl ?_
      refine O_extract rfl rfl rfl rfl ?_
      refine O_assign rfl rfl rfl ?_
      refine O_assign rfl rfl rfl ?_
      refine WL_end [(5, _), (7, _), (9, _), (10, _)] ⟨rfl, rfl, rfl, rfl, trivial⟩ ?_
      refine WP_seq ?_
      refine WP_region ?_
      refine O_move rfl rfl rfl ?_
      refine O_move rfl rfl rfl ?_
      refine O_call enters26 rfl rfl rfl (rexact_c (((hq2 (by omega)).ext e3).ext e4).nl ((hq3 (by omega)).ext e4).nl (by (try simp only [val_dig, List.length_take, List.length_nil, List.length_cons, List.length_append, List.length_replicate, List.length_set, List.length_map, List.length_drop]); omega) (by (try simp only [val_dig, List.length_take, List.length_nil, List.length_cons, List.length_append, List.length_replicate, List.length_set, List.length_map, List.length_drop]); omega)) (fun v5 w5 e5 h5 => ?_)
      have z5 := e5.size
      try simp only [val_dig] at h5
      obtain ⟨q5, rfl, hq5⟩ := h5
      refine O_move rfl rfl rfl ?_
      refine O_extract rfl rfl rfl rfl ?_
      refine O_extract rfl rfl rfl rfl ?_
      refine O_assign rfl rfl rfl ?_
      refine O_assign rfl rfl rfl ?_
      refine WL_end [(5, _), (7, _), (9, _), (10, _), (11, _), (12, _)] ⟨rfl, rfl, rfl, rfl, rfl, rfl, trivial⟩ ?_
      refine WP_seq ?_
      refine WP_region ?_
      refine O_move rfl rfl rfl ?_
      refine O_move rfl rfl rfl ?_
      refine O_call enters27 rfl rfl rfl (mul_c ((((hq2 (by omega)).ext e3).ext e4).ext e5).nl (((hq3 (by omega)).ext e4).ext e5).nl (by (try simp only [val_dig, List.length_take, List.length_nil, List.length_cons, List.length_append, List.length_replicate, List.length_set, List.length_map, List.length_drop]); omega) (by (try simp only [val_dig, List.length_take, List.length_nil, List.length_cons, List.length_append, List.length_replicate, List.length_set, List.length_map, List.length_drop]); omega)) (fun v6 w6 e6 h6 => ?_)
      have z6 := e6.size
      try simp only [val_dig] at h6
      refine O_move rfl rfl rfl ?_
      refine O_call enters25 rfl rfl rfl (exact_c h6.nl ((((hq3 (by omega)).ext e4).ext e5).ext e6).nl (by (try simp only [val_dig, List.length_take, List.length_nil, List.length_cons, List.length_append, List.length_replicate, List.length_set, List.length_map, List.length_drop]); omega) (by (try simp only [val_dig, List.length_take, List.length_nil, List.length_cons, List.length_append, List.length_replicate, List.length_set, List.length_map, List.length_drop]); omega)) (fun v7 w7 e7 h7 => ?_)
      have z7 := e7.size
      try simp only [val_dig] at h7
      obtain ⟨q7, rfl, hq7⟩ := h7
      refine O_move rfl rfl rfl ?_
      refine O_extract rfl rfl rfl rfl ?_
      refine O_extract rfl rfl rfl rfl ?_
      refine O_assign rfl rfl rfl ?_
      refine O_assign rfl rfl rfl ?_
      refine WL_end [(5, _), (7, _), (9, _), (10, _), (11, _), (12, _), (13, _), (14, _)] ⟨rfl, rfl, rfl, rfl, rfl, rfl, rfl, rfl, trivial⟩ ?_
      refine WP_seq ?_
      refine WP_seq ?_
      refine WP_region ?_
      refine O_move rfl rfl rfl ?_
      refine N_len T22 rfl rfl rfl (((((hq3 (by omega)).ext e4).ext e5).ext e6).ext e7).nl ?_
      refine O_gtr (t := false) rfl rfl rfl rfl (decide_eq_false (by rw [h0, dig_zero]; decide)) ?_
      refine O_move rfl rfl rfl ?_
      refine O_skip rfl rfl ?_
      refine O_skip rfl rfl ?_
      refine O_skip rfl rfl ?_
      refine O_skipU rfl rfl rfl ?_
      refine O_skipU rfl rfl rfl ?_
      refine O_skipU rfl rfl rfl ?_
      refine O_skipU rfl rfl rfl ?_
      refine O_skip rfl rfl ?_
      refine O_pickF rfl rfl rfl rfl ?_
      refine WL_end [(5, _), (7, _), (9, _), (10, _), (11, _), (12, _), (65, _)] ⟨rfl, rfl, rfl, rfl, rfl, rfl, rfl, trivial⟩ ?_
      refine WP_condF rfl ?_
      refine WP_skip ?_
      refine WP_seq ?_
      refine WP_region ?_
      refine O_move rfl rfl rfl ?_
      refine O_move rfl rfl rfl ?_
      refine O_beql Try.underlying4 (t := true) rfl rfl rfl rfl (beq_self_eq_true _) ?_
      refine O_move rfl rfl rfl ?_
      refine O_move rfl rfl rfl ?_
      refine O_move rfl rfl rfl ?_
      refine O_call enters23 rfl rfl rfl (rsame_c (((hq4.ext e5).ext e6).ext e7).nl ((hq5.ext e6).ext e7).nl (by (try simp only [val_dig, List.length_take, List.length_nil, List.length_cons, List.length_append, List.length_replicate, List.length_set, List.length_map, List.length_drop]); omega) (by (try simp only [val_dig, List.length_take, List.length_nil, List.length_cons, List.length_append, List.length_replicate, List.length_set, List.length_map, List.length_drop]); omega) rfl) (fun v8 w8 e8 h8 => ?_)
      have z8 := e8.size
      obtain rfl := h8
      refine O_pickT rfl rfl rfl rfl ?_
      refine O_move rfl rfl rfl ?_
      refine O_move rfl rfl rfl ?_
      refine O_move rfl rfl rfl ?_
      refine O_call enters28 rfl rfl rfl (divides_c ((((((hq3 (by omega)).ext e4).ext e5).ext e6).ext e7).ext e8).nl (((((((hq2 (by omega)).ext e3).ext e4).ext e5).ext e6).ext e7).ext e8).nl (by (try simp only [val_dig, List.length_take, List.length_nil, List.length_cons, List.length_append, List.length_replicate, List.length_set, List.length_map, List.length_drop]); omega) (by (try simp only [val_dig, List.length_take, List.length_nil, List.length_cons, List.length_append, List.length_replicate, List.length_set, List.length_map, List.length_drop]); omega)) (fun v9 w9 e9 h9 => ?_)
      have z9 := e9.size
      obtain rfl := h9
      refine O_move rfl rfl rfl ?_
      refine O_move rfl rfl rfl ?_
      refine O_call enters29 rfl rfl rfl (rdivides_c (((((((hq3 (by omega)).ext e4).ext e5).ext e6).ext e7).ext e8).ext e9).nl ((((((((hq2 (by omega)).ext e3).ext e4).ext e5).ext e6).ext e7).ext e8).ext e9).nl (by (try simp only [val_dig, List.length_take, List.length_nil, List.length_cons, List.length_append, List.length_replicate, List.length_set, List.length_map, List.length_drop]); omega) (by (try simp only [val_dig, List.length_take, List.length_nil, List.length_cons, List.length_append, List.length_replicate, List.length_set, List.length_map, List.length_drop]); omega)) (fun v10 w10 e10 h10 => ?_)
      have z10 := e10.size
      obtain rfl := h10
      refine O_beql Try.underlying4 (t := true) rfl rfl rfl rfl (by simp only [val_dig]; exact beq_self_eq_true _) ?_
      refine O_pickT rfl rfl rfl rfl ?_
      refine O_move rfl rfl rfl ?_
      refine O_move rfl rfl rfl ?_
      refine O_move rfl rfl rfl ?_
      refine O_move rfl rfl rfl ?_
      refine O_call enters27 rfl rfl rfl (mul_c (((((((((hq2 (by omega)).ext e3).ext e4).ext e5).ext e6).ext e7).ext e8).ext e9).ext e10).nl ((((((((hq3 (by omega)).ext e4).ext e5).ext e6).ext e7).ext e8).ext e9).ext e10).nl (by (try simp only [val_dig, List.length_take, List.length_nil, List.length_cons, List.length_append, List.length_replicate, List.length_set, List.length_map, List.length_drop]); omega) (by (try simp only [val_dig, List.length_take, List.length_nil, List.length_cons, List.length_append, List.length_replicate, List.length_set, List.length_map, List.length_drop]); omega)) (fun v11 w11 e11 h11 => ?_)
      have z11 := e11.size
      try simp only [val_dig] at h11
      refine O_call enters28 rfl rfl rfl (divides_T (((((((((hq3 (by omega)).ext e4).ext e5).ext e6).ext e7).ext e8).ext e9).ext e10).ext e11).nl h11.nl (by (try simp only [val_dig, List.length_take, List.length_nil, List.length_cons, List.length_append, List.length_replicate, List.length_set, List.length_map, List.length_drop]); omega) (by (try simp only [val_dig, List.length_take, List.length_nil, List.length_cons, List.length_append, List.length_replicate, List.length_set, List.length_map, List.length_drop]); omega) (by simp only [val_dig]; exact Nat.mul_mod_left _ _)) (fun v12 w12 e12 h12 => ?_)
      have z12 := e12.size
      obtain rfl := h12
      refine O_pickT rfl rfl rfl rfl ?_
      refine O_assign rfl rfl rfl ?_
      refine WL_end [(4, _)] ⟨rfl, trivial⟩ ?_
      refine WP_ret ?_
      refine ret1 Try.results6 rfl ?_
      exact ⟨_, rfl, (((((((((((e1.trans e2).trans e3).trans e4).trans e5).trans e6).trans e7).trans e8).trans e9).trans e10).trans e11).trans e12), rfl⟩

theorem law_qe_t {w : World} {va vb : Value} {la lb : List Nat} (ha : Nl w va la) (hb : Nl w vb lb) (h0 : val lb ≠ 0) :
    Calls Try.prog 6 #[va, vb] w (Ret w fun r _ => r = .bool true) := by
  have dA := dig_len_le ha.d
  have dB := dig_len_le hb.d
  have d1 := dig_len_mul (val la) (val lb)
  have d2 := dig_len_mono (show exq (val la) (val lb) ≤ val la from by unfold exq; split; exact Nat.div_le_self _ _; exact Nat.zero_le _)
  refine enter (args := [va, vb]) Try.func6 rfl Try.ntmps6 rfl ?_
  refine WP_seq ?_
  refine WP_region ?_
  refine O_assign rfl rfl rfl ?_
  refine WL_end [(0, _), (1, _)] ⟨rfl, rfl, trivial⟩ ?_
  refine WP_seq ?_
  refine WP_seq ?_
  refine WP_region ?_
  refine O_call enters13 rfl rfl rfl (awake3_c) (fun v1 w1 e1 h1 => ?_)
  have z1 := e1.size
  obtain rfl := h1
  refine O_not rfl rfl rfl rfl ?_
  refine WL_end [(0, _), (1, _), (16, _)] ⟨rfl, rfl, rfl, trivial⟩ ?_
  refine WP_condF rfl ?_
  refine WP_skip ?_
  refine WP_seq ?_
  refine WP_region ?_
  refine O_move rfl rfl rfl ?_
  refine O_call enters14 rfl rfl rfl (mnat_any (ha.ext e1) (by (try simp only [val_dig, List.length_take, List.length_nil, List.length_cons, List.length_append, List.length_replicate, List.length_set, List.length_map, List.length_drop]); omega)) (fun v2 w2 e2 h2 => ?_)
  have z2 := e2.size
  try simp only [val_dig] at h2
  obtain ⟨q2, rfl, hq2⟩ := h2
  refine O_move rfl rfl rfl ?_
  refine O_extract rfl rfl rfl rfl ?_
  refine O_extract rfl rfl rfl rfl ?_
  refine O_assign rfl rfl rfl ?_
  refine O_assign rfl rfl rfl ?_
  refine WL_end [(1, _), (5, _), (6, _)] ⟨rfl, rfl, rfl, trivial⟩ ?_
  refine WP_seq ?_
  refine WP_region ?_
  refine O_move rfl rfl rfl ?_
  refine O_call enters14 rfl rfl rfl (mnat_any (hb.ext (e1.trans e2)) (by (try simp only [val_dig, List.length_take, List.length_nil, List.length_cons, List.length_append, List.length_replicate, List.length_set, List.length_map, List.length_drop]); omega)) (fun v3 w3 e3 h3 => ?_)
  have z3 := e3.size
  try simp only [val_dig] at h3
  obtain ⟨q3, rfl, hq3⟩ := h3
  refine O_move rfl rfl rfl ?_
  refine O_extract rfl rfl rfl rfl ?_
  refine O_extract rfl rfl rfl rfl ?_
  refine O_assign rfl rfl rfl ?_
  refine O_assign rfl rfl rfl ?_
  refine WL_end [(5, _), (6, _), (7, _), (8, _)] ⟨rfl, rfl, rfl, rfl, trivial⟩ ?_
  refine WP_seq ?_
  refine WP_seq ?_
  refine WP_region ?_
  refine O_move rfl rfl rfl ?_
  refine O_not rfl rfl rfl (decide_not).symm ?_
  refine O_move rfl rfl rfl ?_
  refine WL_ndec 29 rfl (fun g29 => ?_) (fun g29 => ?_)
  · --
    refine O_skip rfl rfl ?_
    refine O_skip rfl rfl ?_
    refine O_pickT rfl rfl rfl rfl ?_
    refine WL_end [(5, _), (7, _), (32, _)] ⟨rfl, rfl, rfl, trivial⟩ ?_
    refine WP_condT rfl ?_
    refine WP_seq ?_
    refine WP_region ?_
    refine O_assign rfl rfl rfl ?_
    refine WL_end [(4, _)] ⟨rfl, trivial⟩ ?_
    refine WP_ret ?_
    refine ret1 Try.results6 rfl ?_
    exact ⟨_, rfl, ((e1.trans e2).trans e3), rfl⟩
  · --
    refine O_move rfl rfl rfl ?_
    refine O_not rfl rfl rfl (decide_not).symm ?_
    refine O_pickF rfl rfl rfl rfl ?_
    refine WL_end [(5, _), (7, _), (32, _)] ⟨rfl, rfl, rfl, trivial⟩ ?_
    refine WP_condN rfl (fun c32 => ?_) (fun c32 => ?_)
    · --
      refine WP_seq ?_
      refine WP_region ?_
      refine O_assign rfl rfl rfl ?_
      refine WL_end [(4, _)] ⟨rfl, trivial⟩ ?_
      refine WP_ret ?_
      refine ret1 Try.results6 rfl ?_
      exact ⟨_, rfl, ((e1.trans e2).trans e3), rfl⟩
    · --
      refine WP_skip ?_
      refine WP_seq ?_
      refine WP_region ?_
      refine O_move rfl rfl rfl ?_
      refine O_move rfl rfl rfl ?_
      refine O_call enters25 rfl rfl rfl (exact_c ((hq2 (by omega)).ext e3).nl (hq3 (by omega)).nl (by (try simp only [val_dig, List.length_take, List.length_nil, List.length_cons, List.length_append, List.length_replicate, List.length_set, List.length_map, List.length_drop]); omega) (by (try simp only [val_dig, List.length_take, List.length_nil, List.length_cons, List.length_append, List.length_replicate, List.length_set, List.length_map, List.length_drop]); omega)) (fun v4 w4 e4 h4 => ?_)
      have z4 := e4.size
      try simp only [val_dig] at h4
      obtain ⟨q4, rfl, hq4⟩ := h4
      refine O_move rfl rfl rfl ?_
      refine O_extract rfl rfl rfl rfl ?_
      refine O_extract rfl rfl rfl rfl ?_
      refine O_assign rfl rfl rfl ?_
      refine O_assign rfl rfl rfl ?_
      refine WL_end [(5, _), (7, _), (9, _), (10, _)] ⟨rfl, rfl, rfl, rfl, trivial⟩ ?_
      refine WP_seq ?_
      refine WP_region ?_
      refine O_move rfl rfl rfl ?_
      refine O_move rfl rfl rfl ?_
      refine O_call enters26 rfl rfl rfl (rexact_c (((hq2 (by omega)).ext e3).ext e4).nl ((hq3 (by omega)).ext e4).nl (by (try simp only [val_dig, List.length_take, List.length_nil, List.length_cons, List.length_append, List.length_replicate, List.length_set, List.length_map, List.length_drop]); omega) (by (try simp only [val_dig, List.length_take, List.length_nil, List.length_cons, List.length_append, List.length_replicate, List.length_set, List.length_map, List.length_drop]); omega)) (fun v5 w5 e5 h5 => ?_)
      have z5 := e5.size
      try simp only [val_dig] at h5
      obtain ⟨q5, rfl, hq5⟩ := h5
      refine O_move rfl rfl rfl ?_
      refine O_extract rfl rfl rfl rfl ?_
      refine O_extract rfl rfl rfl rfl ?_
      refine O_assign rfl rfl rfl ?_
      refine O_assign rfl rfl rfl ?_
      refine WL_end [(5, _), (7, _), (9, _), (10, _), (11, _), (12, _)] ⟨rfl, rfl, rfl, rfl, rfl, rfl, trivial⟩ ?_
      refine WP_seq ?_
      refine WP_region ?_
      refine O_move rfl rfl rfl ?_
      refine O_move rfl rfl rfl ?_
      refine O_call enters27 rfl rfl rfl (mul_c ((((hq2 (by omega)).ext e3).ext e4).ext e5).nl (((hq3 (by omega)).ext e4).ext e5).nl (by (try simp only [val_dig, List.length_take, List.length_nil, List.length_cons, List.length_append, List.length_replicate, List.length_set, List.length_map, List.length_drop]); omega) (by (try simp only [val_dig, List.length_take, List.length_nil, List.length_cons, List.length_append, List.length_replicate, List.length_set, List.length_map, List.length_drop]); omega)) (fun v6 w6 e6 h6 => ?_)
      have z6 := e6.size
      try simp only [val_dig] at h6
      refine O_move rfl rfl rfl ?_
      refine O_call enters25 rfl rfl rfl (exact_T h6.nl ((((hq3 (by omega)).ext e4).ext e5).ext e6).nl (by (try simp only [val_dig, List.length_take, List.length_nil, List.length_cons, List.length_append, List.length_replicate, List.length_set, List.length_map, List.length_drop]); omega) (by (try simp only [val_dig, List.length_take, List.length_nil, List.length_cons, List.length_append, List.length_replicate, List.length_set, List.length_map, List.length_drop]); omega) (by rw [val_dig]; exact h0) (by simp only [val_dig]; exact Nat.mul_mod_left _ _)) (fun v7 w7 e7 h7 => ?_)
      have z7 := e7.size
      try simp only [val_dig] at h7
      obtain ⟨q7, rfl, hq7⟩ := h7
      refine O_move rfl rfl rfl ?_
      refine O_extract rfl rfl rfl rfl ?_
      refine O_extract rfl rfl rfl rfl ?_
      refine O_assign rfl rfl rfl ?_
      refine O_assign rfl rfl rfl ?_
      refine WL_end [(5, _), (7, _), (9, _), (10, _), (11, _), (12, _), (13, _), (14, _)] ⟨rfl, rfl, rfl, rfl, rfl, rfl, rfl, rfl, trivial⟩ ?_
      refine WP_seq ?_
      refine WP_seq ?_
      refine WP_region ?_
      refine O_move rfl rfl rfl ?_
      refine N_len T22 rfl rfl rfl (((((hq3 (by omega)).ext e4).ext e5).ext e6).ext e7).nl ?_
      refine O_gtr (t := true) rfl rfl rfl rfl (decide_eq_true (by have := mt (dig_len_zero (n := val lb)).1 h0; omega)) ?_
      refine O_move rfl rfl rfl ?_
      refine O_move rfl rfl rfl ?_
      refine O_not rfl rfl rfl rfl ?_
      refine O_move rfl rfl rfl ?_
      refine O_move rfl rfl rfl ?_
      refine O_move rfl rfl rfl ?_
      have d3 := dig_len_mono (Nat.div_le_self (val la * val lb) (val lb))
      refine O_call enters23 rfl rfl rfl (rsame_c hq7.nl ((((((hq2 (by omega)).ext e3).ext e4).ext e5).ext e6).ext e7).nl (by (try simp only [val_dig, List.length_take, List.length_nil, List.length_cons, List.length_append, List.length_replicate, List.length_set, List.length_map, List.length_drop]); omega) (by (try simp only [val_dig, List.length_take, List.length_nil, List.length_cons, List.length_append, List.length_replicate, List.length_set, List.length_map, List.length_drop]); omega) (by rw [Nat.mul_div_cancel _ (Nat.pos_of_ne_zero h0)])) (fun v8 w8 e8 h8 => ?_)
      have z8 := e8.size
      obtain rfl := h8
      refine O_not rfl rfl rfl rfl ?_
      refine O_pickF rfl rfl rfl rfl ?_
      refine O_pickT rfl rfl rfl rfl ?_
      refine WL_end [(5, _), (7, _), (9, _), (10, _), (11, _), (12, _), (65, _)] ⟨rfl, rfl, rfl, rfl, rfl, rfl, rfl, trivial⟩ ?_
      refine WP_condF rfl ?_
      refine WP_skip ?_
      refine WP_seq ?_
      refine WP_region ?_
      refine O_move rfl rfl rfl ?_
      refine O_move rfl rfl rfl ?_
      refine O_beql Try.underlying4 (t := true) rfl rfl rfl rfl (beq_self_eq_true _) ?_
      refine O_move rfl rfl rfl ?_
      refine O_move rfl rfl rfl ?_
      refine O_move rfl rfl rfl ?_
      refine O_call enters23 rfl rfl rfl (rsame_c ((((hq4.ext e5).ext e6).ext e7).ext e8).nl (((hq5.ext e6).ext e7).ext e8).nl (by (try simp only [val_dig, List.length_take, List.length_nil, List.length_cons, List.length_append, List.length_replicate, List.length_set, List.length_map, List.length_drop]); omega) (by (try simp only [val_dig, List.length_take, List.length_nil, List.length_cons, List.length_append, List.length_replicate, List.length_set, List.length_map, List.length_drop]); omega) rfl) (fun v9 w9 e9 h9 => ?_)
      have z9 := e9.size
      obtain rfl := h9
      refine O_pickT rfl rfl rfl rfl ?_
      refine O_move rfl rfl rfl ?_
      refine O_move rfl rfl rfl ?_
      refine O_move rfl rfl rfl ?_
      refine O_call enters28 rfl rfl rfl (divides_c (((((((hq3 (by omega)).ext e4).ext e5).ext e6).ext e7).ext e8).ext e9).nl ((((((((hq2 (by omega)).ext e3).ext e4).ext e5).ext e6).ext e7).ext e8).ext e9).nl (by (try simp only [val_dig, List.length_take, List.length_nil, List.length_cons, List.length_append, List.length_replicate, List.length_set, List.length_map, List.length_drop]); omega) (by (try simp only [val_dig, List.length_take, List.length_nil, List.length_cons, List.length_append, List.length_replicate, List.length_set, List.length_map, List.length_drop]); omega)) (fun v10 w10 e10 h10 => ?_)
      have z10 := e10.size
      obtain rfl := h10
      refine O_move rfl rfl rfl ?_
      refine O_move rfl rfl rfl ?_
      refine O_call enters29 rfl rfl rfl (rdivides_c ((((((((hq3 (by omega)).ext e4).ext e5).ext e6).ext e7).ext e8).ext e9).ext e10).nl (((((((((hq2 (by omega)).ext e3).ext e4).ext e5).ext e6).ext e7).ext e8).ext e9).ext e10).nl (by (try simp only [val_dig, List.length_take, List.length_nil, List.length_cons, List.length_append, List.length_replicate, List.length_set, List.length_map, List.length_drop]); omega) (by (try simp only [val_dig, List.length_take, List.length_nil, List.length_cons, List.length_append, List.length_replicate, List.length_set, List.length_map, List.length_drop]); omega)) (fun v11 w11 e11 h11 => ?_)
      have z11 := e11.size
      obtain rfl := h11
      refine O_beql Try.underlying4 (t := true) rfl rfl rfl rfl (by simp only [val_dig]; exact beq_self_eq_true _) ?_
      refine O_pickT rfl rfl rfl rfl ?_
      refine O_move rfl rfl rfl ?_
      refine O_move rfl rfl rfl ?_
      refine O_move rfl rfl rfl ?_
      refine O_move rfl rfl rfl ?_
      refine O_call enters27 rfl rfl rfl (mul_c ((((((((((hq2 (by omega)).ext e3).ext e4).ext e5).ext e6).ext e7).ext e8).ext e9).ext e10).ext e11).nl (((((((((hq3 (by omega)).ext e4).ext e5).ext e6).ext e7).ext e8).ext e9).ext e10).ext e11).nl (by (try simp only [val_dig, List.length_take, List.length_nil, List.length_cons, List.length_append, List.length_replicate, List.length_set, List.length_map, List.length_drop]); omega) (by (try simp only [val_dig, List.length_take, List.length_nil, List.length_cons, List.length_append, List.length_replicate, List.length_set, List.length_map, List.length_drop]); omega)) (fun v12 w12 e12 h12 => ?_)
      have z12 := e12.size
      try simp only [val_dig] at h12
      refine O_call enters28 rfl rfl rfl (divides_T ((((((((((hq3 (by omega)).ext e4).ext e5).ext e6).ext e7).ext e8).ext e9).ext e10).ext e11).ext e12).nl h12.nl (by (try simp only [val_dig, List.length_take, List.length_nil, List.length_cons, List.length_append, List.length_replicate, List.length_set, List.length_map, List.length_drop]); omega) (by (try simp only [val_dig, List.length_take, List.length_nil, List.length_cons, List.length_append, List.length_replicate, List.length_set, List.length_map, List.length_drop]); omega) (by simp only [val_dig]; exact Nat.mul_mod_left _ _)) (fun v13 w13 e13 h13 => ?_)
      have z13 := e13.size
      obtain rfl := h13
      refine O_pickT rfl rfl rfl rfl ?_
      refine O_assign rfl rfl rfl ?_
      refine WL_end [(4, _)] ⟨rfl, trivial⟩ ?_
      refine WP_ret ?_
      refine ret1 Try.results6 rfl ?_
      exact ⟨_, rfl, ((((((((((((e1.trans e2).trans e3).trans e4).trans e5).trans e6).trans e7).trans e8).trans e9).trans e10).trans e11).trans e12).trans e13), rfl⟩

theorem law_QuotientExact {w : World} {va vb : Value} {la lb : List Nat} (ha : Nl w va la) (hb : Nl w vb lb) : Calls Try.prog 6 #[va, vb] w (Ret w fun r _ => r = .bool true) := by
  by_cases h0 : val lb = 0
  · exact law_qe_z ha hb h0
  · exact law_qe_t ha hb h0

end Go.Proofs.Ytbaapijfenmhiaa
