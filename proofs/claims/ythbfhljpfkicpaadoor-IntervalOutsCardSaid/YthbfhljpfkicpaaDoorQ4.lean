/-
  Walks.
-/
import Derived.Test.YthbfhljpfkicpaaDoorQ3
import Derived.Test.YthbfhljpfkicpaaDoorSeg
set_option linter.unusedVariables false
set_option linter.unusedSimpArgs false
set_option maxRecDepth 100000
namespace Go.Proofs.YthbfhljpfkicpaaDoor
open Go Go.RowKit
set_option maxHeartbeats 20000000 in
theorem digit_c {w : World} {B : Nat} {vU vv : Value} {lU lv : List Nat} {n k : Nat} (hU : No B 111 w vU lU) (hv : Nl w vv lv) (hne : vblk vv ≠ vblk vU) (hn : lv.length = n) (h2 : 2 ≤ n) (hn9 : n ≤ 100000000) (hk9 : k ≤ 1000000000) (hk : k + n + 1 ≤ lU.length) (htop : lv.getD (n - 1) 0 ≠ 0) (hlt : sg lU k (n + 1) < sg lv 0 n * 4294967296) :
    Calls Tryd.prog 159 #[slSub vU k (k + n + 1), vv] w (RetB (vblk vU) w fun r w' => r = .int .u32 (sg lU k (n + 1) / sg lv 0 n : Nat) ∧ ∃ u2, No B 111 w' vU u2 ∧ u2.length = lU.length ∧ (∀ j, j < k ∨ k + n + 1 ≤ j → u2.getD j 0 = lU.getD j 0) ∧ sg u2 k (n + 1) = sg lU k (n + 1) % sg lv 0 n) := by
 obtain ⟨P, Ul, Vl, hUl, hVl, hUe, hVe⟩ := sg_parts (k := k) hU.d hv.d h2
 have hu0 := hU.d.getD (k + n)
 have hu1d := hU.d.getD (k + (n - 1))
 have hu2d := hU.d.getD (k + (n - 2))
 have hv1d := hv.d.getD (n - 1)
 have hv2d := hv.d.getD (n - 2)
 have hun : lU.getD (k + n) 0 ≤ lv.getD (n - 1) 0 := dg_un (P := P) (Ul := Ul) (Vl := Vl) hVl hv2d (by rw [← hUe, ← hVe]; exact hlt)
 obtain ⟨top, htp⟩ : ∃ t, t = lU.getD (k + n) 0 * 4294967296 + lU.getD (k + (n - 1)) 0 := ⟨_, rfl⟩
 have htp1 : top < 18446744073709551616 := by omega
 rw [← htp] at hUe
 obtain ⟨q0, hq0⟩ : ∃ t, t = top / (lv.getD (n - 1) 0) := ⟨_, rfl⟩
 obtain ⟨r0, hr0⟩ : ∃ t, t = top % (lv.getD (n - 1) 0) := ⟨_, rfl⟩
 have hqr : q0 * lv.getD (n - 1) 0 + r0 = top := by rw [hq0, hr0, Nat.mul_comm]; exact Nat.div_add_mod _ _
 have hr0l : r0 < 4294967296 := by rw [hr0]; exact Nat.lt_trans (Nat.mod_lt _ (Nat.pos_of_ne_zero htop)) hv1d
 have hqU : sg lU k (n + 1) < (q0 + 1) * sg lv 0 n := by rw [hUe, hVe, hq0]; exact dg_init (Nat.pos_of_ne_zero htop) hu2d hUl
 have hq64 : q0 < 18446744073709551616 := by rw [hq0]; exact Nat.lt_of_le_of_lt (Nat.div_le_self _ _) htp1
 refine enter (args := [_, vv]) Tryd.func159 rfl Tryd.ntmps159 rfl ?_
 refine WP_seq ?_
 refine WP_region ?_
 refine O_assign rfl rfl rfl ?_
 refine WL_end [(0, _), (1, _)] ⟨rfl, rfl, trivial⟩ ?_
 refine WP_seq ?_
 refine WP_region ?_
 refine O_move rfl rfl rfl ?_
 refine N_len T22 rfl rfl rfl hv ?_
 rw [hn]
 refine O_assign rfl rfl rfl ?_
 refine WL_end [(0, _), (1, _), (5, _)] ⟨rfl, rfl, rfl, trivial⟩ ?_
 refine WP_seq ?_
 refine WP_sub [(0, _), (1, _), (5, _)] ⟨rfl, rfl, rfl, trivial⟩ ?_
 refine WP_anyR 12 [0, 1, 5] mixed rfl (by kernel_rfl) ?_
 apply AnyR_val [0] rfl (by kernel_rfl)
 · --
  intro y1 hy1
  have zy1 := hy1.size
  refine AllV_nil ?_
  refine O_move rfl rfl rfl ?_
  exact WL_nil ⟨(Ext.refl _), rfl⟩
 apply AnyR_val [5] rfl (by kernel_rfl)
 · --
  intro y2 hy2
  have zy2 := hy2.size
  refine AllV_nil ?_
  refine O_move rfl rfl rfl ?_
  exact WL_nil ⟨(Ext.refl _), rfl⟩
 apply AnyR_val [18, 19] rfl (by kernel_rfl)
 · --
  intro y3 hy3
  have zy3 := hy3.size
  refine AllV_v ?_
  refine AllV_v ?_
  refine AllV_nil ?_
  refine N_indexV T22 k (k + n + 1) rfl rfl rfl rfl (hU.ext hy3).nl (by omega) (by omega) n rfl (by omega) ?_
  exact WL_nil ⟨(Ext.refl _), rfl⟩
 apply AnyR_val [20] rfl (by kernel_rfl)
 · --
  intro y4 hy4
  have zy4 := hy4.size
  refine AllV_v ?_
  refine AllV_nil ?_
  refine N_load Tryd.underlying111 rfl rfl rfl (hU.ext hy4).nl (by omega) (fun d21 => ?_)
  exact WL_nil ⟨(Ext.refl _), rfl⟩
 apply AnyR_val [21] rfl (by kernel_rfl)
 · --
  intro y5 hy5
  have zy5 := hy5.size
  refine AllV_v ?_
  refine AllV_nil ?_
  refine O_conv Tryd.underlying111 Tryd.underlying83 rfl rfl rfl (wrap_u64_id (by omega) (by omega)) ?_
  exact WL_nil ⟨(Ext.refl _), rfl⟩
 apply AnyR_val [22] rfl (by kernel_rfl)
 · --
  intro y6 hy6
  have zy6 := hy6.size
  refine AllV_v ?_
  refine AllV_nil ?_
  refine O_shl rfl rfl rfl rfl (by decide) (shl32 (by omega)) ?_
  exact WL_nil ⟨(Ext.refl _), rfl⟩
 apply AnyR_val [0] rfl (by kernel_rfl)
 · --
  intro y7 hy7
  have zy7 := hy7.size
  refine AllV_nil ?_
  refine O_move rfl rfl rfl ?_
  exact WL_nil ⟨(Ext.refl _), rfl⟩
 apply AnyR_val [5] rfl (by kernel_rfl)
 · --
  intro y8 hy8
  have zy8 := hy8.size
  refine AllV_nil ?_
  refine O_move rfl rfl rfl ?_
  exact WL_nil ⟨(Ext.refl _), rfl⟩
 apply AnyR_val [25] rfl (by kernel_rfl)
 · --
  intro y9 hy9
  have zy9 := hy9.size
  refine AllV_v ?_
  refine AllV_nil ?_
  refine O_sub (r := ((n - 1 : Nat) : Int)) rfl rfl rfl rfl (by rw [IntKind.wrap_i64]; omega) ?_
  exact WL_nil ⟨(Ext.refl _), rfl⟩
 apply AnyR_val [24, 26] rfl (by kernel_rfl)
 · --
  intro y10 hy10
  have zy10 := hy10.size
  refine AllV_v ?_
  refine AllV_v ?_
  refine AllV_nil ?_
  refine N_indexV T22 k (k + n + 1) rfl rfl rfl rfl (hU.ext hy10).nl (by omega) (by omega) (n - 1) rfl (by omega) ?_
  exact WL_nil ⟨(Ext.refl _), rfl⟩
 apply AnyR_val [27] rfl (by kernel_rfl)
 · --
  intro y11 hy11
  have zy11 := hy11.size
  refine AllV_v ?_
  refine AllV_nil ?_
  refine N_load Tryd.underlying111 rfl rfl rfl (hU.ext hy11).nl (by omega) (fun d28 => ?_)
  exact WL_nil ⟨(Ext.refl _), rfl⟩
 apply AnyR_val [28] rfl (by kernel_rfl)
 · --
  intro y12 hy12
  have zy12 := hy12.size
  refine AllV_v ?_
  refine AllV_nil ?_
  refine O_conv Tryd.underlying111 Tryd.underlying83 rfl rfl rfl (wrap_u64_id (by omega) (by omega)) ?_
  exact WL_nil ⟨(Ext.refl _), rfl⟩
 refine AnyR_nil fun y13 hy13 => ?_
 have zy13 := hy13.size
 refine AllV_v ?_
 refine AllV_v ?_
 refine AllV_v ?_
 refine AllV_v ?_
 refine AllV_v ?_
 refine AllV_v ?_
 refine AllV_v ?_
 refine AllV_v ?_
 refine AllV_v ?_
 refine AllV_v ?_
 refine AllV_v ?_
 refine AllV_v ?_
 refine AllV_nil ?_
 refine O_or rfl rfl rfl rfl (u64_or_nat _ _ (by omega) (by omega)) ?_
 rw [or_add (by omega), ← htp]
 refine O_assign rfl rfl rfl ?_
 refine WL_end [(0, _), (1, _), (5, _), (6, _)] ⟨rfl, rfl, rfl, rfl, trivial⟩ ?_
 refine WP_seq ?_
 refine WP_sub [(0, _), (1, _), (5, _), (6, _)] ⟨rfl, rfl, rfl, rfl, trivial⟩ ?_
 refine WP_anyR 17 [0, 1, 5, 6] mixed rfl (by kernel_rfl) ?_
 apply AnyR_val [6] rfl (by kernel_rfl)
 · --
  intro y14 hy14
  have zy14 := hy14.size
  refine AllV_nil ?_
  refine O_move rfl rfl rfl ?_
  exact WL_nil ⟨(Ext.refl _), rfl⟩
 apply AnyR_val [1] rfl (by kernel_rfl)
 · --
  intro y15 hy15
  have zy15 := hy15.size
  refine AllV_nil ?_
  refine O_move rfl rfl rfl ?_
  exact WL_nil ⟨(Ext.refl _), rfl⟩
 apply AnyR_val [5] rfl (by kernel_rfl)
 · --
  intro y16 hy16
  have zy16 := hy16.size
  refine AllV_nil ?_
  refine O_move rfl rfl rfl ?_
  exact WL_nil ⟨(Ext.refl _), rfl⟩
 apply AnyR_val [33] rfl (by kernel_rfl)
 · --
  intro y17 hy17
  have zy17 := hy17.size
  refine AllV_v ?_
  refine AllV_nil ?_
  refine O_sub (r := ((n - 1 : Nat) : Int)) rfl rfl rfl rfl (by rw [IntKind.wrap_i64]; omega) ?_
  exact WL_nil ⟨(Ext.refl _), rfl⟩
 apply AnyR_val [32, 34] rfl (by kernel_rfl)
 · --
  intro y18 hy18
  have zy18 := hy18.size
  refine AllV_v ?_
  refine AllV_v ?_
  refine AllV_nil ?_
  refine N_index T22 rfl rfl rfl rfl ((hv.ext hy13).ext hy18) (n - 1) rfl (by omega) ?_
  exact WL_nil ⟨(Ext.refl _), rfl⟩
 apply AnyR_val [35] rfl (by kernel_rfl)
 · --
  intro y19 hy19
  have zy19 := hy19.size
  refine AllV_v ?_
  refine AllV_nil ?_
  refine N_load Tryd.underlying111 rfl rfl rfl ((hv.ext hy13).ext hy19) (by omega) (fun d36 => ?_)
  exact WL_nil ⟨(Ext.refl _), rfl⟩
 apply AnyR_val [36] rfl (by kernel_rfl)
 · --
  intro y20 hy20
  have zy20 := hy20.size
  refine AllV_v ?_
  refine AllV_nil ?_
  refine O_conv Tryd.underlying111 Tryd.underlying83 rfl rfl rfl (wrap_u64_id (by omega) (by omega)) ?_
  exact WL_nil ⟨(Ext.refl _), rfl⟩
 apply AnyR_val [31, 37] rfl (by kernel_rfl)
 · --
  intro y21 hy21
  have zy21 := hy21.size
  refine AllV_v ?_
  refine AllV_v ?_
  refine AllV_nil ?_
  refine O_quo rfl rfl rfl rfl (by omega) (quoN (by omega)) ?_
  rw [← hq0]
  exact WL_nil ⟨(Ext.refl _), rfl⟩
 apply AnyR_val [6] rfl (by kernel_rfl)
 · --
  intro y22 hy22
  have zy22 := hy22.size
  refine AllV_nil ?_
  refine O_move rfl rfl rfl ?_
  exact WL_nil ⟨(Ext.refl _), rfl⟩
 apply AnyR_val [1] rfl (by kernel_rfl)
 · --
  intro y23 hy23
  have zy23 := hy23.size
  refine AllV_nil ?_
  refine O_move rfl rfl rfl ?_
  exact WL_nil ⟨(Ext.refl _), rfl⟩
 apply AnyR_val [5] rfl (by kernel_rfl)
 · --
  intro y24 hy24
  have zy24 := hy24.size
  refine AllV_nil ?_
  refine O_move rfl rfl rfl ?_
  exact WL_nil ⟨(Ext.refl _), rfl⟩
 apply AnyR_val [41] rfl (by kernel_rfl)
 · --
  intro y25 hy25
  have zy25 := hy25.size
  refine AllV_v ?_
  refine AllV_nil ?_
  refine O_sub (r := ((n - 1 : Nat) : Int)) rfl rfl rfl rfl (by rw [IntKind.wrap_i64]; omega) ?_
  exact WL_nil ⟨(Ext.refl _), rfl⟩
 apply AnyR_val [40, 42] rfl (by kernel_rfl)
 · --
  intro y26 hy26
  have zy26 := hy26.size
  refine AllV_v ?_
  refine AllV_v ?_
  refine AllV_nil ?_
  refine N_index T22 rfl rfl rfl rfl ((hv.ext hy13).ext hy26) (n - 1) rfl (by omega) ?_
  exact WL_nil ⟨(Ext.refl _), rfl⟩
 apply AnyR_val [43] rfl (by kernel_rfl)
 · --
  intro y27 hy27
  have zy27 := hy27.size
  refine AllV_v ?_
  refine AllV_nil ?_
  refine N_load Tryd.underlying111 rfl rfl rfl ((hv.ext hy13).ext hy27) (by omega) (fun d44 => ?_)
  exact WL_nil ⟨(Ext.refl _), rfl⟩
 apply AnyR_val [44] rfl (by kernel_rfl)
 · --
  intro y28 hy28
  have zy28 := hy28.size
  refine AllV_v ?_
  refine AllV_nil ?_
  refine O_conv Tryd.underlying111 Tryd.underlying83 rfl rfl rfl (wrap_u64_id (by omega) (by omega)) ?_
  exact WL_nil ⟨(Ext.refl _), rfl⟩
 apply AnyR_val [39, 45] rfl (by kernel_rfl)
 · --
  intro y29 hy29
  have zy29 := hy29.size
  refine AllV_v ?_
  refine AllV_v ?_
  refine AllV_nil ?_
  refine O_rem rfl rfl rfl rfl (by omega) remN ?_
  rw [← hr0]
  exact WL_nil ⟨(Ext.refl _), rfl⟩
 apply AnyR_val [38] rfl (by kernel_rfl)
 · --
  intro y30 hy30
  have zy30 := hy30.size
  refine AllV_v ?_
  refine AllV_nil ?_
  refine O_assign rfl rfl rfl ?_
  exact WL_nil ⟨(Ext.refl _), rfl⟩
 refine AnyR_nil fun y31 hy31 => ?_
 have zy31 := hy31.size
 refine AllV_v ?_
 refine AllV_v ?_
 refine AllV_v ?_
 refine AllV_v ?_
 refine AllV_v ?_
 refine AllV_v ?_
 refine AllV_v ?_
 refine AllV_v ?_
 refine AllV_v ?_
 refine AllV_v ?_
 refine AllV_v ?_
 refine AllV_v ?_
 refine AllV_v ?_
 refine AllV_v ?_
 refine AllV_v ?_
 refine AllV_v ?_
 refine AllV_v ?_
 refine AllV_nil ?_
 refine O_assign rfl rfl rfl ?_
 refine WL_end [(0, _), (1, _), (5, _), (7, _), (8, _)] ⟨rfl, rfl, rfl, rfl, rfl, trivial⟩ ?_
 refine WP_seq ?_
 refine WP_joinK (S := Nat) (fun g => [(0, slSub vU k (k + n + 1)), (1, vv), (5, .int .i64 (n : Nat)), (7, .int .u64 (g : Nat))]) (fun g w' => Ext w w' ∧ g < 4294967296 ∧ sg lU k (n + 1) < (g + 1) * sg lv 0 n ∧ g * sg lv 0 n < sg lU k (n + 1) + sg lv 0 n) ?_ ?_
 · --
  refine WP_block ?_
  refine WP_loop (S := Nat × Nat) (fun (g, r) => [(0, slSub vU k (k + n + 1)), (1, vv), (5, .int .i64 (n : Nat)), (7, .int .u64 (g : Nat)), (8, .int .u64 (r : Nat))]) (fun (g, r) w' => Ext w w' ∧ g * lv.getD (n - 1) 0 + r = top ∧ r < 4294967296 ∧ sg lU k (n + 1) < (g + 1) * sg lv 0 n ∧ g < 18446744073709551616) (fun (g, r) => g) (q0, r0) ⟨rfl, rfl, rfl, rfl, rfl, trivial⟩ ⟨((hy13).trans hy31), hqr, hr0l, hqU, hq64⟩ ?_
  rintro ⟨g, r⟩ w1 ⟨hE0, hgr, hr, hgU, hg64⟩
  show WP _ _ _ _ _ [(0, slSub vU k (k + n + 1)), (1, vv), (5, .int .i64 (n : Nat)), (7, .int .u64 (g : Nat)), (8, .int .u64 (r : Nat))] _
  refine WP_seq ?_
  refine WP_seq ?_
  rcases Nat.lt_or_ge g 4294967296 with hgB | hgB
  · --
   have hxy2 : ((g : Nat) : Int) * ((lv.getD (n - 2) 0 : Nat) : Int) = ((g * lv.getD (n - 2) 0 : Nat) : Int) := by rw [Int.natCast_mul]
   have hxy : g * lv.getD (n - 2) 0 ≤ 4294967295 * 4294967295 := Nat.mul_le_mul (by omega) (by omega)
   have hg00 : g = 0 → g * lv.getD (n - 2) 0 = 0 := by rintro rfl; rw [Nat.zero_mul]
   refine WP_sub [(0, _), (1, _), (5, _), (7, _), (8, _)] ⟨rfl, rfl, rfl, rfl, rfl, trivial⟩ ?_
   refine WP_anyR 21 [0, 1, 5, 7, 8] mixed rfl (by kernel_rfl) ?_
   apply AnyR_val [7] rfl (by kernel_rfl)
   · --
    intro y32 hy32
    have zy32 := hy32.size
    refine AllV_nil ?_
    refine O_move rfl rfl rfl ?_
    exact WL_nil ⟨(Ext.refl _), rfl⟩
   apply AnyR_val [47] rfl (by kernel_rfl)
   · --
    intro y33 hy33
    have zy33 := hy33.size
    refine AllV_v ?_
    refine AllV_nil ?_
    refine O_shr rfl rfl rfl rfl (by decide) (shr32 _) ?_
    exact WL_nil ⟨(Ext.refl _), rfl⟩
   apply AnyR_val [48] rfl (by kernel_rfl)
   · --
    intro y34 hy34
    have zy34 := hy34.size
    refine AllV_v ?_
    refine AllV_nil ?_
    refine O_neq (t := false) rfl rfl rfl rfl (decide_eq_false (by omega)) ?_
    exact WL_nil ⟨(Ext.refl _), rfl⟩
   apply AnyR_val [49] rfl (by kernel_rfl)
   · --
    intro y35 hy35
    have zy35 := hy35.size
    refine AllV_v ?_
    refine AllV_nil ?_
    refine O_move rfl rfl rfl ?_
    exact WL_nil ⟨(Ext.refl _), rfl⟩
   apply AnyR_val [50, 7] rfl (by kernel_rfl)
   · --
    intro y36 hy36
    have zy36 := hy36.size
    refine AllV_v ?_
    refine AllV_nil ?_
    refine O_move rfl rfl rfl ?_
    exact WL_nil ⟨(Ext.refl _), rfl⟩
   apply AnyR_val [50, 1] rfl (by kernel_rfl)
   · --
    intro y37 hy37
    have zy37 := hy37.size
    refine AllV_v ?_
    refine AllV_nil ?_
    refine O_move rfl rfl rfl ?_
    exact WL_nil ⟨(Ext.refl _), rfl⟩
   apply AnyR_val [50, 5] rfl (by kernel_rfl)
   · --
    intro y38 hy38
    have zy38 := hy38.size
    refine AllV_v ?_
    refine AllV_nil ?_
    refine O_move rfl rfl rfl ?_
    exact WL_nil ⟨(Ext.refl _), rfl⟩
   apply AnyR_val [50, 53] rfl (by kernel_rfl)
   · --
    intro y39 hy39
    have zy39 := hy39.size
    refine AllV_v ?_
    refine AllV_v ?_
    refine AllV_nil ?_
    refine O_sub (r := ((n - 2 : Nat) : Int)) rfl rfl rfl rfl (by rw [IntKind.wrap_i64]; omega) ?_
    exact WL_nil ⟨(Ext.refl _), rfl⟩
   apply AnyR_val [50, 52, 54] rfl (by kernel_rfl)
   · --
    intro y40 hy40
    have zy40 := hy40.size
    refine AllV_v ?_
    refine AllV_v ?_
    refine AllV_v ?_
    refine AllV_nil ?_
    refine N_index T22 rfl rfl rfl rfl ((hv.ext hE0).ext hy40) (n - 2) rfl (by omega) ?_
    exact WL_nil ⟨(Ext.refl _), rfl⟩
   apply AnyR_val [50, 55] rfl (by kernel_rfl)
   · --
    intro y41 hy41
    have zy41 := hy41.size
    refine AllV_v ?_
    refine AllV_v ?_
    refine AllV_nil ?_
    refine N_load Tryd.underlying111 rfl rfl rfl ((hv.ext hE0).ext hy41) (by omega) (fun d56 => ?_)
    exact WL_nil ⟨(Ext.refl _), rfl⟩
   apply AnyR_val [50, 56] rfl (by kernel_rfl)
   · --
    intro y42 hy42
    have zy42 := hy42.size
    refine AllV_v ?_
    refine AllV_v ?_
    refine AllV_nil ?_
    refine O_conv Tryd.underlying111 Tryd.underlying83 rfl rfl rfl (wrap_u64_id (by omega) (by omega)) ?_
    exact WL_nil ⟨(Ext.refl _), rfl⟩
   apply AnyR_val [50, 51, 57] rfl (by kernel_rfl)
   · --
    intro y43 hy43
    have zy43 := hy43.size
    refine AllV_v ?_
    refine AllV_v ?_
    refine AllV_v ?_
    refine AllV_nil ?_
    refine O_mul (r := ((g * lv.getD (n - 2) 0 : Nat) : Int)) rfl rfl rfl rfl (by rw [hxy2]; exact wrap_u64_id (by omega) (by omega)) ?_
    exact WL_nil ⟨(Ext.refl _), rfl⟩
   apply AnyR_val [50, 8] rfl (by kernel_rfl)
   · --
    intro y44 hy44
    have zy44 := hy44.size
    refine AllV_v ?_
    refine AllV_nil ?_
    refine O_move rfl rfl rfl ?_
    exact WL_nil ⟨(Ext.refl _), rfl⟩
   apply AnyR_val [50, 59] rfl (by kernel_rfl)
   · --
    intro y45 hy45
    have zy45 := hy45.size
    refine AllV_v ?_
    refine AllV_v ?_
    refine AllV_nil ?_
    refine O_shl rfl rfl rfl rfl (by decide) (shl32 (by omega)) ?_
    exact WL_nil ⟨(Ext.refl _), rfl⟩
   apply AnyR_val [50, 0] rfl (by kernel_rfl)
   · --
    intro y46 hy46
    have zy46 := hy46.size
    refine AllV_v ?_
    refine AllV_nil ?_
    refine O_move rfl rfl rfl ?_
    exact WL_nil ⟨(Ext.refl _), rfl⟩
   apply AnyR_val [50, 5] rfl (by kernel_rfl)
   · --
    intro y47 hy47
    have zy47 := hy47.size
    refine AllV_v ?_
    refine AllV_nil ?_
    refine O_move rfl rfl rfl ?_
    exact WL_nil ⟨(Ext.refl _), rfl⟩
   apply AnyR_val [50, 62] rfl (by kernel_rfl)
   · --
    intro y48 hy48
    have zy48 := hy48.size
    refine AllV_v ?_
    refine AllV_v ?_
    refine AllV_nil ?_
    refine O_sub (r := ((n - 2 : Nat) : Int)) rfl rfl rfl rfl (by rw [IntKind.wrap_i64]; omega) ?_
    exact WL_nil ⟨(Ext.refl _), rfl⟩
   apply AnyR_val [50, 61, 63] rfl (by kernel_rfl)
   · --
    intro y49 hy49
    have zy49 := hy49.size
    refine AllV_v ?_
    refine AllV_v ?_
    refine AllV_v ?_
    refine AllV_nil ?_
    refine N_indexV T22 k (k + n + 1) rfl rfl rfl rfl ((hU.ext hE0).ext hy49).nl (by omega) (by omega) (n - 2) rfl (by omega) ?_
    exact WL_nil ⟨(Ext.refl _), rfl⟩
   apply AnyR_val [50, 64] rfl (by kernel_rfl)
   · --
    intro y50 hy50
    have zy50 := hy50.size
    refine AllV_v ?_
    refine AllV_v ?_
    refine AllV_nil ?_
    refine N_load Tryd.underlying111 rfl rfl rfl ((hU.ext hE0).ext hy50).nl (by omega) (fun d65 => ?_)
    exact WL_nil ⟨(Ext.refl _), rfl⟩
   apply AnyR_val [50, 65] rfl (by kernel_rfl)
   · --
    intro y51 hy51
    have zy51 := hy51.size
    refine AllV_v ?_
    refine AllV_v ?_
    refine AllV_nil ?_
    refine O_conv Tryd.underlying111 Tryd.underlying83 rfl rfl rfl (wrap_u64_id (by omega) (by omega)) ?_
    exact WL_nil ⟨(Ext.refl _), rfl⟩
   apply AnyR_val [50, 60, 66] rfl (by kernel_rfl)
   · --
    intro y52 hy52
    have zy52 := hy52.size
    refine AllV_v ?_
    refine AllV_v ?_
    refine AllV_v ?_
    refine AllV_nil ?_
    refine O_or rfl rfl rfl rfl (u64_or_nat _ _ (by omega) (by omega)) ?_
    rw [or_add (by omega)]
    exact WL_nil ⟨(Ext.refl _), rfl⟩
   refine AnyR_nil fun y53 hy53 => ?_
   have zy53 := hy53.size
   refine AllV_v ?_
   refine AllV_v ?_
   refine AllV_v ?_
   refine AllV_v ?_
   refine AllV_v ?_
   refine AllV_v ?_
   refine AllV_v ?_
   refine AllV_v ?_
   refine AllV_v ?_
   refine AllV_v ?_
   refine AllV_v ?_
   refine AllV_v ?_
   refine AllV_v ?_
   refine AllV_v ?_
   refine AllV_v ?_
   refine AllV_v ?_
   refine AllV_v ?_
   refine AllV_v ?_
   refine AllV_v ?_
   refine AllV_v ?_
   refine AllV_v ?_
   refine AllV_nil ?_
   refine O_gtr rfl rfl rfl rfl rfl ?_
   refine O_pickF rfl rfl rfl rfl ?_
   refine WL_end [(0, _), (1, _), (5, _), (7, _), (8, _), (69, _)] ⟨rfl, rfl, rfl, rfl, rfl, rfl, trivial⟩ ?_
   refine WP_condD rfl (fun c69 => ?_) (fun c69 => ?_)
   · --
    refine WP_skip ?_
    refine WP_block ?_
    refine WP_seq ?_
    refine WP_region ?_
    refine O_move rfl rfl rfl ?_
    refine O_sub (r := ((g - 1 : Nat) : Int)) rfl rfl rfl rfl (by rw [wrap_u64]; omega) ?_
    refine O_assign rfl rfl rfl ?_
    refine WL_end [(0, _), (1, _), (5, _), (7, _), (8, _)] ⟨rfl, rfl, rfl, rfl, rfl, trivial⟩ ?_
    refine WP_seq ?_
    refine WP_region ?_
    refine O_move rfl rfl rfl ?_
    refine O_move rfl rfl rfl ?_
    refine O_move rfl rfl rfl ?_
    refine O_sub (r := ((n - 1 : Nat) : Int)) rfl rfl rfl rfl (by rw [IntKind.wrap_i64]; omega) ?_
    refine N_index T22 rfl rfl rfl rfl ((hv.ext hE0).ext hy53) (n - 1) rfl (by omega) ?_
    refine N_load Tryd.underlying111 rfl rfl rfl ((hv.ext hE0).ext hy53) (by omega) (fun d77 => ?_)
    refine O_conv Tryd.underlying111 Tryd.underlying83 rfl rfl rfl (wrap_u64_id (by omega) (by omega)) ?_
    refine O_add (r := ((r + lv.getD (n - 1) 0 : Nat) : Int)) rfl rfl rfl rfl (by rw [wrap_u64]; omega) ?_
    refine O_assign rfl rfl rfl ?_
    refine WL_end [(0, _), (1, _), (5, _), (7, _), (8, _)] ⟨rfl, rfl, rfl, rfl, rfl, trivial⟩ ?_
    refine WP_seq ?_
    refine WP_region ?_
    refine O_move rfl rfl rfl ?_
    refine O_shr rfl rfl rfl rfl (by decide) (shr32 _) ?_
    refine O_neq rfl rfl rfl rfl rfl ?_
    refine WL_end [(0, _), (1, _), (5, _), (7, _), (8, _), (82, _)] ⟨rfl, rfl, rfl, rfl, rfl, rfl, trivial⟩ ?_
    refine WP_condN rfl (fun c82 => ?_) (fun c82 => ?_)
    · --
     refine WP_exit ?_
     refine inBlk_miss rfl ?_
     refine inBlk_hit ?_
     have hgp : g - 1 + 1 = g := by omega
     have hgr2 : (g - 1) * lv.getD (n - 1) 0 + (r + lv.getD (n - 1) 0) = top := by rw [← hgr]; have := Nat.add_mul (g - 1) 1 (lv.getD (n - 1) 0); rw [hgp, Nat.one_mul] at this; omega
     have hgU2 : sg lU k (n + 1) < (g - 1 + 1) * sg lv 0 n := by rw [hgp]; rw [hUe, hVe]; exact dg_over hgr hUl (by omega)
     obtain ⟨hb1, hb2⟩ := dg_break (u2 := lU.getD (k + (n - 2)) 0) (v2 := lv.getD (n - 2) 0) (hgr2.trans htp) hun (by omega) (by omega) (by omega)
     have h9 := dg_exit (Ul := Ul) hgr2 hVl (by omega) hb1 hb2
     exact ⟨g - 1, ⟨rfl, rfl, rfl, rfl, trivial⟩, ((hE0).trans hy53), hb1, hgU2, by rw [hUe, hVe]; exact h9⟩
    · --
     refine WP_skip ?_
     have hgp : g - 1 + 1 = g := by omega
     have hgr2 : (g - 1) * lv.getD (n - 1) 0 + (r + lv.getD (n - 1) 0) = top := by rw [← hgr]; have := Nat.add_mul (g - 1) 1 (lv.getD (n - 1) 0); rw [hgp, Nat.one_mul] at this; omega
     have hgU2 : sg lU k (n + 1) < (g - 1 + 1) * sg lv 0 n := by rw [hgp]; rw [hUe, hVe]; exact dg_over hgr hUl (by omega)
     exact ⟨(g - 1, r + lv.getD (n - 1) 0), ⟨rfl, rfl, rfl, rfl, rfl, trivial⟩, ⟨((hE0).trans hy53), hgr2, by omega, hgU2, by omega⟩, by dsimp only; omega⟩
   · --
    refine WP_exit ?_
    refine inBlk_hit ?_
    have h9 := dg_exit (Ul := Ul) (u2 := lU.getD (k + (n - 2)) 0) (v2 := lv.getD (n - 2) 0) hgr hVl (by omega) hgB (by omega)
    exact ⟨g, ⟨rfl, rfl, rfl, rfl, trivial⟩, ((hE0).trans hy53), hgB, hgU, by rw [hUe, hVe]; exact h9⟩
  · --
   --
   refine WP_sub [(0, _), (1, _), (5, _), (7, _), (8, _)] ⟨rfl, rfl, rfl, rfl, rfl, trivial⟩ ?_
   refine WP_anyR 21 [0, 1, 5, 7, 8] mixed rfl (by kernel_rfl) ?_
   apply AnyR_val [7] rfl (by kernel_rfl)
   · --
    intro y54 hy54
    have zy54 := hy54.size
    refine AllV_nil ?_
    refine O_move rfl rfl rfl ?_
    exact WL_nil ⟨(Ext.refl _), rfl⟩
   apply AnyR_val [47] rfl (by kernel_rfl)
   · --
    intro y55 hy55
    have zy55 := hy55.size
    refine AllV_v ?_
    refine AllV_nil ?_
    refine O_shr rfl rfl rfl rfl (by decide) (shr32 _) ?_
    exact WL_nil ⟨(Ext.refl _), rfl⟩
   apply AnyR_val [48] rfl (by kernel_rfl)
   · --
    intro y56 hy56
    have zy56 := hy56.size
    refine AllV_v ?_
    refine AllV_nil ?_
    refine O_neq (t := true) rfl rfl rfl rfl (decide_eq_true (by omega)) ?_
    exact WL_nil ⟨(Ext.refl _), rfl⟩
   apply AnyR_val [49] rfl (by kernel_rfl)
   · --
    intro y57 hy57
    have zy57 := hy57.size
    refine AllV_v ?_
    refine AllV_nil ?_
    refine O_move rfl rfl rfl ?_
    exact WL_nil ⟨(Ext.refl _), rfl⟩
   apply AnyR_val [50, 7] rfl (by kernel_rfl)
   · --
    intro y58 hy58
    have zy58 := hy58.size
    refine AllV_v ?_
    refine AllV_nil ?_
    refine O_skip rfl rfl ?_
    exact WL_nil ⟨(Ext.refl _), rfl⟩
   apply AnyR_val [50, 1] rfl (by kernel_rfl)
   · --
    intro y59 hy59
    have zy59 := hy59.size
    refine AllV_v ?_
    refine AllV_nil ?_
    refine O_skip rfl rfl ?_
    exact WL_nil ⟨(Ext.refl _), rfl⟩
   apply AnyR_val [50, 5] rfl (by kernel_rfl)
   · --
    intro y60 hy60
    have zy60 := hy60.size
    refine AllV_v ?_
    refine AllV_nil ?_
    refine O_skip rfl rfl ?_
    exact WL_nil ⟨(Ext.refl _), rfl⟩
   apply AnyR_val [50, 53] rfl (by kernel_rfl)
   · --
    intro y61 hy61
    have zy61 := hy61.size
    refine AllV_v ?_
    refine AllV_v ?_
    refine AllV_nil ?_
    refine O_skip rfl rfl ?_
    exact WL_nil ⟨(Ext.refl _), rfl⟩
   apply AnyR_val [50, 52, 54] rfl (by kernel_rfl)
   · --
    intro y62 hy62
    have zy62 := hy62.size
    refine AllV_v ?_
    refine AllV_v ?_
    refine AllV_v ?_
    refine AllV_nil ?_
    refine O_skip rfl rfl ?_
    exact WL_nil ⟨(Ext.refl _), rfl⟩
   apply AnyR_val [50, 55] rfl (by kernel_rfl)
   · --
    intro y63 hy63
    have zy63 := hy63.size
    refine AllV_v ?_
    refine AllV_v ?_
    refine AllV_nil ?_
    refine O_skip rfl rfl ?_
    exact WL_nil ⟨(Ext.refl _), rfl⟩
   apply AnyR_val [50, 56] rfl (by kernel_rfl)
   · --
    intro y64 hy64
    have zy64 := hy64.size
    refine AllV_v ?_
    refine AllV_v ?_
    refine AllV_nil ?_
    refine O_skip rfl rfl ?_
    exact WL_nil ⟨(Ext.refl _), rfl⟩
   apply AnyR_val [50, 51, 57] rfl (by kernel_rfl)
   · --
    intro y65 hy65
    have zy65 := hy65.size
    refine AllV_v ?_
    refine AllV_v ?_
    refine AllV_v ?_
    refine AllV_nil ?_
    refine O_skip rfl rfl ?_
    exact WL_nil ⟨(Ext.refl _), rfl⟩
   apply AnyR_val [50, 8] rfl (by kernel_rfl)
   · --
    intro y66 hy66
    have zy66 := hy66.size
    refine AllV_v ?_
    refine AllV_nil ?_
    refine O_skip rfl rfl ?_
    exact WL_nil ⟨(Ext.refl _), rfl⟩
   apply AnyR_val [50, 59] rfl (by kernel_rfl)
   · --
    intro y67 hy67
    have zy67 := hy67.size
    refine AllV_v ?_
    refine AllV_v ?_
    refine AllV_nil ?_
    refine O_skip rfl rfl ?_
    exact WL_nil ⟨(Ext.refl _), rfl⟩
   apply AnyR_val [50, 0] rfl (by kernel_rfl)
   · --
    intro y68 hy68
    have zy68 := hy68.size
    refine AllV_v ?_
    refine AllV_nil ?_
    refine O_skip rfl rfl ?_
    exact WL_nil ⟨(Ext.refl _), rfl⟩
   apply AnyR_val [50, 5] rfl (by kernel_rfl)
   · --
    intro y69 hy69
    have zy69 := hy69.size
    refine AllV_v ?_
    refine AllV_nil ?_
    refine O_skip rfl rfl ?_
    exact WL_nil ⟨(Ext.refl _), rfl⟩
   apply AnyR_val [50, 62] rfl (by kernel_rfl)
   · --
    intro y70 hy70
    have zy70 := hy70.size
    refine AllV_v ?_
    refine AllV_v ?_
    refine AllV_nil ?_
    refine O_skip rfl rfl ?_
    exact WL_nil ⟨(Ext.refl _), rfl⟩
   apply AnyR_val [50, 61, 63] rfl (by kernel_rfl)
   · --
    intro y71 hy71
    have zy71 := hy71.size
    refine AllV_v ?_
    refine AllV_v ?_
    refine AllV_v ?_
    refine AllV_nil ?_
    refine O_skip rfl rfl ?_
    exact WL_nil ⟨(Ext.refl _), rfl⟩
   apply AnyR_val [50, 64] rfl (by kernel_rfl)
   · --
    intro y72 hy72
    have zy72 := hy72.size
    refine AllV_v ?_
    refine AllV_v ?_
    refine AllV_nil ?_
    refine O_skip rfl rfl ?_
    exact WL_nil ⟨(Ext.refl _), rfl⟩
   apply AnyR_val [50, 65] rfl (by kernel_rfl)
   · --
    intro y73 hy73
    have zy73 := hy73.size
    refine AllV_v ?_
    refine AllV_v ?_
    refine AllV_nil ?_
    refine O_skip rfl rfl ?_
    exact WL_nil ⟨(Ext.refl _), rfl⟩
   apply AnyR_val [50, 60, 66] rfl (by kernel_rfl)
   · --
    intro y74 hy74
    have zy74 := hy74.size
    refine AllV_v ?_
    refine AllV_v ?_
    refine AllV_v ?_
    refine AllV_nil ?_
    refine O_skip rfl rfl ?_
    exact WL_nil ⟨(Ext.refl _), rfl⟩
   refine AnyR_nil fun y75 hy75 => ?_
   have zy75 := hy75.size
   refine AllV_v ?_
   refine AllV_v ?_
   refine AllV_v ?_
   refine AllV_v ?_
   refine AllV_v ?_
   refine AllV_v ?_
   refine AllV_v ?_
   refine AllV_v ?_
   refine AllV_v ?_
   refine AllV_v ?_
   refine AllV_v ?_
   refine AllV_v ?_
   refine AllV_v ?_
   refine AllV_v ?_
   refine AllV_v ?_
   refine AllV_v ?_
   refine AllV_v ?_
   refine AllV_v ?_
   refine AllV_v ?_
   refine AllV_v ?_
   refine AllV_v ?_
   refine AllV_nil ?_
   refine O_skip rfl rfl ?_
   refine O_pickT rfl rfl rfl rfl ?_
   refine WL_end [(0, _), (1, _), (5, _), (7, _), (8, _), (69, _)] ⟨rfl, rfl, rfl, rfl, rfl, rfl, trivial⟩ ?_
   refine WP_condT rfl ?_
   refine WP_skip ?_
   refine WP_block ?_
   refine WP_seq ?_
   refine WP_region ?_
   refine O_move rfl rfl rfl ?_
   refine O_sub (r := ((g - 1 : Nat) : Int)) rfl rfl rfl rfl (by rw [wrap_u64]; omega) ?_
   refine O_assign rfl rfl rfl ?_
   refine WL_end [(0, _), (1, _), (5, _), (7, _), (8, _)] ⟨rfl, rfl, rfl, rfl, rfl, trivial⟩ ?_
   refine WP_seq ?_
   refine WP_region ?_
   refine O_move rfl rfl rfl ?_
   refine O_move rfl rfl rfl ?_
   refine O_move rfl rfl rfl ?_
   refine O_sub (r := ((n - 1 : Nat) : Int)) rfl rfl rfl rfl (by rw [IntKind.wrap_i64]; omega) ?_
   refine N_index T22 rfl rfl rfl rfl ((hv.ext hE0).ext hy75) (n - 1) rfl (by omega) ?_
   refine N_load Tryd.underlying111 rfl rfl rfl ((hv.ext hE0).ext hy75) (by omega) (fun d77 => ?_)
   refine O_conv Tryd.underlying111 Tryd.underlying83 rfl rfl rfl (wrap_u64_id (by omega) (by omega)) ?_
   refine O_add (r := ((r + lv.getD (n - 1) 0 : Nat) : Int)) rfl rfl rfl rfl (by rw [wrap_u64]; omega) ?_
   refine O_assign rfl rfl rfl ?_
   refine WL_end [(0, _), (1, _), (5, _), (7, _), (8, _)] ⟨rfl, rfl, rfl, rfl, rfl, trivial⟩ ?_
   refine WP_seq ?_
   refine WP_region ?_
   refine O_move rfl rfl rfl ?_
   refine O_shr rfl rfl rfl rfl (by decide) (shr32 _) ?_
   refine O_neq rfl rfl rfl rfl rfl ?_
   refine WL_end [(0, _), (1, _), (5, _), (7, _), (8, _), (82, _)] ⟨rfl, rfl, rfl, rfl, rfl, rfl, trivial⟩ ?_
   refine WP_condN rfl (fun c82 => ?_) (fun c82 => ?_)
   · --
    refine WP_exit ?_
    refine inBlk_miss rfl ?_
    refine inBlk_hit ?_
    have hgp : g - 1 + 1 = g := by omega
    have hgr2 : (g - 1) * lv.getD (n - 1) 0 + (r + lv.getD (n - 1) 0) = top := by rw [← hgr]; have := Nat.add_mul (g - 1) 1 (lv.getD (n - 1) 0); rw [hgp, Nat.one_mul] at this; omega
    have hgU2 : sg lU k (n + 1) < (g - 1 + 1) * sg lv 0 n := by rw [hgp]; exact Nat.lt_of_lt_of_le hlt (by rw [Nat.mul_comm]; exact Nat.mul_le_mul_right _ hgB)
    obtain ⟨hb1, hb2⟩ := dg_break (u2 := lU.getD (k + (n - 2)) 0) (v2 := lv.getD (n - 2) 0) (hgr2.trans htp) hun (by omega) (by omega) (by omega)
    have h9 := dg_exit (Ul := Ul) hgr2 hVl (by omega) hb1 hb2
    exact ⟨g - 1, ⟨rfl, rfl, rfl, rfl, trivial⟩, ((hE0).trans hy75), hb1, hgU2, by rw [hUe, hVe]; exact h9⟩
   · --
    refine WP_skip ?_
    have hgp : g - 1 + 1 = g := by omega
    have hgr2 : (g - 1) * lv.getD (n - 1) 0 + (r + lv.getD (n - 1) 0) = top := by rw [← hgr]; have := Nat.add_mul (g - 1) 1 (lv.getD (n - 1) 0); rw [hgp, Nat.one_mul] at this; omega
    have hgU2 : sg lU k (n + 1) < (g - 1 + 1) * sg lv 0 n := by rw [hgp]; exact Nat.lt_of_lt_of_le hlt (by rw [Nat.mul_comm]; exact Nat.mul_le_mul_right _ hgB)
    exact ⟨(g - 1, r + lv.getD (n - 1) 0), ⟨rfl, rfl, rfl, rfl, rfl, trivial⟩, ⟨((hE0).trans hy75), hgr2, by omega, hgU2, by omega⟩, by dsimp only; omega⟩
 · --
  rintro g w1 ⟨hE0, hg, hgU, hgV⟩
  refine WP_seq ?_
  refine WP_region ?_
  refine O_assign rfl rfl rfl ?_
  refine WL_end [(0, _), (1, _), (5, _), (7, _), (9, _)] ⟨rfl, rfl, rfl, rfl, rfl, trivial⟩ ?_
  refine WP_seq ?_
  refine WP_region ?_
  refine O_assign rfl rfl rfl ?_
  refine WL_end [(0, _), (1, _), (5, _), (7, _), (9, _), (10, _)] ⟨rfl, rfl, rfl, rfl, rfl, rfl, trivial⟩ ?_
  refine WP_seq ?_
  refine WP_seq ?_
  refine WP_region ?_
  refine O_move rfl rfl rfl ?_
  refine N_len T22 rfl rfl rfl (hv.ext hE0) ?_
  rw [hn]
  refine O_move rfl rfl rfl ?_
  refine WL_end [(0, _), (1, _), (5, _), (7, _), (9, _), (10, _), (83, _), (84, _), (85, _)] ⟨rfl, rfl, rfl, rfl, rfl, rfl, rfl, rfl, rfl, trivial⟩ ?_
  refine WP_block ?_
  refine WP_loop (S := Nat × Nat × Nat × List Nat) (fun (i, c, b, u) => [(0, slSub vU k (k + n + 1)), (1, vv), (5, .int .i64 (n : Nat)), (7, .int .u64 (g : Nat)), (9, .int .u64 (c : Nat)), (10, .int .u32 (b : Nat)), (83, vv), (84, .int .i64 (n : Nat)), (85, .int .i64 (i : Nat))]) (fun (i, c, b, u) w' => ExtB (vblk vU) w w' ∧ No B 111 w' vU u ∧ u.length = lU.length ∧ i ≤ n ∧ c < 4294967296 ∧ b ≤ 1 ∧ (∀ j, j < k ∨ k + i ≤ j → u.getD j 0 = lU.getD j 0) ∧ sg u k i + g * sg lv 0 i = sg lU k i + 4294967296 ^ i * (c + b)) (fun (i, c, b, u) => n - i) (0, 0, 0, lU) ⟨rfl, rfl, rfl, rfl, rfl, rfl, rfl, rfl, rfl, trivial⟩ ⟨hE0.toB, (hU.ext hE0), rfl, by omega, by omega, by omega, fun _ _ => rfl, by simp [sg]⟩ ?_
  rintro ⟨i, c, b, u⟩ w2 ⟨hE, ho, hlu, hi, hc, hb, hsame, hs⟩
  show WP _ _ _ _ _ [(0, slSub vU k (k + n + 1)), (1, vv), (5, .int .i64 (n : Nat)), (7, .int .u64 (g : Nat)), (9, .int .u64 (c : Nat)), (10, .int .u32 (b : Nat)), (83, vv), (84, .int .i64 (n : Nat)), (85, .int .i64 (i : Nat))] _
  have hz := hE.size
  have hxv := hv.d.getD i
  have hxu := hU.d.getD (k + i)
  have hsi := hsame (k + i) (.inr (Nat.le_refl _))
  have hxy : g * lv.getD i 0 ≤ 4294967295 * 4294967295 := Nat.mul_le_mul (by omega) (by omega)
  have hxy2 : ((g : Nat) : Int) * ((lv.getD i 0 : Nat) : Int) = ((g * lv.getD i 0 : Nat) : Int) := by rw [Int.natCast_mul]
  have hdv : (c + g * lv.getD i 0) / 4294967296 < 4294967296 := by omega
  refine WP_seq ?_
  refine WP_region ?_
  refine O_lss rfl rfl rfl rfl rfl ?_
  refine WL_end [(0, _), (1, _), (5, _), (7, _), (9, _), (10, _), (83, _), (84, _), (85, _), (86, _)] ⟨rfl, rfl, rfl, rfl, rfl, rfl, rfl, rfl, rfl, rfl, trivial⟩ ?_
  refine WP_seq ?_
  refine WP_condD rfl (fun c86 => ?_) (fun c86 => ?_)
  · --
   refine WP_skip ?_
   refine WP_seq ?_
   refine WP_block ?_
   refine WP_seq ?_
   refine WP_region ?_
   refine O_move rfl rfl rfl ?_
   refine N_index T22 rfl rfl rfl rfl (hv.extB hE (fun _ => hne)) _ rfl (by omega) ?_
   refine N_load Tryd.underlying111 rfl rfl rfl (hv.extB hE (fun _ => hne)) (by omega) (fun d89 => ?_)
   refine O_assign rfl rfl rfl ?_
   refine O_assign rfl rfl rfl ?_
   refine WL_end [(0, _), (1, _), (5, _), (7, _), (9, _), (10, _), (11, _), (12, _), (83, _), (84, _), (85, _)] ⟨rfl, rfl, rfl, rfl, rfl, rfl, rfl, rfl, rfl, rfl, rfl, trivial⟩ ?_
   refine WP_seq ?_
   refine WP_region ?_
   refine O_move rfl rfl rfl ?_
   refine O_move rfl rfl rfl ?_
   refine O_move rfl rfl rfl ?_
   refine O_conv Tryd.underlying111 Tryd.underlying83 rfl rfl rfl (wrap_u64_id (by omega) (by omega)) ?_
   refine O_mul (r := ((g * lv.getD i 0 : Nat) : Int)) rfl rfl rfl rfl (by rw [hxy2]; exact wrap_u64_id (by omega) (by omega)) ?_
   refine O_add rfl rfl rfl rfl (wrap_u64_id (by omega) (by omega)) ?_
   refine O_assign rfl rfl rfl ?_
   refine WL_end [(0, _), (1, _), (5, _), (7, _), (9, _), (10, _), (11, _), (83, _), (84, _), (85, _)] ⟨rfl, rfl, rfl, rfl, rfl, rfl, rfl, rfl, rfl, rfl, trivial⟩ ?_
   refine WP_seq ?_
   refine WP_region ?_
   refine O_move rfl rfl rfl ?_
   refine O_move rfl rfl rfl ?_
   refine O_move rfl rfl rfl ?_
   refine O_move rfl rfl rfl ?_
   refine N_indexV T22 k (k + n + 1) rfl rfl rfl rfl ho.nl (by omega) (by omega) i rfl (by omega) ?_
   refine N_load Tryd.underlying111 rfl rfl rfl ho.nl (by omega) (fun d102 => ?_)
   refine O_move rfl rfl rfl ?_
   refine O_conv Tryd.underlying83 Tryd.underlying111 (r := (((c + g * lv.getD i 0) % 4294967296 : Nat) : Int)) rfl rfl rfl (by rw [wrap_u32]; omega) ?_
   refine O_move rfl rfl rfl ?_
   refine O_call enters151 rfl rfl rfl (sub32_c (by (try simp only [lens]); omega) (Nat.mod_lt _ (by decide)) (by (try simp only [lens]); omega)) (fun v76 w76 e76 h76 => ?_)
   have z76 := e76.size
   obtain rfl := h76
   refine O_move rfl rfl rfl ?_
   refine O_extract rfl rfl rfl rfl ?_
   refine O_extract rfl rfl rfl rfl ?_
   refine N_indexV T22 k (k + n + 1) rfl rfl rfl rfl (ho.ext e76).nl (by omega) (by omega) i rfl (by omega) ?_
   refine N_store T22 rfl rfl rfl (ho.ext e76) (by omega) _ rfl (Nat.mod_lt _ (by decide)) (fun w77 o77 q77 a77 b77 => ?_)
   have z77 := q77.size
   have e77 : ExtB (vblk vU) w w77 := ((hE.trans e76.toB)).trans q77.toB
   refine O_assign rfl rfl rfl ?_
   refine WL_end [(0, _), (1, _), (5, _), (7, _), (9, _), (10, _), (83, _), (84, _), (85, _)] ⟨rfl, rfl, rfl, rfl, rfl, rfl, rfl, rfl, rfl, trivial⟩ ?_
   refine WP_region ?_
   refine O_move rfl rfl rfl ?_
   refine O_shr rfl rfl rfl rfl (by decide) (shr32' (c + g * lv.getD i 0) (by omega)) ?_
   refine O_assign rfl rfl rfl ?_
   refine WL_end [(0, _), (1, _), (5, _), (7, _), (9, _), (10, _), (83, _), (84, _), (85, _)] ⟨rfl, rfl, rfl, rfl, rfl, rfl, rfl, rfl, rfl, trivial⟩ ?_
   refine WP_region ?_
   refine O_add rfl rfl rfl rfl (wrap_i64_id (by omega) (by omega)) ?_
   refine O_move rfl rfl rfl ?_
   refine WL_end [(0, _), (1, _), (5, _), (7, _), (9, _), (10, _), (83, _), (84, _), (85, _)] ⟨rfl, rfl, rfl, rfl, rfl, rfl, rfl, rfl, rfl, trivial⟩ ?_
   have h8 := sub_step (d := ((lU.getD (k + i) 0 + 8589934592 - (c + g * lv.getD i 0) % 4294967296 - b) % 4294967296)) (lo := (c + g * lv.getD i 0) % 4294967296) (hi := (c + g * lv.getD i 0) / 4294967296) (b' := if lU.getD (k + i) 0 < (c + g * lv.getD i 0) % 4294967296 + b then 1 else 0) (by omega) hs hsi (by omega) (sub32_eq hxu (Nat.mod_lt _ (by decide)) hb)
   rw [← hsi] at h8
   exact ⟨(i + 1, (c + g * lv.getD i 0) / 4294967296, _, _), ⟨rfl, rfl, rfl, rfl, rfl, rfl, rfl, rfl, rfl, trivial⟩, ⟨e77, o77, by simp [hlu], by omega, hdv, by split <;> omega, fun j hj => by rw [getD_set_other _ _ (by omega)]; exact hsame j (by omega), h8⟩, by dsimp only; omega⟩
  · --
   refine WP_exit ?_
   refine inBlk_hit ?_
   refine WP_seq ?_
   refine WP_region ?_
   refine O_move rfl rfl rfl ?_
   refine O_move rfl rfl rfl ?_
   refine O_move rfl rfl rfl ?_
   refine O_move rfl rfl rfl ?_
   refine N_indexV T22 k (k + n + 1) rfl rfl rfl rfl ho.nl (by omega) (by omega) n rfl (by omega) ?_
   refine N_load Tryd.underlying111 rfl rfl rfl ho.nl (by omega) (fun d119 => ?_)
   refine O_move rfl rfl rfl ?_
   refine O_conv Tryd.underlying83 Tryd.underlying111 (r := ((c : Nat) : Int)) rfl rfl rfl (by rw [wrap_u32]; omega) ?_
   refine O_move rfl rfl rfl ?_
   refine O_call enters151 rfl rfl rfl (sub32_c (by (try simp only [lens]); omega) (by (try simp only [lens]); omega) (by (try simp only [lens]); omega)) (fun v78 w78 e78 h78 => ?_)
   have z78 := e78.size
   obtain rfl := h78
   refine O_move rfl rfl rfl ?_
   refine O_extract rfl rfl rfl rfl ?_
   refine O_extract rfl rfl rfl rfl ?_
   refine N_indexV T22 k (k + n + 1) rfl rfl rfl rfl (ho.ext e78).nl (by omega) (by omega) n rfl (by omega) ?_
   refine N_store T22 rfl rfl rfl (ho.ext e78) (by omega) _ rfl (Nat.mod_lt _ (by decide)) (fun w79 o79 q79 a79 b79 => ?_)
   have z79 := q79.size
   have e79 : ExtB (vblk vU) w w79 := ((hE.trans e78.toB)).trans q79.toB
   obtain rfl : n = i := by omega
   have hun2 := hU.d.getD (k + n)
   have hs1 := sub_last (b' := if lU.getD (k + n) 0 < c + b then 1 else 0) (by omega) hs hsi (sub32_eq hun2 hc hb)
   rw [← hsi] at hs1
   have hlu1 : (u.set (k + n) ((u.getD (k + n) 0 + 8589934592 - c - b) % 4294967296)).length = lU.length := by simp [hlu]
   have hsame1 : ∀ j, j < k ∨ k + n + 1 ≤ j → (u.set (k + n) ((u.getD (k + n) 0 + 8589934592 - c - b) % 4294967296)).getD j 0 = lU.getD j 0 := fun j hj => by rw [getD_set_other _ _ (by omega)]; exact hsame j (by omega)
   have hu1 := o79.d
   have hR1 := sg_lt hu1 k (n + 1)
   have hbb1 : (if u.getD (k + n) 0 < c + b then 1 else 0) ≤ 1 := by split <;> omega
   generalize (u.set (k + n) ((u.getD (k + n) 0 + 8589934592 - c - b) % 4294967296)) = u1 at o79 hs1 hlu1 hsame1 hu1 hR1 ⊢
   generalize (if u.getD (k + n) 0 < c + b then 1 else 0) = bb at hs1 hbb1 ⊢
   refine O_assign rfl rfl rfl ?_
   refine WL_end [(0, _), (1, _), (5, _), (7, _), (10, _)] ⟨rfl, rfl, rfl, rfl, rfl, trivial⟩ ?_
   refine WP_seq ?_
   refine WP_seq ?_
   refine WP_region ?_
   refine O_move rfl rfl rfl ?_
   refine O_neq rfl rfl rfl rfl rfl ?_
   refine WL_end [(0, _), (1, _), (5, _), (7, _), (128, _)] ⟨rfl, rfl, rfl, rfl, rfl, trivial⟩ ?_
   refine WP_condN rfl (fun c128 => ?_) (fun c128 => ?_)
   · --
    refine WP_seq ?_
    refine WP_region ?_
    refine O_move rfl rfl rfl ?_
    have hbb2 : bb = 1 := by omega
    have hg0 : g ≠ 0 := by
      rintro rfl
      rw [hbb2, Nat.zero_mul, Nat.add_zero, Nat.mul_one] at hs1
      rw [hs1] at hR1
      exact absurd hR1 (Nat.not_lt.2 (Nat.le_add_left _ _))
    refine O_sub (r := ((g - 1 : Nat) : Int)) rfl rfl rfl rfl (by rw [wrap_u64]; omega) ?_
    refine O_assign rfl rfl rfl ?_
    refine WL_end [(0, _), (1, _), (5, _), (7, _)] ⟨rfl, rfl, rfl, rfl, trivial⟩ ?_
    refine WP_seq ?_
    refine WP_region ?_
    refine O_assign rfl rfl rfl ?_
    refine WL_end [(0, _), (1, _), (5, _), (7, _), (13, _)] ⟨rfl, rfl, rfl, rfl, rfl, trivial⟩ ?_
    refine WP_seq ?_
    refine WP_seq ?_
    refine WP_region ?_
    refine O_move rfl rfl rfl ?_
    refine N_len T22 rfl rfl rfl (hv.extB e79 (fun _ => hne)) ?_
    rw [hn]
    refine O_move rfl rfl rfl ?_
    refine WL_end [(0, _), (5, _), (7, _), (13, _), (131, _), (132, _), (133, _)] ⟨rfl, rfl, rfl, rfl, rfl, rfl, rfl, trivial⟩ ?_
    refine WP_block ?_
    refine WP_loop (S := Nat × Nat × List Nat) (fun (i, a, u2) => [(0, slSub vU k (k + n + 1)), (5, .int .i64 (n : Nat)), (7, .int .u64 (g - 1 : Nat)), (13, .int .u32 (a : Nat)), (131, vv), (132, .int .i64 (n : Nat)), (133, .int .i64 (i : Nat))]) (fun (i, a, u2) w' => ExtB (vblk vU) w w' ∧ No B 111 w' vU u2 ∧ u2.length = lU.length ∧ i ≤ n ∧ a ≤ 1 ∧ (∀ j, j < k ∨ k + i ≤ j → u2.getD j 0 = u1.getD j 0) ∧ sg u2 k i + 4294967296 ^ i * a = sg u1 k i + sg lv 0 i) (fun (i, a, u2) => n - i) (0, 0, u1) ⟨rfl, rfl, rfl, rfl, rfl, rfl, rfl, trivial⟩ ⟨e79, o79, hlu1, by omega, by omega, fun _ _ => rfl, by simp [sg]⟩ ?_
    rintro ⟨i, a, u2⟩ w3 ⟨hE3, ho3, hlu3, hi, ha, hsame3, hs3⟩
    show WP _ _ _ _ _ [(0, slSub vU k (k + n + 1)), (5, .int .i64 (n : Nat)), (7, .int .u64 (g - 1 : Nat)), (13, .int .u32 (a : Nat)), (131, vv), (132, .int .i64 (n : Nat)), (133, .int .i64 (i : Nat))] _
    have hz3 := hE3.size
    have hxv := hv.d.getD i
    have hxu := hu1.getD (k + i)
    have hsi := hsame3 (k + i) (.inr (Nat.le_refl _))
    have hdv : (u1.getD (k + i) 0 + lv.getD i 0 + a) / 4294967296 ≤ 1 := by omega
    refine WP_seq ?_
    refine WP_region ?_
    refine O_lss rfl rfl rfl rfl rfl ?_
    refine WL_end [(0, _), (5, _), (7, _), (13, _), (131, _), (132, _), (133, _), (134, _)] ⟨rfl, rfl, rfl, rfl, rfl, rfl, rfl, rfl, trivial⟩ ?_
    refine WP_seq ?_
    refine WP_condD rfl (fun c134 => ?_) (fun c134 => ?_)
    · --
     refine WP_skip ?_
     refine WP_seq ?_
     refine WP_block ?_
     refine WP_seq ?_
     refine WP_region ?_
     refine O_move rfl rfl rfl ?_
     refine N_index T22 rfl rfl rfl rfl (hv.extB hE3 (fun _ => hne)) _ rfl (by omega) ?_
     refine N_load Tryd.underlying111 rfl rfl rfl (hv.extB hE3 (fun _ => hne)) (by omega) (fun d137 => ?_)
     refine O_assign rfl rfl rfl ?_
     refine O_assign rfl rfl rfl ?_
     refine WL_end [(0, _), (5, _), (7, _), (13, _), (14, _), (15, _), (131, _), (132, _), (133, _)] ⟨rfl, rfl, rfl, rfl, rfl, rfl, rfl, rfl, rfl, trivial⟩ ?_
     refine WP_region ?_
     refine O_move rfl rfl rfl ?_
     refine O_move rfl rfl rfl ?_
     refine O_move rfl rfl rfl ?_
     refine O_move rfl rfl rfl ?_
     refine N_indexV T22 k (k + n + 1) rfl rfl rfl rfl ho3.nl (by omega) (by omega) i rfl (by omega) ?_
     refine N_load Tryd.underlying111 rfl rfl rfl ho3.nl (by omega) (fun d144 => ?_)
     refine O_move rfl rfl rfl ?_
     refine O_move rfl rfl rfl ?_
     refine O_call enters166 rfl rfl rfl (add32_c (by (try simp only [lens]); omega) (by (try simp only [lens]); omega) (by (try simp only [lens]); omega)) (fun v80 w80 e80 h80 => ?_)
     have z80 := e80.size
     obtain rfl := h80
     refine O_move rfl rfl rfl ?_
     refine O_extract rfl rfl rfl rfl ?_
     refine O_extract rfl rfl rfl rfl ?_
     refine N_indexV T22 k (k + n + 1) rfl rfl rfl rfl (ho3.ext e80).nl (by omega) (by omega) i rfl (by omega) ?_
     refine N_store T22 rfl rfl rfl (ho3.ext e80) (by omega) _ rfl (Nat.mod_lt _ (by decide)) (fun w81 o81 q81 a81 b81 => ?_)
     have z81 := q81.size
     have e81 : ExtB (vblk vU) w w81 := ((hE3.trans e80.toB)).trans q81.toB
     refine O_assign rfl rfl rfl ?_
     refine WL_end [(0, _), (5, _), (7, _), (13, _), (131, _), (132, _), (133, _)] ⟨rfl, rfl, rfl, rfl, rfl, rfl, rfl, trivial⟩ ?_
     refine WP_region ?_
     refine O_add rfl rfl rfl rfl (wrap_i64_id (by omega) (by omega)) ?_
     refine O_move rfl rfl rfl ?_
     refine WL_end [(0, _), (5, _), (7, _), (13, _), (131, _), (132, _), (133, _)] ⟨rfl, rfl, rfl, rfl, rfl, rfl, rfl, trivial⟩ ?_
     have h8 := add_step (by omega) hs3 hsi
     rw [← hsi] at h8
     exact ⟨(i + 1, _, _), ⟨rfl, rfl, rfl, rfl, rfl, rfl, rfl, trivial⟩, ⟨e81, o81, by simp [hlu3], by omega, by rw [hsi]; exact hdv, fun j hj => by rw [getD_set_other _ _ (by omega)]; exact hsame3 j (by omega), h8⟩, by dsimp only; omega⟩
    · --
     refine WP_exit ?_
     refine inBlk_hit ?_
     refine WP_region ?_
     refine O_move rfl rfl rfl ?_
     refine O_move rfl rfl rfl ?_
     refine N_indexV T22 k (k + n + 1) rfl rfl rfl rfl ho3.nl (by omega) (by omega) n rfl (by omega) ?_
     refine N_load Tryd.underlying111 rfl rfl rfl ho3.nl (by omega) (fun d155 => ?_)
     refine O_move rfl rfl rfl ?_
     refine O_add (r := (((u2.getD (k + n) 0 + a) % 4294967296 : Nat) : Int)) rfl rfl rfl rfl (by rw [wrap_u32]; omega) ?_
     refine N_indexV T22 k (k + n + 1) rfl rfl rfl rfl ho3.nl (by omega) (by omega) n rfl (by omega) ?_
     refine N_store T22 rfl rfl rfl ho3 (by omega) _ rfl (Nat.mod_lt _ (by decide)) (fun w82 o82 q82 a82 b82 => ?_)
     have z82 := q82.size
     have e82 : ExtB (vblk vU) w w82 := (hE3).trans q82.toB
     refine WL_end [(7, _)] ⟨rfl, trivial⟩ ?_
     refine WP_seq ?_
     refine WP_region ?_
     refine O_move rfl rfl rfl ?_
     refine O_conv Tryd.underlying83 Tryd.underlying111 rfl rfl rfl (wrap_u32_id (by omega) (by omega)) ?_
     refine O_assign rfl rfl rfl ?_
     refine WL_end [(4, _)] ⟨rfl, trivial⟩ ?_
     refine WP_ret ?_
     refine ret1 Tryd.results159 rfl ?_
     obtain rfl : n = i := by omega
     have h8 := add_last (by omega) hs3 hsi
     rw [← hsi] at h8
     have hR2 := sg_lt o82.d k (n + 1)
     rw [hbb2] at hs1
     obtain ⟨k1, k2, k3⟩ := ms_end1 hs1 hR2 (Nat.le_trans (Nat.le_of_lt (sg_lt hv.d 0 n)) (Nat.pow_le_pow_right (by decide) (Nat.le_succ n))) hR1 h8 hgU hgV
     exact ⟨_, rfl, e82, by rw [k2], _, o82, by simp [hlu3], fun j hj => by rw [getD_set_other _ _ (by omega), hsame3 j (by omega)]; exact hsame1 j hj, k3⟩
   · --
    refine WP_skip ?_
    refine WP_seq ?_
    refine WP_region ?_
    refine O_move rfl rfl rfl ?_
    refine O_conv Tryd.underlying83 Tryd.underlying111 rfl rfl rfl (wrap_u32_id (by omega) (by omega)) ?_
    refine O_assign rfl rfl rfl ?_
    refine WL_end [(4, _)] ⟨rfl, trivial⟩ ?_
    refine WP_ret ?_
    refine ret1 Tryd.results159 rfl ?_
    obtain rfl : bb = 0 := by omega
    obtain ⟨k2, k3⟩ := ms_end0 hs1 hgU
    exact ⟨_, rfl, e79, by rw [k2], _, o79, hlu1, hsame1, k3⟩

end Go.Proofs.YthbfhljpfkicpaaDoor
