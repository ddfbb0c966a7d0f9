/-
  Walks.
-/
import Derived.Test.YtoccimigjjndpaaLit2
import Derived.Test.YtoccimigjjndpaaV2
set_option linter.unusedVariables false
set_option linter.unusedSimpArgs false
set_option maxRecDepth 100000
namespace Go.Proofs.Ytoccimigjjndpaa
open Go Go.RowKit
theorem cvalid_T {w : World} {v : Value} {l : List Ch} (hs : SlC w v l) (hl : l.length ≤ 1000000000) (hv : validB l = true) : Calls Try.prog 48 #[v] w (Ret w fun r _ => r = .bool true) :=
  (cvalid_c hs hl).mono fun _ w' ⟨r, he, hx', hr⟩ => ⟨r, he, hx', by rw [hr, hv]⟩
theorem awk_fmt : fmtB [(1, ⟨#[120]⟩, -1, 3), (2, ⟨#[121]⟩, 2, -1)] = ⟨#[43, 120, 32, 45, 121]⟩ := by decide
theorem awk_val : validB [(1, ⟨#[120]⟩, -1, 3), (2, ⟨#[121]⟩, 2, -1)] = true := by
  have h : nlt ⟨#[120]⟩ ⟨#[121]⟩ = true := by
    unfold nlt
    rw [Lib.toList_data, Lib.toList_data]
    rfl
  unfold validB
  rw [show List.range ([(1, ⟨#[120]⟩, -1, 3), (2, ⟨#[121]⟩, 2, -1)] : List Ch).length = [0, 1] from rfl]
  simp [stepB, okB, h]
theorem awk_betw : (((betw Tr.leaf.env [(⟨#[97]⟩, 1)]).length : Nat) : Int) = 1 := by
  have h1 : mergeN [(Tr.leaf.env).map (·.1), [((⟨#[97]⟩ : ByteArray), (1 : Int))].map (·.1)] = [⟨#[97]⟩] := by rfl
  have h2 : nodev [((⟨#[97]⟩ : ByteArray), (1 : Int))] ⟨#[97]⟩ = 1 := nodev_some eget_cons_eq
  have h3 : nodev Tr.leaf.env ⟨#[97]⟩ = -1 := rfl
  unfold betw
  rw [h1]
  simp [h2, h3, chq]

theorem awake29_c {w : World} :
    Calls Try.prog 41 #[] w (Ret w fun r _ => r = .bool true) := by
 refine enter (args := []) Try.func41 rfl Try.ntmps41 rfl ?_
 refine WP_seq ?_
 refine WP_region ?_
 refine O_assign rfl rfl rfl ?_
 refine WL_end [] trivial ?_
 refine WP_seq ?_
 refine WP_region ?_
 refine O_build (cs := [_, _, _, _]) B74 rfl rfl rfl (cells_cons rfl (cells_cons rfl (cells_cons rfl (cells_cons rfl cells_nil)))) rfl ?_
 refine O_build (cs := [_, _, _, _]) B74 rfl rfl rfl (cells_cons rfl (cells_cons rfl (cells_cons rfl (cells_cons rfl cells_nil)))) rfl ?_
 refine C_lit2 (a := (1, ⟨#[120]⟩, -1, 3)) (b := (2, ⟨#[121]⟩, 2, -1)) Echange rfl rfl rfl rfl (fun v50 w50 o50 e50 => ?_)
 have z50 := e50.size
 refine O_assign rfl rfl rfl ?_
 refine WL_end [(1, _)] ⟨rfl, trivial⟩ ?_
 refine WP_seq ?_
 refine WP_region ?_
 refine O_call enters43 rfl rfl rfl (New_c) (fun v1 w1 e1 h1 => ?_)
 have z1 := e1.size
 obtain ⟨gf, rfl, hF0, hg0, hg1⟩ := h1
 have hG0 : FG w.heap.size w1 gf [] := ⟨gf, hF0, by omega, by omega⟩
 refine O_assign rfl rfl rfl ?_
 refine WL_end [(1, _), (2, _)] ⟨rfl, rfl, trivial⟩ ?_
 refine WP_seq ?_
 refine WP_region ?_
 refine O_move rfl rfl rfl ?_
 refine O_call enters49 rfl rfl rfl (format_c (o50.ext e1).sl (by decide) (by decide) (by decide)) (fun v2 w2 e2 h2 => ?_)
 have z2 := e2.size
 obtain rfl := h2
 refine O_seqlB rfl rfl rfl rfl (decide_eq_true awk_fmt) ?_
 refine O_move rfl rfl rfl ?_
 refine O_move rfl rfl rfl ?_
 refine O_call enters48 rfl rfl rfl (cvalid_T ((o50.ext e1).ext e2).sl (by decide) awk_val) (fun v3 w3 e3 h3 => ?_)
 have z3 := e3.size
 obtain rfl := h3
 refine O_pickT rfl rfl rfl rfl ?_
 refine O_move rfl rfl rfl ?_
 refine O_move rfl rfl rfl ?_
 refine O_call enters44 rfl rfl rfl (between_c (t1 := .leaf) (t2 := .leaf) (i1 := -1) (i2 := -1) ((hG0.ext e2).ext e3) rfl trivial rfl trivial (by decide)) (fun v4 w4 e4 h4 => ?_)
 have z4 := e4.size
 have k4 := h4
 rw [betw_self] at k4
 refine C_len Echange rfl rfl rfl k4.sl ?_
 refine O_eql (t := true) rfl rfl rfl rfl (decide_eq_true rfl) ?_
 refine O_pickT rfl rfl rfl rfl ?_
 refine O_move rfl rfl rfl ?_
 refine O_move rfl rfl rfl ?_
 refine O_move rfl rfl rfl ?_
 refine O_callU enters28 rfl rfl rfl (Set_U (t := .leaf) (((hG0.ext e2).ext e3).ext e4) (by omega) rfl trivial trivial (by decide) (by decide) _ _) (fun qs i u w7 hT7 hb7 hF7 hq7 hR7 hO7 hA7 hv7 hs7 => ?_)
 replace hv7 : u.env = [(⟨#[97]⟩, 1)] := hv7
 have hc7 := Tr.env_length u
 rw [hv7] at hc7
 have hc8 : u.cnt = 1 := hc7.symm
 have zT7 := hT7.size
 refine O_call enters44 rfl rfl rfl (between_c (t1 := .leaf) (t2 := u) (i1 := -1) hF7 rfl trivial hR7 hO7 (by rw [hc8]; decide)) (fun v5 w5 e5 h5 => ?_)
 have z5 := e5.size
 have k5 := h5
 rw [hv7] at k5
 refine C_len Echange rfl rfl rfl k5.sl ?_
 refine O_eql (t := true) rfl rfl rfl rfl (decide_eq_true awk_betw) ?_
 refine O_pickT rfl rfl rfl rfl ?_
 refine O_assign rfl rfl rfl ?_
 refine WL_end [(0, _)] ⟨rfl, trivial⟩ ?_
 refine WP_ret ?_
 refine ret1 Try.results41 rfl ?_
 exact ⟨_, rfl, ((hb7 _ ((((e50.trans e1).trans e2).trans e3).trans e4) (Nat.le_refl _)).trans e5), rfl⟩

end Go.Proofs.Ytoccimigjjndpaa
