/-
  Walks.
-/
import Derived.Test.YtnfnadhbjdcbnaaDoorD8
set_option linter.unusedVariables false
set_option linter.unusedSimpArgs false
set_option maxRecDepth 100000
namespace Go.Proofs.YtnfnadhbjdcbnaaDoor
open Go Go.RowKit
theorem fint_ne {z : Int} : ∀ b ∈ fint z, b ≠ 112 := by
  have h : ∀ n : Nat, ∀ b ∈ dstr n, b ≠ 112 := fun n b hb e => by
    have h1 := (natok_dstr n).2.1 b hb
    subst e; revert h1; decide
  intro b hb
  unfold fint at hb
  split at hb
  · rcases List.mem_cons.1 hb with rfl | hb
    · decide
    · exact h _ b hb
  · exact h _ b hb
theorem parse_fmt {x e : Int} (hv : dval x e = true) (hx : (fint x).length ≤ 20001) (he : (fint e).length ≤ 8) (he1 : -9223372036854775808 ≤ e) (he2 : e ≤ 9223372036854775807) :
    dyc (dyfmt x e) = 0 ∧ dym (dyfmt x e) = x ∧ dye (dyfmt x e) = e := by
  have hl : dyfmt x e = fint x ++ 112 :: fint e := by unfold dyfmt; rw [List.append_assoc]; rfl
  have hp : pidx (dyfmt x e) = (fint x).length := by rw [hl]; exact pidx_app _ fint_ne
  have hn : (dyfmt x e).length = (fint x).length + (fint e).length + 1 := by rw [hl]; simp; omega
  have hb : cutb (dyfmt x e) = fint x := by unfold cutb; rw [hp, hl]; simp
  have ha : cuta (dyfmt x e) = fint e := by unfold cuta; rw [hp, hl]; simp
  have h1 : dpc (fint x) = 0 ∧ dpz (fint x) = x := by
    have h := dpc_ok (l := fint x) (by omega) (intok_fint x)
    rw [pint_fint] at h; exact h
  have h2 : dpc (fint e) = 0 ∧ dpz (fint e) = e := by
    have h := dpc_ok (l := fint e) (by omega) (intok_fint e)
    rw [pint_fint] at h; exact h
  have hok : dyok (dyfmt x e) := by
    refine ⟨by unfold cutok; omega, ?_, ?_, ?_, ?_⟩
    · rw [hb]; exact h1.1
    · rw [ha]; exact h2.1
    · rw [ha, h2.2]; exact decide_eq_true ⟨he1, he2⟩
    · rw [hb, ha, h1.2, h2.2]; exact hv
  have h3 := dyc_ok (l := dyfmt x e) (by omega) hok
  rw [hb, ha, h1.2, h2.2] at h3
  exact h3
theorem fmt_parse {l : List UInt8} (h : dyc l = 0) : dyfmt (dym l) (dye l) = l := by
  have h0 : ¬ 20010 < l.length := fun hb => by rw [(dyc_big hb).1] at h; cases h
  have hok : dyok l := by
    by_cases hk : dyok l
    · exact hk
    · rw [(dyc_bad h0 hk).1] at h; cases h
  obtain ⟨_, hm, he⟩ := dyc_ok h0 hok
  obtain ⟨k1, k2, k3, _⟩ := hok
  have hz : ∀ t : List UInt8, dpc t = 0 → fint (dpz t) = t := fun t ht => by
    by_cases hb : 20001 < t.length
    · rw [(dpc_big hb).1] at ht; cases ht
    · by_cases hi : intok t
      · rw [(dpc_ok hb hi).2]; exact fint_pint hi
      · rw [(dpc_bad hb hi).1] at ht; cases ht
  rw [hm, he]
  unfold dyfmt
  rw [hz _ k2, hz _ k3]
  unfold cutb cuta
  have hg := pidx_get k1
  obtain ⟨hlt, hge⟩ := List.getElem?_eq_some_iff.1 hg
  rw [List.append_assoc, List.singleton_append, ← hge, ← List.drop_eq_getElem_cons hlt, List.take_append_drop]
theorem fint_small {e : Int} (h1 : -9999999 ≤ e) (h2 : e ≤ 9999999) : (fint e).length ≤ 8 := by
  have h : (dstr e.natAbs).length ≤ 7 := by
    unfold dstr
    split
    · simp
    · rw [List.length_reverse]; exact rdg_len 7 _ (by omega)
  unfold fint
  split
  · simp only [List.length_cons]; omega
  · omega

end Go.Proofs.YtnfnadhbjdcbnaaDoor
