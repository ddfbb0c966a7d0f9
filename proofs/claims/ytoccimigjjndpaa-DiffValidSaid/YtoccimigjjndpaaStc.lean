/-
  A field of a change in a row of one's own is set; how long texts of changes are.
-/
import Derived.Test.YtoccimigjjndpaaV8
import Derived.Test.YtoccimigjjndpaaW7
import Derived.Test.YtoccimigjjndpaaW8
set_option linter.unusedVariables false
set_option linter.unusedSimpArgs false
namespace Go.Proofs.Ytoccimigjjndpaa
open Go Go.RowKit
theorem flat_set {z : Nat} {u : Value} : ∀ (rows : List (List Value)) (k off : Nat), (∀ r ∈ rows, r.length = z) → (hk : k < rows.length) → off < z → rows.flatten.set (k * z + off) u = (rows.set k (rows[k].set off u)).flatten
  | [], k, off, _, hk, _ => absurd hk (by simp)
  | r :: rs, 0, off, h, hk, ho => by
    have hr := h r (by simp)
    rw [List.flatten_cons, Nat.zero_mul, Nat.zero_add, List.set_append_left (h := by omega), List.set_cons_zero, List.flatten_cons]
    rfl
  | r :: rs, k + 1, off, h, hk, ho => by
    have hr := h r (by simp)
    have ih := flat_set (u := u) rs k off (fun r hr => h r (List.mem_cons_of_mem _ hr)) (by simpa using hk) ho
    rw [List.flatten_cons, List.set_append_right (h := by rw [hr, Nat.succ_mul]; omega), List.set_cons_succ, List.flatten_cons, show (k + 1) * z + off - r.length = k * z + off from by rw [hr, Nat.succ_mul]; omega, ih]
    rfl
section
variable {P : Program} {n : Nat} {K : Rho → World → Prop} {ρ : Rho} {w w' : World} {ops rest : List Oper}
variable {ty : TypeId} {pos : String} {after : Array Edge} {g : Option (Nat × Bool)} {d : Nat} {t : TypeId} {l : List Ch} {B : Nat} {v u : Value}
theorem C_storeF {x y : Operand} {k off : Nat} {c' : Ch} (hsz : (P.info? t).map (·.size) = some 1) (hg : gd ops ρ g = some true) (hx : ev ρ x = some (.pointer (some ((slAt v (k * 4)).add off)))) (hy : ev ρ y = some u) (h1 : u.oneCell' = true)
    (ho : OwC B w v l) (hk : k < l.length) (hoff : off < 4) (hc : (ccells l[k]).set off u = ccells c')
    (h : ∀ w', OwC B w' v (l.set k c') → Chg (vblk v) w w' → B ≤ vblk v → WL P n ops rest K ρ w') :
    WL P n ops (⟨none, .store t x y, ty, pos, after, g⟩ :: rest) K ρ w := by
  obtain ⟨inf, hi, hs1⟩ : ∃ inf, P.info? t = some inf ∧ inf.size = 1 := by
    cases hq : P.info? t with
    | none => rw [hq] at hsz; cases hsz
    | some inf => rw [hq] at hsz; exact ⟨inf, rfl, by simpa using hsz⟩
  obtain ⟨⟨hl, h2⟩, h0⟩ := ho
  rcases h2 with ⟨rfl, h3⟩ | ⟨gb, cap, cur, rfl, hb, hh, hn, hm, hs, ht⟩
  · rw [List.length_map] at h3; omega
  · rw [List.length_map] at *
    have ha : (slAt (.slice (some ⟨gb, 0, none⟩) l.length cap) (k * 4)).add off = ⟨gb, k * 4 + off, none⟩ := by simp only [slAt]; rw [add_add]; simp [Addr.add]; exact fun p q => by rw [p, q]
    rw [ha] at hx
    have hlt : k * 4 + off < cur.size := by rw [hs]; omega
    have hcell : w.cell? ⟨gb, k * 4 + off, none⟩ = some cur[k * 4 + off] := by
      rw [cell_of_row w gb _ cur _ (0, 0) hh]
      simp [hlt]
    have hrow : ((l.map ccells).set k (ccells c')) = (l.set k c').map ccells := by rw [List.map_set]
    have hfl : (l.map ccells).flatten.set (k * 4 + off) u = ((l.set k c').map ccells).flatten := by
      rw [flat_set (l.map ccells) k off h0 (by rw [List.length_map]; exact hk) hoff, List.getElem_map, hc, hrow]
    refine O_store hi hs1 hg hx hy h1 hcell (frozen_of_row w gb _ cur _ hh) (h _ ?_ (Chg.setCell w ⟨gb, k * 4 + off, none⟩ u) hb)
    refine ⟨⟨by rw [← hfl]; simpa using hl, .inr ⟨gb, cap, cur.setIfInBounds (k * 4 + off) u, by simp, hb, heap_setCell_same w gb _ cur _ u hh, by simpa using hn, hm, by simpa using hs, ?_⟩⟩, fun r hr => ?_⟩
    · rw [Array.toList_setIfInBounds, List.length_map, List.length_set, ← hfl, ← ht, List.take_set]
    · obtain ⟨c, _, rfl⟩ := List.mem_map.1 hr
      rfl
theorem OwC.chgT (h : OwC B w v l) (hn : l ≠ []) (hc : Chg (vblk v) w w') : ExtT [74] w w' := by
  obtain ⟨⟨_, h2⟩, _⟩ := h
  rcases h2 with ⟨rfl, h3⟩ | ⟨k, cap, cur, rfl, _, hh, _⟩
  · exact absurd (by simpa using h3) hn
  · exact ⟨Nat.le_of_eq hc.size.symm, fun j cs e' hj he => hc.block j fun e'' => by
      subst e''
      rw [hh] at hj
      simp only [Option.some.injEq, Obj.cells.injEq] at hj
      exact he (by simp [hj.2.1])⟩
end
theorem markB_size (c : Ch) : (markB c).size = 1 := by
  unfold markB
  split
  · rfl
  · split <;> rfl
theorem frm_size {l : List Ch} (h : ∀ c ∈ l, c.2.1.size ≤ 100) : ∀ i, (frm l i).size ≤ 102 * min i l.length
  | 0 => by simp [frm, ByteArray.size]
  | i + 1 => by
    have ih := frm_size h i
    by_cases hi : i < l.length
    · have h1 := h l[i] (List.getElem_mem hi)
      rw [frm_succ hi, ByteArray.size_append, ByteArray.size_append, markB_size]
      by_cases h0 : 0 < i
      · rw [if_pos h0, ByteArray.size_append, show (⟨#[32]⟩ : ByteArray).size = 1 from rfl]
        omega
      · rw [if_neg h0]
        omega
    · have e : frm l (i + 1) = frm l i := by
        rw [frm, List.getElem?_eq_none (by omega)]
      rw [e]
      omega
theorem fmt_len {l : List Ch} (h : ∀ c ∈ l, c.2.1.size ≤ 100) : (Lib.join ((l.map wordB).map (·.data.toList)) [32]).length ≤ 102 * l.length := by
  have h1 := frm_join l l.length (Nat.le_refl _)
  rw [List.take_length] at h1
  rw [← h1]
  have h2 := frm_size h l.length
  rw [Nat.min_self] at h2
  rw [Array.length_toList]
  exact h2
theorem betw_names {x y : Env} (hx : ∀ b ∈ x, b.1.size ≤ 100) (hy : ∀ b ∈ y, b.1.size ≤ 100) : ∀ c ∈ betw x y, c.2.1.size ≤ 100 := fun c hc => by
  rcases betw_name hc with k | k
  · obtain ⟨b, hb, e⟩ := List.mem_map.1 k
    rw [← e]; exact hx b hb
  · obtain ⟨b, hb, e⟩ := List.mem_map.1 k
    rw [← e]; exact hy b hb
end Go.Proofs.Ytoccimigjjndpaa
