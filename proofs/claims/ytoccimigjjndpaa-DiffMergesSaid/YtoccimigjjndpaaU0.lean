/-
  Walks.
-/
import Derived.Test.YtoccimigjjndpaaT12
set_option linter.unusedVariables false
set_option linter.unusedSimpArgs false
set_option maxRecDepth 100000
namespace Go.Proofs.Ytoccimigjjndpaa
open Go Go.RowKit
theorem List_G {w : World} {B g : Nat} {ps : List Part} (hF : FG B w g ps) {i : Int} {t : Tr} (hR : Rep ps i t) (hc : t.cnt ≤ 10000000) : Calls Try.prog 20 #[.pointer (some ⟨g, 0, none⟩), .int .i64 i] w (Ret w (fun r w' => OwB w.heap.size w' r t.env)) := by
  obtain ⟨r, hr, _⟩ := hF
  exact List_c hr hR hc
theorem Count_G {w : World} {B g : Nat} {ps : List Part} (hF : FG B w g ps) {i : Int} {t : Tr} (hR : Rep ps i t)  : Calls Try.prog 21 #[.pointer (some ⟨g, 0, none⟩), .int .i64 i] w (Ret w (fun r _ => r = .int .i64 (t.cnt : Nat))) := by
  obtain ⟨r, hr, _⟩ := hF
  exact Count_c hr hR
theorem Height_G {w : World} {B g : Nat} {ps : List Part} (hF : FG B w g ps) {i : Int} {t : Tr} (hR : Rep ps i t)  : Calls Try.prog 25 #[.pointer (some ⟨g, 0, none⟩), .int .i64 i] w (Ret w (fun r _ => r = .int .i64 (t.ht : Nat))) := by
  obtain ⟨r, hr, _⟩ := hF
  exact Height_c hr hR
theorem Balanced_G {w : World} {B g : Nat} {ps : List Part} (hF : FG B w g ps) {i : Int} {t : Tr} (hR : Rep ps i t) (ho : t.Ord) (hA : t.Avl) (hc : t.cnt ≤ 10000000) : Calls Try.prog 34 #[.pointer (some ⟨g, 0, none⟩), .int .i64 i] w (Ret w (fun r _ => r = .bool true)) := by
  obtain ⟨r, hr, _⟩ := hF
  exact Balanced_c hr hR ho hA hc
theorem Get_G {w : World} {B g : Nat} {ps : List Part} (hF : FG B w g ps) {i : Int} {t : Tr} (hR : Rep ps i t) (ho : t.Ord) (s : ByteArray) : Calls Try.prog 33 #[.pointer (some ⟨g, 0, none⟩), .int .i64 i, .string s] w (Ret w (fun r _ => r = .tuple #[.int .i64 ((eget t.env s).getD 0), .bool (eget t.env s).isSome])) := by
  obtain ⟨r, hr, _⟩ := hF
  rw [← Tr.get_env ho]; exact Get_c hr hR
theorem Rank_G {w : World} {B g : Nat} {ps : List Part} (hF : FG B w g ps) {i : Int} {t : Tr} (hR : Rep ps i t) (ho : t.Ord) (hc : t.cnt ≤ 10000000) (s : ByteArray) : Calls Try.prog 37 #[.pointer (some ⟨g, 0, none⟩), .int .i64 i, .string s] w (Ret w (fun r _ => r = .int .i64 (eat t.env s : Nat))) := by
  obtain ⟨r, hr, _⟩ := hF
  exact Rank_c hr hR ho hc
theorem At_G {w : World} {B g : Nat} {ps : List Part} (hF : FG B w g ps) {i : Int} {t : Tr} (hR : Rep ps i t) (hc : t.cnt ≤ 10000000) {x : Int} (hx1 : -9223372036854775808 ≤ x) (hx2 : x ≤ 9223372036854775807) : Calls Try.prog 39 #[.pointer (some ⟨g, 0, none⟩), .int .i64 i, .int .i64 x] w (Ret w (fun r _ => r = match Tr.nth t.env x with | some b => .tuple #[.agg #[.string b.1, .int .i64 b.2], .bool true] | none => .tuple #[.agg #[.string ByteArray.empty, .int .i64 0], .bool false])) := by
  obtain ⟨r, hr, _⟩ := hF
  exact At_c hr hR hc hx1 hx2
theorem Size_G {w : World} {B g : Nat} {ps : List Part} (hF : FG B w g ps) : Calls Try.prog 24 #[.pointer (some ⟨g, 0, none⟩)] w (Ret w fun r _ => r = .int .i64 (ps.length : Nat)) := by
  obtain ⟨r, hr, _⟩ := hF
  exact Size_c hr
theorem same_T {w : World} {u v : Value} {a b : Env} (hs : SlB w u a) (hv : SlB w v b) (hl : a.length ≤ 1000000000) (h : a = b) : Calls Try.prog 19 #[u, v] w (Ret w fun r _ => r = .bool true) :=
  (same_c hs hv hl).mono fun _ w' ⟨r, he, hx', hr⟩ => ⟨r, he, hx', by rw [hr, decide_eq_true h]⟩
theorem modN_c {w : World} {v n : Int} (hn : 0 < n) (hn2 : n ≤ 1000000) : Calls Try.prog 18 #[.int .i64 v, .int .i64 n] w (Ret w fun r _ => ∃ k : Nat, r = .int .i64 (k : Nat) ∧ (k : Int) < n) :=
  (mod_c hn hn2).mono fun _ w' ⟨r, he, hx', hr⟩ => ⟨r, he, hx', (v % n).toNat, by rw [hr]; congr 1; have := Int.emod_nonneg v (show n ≠ 0 by omega); omega, by have := Int.emod_nonneg v (show n ≠ 0 by omega); have := Int.emod_lt_of_pos v hn; omega⟩
def OwBR (l : Env) : Nat → Nat → Value → World → Prop := fun _ _ v w => OwB 0 w v l
theorem OwBR.mono {l : Env} : (Kn.rel (OwBR l)).Mono := fun _ _ _ _ _ he h => OwB.ext h he

theorem awake_c {w : World} :
    Calls Try.prog 15 #[] w (Ret w fun r _ => r = .bool true) := by
 refine enter (args := []) Try.func15 rfl Try.ntmps15 rfl ?_
 refine WP_seq ?_
 refine WP_region ?_
 refine O_assign rfl rfl rfl ?_
 refine WL_end [] trivial ?_
 refine WP_seq ?_
 refine WP_region ?_
 refine O_call enters43 rfl rfl rfl (New_c) (fun v1 w1 e1 h1 => ?_)
 have z1 := e1.size
 obtain ⟨gf, rfl, hF0, hg0, hg1⟩ := h1
 have hG0 : FG w.heap.size w1 gf [] := ⟨gf, hF0, by omega, by omega⟩
 refine O_assign rfl rfl rfl ?_
 refine WL_end [(1, _)] ⟨rfl, trivial⟩ ?_
 refine WP_seq ?_
 refine WP_region ?_
 refine O_move rfl rfl rfl ?_
 refine O_callU enters28 rfl rfl rfl (Set_U (t := .leaf) hG0 (by omega) rfl trivial trivial (by decide) (by decide) _ _) (fun qs i u w7 hT7 hb7 hF7 hq7 hR7 hO7 hA7 hv7 hs7 => ?_)
 replace hv7 : u.env = [(_, 5)] := hv7
 have hc7 := Tr.env_length u
 rw [hv7] at hc7
 have hc8 : u.cnt = 1 := hc7.symm
 have hh7 := u.ht_le
 have hh8 : u.ht ≠ 0 := fun h => by rw [Tr.ht_zero.1 h] at hc8; cases hc8
 have zT7 := hT7.size
 refine O_assign rfl rfl rfl ?_
 refine WL_end [(1, _), (2, _)] ⟨rfl, rfl, trivial⟩ ?_
 refine WP_seq ?_
 refine WP_region ?_
 refine O_move rfl rfl rfl ?_
 refine O_call enters30 rfl rfl rfl (Drop_UF (t := .leaf) hF7 rfl trivial _ (by simp [egot, Tr.env])) (fun v2 w2 e2 h2 => ?_)
 have z2 := e2.size
 try simp only [val_dig] at h2
 obtain rfl := h2
 refine O_move rfl rfl rfl ?_
 refine O_extract rfl rfl rfl rfl ?_
 refine O_extract rfl rfl rfl rfl ?_
 refine O_assign rfl rfl rfl ?_
 refine O_assign rfl rfl rfl ?_
 refine WL_end [(1, _), (2, _), (3, _), (4, _)] ⟨rfl, rfl, rfl, rfl, trivial⟩ ?_
 refine WP_seq ?_
 refine WP_region ?_
 refine O_move rfl rfl rfl ?_
 refine O_move rfl rfl rfl ?_
 refine O_call enters20 rfl rfl rfl (List_G (hF7.ext e2) hR7 (by (try simp only [lens]); omega)) (fun v3 w3 e3 h3 => ?_)
 have z3 := e3.size
 refine O_build (cs := [_, _]) B54 rfl rfl rfl (cells_cons rfl (cells_cons rfl cells_nil)) rfl ?_
 refine B_lit1 (b := (_, _)) Ebind rfl rfl rfl (fun v4 w4 o4 e4 => ?_)
 have z4 := e4.size
 refine O_call enters19 rfl rfl rfl (same_T (h3.ext e4).sl o4.sl (by rw [hv7]; decide) hv7) (fun v5 w5 e5 h5 => ?_)
 have z5 := e5.size
 obtain rfl := h5
 refine O_move rfl rfl rfl ?_
 refine O_move rfl rfl rfl ?_
 refine O_eql (t := true) rfl rfl rfl rfl (decide_eq_true rfl) ?_
 refine O_pickT rfl rfl rfl rfl ?_
 refine O_move rfl rfl rfl ?_
 refine O_move rfl rfl rfl ?_
 refine O_not rfl rfl rfl rfl ?_
 refine O_pickT rfl rfl rfl rfl ?_
 refine O_move rfl rfl rfl ?_
 refine O_move rfl rfl rfl ?_
 refine O_move rfl rfl rfl ?_
 refine O_call enters21 rfl rfl rfl (Count_G ((((hF7.ext e2).ext e3).ext e4).ext e5) hR7) (fun v6 w6 e6 h6 => ?_)
 have z6 := e6.size
 obtain rfl := h6
 refine O_eql (t := true) rfl rfl rfl rfl (decide_eq_true (by rw [hc8]; rfl)) ?_
 refine O_pickT rfl rfl rfl rfl ?_
 refine O_move rfl rfl rfl ?_
 refine O_move rfl rfl rfl ?_
 refine O_move rfl rfl rfl ?_
 refine O_call enters25 rfl rfl rfl (Height_G (((((hF7.ext e2).ext e3).ext e4).ext e5).ext e6) hR7) (fun v7 w7 e7 h7 => ?_)
 have z7 := e7.size
 obtain rfl := h7
 refine O_eql (t := true) rfl rfl rfl rfl (decide_eq_true (by omega)) ?_
 refine O_pickT rfl rfl rfl rfl ?_
 refine O_move rfl rfl rfl ?_
 refine O_move rfl rfl rfl ?_
 refine O_call enters25 rfl rfl rfl (Height_G (t := .leaf) ((((((hF7.ext e2).ext e3).ext e4).ext e5).ext e6).ext e7) rfl) (fun v8 w8 e8 h8 => ?_)
 have z8 := e8.size
 obtain rfl := h8
 refine O_eql (t := true) rfl rfl rfl rfl (decide_eq_true rfl) ?_
 refine O_pickT rfl rfl rfl rfl ?_
 refine O_assign rfl rfl rfl ?_
 refine WL_end [(0, _)] ⟨rfl, trivial⟩ ?_
 refine WP_ret ?_
 refine ret1 Try.results15 rfl ?_
 exact ⟨_, rfl, ((((((((hb7 _ e1 (Nat.le_refl _)).trans e2).trans e3).trans e4).trans e5).trans e6).trans e7).trans e8), rfl⟩

end Go.Proofs.Ytoccimigjjndpaa
