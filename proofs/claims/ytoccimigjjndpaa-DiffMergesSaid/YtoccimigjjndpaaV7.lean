/-
  Walks.
-/
import Derived.Test.YtoccimigjjndpaaV6
set_option linter.unusedVariables false
set_option linter.unusedSimpArgs false
set_option maxRecDepth 100000
namespace Go.Proofs.Ytoccimigjjndpaa
open Go Go.RowKit
/-- While a list takes its next binding off the tape: the place on the tape; the letter; the name; the number; the list. -/
def XLt (w0 W : World) (tp L a : Nat) (v : Value) (E : Env) : List (Option Value) → World → Prop
  | [v0, v1, v2, v3, v4, v5, v6], w => (Ext w0 w ∧ ExtT TTY W w) ∧ (∃ a1, Bk w tp 100 [v, .int .i64 (a1 : Nat)] ∧ a ≤ a1 ∧ a1 ≤ L ∧ (v0 ≠ none → a < L → a < a1)) ∧
    (∀ x, v0 = some x → ∃ r : Int, x = .int .i64 r ∧ 0 ≤ r ∧ r < 9) ∧ (∀ x, v1 = some x → ∃ r : Int, x = .int .u8 r ∧ 0 ≤ r ∧ r < 9) ∧ (∀ x, v2 = some x → ∃ r : Int, x = .int .u8 r) ∧
    (∀ x, v3 = some x → ∃ r : Int, OwM fB w0.heap.size 5 w x [r]) ∧ (∀ x, v4 = some x → ∃ s : ByteArray, x = .string s ∧ s.size ≤ 100) ∧ (∀ x, v5 = some x → ∃ r : Int, x = .int .i64 r ∧ 0 ≤ r) ∧
    (∀ x, v6 = some x → ∃ (s : ByteArray) (r : Int), s.size ≤ 100 ∧ 0 ≤ r ∧ OwB w0.heap.size w x (eset E s r))
  | _, _ => False
theorem len7s {α : Type} {vs : List α} (h : vs.length = 7) : ∃ a b c d e f g, vs = [a, b, c, d, e, f, g] := by
  match vs, h with
  | [a, b, c, d, e, f, g], _ => exact ⟨a, b, c, d, e, f, g, rfl⟩
section
variable {w0 W w w' : World} {tp L a : Nat} {v : Value} {E : Env} {v0 v1 v2 v3 v4 v5 v6 : Option Value}
theorem XLt.toE : ∀ vs w', XLt w0 W tp L a v E vs w' → Ext w0 w'
  | [_, _, _, _, _, _, _], _, h => h.1.1
  | [], _, h => h.elim
  | [_], _, h => h.elim
  | [_, _], _, h => h.elim
  | [_, _, _], _, h => h.elim
  | [_, _, _, _], _, h => h.elim
  | [_, _, _, _, _], _, h => h.elim
  | [_, _, _, _, _, _], _, h => h.elim
  | _ :: _ :: _ :: _ :: _ :: _ :: _ :: _ :: _, _, h => h.elim
theorem XLt.go (h : XLt w0 W tp L a v E [v0, v1, v2, v3, v4, v5, v6] w) (hE : Ext w0 w') (hT : ExtT TTY w w') (hB : ∃ a1, Bk w' tp 100 [v, .int .i64 (a1 : Nat)] ∧ a ≤ a1 ∧ a1 ≤ L ∧ (v0 ≠ none → a < L → a < a1)) :
    XLt w0 W tp L a v E [v0, v1, v2, v3, v4, v5, v6] w' :=
  ⟨⟨hE, h.1.2.trans hT⟩, hB, h.2.2.1, h.2.2.2.1, h.2.2.2.2.1, fun x hx => (by obtain ⟨r, hr⟩ := h.2.2.2.2.2.1 x hx; exact ⟨r, hr.extT hT (by decide)⟩), h.2.2.2.2.2.2.1, h.2.2.2.2.2.2.2.1,
    fun x hx => (by obtain ⟨s, r, h1, h2, h3⟩ := h.2.2.2.2.2.2.2.2 x hx; exact ⟨s, r, h1, h2, h3.extT hT (by decide)⟩)⟩
theorem XLt.ext (h : XLt w0 W tp L a v E [v0, v1, v2, v3, v4, v5, v6] w) (he : Ext w w') : XLt w0 W tp L a v E [v0, v1, v2, v3, v4, v5, v6] w' :=
  h.go (h.1.1.trans he) he.toT (by obtain ⟨a1, h1, h2⟩ := h.2.1; exact ⟨a1, h1.ext he, h2⟩)
theorem XLt.p0 (h : XLt w0 W tp L a v E [none, v1, v2, v3, v4, v5, v6] w) {a1 a2 : Nat} (hb : a ≤ a1) (hE : Ext w0 w') (hT : ExtT TTY w w') (hB : Bk w' tp 100 [v, .int .i64 (a2 : Nat)]) (h1 : a1 ≤ a2) (h2 : a1 < L → a1 < a2) (h3 : a2 ≤ L) {r : Int} (hr : 0 ≤ r) (hr9 : r < 9) :
    XLt w0 W tp L a v E [some (.int .i64 r), v1, v2, v3, v4, v5, v6] w' := by
  have hg := h.go hE hT ⟨a2, hB, by omega, h3, fun hn => absurd rfl hn⟩
  exact ⟨hg.1, ⟨a2, hB, by omega, h3, fun _ hl => by omega⟩, fun x hx => (by cases hx; exact ⟨r, rfl, hr, hr9⟩), hg.2.2.2⟩
theorem XLt.p5 (h : XLt w0 W tp L a v E [v0, v1, v2, v3, v4, none, v6] w) {a1 a2 : Nat} (hb : a ≤ a1) (hv : v0 ≠ none → a < L → a < a1) (hE : Ext w0 w') (hT : ExtT TTY w w') (hB : Bk w' tp 100 [v, .int .i64 (a2 : Nat)]) (h1 : a1 ≤ a2) (h3 : a2 ≤ L) {r : Int} (hr : 0 ≤ r) :
    XLt w0 W tp L a v E [v0, v1, v2, v3, v4, some (.int .i64 r), v6] w' := by
  have hg := h.go hE hT ⟨a2, hB, by omega, h3, fun hn hl => by have := hv hn hl; omega⟩
  exact ⟨hg.1, hg.2.1, hg.2.2.1, hg.2.2.2.1, hg.2.2.2.2.1, hg.2.2.2.2.2.1, hg.2.2.2.2.2.2.1, fun x hx => (by cases hx; exact ⟨r, rfl, hr⟩), hg.2.2.2.2.2.2.2.2⟩
theorem XLt.p1 (h : XLt w0 W tp L a v E [v0, v1, v2, v3, v4, v5, v6] w) {r : Int} (hr : 0 ≤ r) (hr9 : r < 9) : XLt w0 W tp L a v E [v0, some (.int .u8 r), v2, v3, v4, v5, v6] w :=
  ⟨h.1, h.2.1, h.2.2.1, fun x hx => (by cases hx; exact ⟨r, rfl, hr, hr9⟩), h.2.2.2.2⟩
theorem XLt.p2 (h : XLt w0 W tp L a v E [v0, v1, v2, v3, v4, v5, v6] w) {r : Int} : XLt w0 W tp L a v E [v0, v1, some (.int .u8 r), v3, v4, v5, v6] w :=
  ⟨h.1, h.2.1, h.2.2.1, h.2.2.2.1, fun x hx => (by cases hx; exact ⟨r, rfl⟩), h.2.2.2.2.2⟩
theorem XLt.p3 (h : XLt w0 W tp L a v E [v0, v1, v2, v3, v4, v5, v6] w) {r : Int} {x : Value} (he : Ext w w') (ho : OwM fB w0.heap.size 5 w' x [r]) : XLt w0 W tp L a v E [v0, v1, v2, some x, v4, v5, v6] w' := by
  have hg := h.ext he
  exact ⟨hg.1, hg.2.1, hg.2.2.1, hg.2.2.2.1, hg.2.2.2.2.1, fun x hx => (by cases hx; exact ⟨r, ho⟩), hg.2.2.2.2.2.2⟩
theorem XLt.p4 (h : XLt w0 W tp L a v E [v0, v1, v2, v3, v4, v5, v6] w) {s : ByteArray} (hs : s.size ≤ 100) : XLt w0 W tp L a v E [v0, v1, v2, v3, some (.string s), v5, v6] w :=
  ⟨h.1, h.2.1, h.2.2.1, h.2.2.2.1, h.2.2.2.2.1, h.2.2.2.2.2.1, fun x hx => (by cases hx; exact ⟨s, rfl, hs⟩), h.2.2.2.2.2.2.2⟩
theorem XLt.p6 (h : XLt w0 W tp L a v E [v0, v1, v2, v3, v4, v5, v6] w) {s : ByteArray} {r : Int} {x : Value} (he : Ext w w') (hs : s.size ≤ 100) (hr : 0 ≤ r) (ho : OwB w0.heap.size w' x (eset E s r)) : XLt w0 W tp L a v E [v0, v1, v2, v3, v4, v5, some x] w' := by
  have hg := h.ext he
  exact ⟨hg.1, hg.2.1, hg.2.2.1, hg.2.2.2.1, hg.2.2.2.2.1, hg.2.2.2.2.2.1, hg.2.2.2.2.2.2.1, hg.2.2.2.2.2.2.2.1, fun x hx => (by cases hx; exact ⟨s, r, hs, hr, ho⟩)⟩
end
/-- What lists are like. -/
def LstE (E : Env) (a : Nat) : Prop := Asc E ∧ Pos E ∧ (∀ b ∈ E, b.1.size ≤ 100) ∧ E.length ≤ a
theorem LstE.set {E : Env} {a a2 : Nat} {s : ByteArray} {r : Int} (h : LstE E a) (hl : a < a2) (hs : s.size ≤ 100) (hr : 0 ≤ r) : LstE (eset E s r) a2 :=
  ⟨asc_eset h.1, h.2.1.eset hr, fun b hb => (by rcases eset_mem hb with k | k
                                                · rw [k]; exact hs
                                                · exact h.2.2.1 b k), (by have := eset_len1 E s r; have := h.2.2.2; omega)⟩

set_option maxHeartbeats 1000000 in
theorem list29_c {w : World} {v : Value} {l : List Int} (hl : SlM fI w v l) (hll : l.length ≤ 100) :
    Calls Try.prog 42 #[v] w (Ret w fun r w' => ∃ E, OwB w.heap.size w' r E ∧ LstE E l.length) := by
 refine enter (args := [v]) Try.func42 rfl Try.ntmps42 rfl ?_
 refine WP_seq ?_
 refine WP_region ?_
 refine O_assign rfl rfl rfl ?_
 refine WL_end [(0, _)] ⟨rfl, trivial⟩ ?_
 refine WP_seq ?_
 refine WP_region ?_
 refine O_move rfl rfl rfl ?_
 refine O_call enters22 rfl rfl rfl (newtape_c hl) (fun v1 w1 e1 h1 => ?_)
 have z1 := e1.size
 obtain ⟨tp, rfl, hB0, ht0, ht1⟩ := h1
 have htp : w.heap.size ≤ tp := by omega
 refine O_assign rfl rfl rfl ?_
 refine WL_end [(3, _)] ⟨rfl, trivial⟩ ?_
 refine WP_seq ?_
 refine WP_region ?_
 refine O_assign rfl rfl rfl ?_
 refine WL_end [(3, _), (4, _)] ⟨rfl, rfl, trivial⟩ ?_
 refine WP_seq ?_
 refine WP_block ?_
 refine WP_loop (S := Nat × Value × Env) (fun (a, ov, E) => [(3, .pointer (some ⟨tp, 0, none⟩)), (4, ov)]) (fun (a, ov, E) w' => (Ext w w' ∧ Bk w' tp 100 [v, .int .i64 (a : Nat)]) ∧ OwB w.heap.size w' ov E ∧ LstE E a ∧ a ≤ l.length) (fun (a, ov, E) => l.length - a) (0, .slice none 0 0, []) ⟨rfl, rfl, trivial⟩ ⟨⟨e1, hB0⟩, OwB.nil _ _, ⟨trivial, (fun b hb => by cases hb), (fun b hb => by cases hb), Nat.le_refl _⟩, Nat.zero_le _⟩ ?_
 rintro ⟨a, ov, E⟩ w9 ⟨⟨hE, hB⟩, hov, hL, ha⟩
 show WP _ _ _ _ _ [(3, .pointer (some ⟨tp, 0, none⟩)), (4, ov)] _
 have zE := hE.size
 refine WP_seq ?_
 refine WP_seq ?_
 refine WP_region ?_
 refine O_move rfl rfl rfl ?_
 refine O_call enters23 rfl rfl rfl (more_c hl hE hB) (fun v2 w2 e2 h2 => ?_)
 have z2 := e2.size
 obtain rfl := h2
 refine WL_end [(3, _), (4, _), (8, _)] ⟨rfl, rfl, rfl, trivial⟩ ?_
 refine WP_condD rfl (fun c8 => ?_) (fun c8 => ?_)
 · --
  refine WP_skip ?_
  refine WP_block ?_
  have hBW := (hB.ext e2)
  have hovW := (hov.ext e2)
  refine WP_sub [(3, _), (4, _)] ⟨rfl, rfl, trivial⟩ ?_
  refine WP_anyF (XLt w w2 tp l.length a v E) (fun w' => Ext w w') 10 [3, 4] [2, 3, 4, 5, 6, 8, 9] [some 11, some 12, some 13, some 14, some 15, some 17, some 18] [[], [0], [1], [2], [3], [0], [4, 5]] mixed rfl (by kernel_rfl) (by kernel_rfl) XLt.toE (fun w' h => ⟨⟨(hE.trans e2).trans h, h.toT⟩, ⟨a, hBW.ext h, Nat.le_refl _, ha, fun hn => absurd rfl hn⟩, (fun x hx => by cases hx), (fun x hx => by cases hx), (fun x hx => by cases hx), (fun x hx => by cases hx), (fun x hx => by cases hx), (fun x hx => by cases hx), (fun x hx => by cases hx)⟩) ?_
  apply AnyF_val [4] XLt.toE rfl rfl rfl
  · --
   intro y3_ hy
   refine O_move rfl rfl rfl ?_
   exact WL_nil ⟨rfl, rfl⟩
  apply AnyF_val [3] XLt.toE rfl rfl rfl
  · --
   intro y3_ hy
   refine O_move rfl rfl rfl ?_
   exact WL_nil ⟨rfl, rfl⟩
  apply AnyF_eff 0 [] [10] rfl rfl rfl rfl
  · --
   intro vs y3_ hl9 hnone hwait hX
   obtain ⟨v0, v1, v2, v3, v4, v5, v6, rfl⟩ := len7s hl9
   obtain rfl : v0 = none := by simpa using hnone
   obtain ⟨a1, hB1, hb1, hb2, hb3⟩ := hX.2.1
   refine O_callT (k := 9) enters27 rfl rfl rfl (next_c hl hX.1.1 htp hB1 (by omega) (by omega) (by decide) (by decide)) (fun r9 a9 w8 hr9 hs9 hE9 hT9 hB9 h91 h92 h93 => ?_)
   exact WL_nil ⟨_, rfl, XLt.p0 hX hb1 hE9 hT9 hB9 h91 h92 h93 hr9 hs9⟩
  apply AnyF_eff 1 [0] [11] rfl rfl rfl rfl
  · --
   intro vs y3_ hl9 hnone hwait hX
   obtain ⟨v0, v1, v2, v3, v4, v5, v6, rfl⟩ := len7s hl9
   obtain rfl : v1 = none := by simpa using hnone
   obtain ⟨u9, hu9⟩ := hwait 0 (by simp)
   obtain rfl : v0 = some u9 := by simpa using hu9
   obtain ⟨r9, rfl, hr1, hr2⟩ := hX.2.2.1 _ rfl
   refine O_conv Try.underlying3 Try.underlying5 (r := r9) rfl rfl rfl (by rw [wrap_u8]; omega) ?_
   exact WL_nil ⟨_, rfl, XLt.p1 hX hr1 hr2⟩
  apply AnyF_eff 2 [1] [12] rfl rfl rfl rfl
  · --
   intro vs y3_ hl9 hnone hwait hX
   obtain ⟨v0, v1, v2, v3, v4, v5, v6, rfl⟩ := len7s hl9
   obtain rfl : v2 = none := by simpa using hnone
   obtain ⟨u9, hu9⟩ := hwait 1 (by simp)
   obtain rfl : v1 = some u9 := by simpa using hu9
   obtain ⟨r9, rfl, hr1, hr2⟩ := hX.2.2.2.1 _ rfl
   refine O_add (r := 97 + r9) rfl rfl rfl rfl (by rw [wrap_u8]; omega) ?_
   exact WL_nil ⟨_, rfl, XLt.p2 hX⟩
  apply AnyF_eff 3 [2] [13] rfl rfl rfl rfl
  · --
   intro vs y3_ hl9 hnone hwait hX
   obtain ⟨v0, v1, v2, v3, v4, v5, v6, rfl⟩ := len7s hl9
   obtain rfl : v3 = none := by simpa using hnone
   obtain ⟨u9, hu9⟩ := hwait 2 (by simp)
   obtain rfl : v2 = some u9 := by simpa using hu9
   obtain ⟨r9, rfl⟩ := hX.2.2.2.2.1 _ rfl
   have zy := hX.1.1.size
   refine M_lit M93 rfl rfl fB [r9] (by intro a _; rfl) rfl rfl rfl rfl rfl (fun a9 w8 o9 e9 => ?_)
   exact WL_nil ⟨_, rfl, XLt.p3 hX e9 (o9.mono zy)⟩
  apply AnyF_eff 4 [3] [14] rfl rfl rfl rfl
  · --
   intro vs y3_ hl9 hnone hwait hX
   obtain ⟨v0, v1, v2, v3, v4, v5, v6, rfl⟩ := len7s hl9
   obtain rfl : v4 = none := by simpa using hnone
   obtain ⟨u9, hu9⟩ := hwait 3 (by simp)
   obtain rfl : v3 = some u9 := by simpa using hu9
   obtain ⟨r9, hr9⟩ := hX.2.2.2.2.2.1 _ rfl
   refine M_toStrX Try.underlying93 Try.underlying5 Try.underlying9 rfl rfl rfl hr9.sl (fun s9 hz9 => ?_)
   simp only [List.length_cons, List.length_nil] at hz9
   exact WL_nil ⟨_, rfl, XLt.p4 hX (by omega)⟩
  apply AnyF_val [3] XLt.toE rfl rfl rfl
  · --
   intro y3_ hy
   refine O_move rfl rfl rfl ?_
   exact WL_nil ⟨rfl, rfl⟩
  apply AnyF_eff 5 [0] [16] rfl rfl rfl rfl
  · --
   intro vs y3_ hl9 hnone hwait hX
   obtain ⟨v0, v1, v2, v3, v4, v5, v6, rfl⟩ := len7s hl9
   obtain rfl : v5 = none := by simpa using hnone
   obtain ⟨u9, hu9⟩ := hwait 0 (by simp)
   obtain rfl : v0 = some u9 := by simpa using hu9
   obtain ⟨a1, hB1, hb1, hb2, hb3⟩ := hX.2.1
   refine O_callT (k := 4) enters27 rfl rfl rfl (next_c hl hX.1.1 htp hB1 (by omega) (by omega) (by decide) (by decide)) (fun r9 a9 w8 hr9 hs9 hE9 hT9 hB9 h91 h92 h93 => ?_)
   exact WL_nil ⟨_, rfl, XLt.p5 hX hb1 hb3 hE9 hT9 hB9 h91 h93 hr9⟩
  apply AnyF_eff 6 [4, 5] [9, 15, 17] rfl rfl rfl rfl
  · --
   intro vs y3_ hl9 hnone hwait hX
   obtain ⟨v0, v1, v2, v3, v4, v5, v6, rfl⟩ := len7s hl9
   obtain rfl : v6 = none := by simpa using hnone
   obtain ⟨u9, hu9⟩ := hwait 4 (by simp)
   obtain rfl : v4 = some u9 := by simpa using hu9
   obtain ⟨u8, hu8⟩ := hwait 5 (by simp)
   obtain rfl : v5 = some u8 := by simpa using hu8
   obtain ⟨s9, rfl, hs9⟩ := hX.2.2.2.2.2.2.1 _ rfl
   obtain ⟨r9, rfl, hr9⟩ := hX.2.2.2.2.2.2.2.1 _ rfl
   have zy := hX.1.1.size
   have hu9 := (hovW.extT hX.1.2 (by decide)).sl
   have hl9 := hL.2.2.2
   refine O_call enters29 rfl rfl rfl (RSet_c hu9 (by omega)) (fun e13 w13 x13 o13 => ?_)
   exact WL_nil ⟨_, rfl, XLt.p6 hX x13 hs9 hr9 (o13.mono zy)⟩
  refine AnyF_nil fun vs y3_ hl9 hdone hX => ?_
  obtain ⟨v0, v1, v2, v3, v4, v5, v6, rfl⟩ := len7s hl9
  obtain ⟨b0, hb0⟩ := hdone 0 (by decide)
  obtain rfl : v0 = some b0 := by simpa using hb0
  obtain ⟨b1, hb1⟩ := hdone 1 (by decide)
  obtain rfl : v1 = some b1 := by simpa using hb1
  obtain ⟨b2, hb2⟩ := hdone 2 (by decide)
  obtain rfl : v2 = some b2 := by simpa using hb2
  obtain ⟨b3, hb3⟩ := hdone 3 (by decide)
  obtain rfl : v3 = some b3 := by simpa using hb3
  obtain ⟨b4, hb4⟩ := hdone 4 (by decide)
  obtain rfl : v4 = some b4 := by simpa using hb4
  obtain ⟨b5, hb5⟩ := hdone 5 (by decide)
  obtain rfl : v5 = some b5 := by simpa using hb5
  obtain ⟨b6, hb6⟩ := hdone 6 (by decide)
  obtain rfl : v6 = some b6 := by simpa using hb6
  obtain ⟨s9, r9, hs9, hr9, ho9⟩ := hX.2.2.2.2.2.2.2.2 _ rfl
  obtain ⟨a9, hB9, h91, h92, h93⟩ := hX.2.1
  have h94 := h93 (by simp) (by assumption)
  have hX9 : Ext w y3_ := hX.1.1
  refine O_assign rfl rfl rfl ?_
  refine WL_end [(3, _), (4, _)] ⟨rfl, rfl, trivial⟩ ?_
  exact ⟨(a9, _, eset E s9 r9), ⟨rfl, rfl, trivial⟩, ⟨⟨hX9, hB9⟩, ho9, hL.set (by omega) hs9 hr9, by omega⟩, by dsimp only; omega⟩
 · --
  refine WP_exit ?_
  refine inBlk_hit ?_
  refine WP_seq ?_
  refine WP_region ?_
  refine O_move rfl rfl rfl ?_
  refine O_assign rfl rfl rfl ?_
  refine WL_end [(2, _)] ⟨rfl, trivial⟩ ?_
  refine WP_ret ?_
  refine ret1 Try.results42 rfl ?_
  exact ⟨_, rfl, (hE.trans e2), E, (hov.ext e2), hL.1, hL.2.1, hL.2.2.1, by have := hL.2.2.2; omega⟩

end Go.Proofs.Ytoccimigjjndpaa
