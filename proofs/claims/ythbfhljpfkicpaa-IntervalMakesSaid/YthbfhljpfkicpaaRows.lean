/-
  No cell of these rows narrows 'for every input' (looked for: loops, veiled, ifaces, maps, wideKeys, modest, calm, conditions, laid).
  DERIVED. THE GIVEN ROWS OF THIS SEAT. 4 by the template 'for every input the law returns true; each argument reads behind the call as it read before'; 0 by the template 'total and deterministic' (their statements: YthbfhljpfkicpaaTotals.lean).
  GIVEN WITH THE SEED: the statements are not yours to turn. If you find one false, say at which input.
  Laid BY PROGRAM, IN A SANDBOX (cutbox-rows.mjs): the forced cells as the released guide's own fill.sh prints them over the translation 01e524031c9ab038… (all of the seat's roots in one cut). By AI agents, Wed Nov 11 2026. No macro, syntax, notation, axiom, sorry.
-/
import Derived.Test.YthbfhljpfkicpaaChecked
import GoSem.Claim
import GoSem.ClaimJoined
import GoSem.ClaimMapViews
import Derived.JoinedTies
import Derived.KernelRfl
namespace Go.Proofs.Ythbfhljpfkicpaa
/- THE CELL 'sum', in the pinned program and in every row, IS THE sha256 OF THE DUMP (.gsa) THAT YthbfhljpfkicpaaProg.lean LOADS. Nothing in Lean hashes anything: it is a label: what it is worth is what the hold of that sum in a sandbox is worth. -/
noncomputable def Try.pinned : Pinned := { name := "ythbfhljpfkicpaa", sum := "01e524031c9ab038fd5e110ae540a9afb97f6b66e6a2e9f19230b5f9b554ae43", checked := Try.checked }
namespace Rows
def none {H : Type} : Left H := { results := [], args := [] }

/-- 'exactreallaw10.IntervalOrders': WHATEVER THE INPUT: true; the input reads as it did. -/
def intervalOrdersSpec : ChangeSpec := { name := "intervalOrders", fn := fun _ => fun
  | [d1, d2] => { results := [.lit (.bool true)], args := [d1, d2] }
  | _ => none }
def intervalOrdersRow : OpenClaim := { program := "ythbfhljpfkicpaa", sum := "01e524031c9ab038fd5e110ae540a9afb97f6b66e6a2e9f19230b5f9b554ae43", func := "exactreal/exactreallaw10.IntervalOrders", spec := "intervalOrders", apart := false }
def IntervalOrdersSaid : Prop := intervalOrdersRow.holds Try.pinned (OpenSpec.ofChange intervalOrdersSpec)

/-- ITS FALSE NEIGHBOUR: 'it returns false'. Refute it at one input. -/
def intervalOrdersWrong : ChangeSpec := { name := "intervalOrders", fn := fun _ => fun
  | [d1, d2] => { results := [.lit (.bool false)], args := [d1, d2] }
  | _ => none }
def IntervalOrdersWrongFalsely : Prop := intervalOrdersRow.holds Try.pinned (OpenSpec.ofChange intervalOrdersWrong)

/-- 'exactreallaw10.IntervalMakes': WHATEVER THE INPUT: true; the input reads as it did. -/
def intervalMakesSpec : ChangeSpec := { name := "intervalMakes", fn := fun _ => fun
  | [d1, d2, d3] => { results := [.lit (.bool true)], args := [d1, d2, d3] }
  | _ => none }
def intervalMakesRow : OpenClaim := { program := "ythbfhljpfkicpaa", sum := "01e524031c9ab038fd5e110ae540a9afb97f6b66e6a2e9f19230b5f9b554ae43", func := "exactreal/exactreallaw10.IntervalMakes", spec := "intervalMakes", apart := false }
def IntervalMakesSaid : Prop := intervalMakesRow.holds Try.pinned (OpenSpec.ofChange intervalMakesSpec)

/-- ITS FALSE NEIGHBOUR: 'it returns false'. Refute it at one input. -/
def intervalMakesWrong : ChangeSpec := { name := "intervalMakes", fn := fun _ => fun
  | [d1, d2, d3] => { results := [.lit (.bool false)], args := [d1, d2, d3] }
  | _ => none }
def IntervalMakesWrongFalsely : Prop := intervalMakesRow.holds Try.pinned (OpenSpec.ofChange intervalMakesWrong)

/-- 'exactreallaw10.IntervalHas': WHATEVER THE INPUT: true; the input reads as it did. -/
def intervalHasSpec : ChangeSpec := { name := "intervalHas", fn := fun _ => fun
  | [d1, d2, d3] => { results := [.lit (.bool true)], args := [d1, d2, d3] }
  | _ => none }
def intervalHasRow : OpenClaim := { program := "ythbfhljpfkicpaa", sum := "01e524031c9ab038fd5e110ae540a9afb97f6b66e6a2e9f19230b5f9b554ae43", func := "exactreal/exactreallaw10.IntervalHas", spec := "intervalHas", apart := false }
def IntervalHasSaid : Prop := intervalHasRow.holds Try.pinned (OpenSpec.ofChange intervalHasSpec)

/-- ITS FALSE NEIGHBOUR: 'it returns false'. Refute it at one input. -/
def intervalHasWrong : ChangeSpec := { name := "intervalHas", fn := fun _ => fun
  | [d1, d2, d3] => { results := [.lit (.bool false)], args := [d1, d2, d3] }
  | _ => none }
def IntervalHasWrongFalsely : Prop := intervalHasRow.holds Try.pinned (OpenSpec.ofChange intervalHasWrong)

/-- 'exactreallaw10.IntervalMeets': WHATEVER THE INPUT: true; the input reads as it did. -/
def intervalMeetsSpec : ChangeSpec := { name := "intervalMeets", fn := fun _ => fun
  | [d1, d2, d3] => { results := [.lit (.bool true)], args := [d1, d2, d3] }
  | _ => none }
def intervalMeetsRow : OpenClaim := { program := "ythbfhljpfkicpaa", sum := "01e524031c9ab038fd5e110ae540a9afb97f6b66e6a2e9f19230b5f9b554ae43", func := "exactreal/exactreallaw10.IntervalMeets", spec := "intervalMeets", apart := false }
def IntervalMeetsSaid : Prop := intervalMeetsRow.holds Try.pinned (OpenSpec.ofChange intervalMeetsSpec)

/-- ITS FALSE NEIGHBOUR: 'it returns false'. Refute it at one input. -/
def intervalMeetsWrong : ChangeSpec := { name := "intervalMeets", fn := fun _ => fun
  | [d1, d2, d3] => { results := [.lit (.bool false)], args := [d1, d2, d3] }
  | _ => none }
def IntervalMeetsWrongFalsely : Prop := intervalMeetsRow.holds Try.pinned (OpenSpec.ofChange intervalMeetsWrong)

/- THE SECOND FORM. 'bulk': how many values and letters a reading holds, each counted each time it is reached (what is shared counts as often as it is met; a slice's spare places count too). A statement '..UptoSaid' is the law's where the arguments, and the package variables that the reading takes, are together of bulk at most 1048576: NARROWER than '..Said'. Prove '..Said' where nothing that the law and all that it calls make is longer than what came in: it says more and counts as full. Else prove '..UptoSaid'. A law counts once. -/
mutual
def uptoBulk {H : Type} : DataW H → Nat
  | .lit (.string bytes) => bytes.length + 1
  | .lit _ => 1
  | .nil => 1
  | .ptr d => uptoBulk d + 1
  | .slice elems spare => uptoBulkAll elems + uptoBulkAll spare + 1
  | .agg parts => uptoBulkAll parts + 1
  | .iface _ d => uptoBulk d + 1
  | .map entries => uptoBulkEntries entries + 1
  | .held _ => 1
def uptoBulkAll {H : Type} : List (DataW H) → Nat
  | [] => 0
  | d :: r => uptoBulk d + uptoBulkAll r
def uptoBulkEntries {H : Type} : List (Lit × DataW H) → Nat
  | [] => 0
  | x :: r => uptoBulkEntry x + uptoBulkEntries r
def uptoBulkEntry {H : Type} : Lit × DataW H → Nat
  | (.string bytes, d) => bytes.length + uptoBulk d + 1
  | (_, d) => uptoBulk d + 1
 end
def uptoSmall : (H : Type) → List (DataW H) → Bool := fun _ ds => decide (uptoBulkAll ds ≤ 1048576)
def OpenSpec.upto (s : _root_.Go.ChangeSpec) : _root_.Go.OpenSpec := { _root_.Go.OpenSpec.ofChange s with cond := some uptoSmall }

/-- 'exactreallaw10.IntervalOrders', WHERE WHAT IT READS IS OF BULK AT MOST 1048576: true; the input reads as it did. -/
def intervalOrdersUptoRow : OpenClaim := { program := "ythbfhljpfkicpaa", sum := "01e524031c9ab038fd5e110ae540a9afb97f6b66e6a2e9f19230b5f9b554ae43", func := "exactreal/exactreallaw10.IntervalOrders", spec := "intervalOrders", apart := false, narrowed := true }
def IntervalOrdersUptoSaid : Prop := intervalOrdersUptoRow.holds Try.pinned (OpenSpec.upto intervalOrdersSpec)

/-- 'exactreallaw10.IntervalMakes', WHERE WHAT IT READS IS OF BULK AT MOST 1048576: true; the input reads as it did. -/
def intervalMakesUptoRow : OpenClaim := { program := "ythbfhljpfkicpaa", sum := "01e524031c9ab038fd5e110ae540a9afb97f6b66e6a2e9f19230b5f9b554ae43", func := "exactreal/exactreallaw10.IntervalMakes", spec := "intervalMakes", apart := false, narrowed := true }
def IntervalMakesUptoSaid : Prop := intervalMakesUptoRow.holds Try.pinned (OpenSpec.upto intervalMakesSpec)

/-- 'exactreallaw10.IntervalHas', WHERE WHAT IT READS IS OF BULK AT MOST 1048576: true; the input reads as it did. -/
def intervalHasUptoRow : OpenClaim := { program := "ythbfhljpfkicpaa", sum := "01e524031c9ab038fd5e110ae540a9afb97f6b66e6a2e9f19230b5f9b554ae43", func := "exactreal/exactreallaw10.IntervalHas", spec := "intervalHas", apart := false, narrowed := true }
def IntervalHasUptoSaid : Prop := intervalHasUptoRow.holds Try.pinned (OpenSpec.upto intervalHasSpec)

/-- 'exactreallaw10.IntervalMeets', WHERE WHAT IT READS IS OF BULK AT MOST 1048576: true; the input reads as it did. -/
def intervalMeetsUptoRow : OpenClaim := { program := "ythbfhljpfkicpaa", sum := "01e524031c9ab038fd5e110ae540a9afb97f6b66e6a2e9f19230b5f9b554ae43", func := "exactreal/exactreallaw10.IntervalMeets", spec := "intervalMeets", apart := false, narrowed := true }
def IntervalMeetsUptoSaid : Prop := intervalMeetsUptoRow.holds Try.pinned (OpenSpec.upto intervalMeetsSpec)

end Rows
end Go.Proofs.Ythbfhljpfkicpaa
