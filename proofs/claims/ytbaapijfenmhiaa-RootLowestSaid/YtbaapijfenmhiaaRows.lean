/-
  No cell of these rows narrows 'for every input' (looked for: loops, veiled, ifaces, maps, wideKeys, modest, calm, conditions, laid).
  DERIVED. THE GIVEN ROWS OF THIS SEAT. 10 by the template 'for every input the law returns true; each argument reads behind the call as it read before'; 0 by the template 'total and deterministic' (their statements: YtbaapijfenmhiaaTotals.lean).
  GIVEN WITH THE SEED: the statements are not yours to turn. If you find one false, say at which input.
  Laid BY PROGRAM, IN A SANDBOX (cutbox-rows.mjs): the forced cells as the released guide's own fill.sh prints them over the translation 9de6fa9a2625de6a… (all of the seat's roots in one cut). By AI agents, Wed Nov 11 2026. No macro, syntax, notation, axiom, sorry.
-/
import Derived.Test.YtbaapijfenmhiaaChecked
import GoSem.Claim
import GoSem.ClaimJoined
import GoSem.ClaimMapViews
import Derived.JoinedTies
import Derived.KernelRfl
namespace Go.Proofs.Ytbaapijfenmhiaa
/- THE CELL 'sum', in the pinned program and in every row, IS THE sha256 OF THE DUMP (.gsa) THAT YtbaapijfenmhiaaProg.lean LOADS. Nothing in Lean hashes anything: it is a label: what it is worth is what the hold of that sum in a sandbox is worth. -/
noncomputable def Try.pinned : Pinned := { name := "ytbaapijfenmhiaa", sum := "9de6fa9a2625de6a8fdc7b6f3284c5e1bf538ba954471ac57d0856c28393368e", checked := Try.checked }
namespace Rows
def none {H : Type} : Left H := { results := [], args := [] }

/-- 'exactreallaw03.QuotientDivides': WHATEVER THE INPUT: true; the input reads as it did. -/
def quotientDividesSpec : ChangeSpec := { name := "quotientDivides", fn := fun _ => fun
  | [d1, d2] => { results := [.lit (.bool true)], args := [d1, d2] }
  | _ => none }
def quotientDividesRow : OpenClaim := { program := "ytbaapijfenmhiaa", sum := "9de6fa9a2625de6a8fdc7b6f3284c5e1bf538ba954471ac57d0856c28393368e", func := "exactreal/exactreallaw03.QuotientDivides", spec := "quotientDivides", apart := false }
def QuotientDividesSaid : Prop := quotientDividesRow.holds Try.pinned (OpenSpec.ofChange quotientDividesSpec)

/-- ITS FALSE NEIGHBOUR: 'it returns false'. Refute it at one input. -/
def quotientDividesWrong : ChangeSpec := { name := "quotientDivides", fn := fun _ => fun
  | [d1, d2] => { results := [.lit (.bool false)], args := [d1, d2] }
  | _ => none }
def QuotientDividesWrongFalsely : Prop := quotientDividesRow.holds Try.pinned (OpenSpec.ofChange quotientDividesWrong)

/-- 'exactreallaw03.QuotientHard': WHATEVER THE INPUT: true; the input reads as it did. -/
def quotientHardSpec : ChangeSpec := { name := "quotientHard", fn := fun _ => fun
  | [d1, d2, d3, d4] => { results := [.lit (.bool true)], args := [d1, d2, d3, d4] }
  | _ => none }
def quotientHardRow : OpenClaim := { program := "ytbaapijfenmhiaa", sum := "9de6fa9a2625de6a8fdc7b6f3284c5e1bf538ba954471ac57d0856c28393368e", func := "exactreal/exactreallaw03.QuotientHard", spec := "quotientHard", apart := false }
def QuotientHardSaid : Prop := quotientHardRow.holds Try.pinned (OpenSpec.ofChange quotientHardSpec)

/-- ITS FALSE NEIGHBOUR: 'it returns false'. Refute it at one input. -/
def quotientHardWrong : ChangeSpec := { name := "quotientHard", fn := fun _ => fun
  | [d1, d2, d3, d4] => { results := [.lit (.bool false)], args := [d1, d2, d3, d4] }
  | _ => none }
def QuotientHardWrongFalsely : Prop := quotientHardRow.holds Try.pinned (OpenSpec.ofChange quotientHardWrong)

/-- 'exactreallaw03.QuotientSmall': WHATEVER THE INPUT: true; the input reads as it did. -/
def quotientSmallSpec : ChangeSpec := { name := "quotientSmall", fn := fun _ => fun
  | [d1, d2] => { results := [.lit (.bool true)], args := [d1, d2] }
  | _ => none }
def quotientSmallRow : OpenClaim := { program := "ytbaapijfenmhiaa", sum := "9de6fa9a2625de6a8fdc7b6f3284c5e1bf538ba954471ac57d0856c28393368e", func := "exactreal/exactreallaw03.QuotientSmall", spec := "quotientSmall", apart := false }
def QuotientSmallSaid : Prop := quotientSmallRow.holds Try.pinned (OpenSpec.ofChange quotientSmallSpec)

/-- ITS FALSE NEIGHBOUR: 'it returns false'. Refute it at one input. -/
def quotientSmallWrong : ChangeSpec := { name := "quotientSmall", fn := fun _ => fun
  | [d1, d2] => { results := [.lit (.bool false)], args := [d1, d2] }
  | _ => none }
def QuotientSmallWrongFalsely : Prop := quotientSmallRow.holds Try.pinned (OpenSpec.ofChange quotientSmallWrong)

/-- 'exactreallaw03.QuotientExact': WHATEVER THE INPUT: true; the input reads as it did. -/
def quotientExactSpec : ChangeSpec := { name := "quotientExact", fn := fun _ => fun
  | [d1, d2] => { results := [.lit (.bool true)], args := [d1, d2] }
  | _ => none }
def quotientExactRow : OpenClaim := { program := "ytbaapijfenmhiaa", sum := "9de6fa9a2625de6a8fdc7b6f3284c5e1bf538ba954471ac57d0856c28393368e", func := "exactreal/exactreallaw03.QuotientExact", spec := "quotientExact", apart := false }
def QuotientExactSaid : Prop := quotientExactRow.holds Try.pinned (OpenSpec.ofChange quotientExactSpec)

/-- ITS FALSE NEIGHBOUR: 'it returns false'. Refute it at one input. -/
def quotientExactWrong : ChangeSpec := { name := "quotientExact", fn := fun _ => fun
  | [d1, d2] => { results := [.lit (.bool false)], args := [d1, d2] }
  | _ => none }
def QuotientExactWrongFalsely : Prop := quotientExactRow.holds Try.pinned (OpenSpec.ofChange quotientExactWrong)

/-- 'exactreallaw03.QuotientPowmod': WHATEVER THE INPUT: true; the input reads as it did. -/
def quotientPowmodSpec : ChangeSpec := { name := "quotientPowmod", fn := fun _ => fun
  | [d1, d2, d3] => { results := [.lit (.bool true)], args := [d1, d2, d3] }
  | _ => none }
def quotientPowmodRow : OpenClaim := { program := "ytbaapijfenmhiaa", sum := "9de6fa9a2625de6a8fdc7b6f3284c5e1bf538ba954471ac57d0856c28393368e", func := "exactreal/exactreallaw03.QuotientPowmod", spec := "quotientPowmod", apart := false }
def QuotientPowmodSaid : Prop := quotientPowmodRow.holds Try.pinned (OpenSpec.ofChange quotientPowmodSpec)

/-- ITS FALSE NEIGHBOUR: 'it returns false'. Refute it at one input. -/
def quotientPowmodWrong : ChangeSpec := { name := "quotientPowmod", fn := fun _ => fun
  | [d1, d2, d3] => { results := [.lit (.bool false)], args := [d1, d2, d3] }
  | _ => none }
def QuotientPowmodWrongFalsely : Prop := quotientPowmodRow.holds Try.pinned (OpenSpec.ofChange quotientPowmodWrong)

/-- 'exactreallaw04.RootSqrt': WHATEVER THE INPUT: true; the input reads as it did. -/
def rootSqrtSpec : ChangeSpec := { name := "rootSqrt", fn := fun _ => fun
  | [d1, d2, d3] => { results := [.lit (.bool true)], args := [d1, d2, d3] }
  | _ => none }
def rootSqrtRow : OpenClaim := { program := "ytbaapijfenmhiaa", sum := "9de6fa9a2625de6a8fdc7b6f3284c5e1bf538ba954471ac57d0856c28393368e", func := "exactreal/exactreallaw04.RootSqrt", spec := "rootSqrt", apart := false }
def RootSqrtSaid : Prop := rootSqrtRow.holds Try.pinned (OpenSpec.ofChange rootSqrtSpec)

/-- ITS FALSE NEIGHBOUR: 'it returns false'. Refute it at one input. -/
def rootSqrtWrong : ChangeSpec := { name := "rootSqrt", fn := fun _ => fun
  | [d1, d2, d3] => { results := [.lit (.bool false)], args := [d1, d2, d3] }
  | _ => none }
def RootSqrtWrongFalsely : Prop := rootSqrtRow.holds Try.pinned (OpenSpec.ofChange rootSqrtWrong)

/-- 'exactreallaw04.RootRoots': WHATEVER THE INPUT: true; the input reads as it did. -/
def rootRootsSpec : ChangeSpec := { name := "rootRoots", fn := fun _ => fun
  | [d1, d2, d3] => { results := [.lit (.bool true)], args := [d1, d2, d3] }
  | _ => none }
def rootRootsRow : OpenClaim := { program := "ytbaapijfenmhiaa", sum := "9de6fa9a2625de6a8fdc7b6f3284c5e1bf538ba954471ac57d0856c28393368e", func := "exactreal/exactreallaw04.RootRoots", spec := "rootRoots", apart := false }
def RootRootsSaid : Prop := rootRootsRow.holds Try.pinned (OpenSpec.ofChange rootRootsSpec)

/-- ITS FALSE NEIGHBOUR: 'it returns false'. Refute it at one input. -/
def rootRootsWrong : ChangeSpec := { name := "rootRoots", fn := fun _ => fun
  | [d1, d2, d3] => { results := [.lit (.bool false)], args := [d1, d2, d3] }
  | _ => none }
def RootRootsWrongFalsely : Prop := rootRootsRow.holds Try.pinned (OpenSpec.ofChange rootRootsWrong)

/-- 'exactreallaw04.RootGcd': WHATEVER THE INPUT: true; the input reads as it did. -/
def rootGcdSpec : ChangeSpec := { name := "rootGcd", fn := fun _ => fun
  | [d1, d2, d3] => { results := [.lit (.bool true)], args := [d1, d2, d3] }
  | _ => none }
def rootGcdRow : OpenClaim := { program := "ytbaapijfenmhiaa", sum := "9de6fa9a2625de6a8fdc7b6f3284c5e1bf538ba954471ac57d0856c28393368e", func := "exactreal/exactreallaw04.RootGcd", spec := "rootGcd", apart := false }
def RootGcdSaid : Prop := rootGcdRow.holds Try.pinned (OpenSpec.ofChange rootGcdSpec)

/-- ITS FALSE NEIGHBOUR: 'it returns false'. Refute it at one input. -/
def rootGcdWrong : ChangeSpec := { name := "rootGcd", fn := fun _ => fun
  | [d1, d2, d3] => { results := [.lit (.bool false)], args := [d1, d2, d3] }
  | _ => none }
def RootGcdWrongFalsely : Prop := rootGcdRow.holds Try.pinned (OpenSpec.ofChange rootGcdWrong)

/-- 'exactreallaw04.RootSquares': WHATEVER THE INPUT: true; the input reads as it did. -/
def rootSquaresSpec : ChangeSpec := { name := "rootSquares", fn := fun _ => fun
  | [d] => { results := [.lit (.bool true)], args := [d] }
  | _ => none }
def rootSquaresRow : OpenClaim := { program := "ytbaapijfenmhiaa", sum := "9de6fa9a2625de6a8fdc7b6f3284c5e1bf538ba954471ac57d0856c28393368e", func := "exactreal/exactreallaw04.RootSquares", spec := "rootSquares", apart := false }
def RootSquaresSaid : Prop := rootSquaresRow.holds Try.pinned (OpenSpec.ofChange rootSquaresSpec)

/-- ITS FALSE NEIGHBOUR: 'it returns false'. Refute it at one input. -/
def rootSquaresWrong : ChangeSpec := { name := "rootSquares", fn := fun _ => fun
  | [d] => { results := [.lit (.bool false)], args := [d] }
  | _ => none }
def RootSquaresWrongFalsely : Prop := rootSquaresRow.holds Try.pinned (OpenSpec.ofChange rootSquaresWrong)

/-- 'exactreallaw04.RootLowest': WHATEVER THE INPUT: true; the input reads as it did. -/
def rootLowestSpec : ChangeSpec := { name := "rootLowest", fn := fun _ => fun
  | [d1, d2, d3] => { results := [.lit (.bool true)], args := [d1, d2, d3] }
  | _ => none }
def rootLowestRow : OpenClaim := { program := "ytbaapijfenmhiaa", sum := "9de6fa9a2625de6a8fdc7b6f3284c5e1bf538ba954471ac57d0856c28393368e", func := "exactreal/exactreallaw04.RootLowest", spec := "rootLowest", apart := false }
def RootLowestSaid : Prop := rootLowestRow.holds Try.pinned (OpenSpec.ofChange rootLowestSpec)

/-- ITS FALSE NEIGHBOUR: 'it returns false'. Refute it at one input. -/
def rootLowestWrong : ChangeSpec := { name := "rootLowest", fn := fun _ => fun
  | [d1, d2, d3] => { results := [.lit (.bool false)], args := [d1, d2, d3] }
  | _ => none }
def RootLowestWrongFalsely : Prop := rootLowestRow.holds Try.pinned (OpenSpec.ofChange rootLowestWrong)

/- THE SECOND FORM. 'bulk': how many values and letters a reading holds, each counted each time it is reached (what is shared counts as often as it is met; a slice's spare places count too). A statement '..UptoSaid' is the law's where the arguments, and the package variables that the reading takes, are together of bulk at most 1048576: NARROWER than '..Said'. Prove '..Said' where nothing that the law and all that it calls make is longer than what came in: it says more and counts as full. Else prove '..UptoSaid'. A law counts once. -/
mutual
def uptoBulk {H : Type} : DataW H → Nat
  | .lit (.string bytes) => bytes.length + 1
  | .lit _ => 1
  | .nil => 1
  | .ptr d => uptoBulk d + 1
  | .slice elems spare => uptoBulkAll elems + uptoBulkAll spare + 1
  | .agg parts => uptoBulkAll parts + 1
  | .iface _ d => uptoBulk d + 1
  | .map entries => uptoBulkEntries entries + 1
  | .held _ => 1
def uptoBulkAll {H : Type} : List (DataW H) → Nat
  | [] => 0
  | d :: r => uptoBulk d + uptoBulkAll r
def uptoBulkEntries {H : Type} : List (Lit × DataW H) → Nat
  | [] => 0
  | x :: r => uptoBulkEntry x + uptoBulkEntries r
def uptoBulkEntry {H : Type} : Lit × DataW H → Nat
  | (.string bytes, d) => bytes.length + uptoBulk d + 1
  | (_, d) => uptoBulk d + 1
 end
def uptoSmall : (H : Type) → List (DataW H) → Bool := fun _ ds => decide (uptoBulkAll ds ≤ 1048576)
def OpenSpec.upto (s : _root_.Go.ChangeSpec) : _root_.Go.OpenSpec := { _root_.Go.OpenSpec.ofChange s with cond := some uptoSmall }

/-- 'exactreallaw03.QuotientDivides', WHERE WHAT IT READS IS OF BULK AT MOST 1048576: true; the input reads as it did. -/
def quotientDividesUptoRow : OpenClaim := { program := "ytbaapijfenmhiaa", sum := "9de6fa9a2625de6a8fdc7b6f3284c5e1bf538ba954471ac57d0856c28393368e", func := "exactreal/exactreallaw03.QuotientDivides", spec := "quotientDivides", apart := false, narrowed := true }
def QuotientDividesUptoSaid : Prop := quotientDividesUptoRow.holds Try.pinned (OpenSpec.upto quotientDividesSpec)

/-- 'exactreallaw03.QuotientHard', WHERE WHAT IT READS IS OF BULK AT MOST 1048576: true; the input reads as it did. -/
def quotientHardUptoRow : OpenClaim := { program := "ytbaapijfenmhiaa", sum := "9de6fa9a2625de6a8fdc7b6f3284c5e1bf538ba954471ac57d0856c28393368e", func := "exactreal/exactreallaw03.QuotientHard", spec := "quotientHard", apart := false, narrowed := true }
def QuotientHardUptoSaid : Prop := quotientHardUptoRow.holds Try.pinned (OpenSpec.upto quotientHardSpec)

/-- 'exactreallaw03.QuotientSmall', WHERE WHAT IT READS IS OF BULK AT MOST 1048576: true; the input reads as it did. -/
def quotientSmallUptoRow : OpenClaim := { program := "ytbaapijfenmhiaa", sum := "9de6fa9a2625de6a8fdc7b6f3284c5e1bf538ba954471ac57d0856c28393368e", func := "exactreal/exactreallaw03.QuotientSmall", spec := "quotientSmall", apart := false, narrowed := true }
def QuotientSmallUptoSaid : Prop := quotientSmallUptoRow.holds Try.pinned (OpenSpec.upto quotientSmallSpec)

/-- 'exactreallaw03.QuotientExact', WHERE WHAT IT READS IS OF BULK AT MOST 1048576: true; the input reads as it did. -/
def quotientExactUptoRow : OpenClaim := { program := "ytbaapijfenmhiaa", sum := "9de6fa9a2625de6a8fdc7b6f3284c5e1bf538ba954471ac57d0856c28393368e", func := "exactreal/exactreallaw03.QuotientExact", spec := "quotientExact", apart := false, narrowed := true }
def QuotientExactUptoSaid : Prop := quotientExactUptoRow.holds Try.pinned (OpenSpec.upto quotientExactSpec)

/-- 'exactreallaw03.QuotientPowmod', WHERE WHAT IT READS IS OF BULK AT MOST 1048576: true; the input reads as it did. -/
def quotientPowmodUptoRow : OpenClaim := { program := "ytbaapijfenmhiaa", sum := "9de6fa9a2625de6a8fdc7b6f3284c5e1bf538ba954471ac57d0856c28393368e", func := "exactreal/exactreallaw03.QuotientPowmod", spec := "quotientPowmod", apart := false, narrowed := true }
def QuotientPowmodUptoSaid : Prop := quotientPowmodUptoRow.holds Try.pinned (OpenSpec.upto quotientPowmodSpec)

/-- 'exactreallaw04.RootSqrt', WHERE WHAT IT READS IS OF BULK AT MOST 1048576: true; the input reads as it did. -/
def rootSqrtUptoRow : OpenClaim := { program := "ytbaapijfenmhiaa", sum := "9de6fa9a2625de6a8fdc7b6f3284c5e1bf538ba954471ac57d0856c28393368e", func := "exactreal/exactreallaw04.RootSqrt", spec := "rootSqrt", apart := false, narrowed := true }
def RootSqrtUptoSaid : Prop := rootSqrtUptoRow.holds Try.pinned (OpenSpec.upto rootSqrtSpec)

/-- 'exactreallaw04.RootRoots', WHERE WHAT IT READS IS OF BULK AT MOST 1048576: true; the input reads as it did. -/
def rootRootsUptoRow : OpenClaim := { program := "ytbaapijfenmhiaa", sum := "9de6fa9a2625de6a8fdc7b6f3284c5e1bf538ba954471ac57d0856c28393368e", func := "exactreal/exactreallaw04.RootRoots", spec := "rootRoots", apart := false, narrowed := true }
def RootRootsUptoSaid : Prop := rootRootsUptoRow.holds Try.pinned (OpenSpec.upto rootRootsSpec)

/-- 'exactreallaw04.RootGcd', WHERE WHAT IT READS IS OF BULK AT MOST 1048576: true; the input reads as it did. -/
def rootGcdUptoRow : OpenClaim := { program := "ytbaapijfenmhiaa", sum := "9de6fa9a2625de6a8fdc7b6f3284c5e1bf538ba954471ac57d0856c28393368e", func := "exactreal/exactreallaw04.RootGcd", spec := "rootGcd", apart := false, narrowed := true }
def RootGcdUptoSaid : Prop := rootGcdUptoRow.holds Try.pinned (OpenSpec.upto rootGcdSpec)

/-- 'exactreallaw04.RootSquares', WHERE WHAT IT READS IS OF BULK AT MOST 1048576: true; the input reads as it did. -/
def rootSquaresUptoRow : OpenClaim := { program := "ytbaapijfenmhiaa", sum := "9de6fa9a2625de6a8fdc7b6f3284c5e1bf538ba954471ac57d0856c28393368e", func := "exactreal/exactreallaw04.RootSquares", spec := "rootSquares", apart := false, narrowed := true }
def RootSquaresUptoSaid : Prop := rootSquaresUptoRow.holds Try.pinned (OpenSpec.upto rootSquaresSpec)

/-- 'exactreallaw04.RootLowest', WHERE WHAT IT READS IS OF BULK AT MOST 1048576: true; the input reads as it did. -/
def rootLowestUptoRow : OpenClaim := { program := "ytbaapijfenmhiaa", sum := "9de6fa9a2625de6a8fdc7b6f3284c5e1bf538ba954471ac57d0856c28393368e", func := "exactreal/exactreallaw04.RootLowest", spec := "rootLowest", apart := false, narrowed := true }
def RootLowestUptoSaid : Prop := rootLowestUptoRow.holds Try.pinned (OpenSpec.upto rootLowestSpec)

end Rows
end Go.Proofs.Ytbaapijfenmhiaa
