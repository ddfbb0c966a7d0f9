/-
  No cell of these rows narrows 'for every input' (looked for: loops, veiled, ifaces, maps, wideKeys, modest, calm, conditions, laid).
  DERIVED. THE GIVEN ROWS OF THIS SEAT. 6 by the template 'for every input the law returns true; each argument reads behind the call as it read before'; 0 by the template 'total and deterministic' (their statements: YthbbcnlpfjbleaaTotals.lean).
  GIVEN WITH THE SEED: the statements are not yours to turn. If you find one false, say at which input.
  Laid BY PROGRAM, IN A SANDBOX (cutbox-rows.mjs): the forced cells as the released guide's own fill.sh prints them over the translation ba0d9450add951b0… (all of the seat's roots in one cut). By AI agents, Wed Nov 11 2026. No macro, syntax, notation, axiom, sorry.
-/
import Derived.Test.YthbbcnlpfjbleaaChecked
import GoSem.Claim
import GoSem.ClaimJoined
import GoSem.ClaimMapViews
import Derived.JoinedTies
import Derived.KernelRfl
namespace Go.Proofs.Ythbbcnlpfjbleaa
/- THE CELL 'sum', in the pinned program and in every row, IS THE sha256 OF THE DUMP (.gsa) THAT YthbbcnlpfjbleaaProg.lean LOADS. Nothing in Lean hashes anything: it is a label: what it is worth is what the hold of that sum in a sandbox is worth. -/
noncomputable def Try.pinned : Pinned := { name := "ythbbcnlpfjbleaa", sum := "ba0d9450add951b002e6213fd9067ae6d2decc1928d07e8dff0fa5d7ab0c4e2c", checked := Try.checked }
namespace Rows
def none {H : Type} : Left H := { results := [], args := [] }

/-- 'exactreallaw05.IntegerShifts': WHATEVER THE INPUT: true; the input reads as it did. -/
def integerShiftsSpec : ChangeSpec := { name := "integerShifts", fn := fun _ => fun
  | [d1, d2] => { results := [.lit (.bool true)], args := [d1, d2] }
  | _ => none }
def integerShiftsRow : OpenClaim := { program := "ythbbcnlpfjbleaa", sum := "ba0d9450add951b002e6213fd9067ae6d2decc1928d07e8dff0fa5d7ab0c4e2c", func := "exactreal/exactreallaw05.IntegerShifts", spec := "integerShifts", apart := false }
def IntegerShiftsSaid : Prop := integerShiftsRow.holds Try.pinned (OpenSpec.ofChange integerShiftsSpec)

/-- ITS FALSE NEIGHBOUR: 'it returns false'. Refute it at one input. -/
def integerShiftsWrong : ChangeSpec := { name := "integerShifts", fn := fun _ => fun
  | [d1, d2] => { results := [.lit (.bool false)], args := [d1, d2] }
  | _ => none }
def IntegerShiftsWrongFalsely : Prop := integerShiftsRow.holds Try.pinned (OpenSpec.ofChange integerShiftsWrong)

/-- 'exactreallaw05.IntegerDivides': WHATEVER THE INPUT: true; the input reads as it did. -/
def integerDividesSpec : ChangeSpec := { name := "integerDivides", fn := fun _ => fun
  | [d1, d2] => { results := [.lit (.bool true)], args := [d1, d2] }
  | _ => none }
def integerDividesRow : OpenClaim := { program := "ythbbcnlpfjbleaa", sum := "ba0d9450add951b002e6213fd9067ae6d2decc1928d07e8dff0fa5d7ab0c4e2c", func := "exactreal/exactreallaw05.IntegerDivides", spec := "integerDivides", apart := false }
def IntegerDividesSaid : Prop := integerDividesRow.holds Try.pinned (OpenSpec.ofChange integerDividesSpec)

/-- ITS FALSE NEIGHBOUR: 'it returns false'. Refute it at one input. -/
def integerDividesWrong : ChangeSpec := { name := "integerDivides", fn := fun _ => fun
  | [d1, d2] => { results := [.lit (.bool false)], args := [d1, d2] }
  | _ => none }
def IntegerDividesWrongFalsely : Prop := integerDividesRow.holds Try.pinned (OpenSpec.ofChange integerDividesWrong)

/-- 'exactreallaw05.IntegerEnds': WHATEVER THE INPUT: true; the input reads as it did. -/
def integerEndsSpec : ChangeSpec := { name := "integerEnds", fn := fun _ => fun
  | [d1, d2, d3] => { results := [.lit (.bool true)], args := [d1, d2, d3] }
  | _ => none }
def integerEndsRow : OpenClaim := { program := "ythbbcnlpfjbleaa", sum := "ba0d9450add951b002e6213fd9067ae6d2decc1928d07e8dff0fa5d7ab0c4e2c", func := "exactreal/exactreallaw05.IntegerEnds", spec := "integerEnds", apart := false }
def IntegerEndsSaid : Prop := integerEndsRow.holds Try.pinned (OpenSpec.ofChange integerEndsSpec)

/-- ITS FALSE NEIGHBOUR: 'it returns false'. Refute it at one input. -/
def integerEndsWrong : ChangeSpec := { name := "integerEnds", fn := fun _ => fun
  | [d1, d2, d3] => { results := [.lit (.bool false)], args := [d1, d2, d3] }
  | _ => none }
def IntegerEndsWrongFalsely : Prop := integerEndsRow.holds Try.pinned (OpenSpec.ofChange integerEndsWrong)

/-- 'exactreallaw05.IntegerValues': WHATEVER THE INPUT: true; the input reads as it did. -/
def integerValuesSpec : ChangeSpec := { name := "integerValues", fn := fun _ => fun
  | [d1, d2] => { results := [.lit (.bool true)], args := [d1, d2] }
  | _ => none }
def integerValuesRow : OpenClaim := { program := "ythbbcnlpfjbleaa", sum := "ba0d9450add951b002e6213fd9067ae6d2decc1928d07e8dff0fa5d7ab0c4e2c", func := "exactreal/exactreallaw05.IntegerValues", spec := "integerValues", apart := false }
def IntegerValuesSaid : Prop := integerValuesRow.holds Try.pinned (OpenSpec.ofChange integerValuesSpec)

/-- ITS FALSE NEIGHBOUR: 'it returns false'. Refute it at one input. -/
def integerValuesWrong : ChangeSpec := { name := "integerValues", fn := fun _ => fun
  | [d1, d2] => { results := [.lit (.bool false)], args := [d1, d2] }
  | _ => none }
def IntegerValuesWrongFalsely : Prop := integerValuesRow.holds Try.pinned (OpenSpec.ofChange integerValuesWrong)

/-- 'exactreallaw05.IntegerOrders': WHATEVER THE INPUT: true; the input reads as it did. -/
def integerOrdersSpec : ChangeSpec := { name := "integerOrders", fn := fun _ => fun
  | [d1, d2] => { results := [.lit (.bool true)], args := [d1, d2] }
  | _ => none }
def integerOrdersRow : OpenClaim := { program := "ythbbcnlpfjbleaa", sum := "ba0d9450add951b002e6213fd9067ae6d2decc1928d07e8dff0fa5d7ab0c4e2c", func := "exactreal/exactreallaw05.IntegerOrders", spec := "integerOrders", apart := false }
def IntegerOrdersSaid : Prop := integerOrdersRow.holds Try.pinned (OpenSpec.ofChange integerOrdersSpec)

/-- ITS FALSE NEIGHBOUR: 'it returns false'. Refute it at one input. -/
def integerOrdersWrong : ChangeSpec := { name := "integerOrders", fn := fun _ => fun
  | [d1, d2] => { results := [.lit (.bool false)], args := [d1, d2] }
  | _ => none }
def IntegerOrdersWrongFalsely : Prop := integerOrdersRow.holds Try.pinned (OpenSpec.ofChange integerOrdersWrong)

/-- 'exactreallaw05.IntegerRing': WHATEVER THE INPUT: true; the input reads as it did. -/
def integerRingSpec : ChangeSpec := { name := "integerRing", fn := fun _ => fun
  | [d1, d2, d3] => { results := [.lit (.bool true)], args := [d1, d2, d3] }
  | _ => none }
def integerRingRow : OpenClaim := { program := "ythbbcnlpfjbleaa", sum := "ba0d9450add951b002e6213fd9067ae6d2decc1928d07e8dff0fa5d7ab0c4e2c", func := "exactreal/exactreallaw05.IntegerRing", spec := "integerRing", apart := false }
def IntegerRingSaid : Prop := integerRingRow.holds Try.pinned (OpenSpec.ofChange integerRingSpec)

/-- ITS FALSE NEIGHBOUR: 'it returns false'. Refute it at one input. -/
def integerRingWrong : ChangeSpec := { name := "integerRing", fn := fun _ => fun
  | [d1, d2, d3] => { results := [.lit (.bool false)], args := [d1, d2, d3] }
  | _ => none }
def IntegerRingWrongFalsely : Prop := integerRingRow.holds Try.pinned (OpenSpec.ofChange integerRingWrong)

/- THE SECOND FORM. 'bulk': how many values and letters a reading holds, each counted each time it is reached (what is shared counts as often as it is met; a slice's spare places count too). A statement '..UptoSaid' is the law's where the arguments, and the package variables that the reading takes, are together of bulk at most 1048576: NARROWER than '..Said'. Prove '..Said' where nothing that the law and all that it calls make is longer than what came in: it says more and counts as full. Else prove '..UptoSaid'. A law counts once. -/
mutual
def uptoBulk {H : Type} : DataW H → Nat
  | .lit (.string bytes) => bytes.length + 1
  | .lit _ => 1
  | .nil => 1
  | .ptr d => uptoBulk d + 1
  | .slice elems spare => uptoBulkAll elems + uptoBulkAll spare + 1
  | .agg parts => uptoBulkAll parts + 1
  | .iface _ d => uptoBulk d + 1
  | .map entries => uptoBulkEntries entries + 1
  | .held _ => 1
def uptoBulkAll {H : Type} : List (DataW H) → Nat
  | [] => 0
  | d :: r => uptoBulk d + uptoBulkAll r
def uptoBulkEntries {H : Type} : List (Lit × DataW H) → Nat
  | [] => 0
  | x :: r => uptoBulkEntry x + uptoBulkEntries r
def uptoBulkEntry {H : Type} : Lit × DataW H → Nat
  | (.string bytes, d) => bytes.length + uptoBulk d + 1
  | (_, d) => uptoBulk d + 1
 end
def uptoSmall : (H : Type) → List (DataW H) → Bool := fun _ ds => decide (uptoBulkAll ds ≤ 1048576)
def OpenSpec.upto (s : _root_.Go.ChangeSpec) : _root_.Go.OpenSpec := { _root_.Go.OpenSpec.ofChange s with cond := some uptoSmall }

/-- 'exactreallaw05.IntegerShifts', WHERE WHAT IT READS IS OF BULK AT MOST 1048576: true; the input reads as it did. -/
def integerShiftsUptoRow : OpenClaim := { program := "ythbbcnlpfjbleaa", sum := "ba0d9450add951b002e6213fd9067ae6d2decc1928d07e8dff0fa5d7ab0c4e2c", func := "exactreal/exactreallaw05.IntegerShifts", spec := "integerShifts", apart := false, narrowed := true }
def IntegerShiftsUptoSaid : Prop := integerShiftsUptoRow.holds Try.pinned (OpenSpec.upto integerShiftsSpec)

/-- 'exactreallaw05.IntegerDivides', WHERE WHAT IT READS IS OF BULK AT MOST 1048576: true; the input reads as it did. -/
def integerDividesUptoRow : OpenClaim := { program := "ythbbcnlpfjbleaa", sum := "ba0d9450add951b002e6213fd9067ae6d2decc1928d07e8dff0fa5d7ab0c4e2c", func := "exactreal/exactreallaw05.IntegerDivides", spec := "integerDivides", apart := false, narrowed := true }
def IntegerDividesUptoSaid : Prop := integerDividesUptoRow.holds Try.pinned (OpenSpec.upto integerDividesSpec)

/-- 'exactreallaw05.IntegerEnds', WHERE WHAT IT READS IS OF BULK AT MOST 1048576: true; the input reads as it did. -/
def integerEndsUptoRow : OpenClaim := { program := "ythbbcnlpfjbleaa", sum := "ba0d9450add951b002e6213fd9067ae6d2decc1928d07e8dff0fa5d7ab0c4e2c", func := "exactreal/exactreallaw05.IntegerEnds", spec := "integerEnds", apart := false, narrowed := true }
def IntegerEndsUptoSaid : Prop := integerEndsUptoRow.holds Try.pinned (OpenSpec.upto integerEndsSpec)

/-- 'exactreallaw05.IntegerValues', WHERE WHAT IT READS IS OF BULK AT MOST 1048576: true; the input reads as it did. -/
def integerValuesUptoRow : OpenClaim := { program := "ythbbcnlpfjbleaa", sum := "ba0d9450add951b002e6213fd9067ae6d2decc1928d07e8dff0fa5d7ab0c4e2c", func := "exactreal/exactreallaw05.IntegerValues", spec := "integerValues", apart := false, narrowed := true }
def IntegerValuesUptoSaid : Prop := integerValuesUptoRow.holds Try.pinned (OpenSpec.upto integerValuesSpec)

/-- 'exactreallaw05.IntegerOrders', WHERE WHAT IT READS IS OF BULK AT MOST 1048576: true; the input reads as it did. -/
def integerOrdersUptoRow : OpenClaim := { program := "ythbbcnlpfjbleaa", sum := "ba0d9450add951b002e6213fd9067ae6d2decc1928d07e8dff0fa5d7ab0c4e2c", func := "exactreal/exactreallaw05.IntegerOrders", spec := "integerOrders", apart := false, narrowed := true }
def IntegerOrdersUptoSaid : Prop := integerOrdersUptoRow.holds Try.pinned (OpenSpec.upto integerOrdersSpec)

/-- 'exactreallaw05.IntegerRing', WHERE WHAT IT READS IS OF BULK AT MOST 1048576: true; the input reads as it did. -/
def integerRingUptoRow : OpenClaim := { program := "ythbbcnlpfjbleaa", sum := "ba0d9450add951b002e6213fd9067ae6d2decc1928d07e8dff0fa5d7ab0c4e2c", func := "exactreal/exactreallaw05.IntegerRing", spec := "integerRing", apart := false, narrowed := true }
def IntegerRingUptoSaid : Prop := integerRingUptoRow.holds Try.pinned (OpenSpec.upto integerRingSpec)

end Rows
end Go.Proofs.Ythbbcnlpfjbleaa
