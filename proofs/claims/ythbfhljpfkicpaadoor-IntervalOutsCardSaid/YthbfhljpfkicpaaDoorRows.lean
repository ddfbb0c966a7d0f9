/-
  NARROWER THAN 'FOR EVERY INPUT', by the rows' own cells (each row's printed sentence says how): GridRounds: laid · GridBounds: laid · GridOn: laid · GridTwice: laid · GridFractions: laid · IntervalOuts: laid · IntervalMiddles: laid · IntervalHalves: laid.
  DERIVED. THE GIVEN ROWS OF THIS SEAT. 8 by the template 'for every input the law returns true; each argument reads behind the call as it read before'; 0 by the template 'total and deterministic' (their statements: YthbfhljpfkicpaaDoorTotals.lean).
  GIVEN WITH THE SEED: the statements are not yours to turn. If you find one false, say at which input.
  Laid BY PROGRAM, IN A SANDBOX (cutbox-rows.mjs): the forced cells as the released guide's own fill.sh prints them over the translation b61e82f5d4b01134… (all of the seat's roots in one cut). By AI agents, Wed Nov 11 2026. No macro, syntax, notation, axiom, sorry.
-/
import Derived.Test.YthbfhljpfkicpaaDoorChecked
import GoSem.Claim
import GoSem.ClaimJoined
import GoSem.ClaimMapViews
import Derived.JoinedTies
import Derived.KernelRfl
namespace Go.Proofs.YthbfhljpfkicpaaDoor
/- THE CELL 'sum', in the pinned program and in every row, IS THE sha256 OF THE DUMP (.gsa) THAT YthbfhljpfkicpaaDoorProg.lean LOADS. Nothing in Lean hashes anything: it is a label: what it is worth is what the hold of that sum in a sandbox is worth. -/
noncomputable def Tryd.pinned : Pinned := { name := "ythbfhljpfkicpaadoor", sum := "b61e82f5d4b01134c0773a0c0bbc928c83f2151a857957ff94e991d30fe02e61", checked := Tryd.checked }
namespace Rows
def none {H : Type} : Left H := { results := [], args := [] }

/- WHAT THE LISTED PACKAGE-LEVEL VARIABLES READ AS WHEN THE CALL BEGINS. Each datum BY PROGRAM (the guide's laid-datum.mjs) off the statement by which the dump's own 'gosem.cut.vars' lays the variable. In a bare row this is a premise. The card (YthbfhljpfkicpaaDoorCards.lean) ties it to the program's text. -/
def laid_math_bits_deBruijn32tab {H : Type} : DataW H := .agg [.lit (.int .u8 0), .lit (.int .u8 1), .lit (.int .u8 28), .lit (.int .u8 2), .lit (.int .u8 29), .lit (.int .u8 14), .lit (.int .u8 24), .lit (.int .u8 3), .lit (.int .u8 30), .lit (.int .u8 22), .lit (.int .u8 20), .lit (.int .u8 15), .lit (.int .u8 25), .lit (.int .u8 17), .lit (.int .u8 4), .lit (.int .u8 8), .lit (.int .u8 31), .lit (.int .u8 27), .lit (.int .u8 13), .lit (.int .u8 23), .lit (.int .u8 21), .lit (.int .u8 19), .lit (.int .u8 16), .lit (.int .u8 7), .lit (.int .u8 26), .lit (.int .u8 12), .lit (.int .u8 18), .lit (.int .u8 6), .lit (.int .u8 11), .lit (.int .u8 5), .lit (.int .u8 10), .lit (.int .u8 9)]

/-- 'exactreallaw09.GridRounds': WHATEVER THE INPUT: true; the input reads as it did. -/
def gridRoundsSpec : ChangeSpec := { name := "gridRounds", fn := fun _ => fun
  | [d1, d2] => { results := [.lit (.bool true)], args := [d1, d2] }
  | _ => none }
def gridRoundsRow : OpenClaim := { program := "ythbfhljpfkicpaadoor", sum := "b61e82f5d4b01134c0773a0c0bbc928c83f2151a857957ff94e991d30fe02e61", func := "exactreal/exactreallaw09.GridRounds", spec := "gridRounds", unfollowed := true, recurses := true, named := ["math/bits.deBruijn32tab"], apart := false, laid := [("math/bits.deBruijn32tab", laid_math_bits_deBruijn32tab)] }
def GridRoundsSaid : Prop := gridRoundsRow.holds Tryd.pinned (OpenSpec.ofChange gridRoundsSpec)

/-- ITS FALSE NEIGHBOUR: 'it returns false'. Refute it at one input. -/
def gridRoundsWrong : ChangeSpec := { name := "gridRounds", fn := fun _ => fun
  | [d1, d2] => { results := [.lit (.bool false)], args := [d1, d2] }
  | _ => none }
def GridRoundsWrongFalsely : Prop := gridRoundsRow.holds Tryd.pinned (OpenSpec.ofChange gridRoundsWrong)

/-- 'exactreallaw09.GridBounds': WHATEVER THE INPUT: true; the input reads as it did. -/
def gridBoundsSpec : ChangeSpec := { name := "gridBounds", fn := fun _ => fun
  | [d1, d2] => { results := [.lit (.bool true)], args := [d1, d2] }
  | _ => none }
def gridBoundsRow : OpenClaim := { program := "ythbfhljpfkicpaadoor", sum := "b61e82f5d4b01134c0773a0c0bbc928c83f2151a857957ff94e991d30fe02e61", func := "exactreal/exactreallaw09.GridBounds", spec := "gridBounds", unfollowed := true, recurses := true, named := ["math/bits.deBruijn32tab"], apart := false, laid := [("math/bits.deBruijn32tab", laid_math_bits_deBruijn32tab)] }
def GridBoundsSaid : Prop := gridBoundsRow.holds Tryd.pinned (OpenSpec.ofChange gridBoundsSpec)

/-- ITS FALSE NEIGHBOUR: 'it returns false'. Refute it at one input. -/
def gridBoundsWrong : ChangeSpec := { name := "gridBounds", fn := fun _ => fun
  | [d1, d2] => { results := [.lit (.bool false)], args := [d1, d2] }
  | _ => none }
def GridBoundsWrongFalsely : Prop := gridBoundsRow.holds Tryd.pinned (OpenSpec.ofChange gridBoundsWrong)

/-- 'exactreallaw09.GridOn': WHATEVER THE INPUT: true; the input reads as it did. -/
def gridOnSpec : ChangeSpec := { name := "gridOn", fn := fun _ => fun
  | [d1, d2] => { results := [.lit (.bool true)], args := [d1, d2] }
  | _ => none }
def gridOnRow : OpenClaim := { program := "ythbfhljpfkicpaadoor", sum := "b61e82f5d4b01134c0773a0c0bbc928c83f2151a857957ff94e991d30fe02e61", func := "exactreal/exactreallaw09.GridOn", spec := "gridOn", unfollowed := true, recurses := true, named := ["math/bits.deBruijn32tab"], apart := false, laid := [("math/bits.deBruijn32tab", laid_math_bits_deBruijn32tab)] }
def GridOnSaid : Prop := gridOnRow.holds Tryd.pinned (OpenSpec.ofChange gridOnSpec)

/-- ITS FALSE NEIGHBOUR: 'it returns false'. Refute it at one input. -/
def gridOnWrong : ChangeSpec := { name := "gridOn", fn := fun _ => fun
  | [d1, d2] => { results := [.lit (.bool false)], args := [d1, d2] }
  | _ => none }
def GridOnWrongFalsely : Prop := gridOnRow.holds Tryd.pinned (OpenSpec.ofChange gridOnWrong)

/-- 'exactreallaw09.GridTwice': WHATEVER THE INPUT: true; the input reads as it did. -/
def gridTwiceSpec : ChangeSpec := { name := "gridTwice", fn := fun _ => fun
  | [d1, d2, d3] => { results := [.lit (.bool true)], args := [d1, d2, d3] }
  | _ => none }
def gridTwiceRow : OpenClaim := { program := "ythbfhljpfkicpaadoor", sum := "b61e82f5d4b01134c0773a0c0bbc928c83f2151a857957ff94e991d30fe02e61", func := "exactreal/exactreallaw09.GridTwice", spec := "gridTwice", unfollowed := true, recurses := true, named := ["math/bits.deBruijn32tab"], apart := false, laid := [("math/bits.deBruijn32tab", laid_math_bits_deBruijn32tab)] }
def GridTwiceSaid : Prop := gridTwiceRow.holds Tryd.pinned (OpenSpec.ofChange gridTwiceSpec)

/-- ITS FALSE NEIGHBOUR: 'it returns false'. Refute it at one input. -/
def gridTwiceWrong : ChangeSpec := { name := "gridTwice", fn := fun _ => fun
  | [d1, d2, d3] => { results := [.lit (.bool false)], args := [d1, d2, d3] }
  | _ => none }
def GridTwiceWrongFalsely : Prop := gridTwiceRow.holds Tryd.pinned (OpenSpec.ofChange gridTwiceWrong)

/-- 'exactreallaw09.GridFractions': WHATEVER THE INPUT: true; the input reads as it did. -/
def gridFractionsSpec : ChangeSpec := { name := "gridFractions", fn := fun _ => fun
  | [d1, d2] => { results := [.lit (.bool true)], args := [d1, d2] }
  | _ => none }
def gridFractionsRow : OpenClaim := { program := "ythbfhljpfkicpaadoor", sum := "b61e82f5d4b01134c0773a0c0bbc928c83f2151a857957ff94e991d30fe02e61", func := "exactreal/exactreallaw09.GridFractions", spec := "gridFractions", unfollowed := true, recurses := true, named := ["math/bits.deBruijn32tab"], apart := false, laid := [("math/bits.deBruijn32tab", laid_math_bits_deBruijn32tab)] }
def GridFractionsSaid : Prop := gridFractionsRow.holds Tryd.pinned (OpenSpec.ofChange gridFractionsSpec)

/-- ITS FALSE NEIGHBOUR: 'it returns false'. Refute it at one input. -/
def gridFractionsWrong : ChangeSpec := { name := "gridFractions", fn := fun _ => fun
  | [d1, d2] => { results := [.lit (.bool false)], args := [d1, d2] }
  | _ => none }
def GridFractionsWrongFalsely : Prop := gridFractionsRow.holds Tryd.pinned (OpenSpec.ofChange gridFractionsWrong)

/-- 'exactreallaw10.IntervalOuts': WHATEVER THE INPUT: true; the input reads as it did. -/
def intervalOutsSpec : ChangeSpec := { name := "intervalOuts", fn := fun _ => fun
  | [d1, d2] => { results := [.lit (.bool true)], args := [d1, d2] }
  | _ => none }
def intervalOutsRow : OpenClaim := { program := "ythbfhljpfkicpaadoor", sum := "b61e82f5d4b01134c0773a0c0bbc928c83f2151a857957ff94e991d30fe02e61", func := "exactreal/exactreallaw10.IntervalOuts", spec := "intervalOuts", unfollowed := true, recurses := true, named := ["math/bits.deBruijn32tab"], apart := false, laid := [("math/bits.deBruijn32tab", laid_math_bits_deBruijn32tab)] }
def IntervalOutsSaid : Prop := intervalOutsRow.holds Tryd.pinned (OpenSpec.ofChange intervalOutsSpec)

/-- ITS FALSE NEIGHBOUR: 'it returns false'. Refute it at one input. -/
def intervalOutsWrong : ChangeSpec := { name := "intervalOuts", fn := fun _ => fun
  | [d1, d2] => { results := [.lit (.bool false)], args := [d1, d2] }
  | _ => none }
def IntervalOutsWrongFalsely : Prop := intervalOutsRow.holds Tryd.pinned (OpenSpec.ofChange intervalOutsWrong)

/-- 'exactreallaw10.IntervalMiddles': WHATEVER THE INPUT: true; the input reads as it did. -/
def intervalMiddlesSpec : ChangeSpec := { name := "intervalMiddles", fn := fun _ => fun
  | [d] => { results := [.lit (.bool true)], args := [d] }
  | _ => none }
def intervalMiddlesRow : OpenClaim := { program := "ythbfhljpfkicpaadoor", sum := "b61e82f5d4b01134c0773a0c0bbc928c83f2151a857957ff94e991d30fe02e61", func := "exactreal/exactreallaw10.IntervalMiddles", spec := "intervalMiddles", named := ["math/bits.deBruijn32tab"], apart := false, laid := [("math/bits.deBruijn32tab", laid_math_bits_deBruijn32tab)] }
def IntervalMiddlesSaid : Prop := intervalMiddlesRow.holds Tryd.pinned (OpenSpec.ofChange intervalMiddlesSpec)

/-- ITS FALSE NEIGHBOUR: 'it returns false'. Refute it at one input. -/
def intervalMiddlesWrong : ChangeSpec := { name := "intervalMiddles", fn := fun _ => fun
  | [d] => { results := [.lit (.bool false)], args := [d] }
  | _ => none }
def IntervalMiddlesWrongFalsely : Prop := intervalMiddlesRow.holds Tryd.pinned (OpenSpec.ofChange intervalMiddlesWrong)

/-- 'exactreallaw10.IntervalHalves': WHATEVER THE INPUT: true; the input reads as it did. -/
def intervalHalvesSpec : ChangeSpec := { name := "intervalHalves", fn := fun _ => fun
  | [d] => { results := [.lit (.bool true)], args := [d] }
  | _ => none }
def intervalHalvesRow : OpenClaim := { program := "ythbfhljpfkicpaadoor", sum := "b61e82f5d4b01134c0773a0c0bbc928c83f2151a857957ff94e991d30fe02e61", func := "exactreal/exactreallaw10.IntervalHalves", spec := "intervalHalves", named := ["math/bits.deBruijn32tab"], apart := false, laid := [("math/bits.deBruijn32tab", laid_math_bits_deBruijn32tab)] }
def IntervalHalvesSaid : Prop := intervalHalvesRow.holds Tryd.pinned (OpenSpec.ofChange intervalHalvesSpec)

/-- ITS FALSE NEIGHBOUR: 'it returns false'. Refute it at one input. -/
def intervalHalvesWrong : ChangeSpec := { name := "intervalHalves", fn := fun _ => fun
  | [d] => { results := [.lit (.bool false)], args := [d] }
  | _ => none }
def IntervalHalvesWrongFalsely : Prop := intervalHalvesRow.holds Tryd.pinned (OpenSpec.ofChange intervalHalvesWrong)

/- THE SECOND FORM. 'bulk': how many values and letters a reading holds, each counted each time it is reached (what is shared counts as often as it is met; a slice's spare places count too). A statement '..UptoSaid' is the law's where the arguments, and the package variables that the reading takes, are together of bulk at most 1048576: NARROWER than '..Said'. Prove '..Said' where nothing that the law and all that it calls make is longer than what came in: it says more and counts as full. Else prove '..UptoSaid'. A law counts once. -/
mutual
def uptoBulk {H : Type} : DataW H → Nat
  | .lit (.string bytes) => bytes.length + 1
  | .lit _ => 1
  | .nil => 1
  | .ptr d => uptoBulk d + 1
  | .slice elems spare => uptoBulkAll elems + uptoBulkAll spare + 1
  | .agg parts => uptoBulkAll parts + 1
  | .iface _ d => uptoBulk d + 1
  | .map entries => uptoBulkEntries entries + 1
  | .held _ => 1
def uptoBulkAll {H : Type} : List (DataW H) → Nat
  | [] => 0
  | d :: r => uptoBulk d + uptoBulkAll r
def uptoBulkEntries {H : Type} : List (Lit × DataW H) → Nat
  | [] => 0
  | x :: r => uptoBulkEntry x + uptoBulkEntries r
def uptoBulkEntry {H : Type} : Lit × DataW H → Nat
  | (.string bytes, d) => bytes.length + uptoBulk d + 1
  | (_, d) => uptoBulk d + 1
 end
def uptoSmall : (H : Type) → List (DataW H) → Bool := fun _ ds => decide (uptoBulkAll ds ≤ 1048576)
def OpenSpec.upto (s : _root_.Go.ChangeSpec) : _root_.Go.OpenSpec := { _root_.Go.OpenSpec.ofChange s with cond := some uptoSmall }

/-- 'exactreallaw09.GridRounds', WHERE WHAT IT READS IS OF BULK AT MOST 1048576: true; the input reads as it did. -/
def gridRoundsUptoRow : OpenClaim := { program := "ythbfhljpfkicpaadoor", sum := "b61e82f5d4b01134c0773a0c0bbc928c83f2151a857957ff94e991d30fe02e61", func := "exactreal/exactreallaw09.GridRounds", spec := "gridRounds", unfollowed := true, recurses := true, named := ["math/bits.deBruijn32tab"], apart := false, laid := [("math/bits.deBruijn32tab", laid_math_bits_deBruijn32tab)], narrowed := true }
def GridRoundsUptoSaid : Prop := gridRoundsUptoRow.holds Tryd.pinned (OpenSpec.upto gridRoundsSpec)

/-- 'exactreallaw09.GridBounds', WHERE WHAT IT READS IS OF BULK AT MOST 1048576: true; the input reads as it did. -/
def gridBoundsUptoRow : OpenClaim := { program := "ythbfhljpfkicpaadoor", sum := "b61e82f5d4b01134c0773a0c0bbc928c83f2151a857957ff94e991d30fe02e61", func := "exactreal/exactreallaw09.GridBounds", spec := "gridBounds", unfollowed := true, recurses := true, named := ["math/bits.deBruijn32tab"], apart := false, laid := [("math/bits.deBruijn32tab", laid_math_bits_deBruijn32tab)], narrowed := true }
def GridBoundsUptoSaid : Prop := gridBoundsUptoRow.holds Tryd.pinned (OpenSpec.upto gridBoundsSpec)

/-- 'exactreallaw09.GridOn', WHERE WHAT IT READS IS OF BULK AT MOST 1048576: true; the input reads as it did. -/
def gridOnUptoRow : OpenClaim := { program := "ythbfhljpfkicpaadoor", sum := "b61e82f5d4b01134c0773a0c0bbc928c83f2151a857957ff94e991d30fe02e61", func := "exactreal/exactreallaw09.GridOn", spec := "gridOn", unfollowed := true, recurses := true, named := ["math/bits.deBruijn32tab"], apart := false, laid := [("math/bits.deBruijn32tab", laid_math_bits_deBruijn32tab)], narrowed := true }
def GridOnUptoSaid : Prop := gridOnUptoRow.holds Tryd.pinned (OpenSpec.upto gridOnSpec)

/-- 'exactreallaw09.GridTwice', WHERE WHAT IT READS IS OF BULK AT MOST 1048576: true; the input reads as it did. -/
def gridTwiceUptoRow : OpenClaim := { program := "ythbfhljpfkicpaadoor", sum := "b61e82f5d4b01134c0773a0c0bbc928c83f2151a857957ff94e991d30fe02e61", func := "exactreal/exactreallaw09.GridTwice", spec := "gridTwice", unfollowed := true, recurses := true, named := ["math/bits.deBruijn32tab"], apart := false, laid := [("math/bits.deBruijn32tab", laid_math_bits_deBruijn32tab)], narrowed := true }
def GridTwiceUptoSaid : Prop := gridTwiceUptoRow.holds Tryd.pinned (OpenSpec.upto gridTwiceSpec)

/-- 'exactreallaw09.GridFractions', WHERE WHAT IT READS IS OF BULK AT MOST 1048576: true; the input reads as it did. -/
def gridFractionsUptoRow : OpenClaim := { program := "ythbfhljpfkicpaadoor", sum := "b61e82f5d4b01134c0773a0c0bbc928c83f2151a857957ff94e991d30fe02e61", func := "exactreal/exactreallaw09.GridFractions", spec := "gridFractions", unfollowed := true, recurses := true, named := ["math/bits.deBruijn32tab"], apart := false, laid := [("math/bits.deBruijn32tab", laid_math_bits_deBruijn32tab)], narrowed := true }
def GridFractionsUptoSaid : Prop := gridFractionsUptoRow.holds Tryd.pinned (OpenSpec.upto gridFractionsSpec)

/-- 'exactreallaw10.IntervalOuts', WHERE WHAT IT READS IS OF BULK AT MOST 1048576: true; the input reads as it did. -/
def intervalOutsUptoRow : OpenClaim := { program := "ythbfhljpfkicpaadoor", sum := "b61e82f5d4b01134c0773a0c0bbc928c83f2151a857957ff94e991d30fe02e61", func := "exactreal/exactreallaw10.IntervalOuts", spec := "intervalOuts", unfollowed := true, recurses := true, named := ["math/bits.deBruijn32tab"], apart := false, laid := [("math/bits.deBruijn32tab", laid_math_bits_deBruijn32tab)], narrowed := true }
def IntervalOutsUptoSaid : Prop := intervalOutsUptoRow.holds Tryd.pinned (OpenSpec.upto intervalOutsSpec)

/-- 'exactreallaw10.IntervalMiddles', WHERE WHAT IT READS IS OF BULK AT MOST 1048576: true; the input reads as it did. -/
def intervalMiddlesUptoRow : OpenClaim := { program := "ythbfhljpfkicpaadoor", sum := "b61e82f5d4b01134c0773a0c0bbc928c83f2151a857957ff94e991d30fe02e61", func := "exactreal/exactreallaw10.IntervalMiddles", spec := "intervalMiddles", named := ["math/bits.deBruijn32tab"], apart := false, laid := [("math/bits.deBruijn32tab", laid_math_bits_deBruijn32tab)], narrowed := true }
def IntervalMiddlesUptoSaid : Prop := intervalMiddlesUptoRow.holds Tryd.pinned (OpenSpec.upto intervalMiddlesSpec)

/-- 'exactreallaw10.IntervalHalves', WHERE WHAT IT READS IS OF BULK AT MOST 1048576: true; the input reads as it did. -/
def intervalHalvesUptoRow : OpenClaim := { program := "ythbfhljpfkicpaadoor", sum := "b61e82f5d4b01134c0773a0c0bbc928c83f2151a857957ff94e991d30fe02e61", func := "exactreal/exactreallaw10.IntervalHalves", spec := "intervalHalves", named := ["math/bits.deBruijn32tab"], apart := false, laid := [("math/bits.deBruijn32tab", laid_math_bits_deBruijn32tab)], narrowed := true }
def IntervalHalvesUptoSaid : Prop := intervalHalvesUptoRow.holds Tryd.pinned (OpenSpec.upto intervalHalvesSpec)

end Rows
end Go.Proofs.YthbfhljpfkicpaaDoor
