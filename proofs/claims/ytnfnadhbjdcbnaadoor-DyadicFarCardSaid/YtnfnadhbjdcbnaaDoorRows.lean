/-
  NARROWER THAN 'FOR EVERY INPUT', by the rows' own cells (each row's printed sentence says how): DyadicFar: laid · DyadicMakes: laid · DyadicTexts: laid · DyadicParses: laid · DyadicFrom: laid · DyadicOrders: laid.
  DERIVED. THE GIVEN ROWS OF THIS SEAT. 6 by the template 'for every input the law returns true; each argument reads behind the call as it read before'; 0 by the template 'total and deterministic' (their statements: YtnfnadhbjdcbnaaDoorTotals.lean).
  GIVEN WITH THE SEED: the statements are not yours to turn. If you find one false, say at which input.
  Laid BY PROGRAM, IN A SANDBOX (cutbox-rows.mjs): the forced cells as the released guide's own fill.sh prints them over the translation fca42d6f910bb84a… (all of the seat's roots in one cut). By AI agents, Wed Nov 11 2026. No macro, syntax, notation, axiom, sorry.
-/
import Derived.Test.YtnfnadhbjdcbnaaDoorChecked
import GoSem.Claim
import GoSem.ClaimJoined
import GoSem.ClaimMapViews
import Derived.JoinedTies
import Derived.KernelRfl
namespace Go.Proofs.YtnfnadhbjdcbnaaDoor
/- THE CELL 'sum', in the pinned program and in every row, IS THE sha256 OF THE DUMP (.gsa) THAT YtnfnadhbjdcbnaaDoorProg.lean LOADS. Nothing in Lean hashes anything: it is a label: what it is worth is what the hold of that sum in a sandbox is worth. -/
noncomputable def Tryd.pinned : Pinned := { name := "ytnfnadhbjdcbnaadoor", sum := "fca42d6f910bb84a93ae3a9dad59df03e3ed65fe52ee6946b718378afcbee6ba", checked := Tryd.checked }
namespace Rows
def none {H : Type} : Left H := { results := [], args := [] }

/- WHAT THE LISTED PACKAGE-LEVEL VARIABLES READ AS WHEN THE CALL BEGINS. Each datum BY PROGRAM (the guide's laid-datum.mjs) off the statement by which the dump's own 'gosem.cut.vars' lays the variable. In a bare row this is a premise. The card (YtnfnadhbjdcbnaaDoorCards.lean) ties it to the program's text. -/
def laid_math_bits_deBruijn32tab {H : Type} : DataW H := .agg [.lit (.int .u8 0), .lit (.int .u8 1), .lit (.int .u8 28), .lit (.int .u8 2), .lit (.int .u8 29), .lit (.int .u8 14), .lit (.int .u8 24), .lit (.int .u8 3), .lit (.int .u8 30), .lit (.int .u8 22), .lit (.int .u8 20), .lit (.int .u8 15), .lit (.int .u8 25), .lit (.int .u8 17), .lit (.int .u8 4), .lit (.int .u8 8), .lit (.int .u8 31), .lit (.int .u8 27), .lit (.int .u8 13), .lit (.int .u8 23), .lit (.int .u8 21), .lit (.int .u8 19), .lit (.int .u8 16), .lit (.int .u8 7), .lit (.int .u8 26), .lit (.int .u8 12), .lit (.int .u8 18), .lit (.int .u8 6), .lit (.int .u8 11), .lit (.int .u8 5), .lit (.int .u8 10), .lit (.int .u8 9)]

/-- 'exactreallaw08.DyadicFar': WHATEVER THE INPUT: true; the input reads as it did. -/
def dyadicFarSpec : ChangeSpec := { name := "dyadicFar", fn := fun _ => fun
  | [d1, d2, d3, d4] => { results := [.lit (.bool true)], args := [d1, d2, d3, d4] }
  | _ => none }
def dyadicFarRow : OpenClaim := { program := "ytnfnadhbjdcbnaadoor", sum := "fca42d6f910bb84a93ae3a9dad59df03e3ed65fe52ee6946b718378afcbee6ba", func := "exactreal/exactreallaw08.DyadicFar", spec := "dyadicFar", inPlace := ["internal/bytealg.IndexByteString", "internal/bytealg.IndexString"], named := ["math/bits.deBruijn32tab", "internal/bytealg.MaxLen"], apart := false, laid := [("math/bits.deBruijn32tab", laid_math_bits_deBruijn32tab)] }
def DyadicFarSaid : Prop := dyadicFarRow.holds Tryd.pinned (OpenSpec.ofChange dyadicFarSpec)

/-- ITS FALSE NEIGHBOUR: 'it returns false'. Refute it at one input. -/
def dyadicFarWrong : ChangeSpec := { name := "dyadicFar", fn := fun _ => fun
  | [d1, d2, d3, d4] => { results := [.lit (.bool false)], args := [d1, d2, d3, d4] }
  | _ => none }
def DyadicFarWrongFalsely : Prop := dyadicFarRow.holds Tryd.pinned (OpenSpec.ofChange dyadicFarWrong)

/-- 'exactreallaw08.DyadicMakes': WHATEVER THE INPUT: true; the input reads as it did. -/
def dyadicMakesSpec : ChangeSpec := { name := "dyadicMakes", fn := fun _ => fun
  | [d1, d2, d3, d4, d5] => { results := [.lit (.bool true)], args := [d1, d2, d3, d4, d5] }
  | _ => none }
def dyadicMakesRow : OpenClaim := { program := "ytnfnadhbjdcbnaadoor", sum := "fca42d6f910bb84a93ae3a9dad59df03e3ed65fe52ee6946b718378afcbee6ba", func := "exactreal/exactreallaw08.DyadicMakes", spec := "dyadicMakes", inPlace := ["internal/bytealg.IndexByteString", "internal/bytealg.IndexString"], named := ["math/bits.deBruijn32tab", "internal/bytealg.MaxLen"], apart := false, laid := [("math/bits.deBruijn32tab", laid_math_bits_deBruijn32tab)] }
def DyadicMakesSaid : Prop := dyadicMakesRow.holds Tryd.pinned (OpenSpec.ofChange dyadicMakesSpec)

/-- ITS FALSE NEIGHBOUR: 'it returns false'. Refute it at one input. -/
def dyadicMakesWrong : ChangeSpec := { name := "dyadicMakes", fn := fun _ => fun
  | [d1, d2, d3, d4, d5] => { results := [.lit (.bool false)], args := [d1, d2, d3, d4, d5] }
  | _ => none }
def DyadicMakesWrongFalsely : Prop := dyadicMakesRow.holds Tryd.pinned (OpenSpec.ofChange dyadicMakesWrong)

/-- 'exactreallaw08.DyadicTexts': WHATEVER THE INPUT: true; the input reads as it did. -/
def dyadicTextsSpec : ChangeSpec := { name := "dyadicTexts", fn := fun _ => fun
  | [d] => { results := [.lit (.bool true)], args := [d] }
  | _ => none }
def dyadicTextsRow : OpenClaim := { program := "ytnfnadhbjdcbnaadoor", sum := "fca42d6f910bb84a93ae3a9dad59df03e3ed65fe52ee6946b718378afcbee6ba", func := "exactreal/exactreallaw08.DyadicTexts", spec := "dyadicTexts", inPlace := ["internal/bytealg.IndexByteString", "internal/bytealg.IndexString"], named := ["math/bits.deBruijn32tab", "internal/bytealg.MaxLen"], apart := false, laid := [("math/bits.deBruijn32tab", laid_math_bits_deBruijn32tab)] }
def DyadicTextsSaid : Prop := dyadicTextsRow.holds Tryd.pinned (OpenSpec.ofChange dyadicTextsSpec)

/-- ITS FALSE NEIGHBOUR: 'it returns false'. Refute it at one input. -/
def dyadicTextsWrong : ChangeSpec := { name := "dyadicTexts", fn := fun _ => fun
  | [d] => { results := [.lit (.bool false)], args := [d] }
  | _ => none }
def DyadicTextsWrongFalsely : Prop := dyadicTextsRow.holds Tryd.pinned (OpenSpec.ofChange dyadicTextsWrong)

/-- 'exactreallaw08.DyadicParses': WHATEVER THE INPUT: true; the input reads as it did. -/
def dyadicParsesSpec : ChangeSpec := { name := "dyadicParses", fn := fun _ => fun
  | [d] => { results := [.lit (.bool true)], args := [d] }
  | _ => none }
def dyadicParsesRow : OpenClaim := { program := "ytnfnadhbjdcbnaadoor", sum := "fca42d6f910bb84a93ae3a9dad59df03e3ed65fe52ee6946b718378afcbee6ba", func := "exactreal/exactreallaw08.DyadicParses", spec := "dyadicParses", inPlace := ["internal/bytealg.IndexByteString", "internal/bytealg.IndexString"], named := ["math/bits.deBruijn32tab", "internal/bytealg.MaxLen"], apart := false, laid := [("math/bits.deBruijn32tab", laid_math_bits_deBruijn32tab)] }
def DyadicParsesSaid : Prop := dyadicParsesRow.holds Tryd.pinned (OpenSpec.ofChange dyadicParsesSpec)

/-- ITS FALSE NEIGHBOUR: 'it returns false'. Refute it at one input. -/
def dyadicParsesWrong : ChangeSpec := { name := "dyadicParses", fn := fun _ => fun
  | [d] => { results := [.lit (.bool false)], args := [d] }
  | _ => none }
def DyadicParsesWrongFalsely : Prop := dyadicParsesRow.holds Tryd.pinned (OpenSpec.ofChange dyadicParsesWrong)

/-- 'exactreallaw08.DyadicFrom': WHATEVER THE INPUT: true; the input reads as it did. -/
def dyadicFromSpec : ChangeSpec := { name := "dyadicFrom", fn := fun _ => fun
  | [d1, d2] => { results := [.lit (.bool true)], args := [d1, d2] }
  | _ => none }
def dyadicFromRow : OpenClaim := { program := "ytnfnadhbjdcbnaadoor", sum := "fca42d6f910bb84a93ae3a9dad59df03e3ed65fe52ee6946b718378afcbee6ba", func := "exactreal/exactreallaw08.DyadicFrom", spec := "dyadicFrom", inPlace := ["internal/bytealg.IndexByteString", "internal/bytealg.IndexString"], named := ["math/bits.deBruijn32tab", "internal/bytealg.MaxLen"], apart := false, laid := [("math/bits.deBruijn32tab", laid_math_bits_deBruijn32tab)] }
def DyadicFromSaid : Prop := dyadicFromRow.holds Tryd.pinned (OpenSpec.ofChange dyadicFromSpec)

/-- ITS FALSE NEIGHBOUR: 'it returns false'. Refute it at one input. -/
def dyadicFromWrong : ChangeSpec := { name := "dyadicFrom", fn := fun _ => fun
  | [d1, d2] => { results := [.lit (.bool false)], args := [d1, d2] }
  | _ => none }
def DyadicFromWrongFalsely : Prop := dyadicFromRow.holds Tryd.pinned (OpenSpec.ofChange dyadicFromWrong)

/-- 'exactreallaw08.DyadicOrders': WHATEVER THE INPUT: true; the input reads as it did. -/
def dyadicOrdersSpec : ChangeSpec := { name := "dyadicOrders", fn := fun _ => fun
  | [d1, d2] => { results := [.lit (.bool true)], args := [d1, d2] }
  | _ => none }
def dyadicOrdersRow : OpenClaim := { program := "ytnfnadhbjdcbnaadoor", sum := "fca42d6f910bb84a93ae3a9dad59df03e3ed65fe52ee6946b718378afcbee6ba", func := "exactreal/exactreallaw08.DyadicOrders", spec := "dyadicOrders", inPlace := ["internal/bytealg.IndexByteString", "internal/bytealg.IndexString"], named := ["math/bits.deBruijn32tab", "internal/bytealg.MaxLen"], apart := false, laid := [("math/bits.deBruijn32tab", laid_math_bits_deBruijn32tab)] }
def DyadicOrdersSaid : Prop := dyadicOrdersRow.holds Tryd.pinned (OpenSpec.ofChange dyadicOrdersSpec)

/-- ITS FALSE NEIGHBOUR: 'it returns false'. Refute it at one input. -/
def dyadicOrdersWrong : ChangeSpec := { name := "dyadicOrders", fn := fun _ => fun
  | [d1, d2] => { results := [.lit (.bool false)], args := [d1, d2] }
  | _ => none }
def DyadicOrdersWrongFalsely : Prop := dyadicOrdersRow.holds Tryd.pinned (OpenSpec.ofChange dyadicOrdersWrong)

/- THE SECOND FORM. 'bulk': how many values and letters a reading holds, each counted each time it is reached (what is shared counts as often as it is met; a slice's spare places count too). A statement '..UptoSaid' is the law's where the arguments, and the package variables that the reading takes, are together of bulk at most 1048576: NARROWER than '..Said'. Prove '..Said' where nothing that the law and all that it calls make is longer than what came in: it says more and counts as full. Else prove '..UptoSaid'. A law counts once. -/
mutual
def uptoBulk {H : Type} : DataW H → Nat
  | .lit (.string bytes) => bytes.length + 1
  | .lit _ => 1
  | .nil => 1
  | .ptr d => uptoBulk d + 1
  | .slice elems spare => uptoBulkAll elems + uptoBulkAll spare + 1
  | .agg parts => uptoBulkAll parts + 1
  | .iface _ d => uptoBulk d + 1
  | .map entries => uptoBulkEntries entries + 1
  | .held _ => 1
def uptoBulkAll {H : Type} : List (DataW H) → Nat
  | [] => 0
  | d :: r => uptoBulk d + uptoBulkAll r
def uptoBulkEntries {H : Type} : List (Lit × DataW H) → Nat
  | [] => 0
  | x :: r => uptoBulkEntry x + uptoBulkEntries r
def uptoBulkEntry {H : Type} : Lit × DataW H → Nat
  | (.string bytes, d) => bytes.length + uptoBulk d + 1
  | (_, d) => uptoBulk d + 1
 end
def uptoSmall : (H : Type) → List (DataW H) → Bool := fun _ ds => decide (uptoBulkAll ds ≤ 1048576)
def OpenSpec.upto (s : _root_.Go.ChangeSpec) : _root_.Go.OpenSpec := { _root_.Go.OpenSpec.ofChange s with cond := some uptoSmall }

/-- 'exactreallaw08.DyadicFar', WHERE WHAT IT READS IS OF BULK AT MOST 1048576: true; the input reads as it did. -/
def dyadicFarUptoRow : OpenClaim := { program := "ytnfnadhbjdcbnaadoor", sum := "fca42d6f910bb84a93ae3a9dad59df03e3ed65fe52ee6946b718378afcbee6ba", func := "exactreal/exactreallaw08.DyadicFar", spec := "dyadicFar", inPlace := ["internal/bytealg.IndexByteString", "internal/bytealg.IndexString"], named := ["math/bits.deBruijn32tab", "internal/bytealg.MaxLen"], apart := false, laid := [("math/bits.deBruijn32tab", laid_math_bits_deBruijn32tab)], narrowed := true }
def DyadicFarUptoSaid : Prop := dyadicFarUptoRow.holds Tryd.pinned (OpenSpec.upto dyadicFarSpec)

/-- 'exactreallaw08.DyadicMakes', WHERE WHAT IT READS IS OF BULK AT MOST 1048576: true; the input reads as it did. -/
def dyadicMakesUptoRow : OpenClaim := { program := "ytnfnadhbjdcbnaadoor", sum := "fca42d6f910bb84a93ae3a9dad59df03e3ed65fe52ee6946b718378afcbee6ba", func := "exactreal/exactreallaw08.DyadicMakes", spec := "dyadicMakes", inPlace := ["internal/bytealg.IndexByteString", "internal/bytealg.IndexString"], named := ["math/bits.deBruijn32tab", "internal/bytealg.MaxLen"], apart := false, laid := [("math/bits.deBruijn32tab", laid_math_bits_deBruijn32tab)], narrowed := true }
def DyadicMakesUptoSaid : Prop := dyadicMakesUptoRow.holds Tryd.pinned (OpenSpec.upto dyadicMakesSpec)

/-- 'exactreallaw08.DyadicTexts', WHERE WHAT IT READS IS OF BULK AT MOST 1048576: true; the input reads as it did. -/
def dyadicTextsUptoRow : OpenClaim := { program := "ytnfnadhbjdcbnaadoor", sum := "fca42d6f910bb84a93ae3a9dad59df03e3ed65fe52ee6946b718378afcbee6ba", func := "exactreal/exactreallaw08.DyadicTexts", spec := "dyadicTexts", inPlace := ["internal/bytealg.IndexByteString", "internal/bytealg.IndexString"], named := ["math/bits.deBruijn32tab", "internal/bytealg.MaxLen"], apart := false, laid := [("math/bits.deBruijn32tab", laid_math_bits_deBruijn32tab)], narrowed := true }
def DyadicTextsUptoSaid : Prop := dyadicTextsUptoRow.holds Tryd.pinned (OpenSpec.upto dyadicTextsSpec)

/-- 'exactreallaw08.DyadicParses', WHERE WHAT IT READS IS OF BULK AT MOST 1048576: true; the input reads as it did. -/
def dyadicParsesUptoRow : OpenClaim := { program := "ytnfnadhbjdcbnaadoor", sum := "fca42d6f910bb84a93ae3a9dad59df03e3ed65fe52ee6946b718378afcbee6ba", func := "exactreal/exactreallaw08.DyadicParses", spec := "dyadicParses", inPlace := ["internal/bytealg.IndexByteString", "internal/bytealg.IndexString"], named := ["math/bits.deBruijn32tab", "internal/bytealg.MaxLen"], apart := false, laid := [("math/bits.deBruijn32tab", laid_math_bits_deBruijn32tab)], narrowed := true }
def DyadicParsesUptoSaid : Prop := dyadicParsesUptoRow.holds Tryd.pinned (OpenSpec.upto dyadicParsesSpec)

/-- 'exactreallaw08.DyadicFrom', WHERE WHAT IT READS IS OF BULK AT MOST 1048576: true; the input reads as it did. -/
def dyadicFromUptoRow : OpenClaim := { program := "ytnfnadhbjdcbnaadoor", sum := "fca42d6f910bb84a93ae3a9dad59df03e3ed65fe52ee6946b718378afcbee6ba", func := "exactreal/exactreallaw08.DyadicFrom", spec := "dyadicFrom", inPlace := ["internal/bytealg.IndexByteString", "internal/bytealg.IndexString"], named := ["math/bits.deBruijn32tab", "internal/bytealg.MaxLen"], apart := false, laid := [("math/bits.deBruijn32tab", laid_math_bits_deBruijn32tab)], narrowed := true }
def DyadicFromUptoSaid : Prop := dyadicFromUptoRow.holds Tryd.pinned (OpenSpec.upto dyadicFromSpec)

/-- 'exactreallaw08.DyadicOrders', WHERE WHAT IT READS IS OF BULK AT MOST 1048576: true; the input reads as it did. -/
def dyadicOrdersUptoRow : OpenClaim := { program := "ytnfnadhbjdcbnaadoor", sum := "fca42d6f910bb84a93ae3a9dad59df03e3ed65fe52ee6946b718378afcbee6ba", func := "exactreal/exactreallaw08.DyadicOrders", spec := "dyadicOrders", inPlace := ["internal/bytealg.IndexByteString", "internal/bytealg.IndexString"], named := ["math/bits.deBruijn32tab", "internal/bytealg.MaxLen"], apart := false, laid := [("math/bits.deBruijn32tab", laid_math_bits_deBruijn32tab)], narrowed := true }
def DyadicOrdersUptoSaid : Prop := dyadicOrdersUptoRow.holds Tryd.pinned (OpenSpec.upto dyadicOrdersSpec)

end Rows
end Go.Proofs.YtnfnadhbjdcbnaaDoor
