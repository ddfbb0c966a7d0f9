/-
  No cell of these rows narrows 'for every input' (looked for: loops, veiled, ifaces, maps, wideKeys, modest, calm, conditions, laid).
  DERIVED. THE GIVEN ROWS OF THIS SEAT. 6 by the template 'for every input the law returns true; each argument reads behind the call as it read before'; 0 by the template 'total and deterministic' (their statements: YtijnlfhaepcldaaTotals.lean).
  GIVEN WITH THE SEED: the statements are not yours to turn. If you find one false, say at which input.
  Laid BY PROGRAM, IN A SANDBOX (cutbox-rows.mjs): the forced cells as the released guide's own fill.sh prints them over the translation bb54076056714c06… (all of the seat's roots in one cut). By AI agents, Wed Nov 11 2026. No macro, syntax, notation, axiom, sorry.
-/
import Derived.Test.YtijnlfhaepcldaaChecked
import GoSem.Claim
import GoSem.ClaimJoined
import GoSem.ClaimMapViews
import Derived.JoinedTies
import Derived.KernelRfl
namespace Go.Proofs.Ytijnlfhaepcldaa
/- THE CELL 'sum', in the pinned program and in every row, IS THE sha256 OF THE DUMP (.gsa) THAT YtijnlfhaepcldaaProg.lean LOADS. Nothing in Lean hashes anything: it is a label: what it is worth is what the hold of that sum in a sandbox is worth. -/
noncomputable def Try.pinned : Pinned := { name := "ytijnlfhaepcldaa", sum := "bb54076056714c06ebb8fe650476b16e4a4e0f8bc36bd40ffa2f35c29d0dd281", checked := Try.checked }
namespace Rows
def none {H : Type} : Left H := { results := [], args := [] }

/-- 'exactreallaw02.ProductMul': WHATEVER THE INPUT: true; the input reads as it did. -/
def productMulSpec : ChangeSpec := { name := "productMul", fn := fun _ => fun
  | [d1, d2] => { results := [.lit (.bool true)], args := [d1, d2] }
  | _ => none }
def productMulRow : OpenClaim := { program := "ytijnlfhaepcldaa", sum := "bb54076056714c06ebb8fe650476b16e4a4e0f8bc36bd40ffa2f35c29d0dd281", func := "exactreal/exactreallaw02.ProductMul", spec := "productMul", apart := false }
def ProductMulSaid : Prop := productMulRow.holds Try.pinned (OpenSpec.ofChange productMulSpec)

/-- ITS FALSE NEIGHBOUR: 'it returns false'. Refute it at one input. -/
def productMulWrong : ChangeSpec := { name := "productMul", fn := fun _ => fun
  | [d1, d2] => { results := [.lit (.bool false)], args := [d1, d2] }
  | _ => none }
def ProductMulWrongFalsely : Prop := productMulRow.holds Try.pinned (OpenSpec.ofChange productMulWrong)

/-- 'exactreallaw02.ProductLong': WHATEVER THE INPUT: true; the input reads as it did. -/
def productLongSpec : ChangeSpec := { name := "productLong", fn := fun _ => fun
  | [d1, d2, d3, d4] => { results := [.lit (.bool true)], args := [d1, d2, d3, d4] }
  | _ => none }
def productLongRow : OpenClaim := { program := "ytijnlfhaepcldaa", sum := "bb54076056714c06ebb8fe650476b16e4a4e0f8bc36bd40ffa2f35c29d0dd281", func := "exactreal/exactreallaw02.ProductLong", spec := "productLong", apart := false }
def ProductLongSaid : Prop := productLongRow.holds Try.pinned (OpenSpec.ofChange productLongSpec)

/-- ITS FALSE NEIGHBOUR: 'it returns false'. Refute it at one input. -/
def productLongWrong : ChangeSpec := { name := "productLong", fn := fun _ => fun
  | [d1, d2, d3, d4] => { results := [.lit (.bool false)], args := [d1, d2, d3, d4] }
  | _ => none }
def ProductLongWrongFalsely : Prop := productLongRow.holds Try.pinned (OpenSpec.ofChange productLongWrong)

/-- 'exactreallaw02.ProductLaws': WHATEVER THE INPUT: true; the input reads as it did. -/
def productLawsSpec : ChangeSpec := { name := "productLaws", fn := fun _ => fun
  | [d1, d2, d3] => { results := [.lit (.bool true)], args := [d1, d2, d3] }
  | _ => none }
def productLawsRow : OpenClaim := { program := "ytijnlfhaepcldaa", sum := "bb54076056714c06ebb8fe650476b16e4a4e0f8bc36bd40ffa2f35c29d0dd281", func := "exactreal/exactreallaw02.ProductLaws", spec := "productLaws", apart := false }
def ProductLawsSaid : Prop := productLawsRow.holds Try.pinned (OpenSpec.ofChange productLawsSpec)

/-- ITS FALSE NEIGHBOUR: 'it returns false'. Refute it at one input. -/
def productLawsWrong : ChangeSpec := { name := "productLaws", fn := fun _ => fun
  | [d1, d2, d3] => { results := [.lit (.bool false)], args := [d1, d2, d3] }
  | _ => none }
def ProductLawsWrongFalsely : Prop := productLawsRow.holds Try.pinned (OpenSpec.ofChange productLawsWrong)

/-- 'exactreallaw02.ProductPower': WHATEVER THE INPUT: true; the input reads as it did. -/
def productPowerSpec : ChangeSpec := { name := "productPower", fn := fun _ => fun
  | [d1, d2, d3] => { results := [.lit (.bool true)], args := [d1, d2, d3] }
  | _ => none }
def productPowerRow : OpenClaim := { program := "ytijnlfhaepcldaa", sum := "bb54076056714c06ebb8fe650476b16e4a4e0f8bc36bd40ffa2f35c29d0dd281", func := "exactreal/exactreallaw02.ProductPower", spec := "productPower", apart := false }
def ProductPowerSaid : Prop := productPowerRow.holds Try.pinned (OpenSpec.ofChange productPowerSpec)

/-- ITS FALSE NEIGHBOUR: 'it returns false'. Refute it at one input. -/
def productPowerWrong : ChangeSpec := { name := "productPower", fn := fun _ => fun
  | [d1, d2, d3] => { results := [.lit (.bool false)], args := [d1, d2, d3] }
  | _ => none }
def ProductPowerWrongFalsely : Prop := productPowerRow.holds Try.pinned (OpenSpec.ofChange productPowerWrong)

/-- 'exactreallaw02.ProductSmall': WHATEVER THE INPUT: true; the input reads as it did. -/
def productSmallSpec : ChangeSpec := { name := "productSmall", fn := fun _ => fun
  | [d1, d2, d3, d4] => { results := [.lit (.bool true)], args := [d1, d2, d3, d4] }
  | _ => none }
def productSmallRow : OpenClaim := { program := "ytijnlfhaepcldaa", sum := "bb54076056714c06ebb8fe650476b16e4a4e0f8bc36bd40ffa2f35c29d0dd281", func := "exactreal/exactreallaw02.ProductSmall", spec := "productSmall", apart := false }
def ProductSmallSaid : Prop := productSmallRow.holds Try.pinned (OpenSpec.ofChange productSmallSpec)

/-- ITS FALSE NEIGHBOUR: 'it returns false'. Refute it at one input. -/
def productSmallWrong : ChangeSpec := { name := "productSmall", fn := fun _ => fun
  | [d1, d2, d3, d4] => { results := [.lit (.bool false)], args := [d1, d2, d3, d4] }
  | _ => none }
def ProductSmallWrongFalsely : Prop := productSmallRow.holds Try.pinned (OpenSpec.ofChange productSmallWrong)

/-- 'exactreallaw02.ProductBits': WHATEVER THE INPUT: true; the input reads as it did. -/
def productBitsSpec : ChangeSpec := { name := "productBits", fn := fun _ => fun
  | [d1, d2] => { results := [.lit (.bool true)], args := [d1, d2] }
  | _ => none }
def productBitsRow : OpenClaim := { program := "ytijnlfhaepcldaa", sum := "bb54076056714c06ebb8fe650476b16e4a4e0f8bc36bd40ffa2f35c29d0dd281", func := "exactreal/exactreallaw02.ProductBits", spec := "productBits", apart := false }
def ProductBitsSaid : Prop := productBitsRow.holds Try.pinned (OpenSpec.ofChange productBitsSpec)

/-- ITS FALSE NEIGHBOUR: 'it returns false'. Refute it at one input. -/
def productBitsWrong : ChangeSpec := { name := "productBits", fn := fun _ => fun
  | [d1, d2] => { results := [.lit (.bool false)], args := [d1, d2] }
  | _ => none }
def ProductBitsWrongFalsely : Prop := productBitsRow.holds Try.pinned (OpenSpec.ofChange productBitsWrong)

/- THE SECOND FORM. 'bulk': how many values and letters a reading holds, each counted each time it is reached (what is shared counts as often as it is met; a slice's spare places count too). A statement '..UptoSaid' is the law's where the arguments, and the package variables that the reading takes, are together of bulk at most 1048576: NARROWER than '..Said'. Prove '..Said' where nothing that the law and all that it calls make is longer than what came in: it says more and counts as full. Else prove '..UptoSaid'. A law counts once. -/
mutual
def uptoBulk {H : Type} : DataW H → Nat
  | .lit (.string bytes) => bytes.length + 1
  | .lit _ => 1
  | .nil => 1
  | .ptr d => uptoBulk d + 1
  | .slice elems spare => uptoBulkAll elems + uptoBulkAll spare + 1
  | .agg parts => uptoBulkAll parts + 1
  | .iface _ d => uptoBulk d + 1
  | .map entries => uptoBulkEntries entries + 1
  | .held _ => 1
def uptoBulkAll {H : Type} : List (DataW H) → Nat
  | [] => 0
  | d :: r => uptoBulk d + uptoBulkAll r
def uptoBulkEntries {H : Type} : List (Lit × DataW H) → Nat
  | [] => 0
  | x :: r => uptoBulkEntry x + uptoBulkEntries r
def uptoBulkEntry {H : Type} : Lit × DataW H → Nat
  | (.string bytes, d) => bytes.length + uptoBulk d + 1
  | (_, d) => uptoBulk d + 1
 end
def uptoSmall : (H : Type) → List (DataW H) → Bool := fun _ ds => decide (uptoBulkAll ds ≤ 1048576)
def OpenSpec.upto (s : _root_.Go.ChangeSpec) : _root_.Go.OpenSpec := { _root_.Go.OpenSpec.ofChange s with cond := some uptoSmall }

/-- 'exactreallaw02.ProductMul', WHERE WHAT IT READS IS OF BULK AT MOST 1048576: true; the input reads as it did. -/
def productMulUptoRow : OpenClaim := { program := "ytijnlfhaepcldaa", sum := "bb54076056714c06ebb8fe650476b16e4a4e0f8bc36bd40ffa2f35c29d0dd281", func := "exactreal/exactreallaw02.ProductMul", spec := "productMul", apart := false, narrowed := true }
def ProductMulUptoSaid : Prop := productMulUptoRow.holds Try.pinned (OpenSpec.upto productMulSpec)

/-- 'exactreallaw02.ProductLong', WHERE WHAT IT READS IS OF BULK AT MOST 1048576: true; the input reads as it did. -/
def productLongUptoRow : OpenClaim := { program := "ytijnlfhaepcldaa", sum := "bb54076056714c06ebb8fe650476b16e4a4e0f8bc36bd40ffa2f35c29d0dd281", func := "exactreal/exactreallaw02.ProductLong", spec := "productLong", apart := false, narrowed := true }
def ProductLongUptoSaid : Prop := productLongUptoRow.holds Try.pinned (OpenSpec.upto productLongSpec)

/-- 'exactreallaw02.ProductLaws', WHERE WHAT IT READS IS OF BULK AT MOST 1048576: true; the input reads as it did. -/
def productLawsUptoRow : OpenClaim := { program := "ytijnlfhaepcldaa", sum := "bb54076056714c06ebb8fe650476b16e4a4e0f8bc36bd40ffa2f35c29d0dd281", func := "exactreal/exactreallaw02.ProductLaws", spec := "productLaws", apart := false, narrowed := true }
def ProductLawsUptoSaid : Prop := productLawsUptoRow.holds Try.pinned (OpenSpec.upto productLawsSpec)

/-- 'exactreallaw02.ProductPower', WHERE WHAT IT READS IS OF BULK AT MOST 1048576: true; the input reads as it did. -/
def productPowerUptoRow : OpenClaim := { program := "ytijnlfhaepcldaa", sum := "bb54076056714c06ebb8fe650476b16e4a4e0f8bc36bd40ffa2f35c29d0dd281", func := "exactreal/exactreallaw02.ProductPower", spec := "productPower", apart := false, narrowed := true }
def ProductPowerUptoSaid : Prop := productPowerUptoRow.holds Try.pinned (OpenSpec.upto productPowerSpec)

/-- 'exactreallaw02.ProductSmall', WHERE WHAT IT READS IS OF BULK AT MOST 1048576: true; the input reads as it did. -/
def productSmallUptoRow : OpenClaim := { program := "ytijnlfhaepcldaa", sum := "bb54076056714c06ebb8fe650476b16e4a4e0f8bc36bd40ffa2f35c29d0dd281", func := "exactreal/exactreallaw02.ProductSmall", spec := "productSmall", apart := false, narrowed := true }
def ProductSmallUptoSaid : Prop := productSmallUptoRow.holds Try.pinned (OpenSpec.upto productSmallSpec)

/-- 'exactreallaw02.ProductBits', WHERE WHAT IT READS IS OF BULK AT MOST 1048576: true; the input reads as it did. -/
def productBitsUptoRow : OpenClaim := { program := "ytijnlfhaepcldaa", sum := "bb54076056714c06ebb8fe650476b16e4a4e0f8bc36bd40ffa2f35c29d0dd281", func := "exactreal/exactreallaw02.ProductBits", spec := "productBits", apart := false, narrowed := true }
def ProductBitsUptoSaid : Prop := productBitsUptoRow.holds Try.pinned (OpenSpec.upto productBitsSpec)

end Rows
end Go.Proofs.Ytijnlfhaepcldaa
