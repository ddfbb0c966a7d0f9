/-
  DERIVED. GIVEN WITH THE SEED: THE CARDS: each row of YtijnlfhaepcldaaDoorRows.lean that lists a variable, with what it lists TIED to the program's text (the seventh form; the later family's looks); each row that meets fmt, with fmt's text TOLD by the authors' own Lean function (tested against real Go, not proved from fmt's source: count such statements apart). THE CARD IS WHAT COUNTS. Prove the row's statement (the work); the ties are given (YtijnlfhaepcldaaDoorTie.lean); close each card by the builder's one call (the guide's Derived/Test/ToyasCard.lean, 'card_holds'). Laid BY PROGRAM, IN A SANDBOX (cutbox-door.mjs). By AI agents, Wed Nov 11 2026. No macro, syntax, notation, axiom, sorry.
-/
import Derived.Test.YtijnlfhaepcldaaDoorRows
import GoSem.ClaimSeven
namespace Go.Proofs.YtijnlfhaepcldaaDoor
namespace Rows

/-- THE TIED CARD OF 'exactreallaw01.NatBits'. -/
def natBitsCard : Claim7 := { stood := { row := natBitsRow, standIns := [], harness := (true, "451ff0c45747335819f7228864319d209f69aeda36b8f4bb807b9de377af347a"), looks := false }, kinds := [], alts := [], laidByText := true, laidKinds := [.data], laidTests := true, laidLooks := .later }
def NatBitsCardSaid : Prop := Claim7.holds Tryd.pinned (.plain (OpenSpec.ofChange natBitsSpec)) natBitsCard

/-- THE TIED CARD OF 'exactreallaw01.NatValues'. -/
def natValuesCard : Claim7 := { stood := { row := natValuesRow, standIns := [], harness := (true, "451ff0c45747335819f7228864319d209f69aeda36b8f4bb807b9de377af347a"), looks := false }, kinds := [], alts := [], laidByText := true, laidKinds := [.data], laidTests := true, laidLooks := .later }
def NatValuesCardSaid : Prop := Claim7.holds Tryd.pinned (.plain (OpenSpec.ofChange natValuesSpec)) natValuesCard

/-- THE TIED CARD OF 'exactreallaw01.NatOrders'. -/
def natOrdersCard : Claim7 := { stood := { row := natOrdersRow, standIns := [], harness := (true, "451ff0c45747335819f7228864319d209f69aeda36b8f4bb807b9de377af347a"), looks := false }, kinds := [], alts := [], laidByText := true, laidKinds := [.data], laidTests := true, laidLooks := .later }
def NatOrdersCardSaid : Prop := Claim7.holds Tryd.pinned (.plain (OpenSpec.ofChange natOrdersSpec)) natOrdersCard

/-- THE TIED CARD OF 'exactreallaw01.NatSums'. -/
def natSumsCard : Claim7 := { stood := { row := natSumsRow, standIns := [], harness := (true, "451ff0c45747335819f7228864319d209f69aeda36b8f4bb807b9de377af347a"), looks := false }, kinds := [], alts := [], laidByText := true, laidKinds := [.data], laidTests := true, laidLooks := .later }
def NatSumsCardSaid : Prop := Claim7.holds Tryd.pinned (.plain (OpenSpec.ofChange natSumsSpec)) natSumsCard

/-- THE TIED CARD OF 'exactreallaw01.NatShifts'. -/
def natShiftsCard : Claim7 := { stood := { row := natShiftsRow, standIns := [], harness := (true, "451ff0c45747335819f7228864319d209f69aeda36b8f4bb807b9de377af347a"), looks := false }, kinds := [], alts := [], laidByText := true, laidKinds := [.data], laidTests := true, laidLooks := .later }
def NatShiftsCardSaid : Prop := Claim7.holds Tryd.pinned (.plain (OpenSpec.ofChange natShiftsSpec)) natShiftsCard

/-- THE TIED CARD OF 'exactreallaw01.NatOwn'. -/
def natOwnCard : Claim7 := { stood := { row := natOwnRow, standIns := [], harness := (true, "451ff0c45747335819f7228864319d209f69aeda36b8f4bb807b9de377af347a"), looks := false }, kinds := [], alts := [], laidByText := true, laidKinds := [.data], laidTests := true, laidLooks := .later }
def NatOwnCardSaid : Prop := Claim7.holds Tryd.pinned (.plain (OpenSpec.ofChange natOwnSpec)) natOwnCard

/-- THE SECOND FORM's CARD OF 'exactreallaw01.NatBits'. -/
def natBitsUptoCard : Claim7 := { stood := { row := natBitsUptoRow, standIns := [], harness := (true, "451ff0c45747335819f7228864319d209f69aeda36b8f4bb807b9de377af347a"), looks := false }, kinds := [], alts := [], laidByText := true, laidKinds := [.data], laidTests := true, laidLooks := .later }
def NatBitsUptoCardSaid : Prop := Claim7.holds Tryd.pinned (.plain (OpenSpec.upto natBitsSpec)) natBitsUptoCard

/-- THE SECOND FORM's CARD OF 'exactreallaw01.NatValues'. -/
def natValuesUptoCard : Claim7 := { stood := { row := natValuesUptoRow, standIns := [], harness := (true, "451ff0c45747335819f7228864319d209f69aeda36b8f4bb807b9de377af347a"), looks := false }, kinds := [], alts := [], laidByText := true, laidKinds := [.data], laidTests := true, laidLooks := .later }
def NatValuesUptoCardSaid : Prop := Claim7.holds Tryd.pinned (.plain (OpenSpec.upto natValuesSpec)) natValuesUptoCard

/-- THE SECOND FORM's CARD OF 'exactreallaw01.NatOrders'. -/
def natOrdersUptoCard : Claim7 := { stood := { row := natOrdersUptoRow, standIns := [], harness := (true, "451ff0c45747335819f7228864319d209f69aeda36b8f4bb807b9de377af347a"), looks := false }, kinds := [], alts := [], laidByText := true, laidKinds := [.data], laidTests := true, laidLooks := .later }
def NatOrdersUptoCardSaid : Prop := Claim7.holds Tryd.pinned (.plain (OpenSpec.upto natOrdersSpec)) natOrdersUptoCard

/-- THE SECOND FORM's CARD OF 'exactreallaw01.NatSums'. -/
def natSumsUptoCard : Claim7 := { stood := { row := natSumsUptoRow, standIns := [], harness := (true, "451ff0c45747335819f7228864319d209f69aeda36b8f4bb807b9de377af347a"), looks := false }, kinds := [], alts := [], laidByText := true, laidKinds := [.data], laidTests := true, laidLooks := .later }
def NatSumsUptoCardSaid : Prop := Claim7.holds Tryd.pinned (.plain (OpenSpec.upto natSumsSpec)) natSumsUptoCard

/-- THE SECOND FORM's CARD OF 'exactreallaw01.NatShifts'. -/
def natShiftsUptoCard : Claim7 := { stood := { row := natShiftsUptoRow, standIns := [], harness := (true, "451ff0c45747335819f7228864319d209f69aeda36b8f4bb807b9de377af347a"), looks := false }, kinds := [], alts := [], laidByText := true, laidKinds := [.data], laidTests := true, laidLooks := .later }
def NatShiftsUptoCardSaid : Prop := Claim7.holds Tryd.pinned (.plain (OpenSpec.upto natShiftsSpec)) natShiftsUptoCard

/-- THE SECOND FORM's CARD OF 'exactreallaw01.NatOwn'. -/
def natOwnUptoCard : Claim7 := { stood := { row := natOwnUptoRow, standIns := [], harness := (true, "451ff0c45747335819f7228864319d209f69aeda36b8f4bb807b9de377af347a"), looks := false }, kinds := [], alts := [], laidByText := true, laidKinds := [.data], laidTests := true, laidLooks := .later }
def NatOwnUptoCardSaid : Prop := Claim7.holds Tryd.pinned (.plain (OpenSpec.upto natOwnSpec)) natOwnUptoCard
end Rows
end Go.Proofs.YtijnlfhaepcldaaDoor
