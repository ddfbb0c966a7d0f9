/-
  DERIVED. GIVEN WITH THE SEED: THE CARDS: each row of YtnfnadhbjdcbnaaDoorRows.lean that lists a variable, with what it lists TIED to the program's text (the seventh form; the later family's looks); each row that meets fmt, with fmt's text TOLD by the authors' own Lean function (tested against real Go, not proved from fmt's source: count such statements apart). THE CARD IS WHAT COUNTS. Prove the row's statement (the work); the ties are given (YtnfnadhbjdcbnaaDoorTie.lean); close each card by the builder's one call (the guide's Derived/Test/ToyasCard.lean, 'card_holds'). Laid BY PROGRAM, IN A SANDBOX (cutbox-door.mjs). By AI agents, Wed Nov 11 2026. No macro, syntax, notation, axiom, sorry.
-/
import Derived.Test.YtnfnadhbjdcbnaaDoorRows
import GoSem.ClaimSeven
namespace Go.Proofs.YtnfnadhbjdcbnaaDoor
namespace Rows

/-- THE TIED CARD OF 'exactreallaw08.DyadicFar'. -/
def dyadicFarCard : Claim7 := { stood := { row := dyadicFarRow, standIns := [], harness := (true, "129879718592dc35ad11e59fd2bcf54ad9d776972c65a9470fd292fb401f8852"), looks := false }, kinds := [], alts := [], laidByText := true, laidKinds := [.data], laidTests := true, laidLooks := .later }
def DyadicFarCardSaid : Prop := Claim7.holds Tryd.pinned (.plain (OpenSpec.ofChange dyadicFarSpec)) dyadicFarCard

/-- THE TIED CARD OF 'exactreallaw08.DyadicMakes'. -/
def dyadicMakesCard : Claim7 := { stood := { row := dyadicMakesRow, standIns := [], harness := (true, "129879718592dc35ad11e59fd2bcf54ad9d776972c65a9470fd292fb401f8852"), looks := false }, kinds := [], alts := [], laidByText := true, laidKinds := [.data], laidTests := true, laidLooks := .later }
def DyadicMakesCardSaid : Prop := Claim7.holds Tryd.pinned (.plain (OpenSpec.ofChange dyadicMakesSpec)) dyadicMakesCard

/-- THE TIED CARD OF 'exactreallaw08.DyadicTexts'. -/
def dyadicTextsCard : Claim7 := { stood := { row := dyadicTextsRow, standIns := [], harness := (true, "129879718592dc35ad11e59fd2bcf54ad9d776972c65a9470fd292fb401f8852"), looks := false }, kinds := [], alts := [], laidByText := true, laidKinds := [.data], laidTests := true, laidLooks := .later }
def DyadicTextsCardSaid : Prop := Claim7.holds Tryd.pinned (.plain (OpenSpec.ofChange dyadicTextsSpec)) dyadicTextsCard

/-- THE TIED CARD OF 'exactreallaw08.DyadicParses'. -/
def dyadicParsesCard : Claim7 := { stood := { row := dyadicParsesRow, standIns := [], harness := (true, "129879718592dc35ad11e59fd2bcf54ad9d776972c65a9470fd292fb401f8852"), looks := false }, kinds := [], alts := [], laidByText := true, laidKinds := [.data], laidTests := true, laidLooks := .later }
def DyadicParsesCardSaid : Prop := Claim7.holds Tryd.pinned (.plain (OpenSpec.ofChange dyadicParsesSpec)) dyadicParsesCard

/-- THE TIED CARD OF 'exactreallaw08.DyadicFrom'. -/
def dyadicFromCard : Claim7 := { stood := { row := dyadicFromRow, standIns := [], harness := (true, "129879718592dc35ad11e59fd2bcf54ad9d776972c65a9470fd292fb401f8852"), looks := false }, kinds := [], alts := [], laidByText := true, laidKinds := [.data], laidTests := true, laidLooks := .later }
def DyadicFromCardSaid : Prop := Claim7.holds Tryd.pinned (.plain (OpenSpec.ofChange dyadicFromSpec)) dyadicFromCard

/-- THE TIED CARD OF 'exactreallaw08.DyadicOrders'. -/
def dyadicOrdersCard : Claim7 := { stood := { row := dyadicOrdersRow, standIns := [], harness := (true, "129879718592dc35ad11e59fd2bcf54ad9d776972c65a9470fd292fb401f8852"), looks := false }, kinds := [], alts := [], laidByText := true, laidKinds := [.data], laidTests := true, laidLooks := .later }
def DyadicOrdersCardSaid : Prop := Claim7.holds Tryd.pinned (.plain (OpenSpec.ofChange dyadicOrdersSpec)) dyadicOrdersCard

/-- THE SECOND FORM's CARD OF 'exactreallaw08.DyadicFar'. -/
def dyadicFarUptoCard : Claim7 := { stood := { row := dyadicFarUptoRow, standIns := [], harness := (true, "129879718592dc35ad11e59fd2bcf54ad9d776972c65a9470fd292fb401f8852"), looks := false }, kinds := [], alts := [], laidByText := true, laidKinds := [.data], laidTests := true, laidLooks := .later }
def DyadicFarUptoCardSaid : Prop := Claim7.holds Tryd.pinned (.plain (OpenSpec.upto dyadicFarSpec)) dyadicFarUptoCard

/-- THE SECOND FORM's CARD OF 'exactreallaw08.DyadicMakes'. -/
def dyadicMakesUptoCard : Claim7 := { stood := { row := dyadicMakesUptoRow, standIns := [], harness := (true, "129879718592dc35ad11e59fd2bcf54ad9d776972c65a9470fd292fb401f8852"), looks := false }, kinds := [], alts := [], laidByText := true, laidKinds := [.data], laidTests := true, laidLooks := .later }
def DyadicMakesUptoCardSaid : Prop := Claim7.holds Tryd.pinned (.plain (OpenSpec.upto dyadicMakesSpec)) dyadicMakesUptoCard

/-- THE SECOND FORM's CARD OF 'exactreallaw08.DyadicTexts'. -/
def dyadicTextsUptoCard : Claim7 := { stood := { row := dyadicTextsUptoRow, standIns := [], harness := (true, "129879718592dc35ad11e59fd2bcf54ad9d776972c65a9470fd292fb401f8852"), looks := false }, kinds := [], alts := [], laidByText := true, laidKinds := [.data], laidTests := true, laidLooks := .later }
def DyadicTextsUptoCardSaid : Prop := Claim7.holds Tryd.pinned (.plain (OpenSpec.upto dyadicTextsSpec)) dyadicTextsUptoCard

/-- THE SECOND FORM's CARD OF 'exactreallaw08.DyadicParses'. -/
def dyadicParsesUptoCard : Claim7 := { stood := { row := dyadicParsesUptoRow, standIns := [], harness := (true, "129879718592dc35ad11e59fd2bcf54ad9d776972c65a9470fd292fb401f8852"), looks := false }, kinds := [], alts := [], laidByText := true, laidKinds := [.data], laidTests := true, laidLooks := .later }
def DyadicParsesUptoCardSaid : Prop := Claim7.holds Tryd.pinned (.plain (OpenSpec.upto dyadicParsesSpec)) dyadicParsesUptoCard

/-- THE SECOND FORM's CARD OF 'exactreallaw08.DyadicFrom'. -/
def dyadicFromUptoCard : Claim7 := { stood := { row := dyadicFromUptoRow, standIns := [], harness := (true, "129879718592dc35ad11e59fd2bcf54ad9d776972c65a9470fd292fb401f8852"), looks := false }, kinds := [], alts := [], laidByText := true, laidKinds := [.data], laidTests := true, laidLooks := .later }
def DyadicFromUptoCardSaid : Prop := Claim7.holds Tryd.pinned (.plain (OpenSpec.upto dyadicFromSpec)) dyadicFromUptoCard

/-- THE SECOND FORM's CARD OF 'exactreallaw08.DyadicOrders'. -/
def dyadicOrdersUptoCard : Claim7 := { stood := { row := dyadicOrdersUptoRow, standIns := [], harness := (true, "129879718592dc35ad11e59fd2bcf54ad9d776972c65a9470fd292fb401f8852"), looks := false }, kinds := [], alts := [], laidByText := true, laidKinds := [.data], laidTests := true, laidLooks := .later }
def DyadicOrdersUptoCardSaid : Prop := Claim7.holds Tryd.pinned (.plain (OpenSpec.upto dyadicOrdersSpec)) dyadicOrdersUptoCard
end Rows
end Go.Proofs.YtnfnadhbjdcbnaaDoor
