/-
  DERIVED. GIVEN WITH THE SEED: THE CARDS: each row of YthbfhljpfkicpaaDoorRows.lean that lists a variable, with what it lists TIED to the program's text (the seventh form; the later family's looks); each row that meets fmt, with fmt's text TOLD by the authors' own Lean function (tested against real Go, not proved from fmt's source: count such statements apart). THE CARD IS WHAT COUNTS. Prove the row's statement (the work); the ties are given (YthbfhljpfkicpaaDoorTie.lean); close each card by the builder's one call (the guide's Derived/Test/ToyasCard.lean, 'card_holds'). Laid BY PROGRAM, IN A SANDBOX (cutbox-door.mjs). By AI agents, Wed Nov 11 2026. No macro, syntax, notation, axiom, sorry.
-/
import Derived.Test.YthbfhljpfkicpaaDoorRows
import GoSem.ClaimSeven
namespace Go.Proofs.YthbfhljpfkicpaaDoor
namespace Rows

/-- THE TIED CARD OF 'exactreallaw09.GridRounds'. -/
def gridRoundsCard : Claim7 := { stood := { row := gridRoundsRow, standIns := [], harness := (true, "d4782130fae7653590275ccaeffd9e78c6baf7a994cb0fd79165155fe30f4e98"), looks := false }, kinds := [], alts := [], laidByText := true, laidKinds := [.data], laidTests := true, laidLooks := .later }
def GridRoundsCardSaid : Prop := Claim7.holds Tryd.pinned (.plain (OpenSpec.ofChange gridRoundsSpec)) gridRoundsCard

/-- THE TIED CARD OF 'exactreallaw09.GridBounds'. -/
def gridBoundsCard : Claim7 := { stood := { row := gridBoundsRow, standIns := [], harness := (true, "d4782130fae7653590275ccaeffd9e78c6baf7a994cb0fd79165155fe30f4e98"), looks := false }, kinds := [], alts := [], laidByText := true, laidKinds := [.data], laidTests := true, laidLooks := .later }
def GridBoundsCardSaid : Prop := Claim7.holds Tryd.pinned (.plain (OpenSpec.ofChange gridBoundsSpec)) gridBoundsCard

/-- THE TIED CARD OF 'exactreallaw09.GridOn'. -/
def gridOnCard : Claim7 := { stood := { row := gridOnRow, standIns := [], harness := (true, "d4782130fae7653590275ccaeffd9e78c6baf7a994cb0fd79165155fe30f4e98"), looks := false }, kinds := [], alts := [], laidByText := true, laidKinds := [.data], laidTests := true, laidLooks := .later }
def GridOnCardSaid : Prop := Claim7.holds Tryd.pinned (.plain (OpenSpec.ofChange gridOnSpec)) gridOnCard

/-- THE TIED CARD OF 'exactreallaw09.GridTwice'. -/
def gridTwiceCard : Claim7 := { stood := { row := gridTwiceRow, standIns := [], harness := (true, "d4782130fae7653590275ccaeffd9e78c6baf7a994cb0fd79165155fe30f4e98"), looks := false }, kinds := [], alts := [], laidByText := true, laidKinds := [.data], laidTests := true, laidLooks := .later }
def GridTwiceCardSaid : Prop := Claim7.holds Tryd.pinned (.plain (OpenSpec.ofChange gridTwiceSpec)) gridTwiceCard

/-- THE TIED CARD OF 'exactreallaw09.GridFractions'. -/
def gridFractionsCard : Claim7 := { stood := { row := gridFractionsRow, standIns := [], harness := (true, "d4782130fae7653590275ccaeffd9e78c6baf7a994cb0fd79165155fe30f4e98"), looks := false }, kinds := [], alts := [], laidByText := true, laidKinds := [.data], laidTests := true, laidLooks := .later }
def GridFractionsCardSaid : Prop := Claim7.holds Tryd.pinned (.plain (OpenSpec.ofChange gridFractionsSpec)) gridFractionsCard

/-- THE TIED CARD OF 'exactreallaw10.IntervalOuts'. -/
def intervalOutsCard : Claim7 := { stood := { row := intervalOutsRow, standIns := [], harness := (true, "d4782130fae7653590275ccaeffd9e78c6baf7a994cb0fd79165155fe30f4e98"), looks := false }, kinds := [], alts := [], laidByText := true, laidKinds := [.data], laidTests := true, laidLooks := .later }
def IntervalOutsCardSaid : Prop := Claim7.holds Tryd.pinned (.plain (OpenSpec.ofChange intervalOutsSpec)) intervalOutsCard

/-- THE TIED CARD OF 'exactreallaw10.IntervalMiddles'. -/
def intervalMiddlesCard : Claim7 := { stood := { row := intervalMiddlesRow, standIns := [], harness := (true, "d4782130fae7653590275ccaeffd9e78c6baf7a994cb0fd79165155fe30f4e98"), looks := false }, kinds := [], alts := [], laidByText := true, laidKinds := [.data], laidTests := true, laidLooks := .later }
def IntervalMiddlesCardSaid : Prop := Claim7.holds Tryd.pinned (.plain (OpenSpec.ofChange intervalMiddlesSpec)) intervalMiddlesCard

/-- THE TIED CARD OF 'exactreallaw10.IntervalHalves'. -/
def intervalHalvesCard : Claim7 := { stood := { row := intervalHalvesRow, standIns := [], harness := (true, "d4782130fae7653590275ccaeffd9e78c6baf7a994cb0fd79165155fe30f4e98"), looks := false }, kinds := [], alts := [], laidByText := true, laidKinds := [.data], laidTests := true, laidLooks := .later }
def IntervalHalvesCardSaid : Prop := Claim7.holds Tryd.pinned (.plain (OpenSpec.ofChange intervalHalvesSpec)) intervalHalvesCard

/-- THE SECOND FORM's CARD OF 'exactreallaw09.GridRounds'. -/
def gridRoundsUptoCard : Claim7 := { stood := { row := gridRoundsUptoRow, standIns := [], harness := (true, "d4782130fae7653590275ccaeffd9e78c6baf7a994cb0fd79165155fe30f4e98"), looks := false }, kinds := [], alts := [], laidByText := true, laidKinds := [.data], laidTests := true, laidLooks := .later }
def GridRoundsUptoCardSaid : Prop := Claim7.holds Tryd.pinned (.plain (OpenSpec.upto gridRoundsSpec)) gridRoundsUptoCard

/-- THE SECOND FORM's CARD OF 'exactreallaw09.GridBounds'. -/
def gridBoundsUptoCard : Claim7 := { stood := { row := gridBoundsUptoRow, standIns := [], harness := (true, "d4782130fae7653590275ccaeffd9e78c6baf7a994cb0fd79165155fe30f4e98"), looks := false }, kinds := [], alts := [], laidByText := true, laidKinds := [.data], laidTests := true, laidLooks := .later }
def GridBoundsUptoCardSaid : Prop := Claim7.holds Tryd.pinned (.plain (OpenSpec.upto gridBoundsSpec)) gridBoundsUptoCard

/-- THE SECOND FORM's CARD OF 'exactreallaw09.GridOn'. -/
def gridOnUptoCard : Claim7 := { stood := { row := gridOnUptoRow, standIns := [], harness := (true, "d4782130fae7653590275ccaeffd9e78c6baf7a994cb0fd79165155fe30f4e98"), looks := false }, kinds := [], alts := [], laidByText := true, laidKinds := [.data], laidTests := true, laidLooks := .later }
def GridOnUptoCardSaid : Prop := Claim7.holds Tryd.pinned (.plain (OpenSpec.upto gridOnSpec)) gridOnUptoCard

/-- THE SECOND FORM's CARD OF 'exactreallaw09.GridTwice'. -/
def gridTwiceUptoCard : Claim7 := { stood := { row := gridTwiceUptoRow, standIns := [], harness := (true, "d4782130fae7653590275ccaeffd9e78c6baf7a994cb0fd79165155fe30f4e98"), looks := false }, kinds := [], alts := [], laidByText := true, laidKinds := [.data], laidTests := true, laidLooks := .later }
def GridTwiceUptoCardSaid : Prop := Claim7.holds Tryd.pinned (.plain (OpenSpec.upto gridTwiceSpec)) gridTwiceUptoCard

/-- THE SECOND FORM's CARD OF 'exactreallaw09.GridFractions'. -/
def gridFractionsUptoCard : Claim7 := { stood := { row := gridFractionsUptoRow, standIns := [], harness := (true, "d4782130fae7653590275ccaeffd9e78c6baf7a994cb0fd79165155fe30f4e98"), looks := false }, kinds := [], alts := [], laidByText := true, laidKinds := [.data], laidTests := true, laidLooks := .later }
def GridFractionsUptoCardSaid : Prop := Claim7.holds Tryd.pinned (.plain (OpenSpec.upto gridFractionsSpec)) gridFractionsUptoCard

/-- THE SECOND FORM's CARD OF 'exactreallaw10.IntervalOuts'. -/
def intervalOutsUptoCard : Claim7 := { stood := { row := intervalOutsUptoRow, standIns := [], harness := (true, "d4782130fae7653590275ccaeffd9e78c6baf7a994cb0fd79165155fe30f4e98"), looks := false }, kinds := [], alts := [], laidByText := true, laidKinds := [.data], laidTests := true, laidLooks := .later }
def IntervalOutsUptoCardSaid : Prop := Claim7.holds Tryd.pinned (.plain (OpenSpec.upto intervalOutsSpec)) intervalOutsUptoCard

/-- THE SECOND FORM's CARD OF 'exactreallaw10.IntervalMiddles'. -/
def intervalMiddlesUptoCard : Claim7 := { stood := { row := intervalMiddlesUptoRow, standIns := [], harness := (true, "d4782130fae7653590275ccaeffd9e78c6baf7a994cb0fd79165155fe30f4e98"), looks := false }, kinds := [], alts := [], laidByText := true, laidKinds := [.data], laidTests := true, laidLooks := .later }
def IntervalMiddlesUptoCardSaid : Prop := Claim7.holds Tryd.pinned (.plain (OpenSpec.upto intervalMiddlesSpec)) intervalMiddlesUptoCard

/-- THE SECOND FORM's CARD OF 'exactreallaw10.IntervalHalves'. -/
def intervalHalvesUptoCard : Claim7 := { stood := { row := intervalHalvesUptoRow, standIns := [], harness := (true, "d4782130fae7653590275ccaeffd9e78c6baf7a994cb0fd79165155fe30f4e98"), looks := false }, kinds := [], alts := [], laidByText := true, laidKinds := [.data], laidTests := true, laidLooks := .later }
def IntervalHalvesUptoCardSaid : Prop := Claim7.holds Tryd.pinned (.plain (OpenSpec.upto intervalHalvesSpec)) intervalHalvesUptoCard
end Rows
end Go.Proofs.YthbfhljpfkicpaaDoor
