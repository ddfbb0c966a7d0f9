/-
  DERIVED. GIVEN WITH THE SEED: THE CARDS: each row of YtnfnadhbjdcbnaaGreatDoorRows.lean that lists a variable, with what it lists TIED to the program's text (the seventh form; the later family's looks); each row that meets fmt, with fmt's text TOLD by the authors' own Lean function (tested against real Go, not proved from fmt's source: count such statements apart). THE CARD IS WHAT COUNTS. Prove the row's statement (the work); the ties are given (YtnfnadhbjdcbnaaGreatDoorTie.lean); close each card by the builder's one call (the guide's Derived/Test/ToyasCard.lean, 'card_holds'). Laid BY PROGRAM, IN A SANDBOX (cutbox-door.mjs). By AI agents, Wed Nov 11 2026. No macro, syntax, notation, axiom, sorry.
-/
import Derived.Test.YtnfnadhbjdcbnaaGreatDoorRows
import GoSem.ClaimSeven
namespace Go.Proofs.YtnfnadhbjdcbnaaGreatDoor
namespace Rows

/-- THE TIED CARD OF 'exactreallaw08.DyadicExact'. -/
def dyadicExactCard : Claim7 := { stood := { row := dyadicExactRow, standIns := [], harness := (true, "954327fcf4dab958f16b7489b7b6050bc0229472322100fbafc9fafc8316edd7"), looks := false }, kinds := [], alts := [], laidByText := true, laidKinds := [.data], laidTests := true, laidLooks := .later }
def DyadicExactCardSaid : Prop := Claim7.holds Tryz.pinned (.plain (OpenSpec.ofChange dyadicExactSpec)) dyadicExactCard

/-- THE SECOND FORM's CARD OF 'exactreallaw08.DyadicExact'. -/
def dyadicExactUptoCard : Claim7 := { stood := { row := dyadicExactUptoRow, standIns := [], harness := (true, "954327fcf4dab958f16b7489b7b6050bc0229472322100fbafc9fafc8316edd7"), looks := false }, kinds := [], alts := [], laidByText := true, laidKinds := [.data], laidTests := true, laidLooks := .later }
def DyadicExactUptoCardSaid : Prop := Claim7.holds Tryz.pinned (.plain (OpenSpec.upto dyadicExactSpec)) dyadicExactUptoCard
end Rows
end Go.Proofs.YtnfnadhbjdcbnaaGreatDoor
