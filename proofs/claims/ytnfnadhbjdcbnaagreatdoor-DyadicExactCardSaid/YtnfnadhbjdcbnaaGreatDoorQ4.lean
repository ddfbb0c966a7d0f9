/-
  Walks.
-/
import Derived.Test.YtnfnadhbjdcbnaaGreatDoorQ3
import Derived.Test.YtnfnadhbjdcbnaaGreatDoorSeg
set_option linter.unusedVariables false
set_option linter.unusedSimpArgs false
set_option maxRecDepth 100000
namespace Go.Proofs.YtnfnadhbjdcbnaaGreatDoor
open Go Go.RowKit
end Go.Proofs.YtnfnadhbjdcbnaaGreatDoor
