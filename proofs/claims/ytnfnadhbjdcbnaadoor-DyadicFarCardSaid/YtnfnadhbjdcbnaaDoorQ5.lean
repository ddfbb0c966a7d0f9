/-
  Walks.
-/
import Derived.Test.YtnfnadhbjdcbnaaDoorQ4
import Derived.Test.YtnfnadhbjdcbnaaDoorDiv
set_option linter.unusedVariables false
set_option linter.unusedSimpArgs false
set_option maxRecDepth 100000
namespace Go.Proofs.YtnfnadhbjdcbnaaDoor
open Go Go.RowKit
end Go.Proofs.YtnfnadhbjdcbnaaDoor
