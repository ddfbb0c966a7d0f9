/-
  Walks.
-/
import Derived.Test.YthbfhljpfkicpaaQ3
import Derived.Test.YthbfhljpfkicpaaSeg
set_option linter.unusedVariables false
set_option linter.unusedSimpArgs false
set_option maxRecDepth 100000
namespace Go.Proofs.Ythbfhljpfkicpaa
open Go Go.RowKit
end Go.Proofs.Ythbfhljpfkicpaa
