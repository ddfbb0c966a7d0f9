/-
  Walks.
-/
import Derived.Test.YthbfhljpfkicpaaQ4
import Derived.Test.YthbfhljpfkicpaaDiv
set_option linter.unusedVariables false
set_option linter.unusedSimpArgs false
set_option maxRecDepth 100000
namespace Go.Proofs.Ythbfhljpfkicpaa
open Go Go.RowKit
end Go.Proofs.Ythbfhljpfkicpaa
