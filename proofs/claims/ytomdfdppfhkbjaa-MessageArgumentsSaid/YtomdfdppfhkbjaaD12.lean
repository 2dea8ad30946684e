/- Documents, plainly: what edits do to texts and to whole marks. -/
import Derived.Test.YtomdfdppfhkbjaaD8
set_option linter.unusedVariables false
set_option linter.unusedSimpArgs false
namespace Go.Proofs
open Go Go.Ideal
set_option maxRecDepth 8000
set_option maxHeartbeats 4000000

/-! ### Pieces of texts -/
/-! The text after an edit, over natural numbers. -/
end Go.Proofs
