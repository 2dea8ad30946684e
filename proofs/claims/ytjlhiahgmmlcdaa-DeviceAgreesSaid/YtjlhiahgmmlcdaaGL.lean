/- Devices: the reference's Clean. -/
import Derived.Test.YtjlhiahgmmlcdaaGK
set_option linter.unusedVariables false
set_option linter.unusedSimpArgs false
namespace Go.Proofs
open Go Go.Ideal
set_option maxRecDepth 8000
set_option maxHeartbeats 4000000

end Go.Proofs
