/- Messages: contracts of the reference: Ids, notes, lists of Ids, what a client and the engine do. -/
import Derived.Test.YtomdfdppfhkbjaaM3
import Derived.Test.YtomdfdppfhkbjaaD7
set_option linter.unusedVariables false
set_option linter.unusedSimpArgs false
namespace Go.Proofs
open Go Go.Ideal
set_option maxRecDepth 8000
set_option maxHeartbeats 4000000

/-! ### A client -/
/-! ### The engine -/
@[go_sem] def sdA (r : List Sent × List Packet × Int) : AV := .agg [.sl false 4 (sesOf r.1), .sl false 4 (pksOf r.2.1), .int .i64 r.2.2]
end Go.Proofs
