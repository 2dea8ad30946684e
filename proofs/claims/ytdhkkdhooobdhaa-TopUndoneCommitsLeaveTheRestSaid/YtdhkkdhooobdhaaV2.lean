/- Undo: the fixed examples. -/
import Derived.Test.YtdhkkdhooobdhaaV1
set_option linter.unusedVariables false
set_option linter.unusedSimpArgs false
namespace Go.Proofs
open Go Go.Ideal
set_option maxRecDepth 8000
set_option maxHeartbeats 4000000

def cm0 : Stp := ⟨0, 0, ⟨1, 0, 0, 0, [97, 98]⟩, false⟩
def cm1 : Stp := ⟨0, 1, ⟨1, 1, 0, 0, [88, 89]⟩, false⟩
def cm2 : Stp := ⟨0, 2, ⟨1, 4, 0, 0, [99]⟩, false⟩
def cm3 : Stp := ⟨0, 1, ⟨1, 0, 0, 0, [113]⟩, false⟩
def cm4 : Stp := ⟨1, -1, ⟨0, 0, 0, 0, []⟩, false⟩
def pe0 : Past := ⟨[noDoc], []⟩
def peA : Past := ⟨[⟨[97, 98], [⟨0, 0, 2, true⟩]⟩], [cm0]⟩
def peC : Past := ⟨[⟨[97, 88, 89, 98, 99], [⟨0, 0, 4, false⟩, ⟨1, 1, 3, true⟩, ⟨2, 4, 5, true⟩]⟩], [cm0, cm1, cm2]⟩
theorem eA : doU pe0 cm0 = (peA, 0) := by decide +kernel
theorem eD : doU peC cm3 = (noPast, 290) := by decide +kernel
theorem eE : doU peC cm4 = (noPast, 1) := by decide +kernel
theorem g0 : Good pe0 := good_new 1 (by decide)
end Go.Proofs
