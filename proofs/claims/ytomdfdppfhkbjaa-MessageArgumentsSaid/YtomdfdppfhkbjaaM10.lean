/- Arguments of the message statements: lists of actions. -/
import Derived.Test.YtomdfdppfhkbjaaM2
import Derived.Test.YtomdfdppfhkbjaaD10
set_option linter.unusedVariables false
set_option linter.unusedSimpArgs false
namespace Go.Proofs
open Go Go.Ideal Go.RowKit Go.WideShapes Go.ChangeShapes
section
variable {H : Type} {enc : TypeId × Value → H} {P : Program} {w : World} {base : Nat} {spare : Nat → Bool} {held : Bool}
end
end Go.Proofs
