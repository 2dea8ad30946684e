/- Arguments of the message statements: bools, pairs of bools, a commit, a packet. -/
import Derived.Test.YtomdfdppfhkbjaaM10
set_option linter.unusedVariables false
set_option linter.unusedSimpArgs false
namespace Go.Proofs
open Go Go.Ideal Go.RowKit Go.WideShapes Go.ChangeShapes
section
variable {H : Type} {enc : TypeId × Value → H} {P : Program} {w : World} {base : Nat} {spare : Nat → Bool} {held : Bool}
theorem arg_bool {t : TypeId} (ht : P.underlying t = some .bool) {r : Reach} {b0 : Nat} {v : Value} {d : DataW H} {ps : List MemPlace}
    (hval : Value.okWide P w r b0 t v) (hd : DataW.Trod enc P w base spare held t v d ps) : ∃ b : Bool, DRep (oldW w) w v (.bool b) := by
  obtain ⟨b, rfl⟩ := okWide_bool ht hval
  exact ⟨b, .bool ..⟩
end
end Go.Proofs
