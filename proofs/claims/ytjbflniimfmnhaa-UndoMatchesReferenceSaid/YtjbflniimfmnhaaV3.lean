/- Undo: undoing a commit takes its text out; undoing the last step. -/
import Derived.Test.YtjbflniimfmnhaaV2
import Derived.Test.YtjbflniimfmnhaaD11
set_option linter.unusedVariables false
set_option linter.unusedSimpArgs false
namespace Go.Proofs
open Go Go.Ideal
set_option maxRecDepth 8000
set_option maxHeartbeats 4000000

/-- A commit that was chosen. -/
structure Cho (p : Past) (i a : Nat) : Prop where
  com : isCom p i = true
  lt : i < p.st.length
  id : (p.st.getD i default).id ≥ 0
  und : (p.st.getD i default).und = false
  app : (p.st.getD i default).app = a
  al : a < p.docs.length
theorem cho_of {p : Past} (h : Good p) {i : Nat} (hc : comR p i = true) : ∃ a, Cho p i a := by
  rw [comR_eq h] at hc
  obtain ⟨h0, hi, hid, hu, ha, hal⟩ := isCom_inv hc
  simp only [Int.toNat_natCast] at hi hid hu ha hal
  exact ⟨(p.st.getD i default).app.toNat, hc, hi, hid, hu, by omega, by omega⟩
end Go.Proofs
