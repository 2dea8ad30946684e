/- Undo: what depends on a commit; the plain part. -/
import Derived.Test.YtjbflniimfmnhaaV3
set_option linter.unusedVariables false
set_option linter.unusedSimpArgs false
namespace Go.Proofs
open Go Go.Ideal
set_option maxRecDepth 8000
set_option maxHeartbeats 4000000

theorem depF_sub (st : List Stp) : ∀ (L : List Nat) (m : Mark), (depF st m L).Sublist L
  | [], _ => List.Sublist.refl _
  | j :: L, m => by
    simp only [depF]
    cases carM (st.getD j default).e (whM m) with
    | none => exact List.Sublist.cons_cons _ (List.nil_sublist _)
    | some m' =>
      simp only
      split
      · exact List.Sublist.cons _ (depF_sub st L m')
      · exact List.Sublist.cons_cons _ (depF_sub st L m')
end Go.Proofs
