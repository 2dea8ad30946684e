/- Documents: Valid agrees with the reference. -/
import Derived.Test.YtjbflniimfmnhaaD9
set_option linter.unusedVariables false
set_option linter.unusedSimpArgs false
namespace Go.Proofs
open Go Go.Ideal
set_option maxRecDepth 8000
set_option maxHeartbeats 4000000

theorem validB_of {d : Doc} (h : OkD d) : validB d = true := by
  have key : ∀ (l : List Mark) (n : Nat) (last : Int), l.Pairwise (fun a b => a.id < b.id) → (∀ m ∈ l, last < m.id ∧ 0 ≤ m.f ∧ m.f < m.t ∧ m.t ≤ n) → chk n last l = true := by
    intro l n
    induction l with
    | nil => intro _ _ _; rfl
    | cons x l ih =>
      intro last hp hm
      obtain ⟨h1, h2, h3, h4⟩ := hm x (by simp)
      simp only [chk, badM, Bool.and_eq_true, Bool.not_eq_true', Bool.or_eq_false_iff, decide_eq_false_iff_not]
      refine ⟨⟨⟨⟨by omega, by omega⟩, by omega⟩, by omega⟩, ih x.id (List.Pairwise.of_cons hp) fun m hm' => ?_⟩
      exact ⟨List.rel_of_pairwise_cons hp hm', (hm m (by simp [hm'])).2⟩
  have h1 := h.len
  have h2 := h.cnt
  have h3 := key d.m d.s.length (-1) h.srt fun m hm => by
    obtain ⟨a1, a2, a3, a4⟩ := h.mks m hm
    exact ⟨by omega, a2, a3, a4⟩
  simp only [validB, Bool.and_eq_true, decide_eq_true_eq]
  exact ⟨⟨⟨by omega, h.pl⟩, by omega⟩, h3⟩
end Go.Proofs
