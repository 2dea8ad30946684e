/- Messages: what is told is so, and stays so. -/
import Derived.Test.YtomdfdppfhkbjaaMC
set_option linter.unusedVariables false
set_option linter.unusedSimpArgs false
namespace Go.Proofs
open Go Go.Ideal
set_option maxRecDepth 8000
set_option maxHeartbeats 4000000

theorem cnt_eq : ∀ {l : List Mark} {id : Int}, Srt l → cntT l id = if hasId l id = true then 1 else 0
  | [], id, _ => rfl
  | m :: l, id, h => by
    have ih := cnt_eq (id := id) (List.Pairwise.of_cons h)
    unfold cntT at ih ⊢
    by_cases hm : m.id = id
    · have hno : hasId l id = false := by
        simp only [hasId, List.any_eq_false]
        intro x hx
        have := List.rel_of_pairwise_cons h hx
        simp; omega
      rw [hno] at ih
      have e : hasId (m :: l) id = true := by simp [hasId, hm]
      rw [e, List.filter_cons, if_pos (by simpa using hm), List.length_cons, ih]; rfl
    · have e : hasId (m :: l) id = hasId l id := by simp [hasId, hm]
      rw [e, List.filter_cons, if_neg (by simpa using hm)]; exact ih
theorem ClI.cnt {i : Nat} {K : List Cmt} {a : Int} {c : Client} (h : ClI i K a c) (id : Int) : (id ∈ c.has → cntM c.d id = 1) ∧ (id ∉ c.has → cntM c.d id = 0) := by
  unfold cntM
  rw [cnt_eq h.okd.srt]
  refine ⟨fun g => ?_, fun g => ?_⟩
  · obtain ⟨k, _, _, _, m, m1, m2, _⟩ := h.src id g
    rw [if_pos (hasId_mem.2 ⟨m, m1, m2⟩)]
  · rw [if_neg]
    intro q
    obtain ⟨m, m1, m2⟩ := hasId_mem.1 q
    exact g (by rw [← m2]; exact h.mrk m m1)
end Go.Proofs
