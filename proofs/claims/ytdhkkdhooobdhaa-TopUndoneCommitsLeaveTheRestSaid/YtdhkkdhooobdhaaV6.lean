/- Undo: undoing leaves what replaying makes, and the other steps as they are. -/
import Derived.Test.YtdhkkdhooobdhaaV3
set_option linter.unusedVariables false
set_option linter.unusedSimpArgs false
namespace Go.Proofs
open Go Go.Ideal
set_option maxRecDepth 8000
set_option maxHeartbeats 4000000

theorem remU_at (app : Int) : ∀ (l : List Stp) (m : Mark) (j : Nat), j < l.length → core ((remU app m l).getD j default) = core (l.getD j default) ∧ ((remU app m l).getD j default).und = (l.getD j default).und ∧
    (goneS app (l.getD j default) → (remU app m l).getD j default = l.getD j default)
  | [], _, j, h => absurd h (by simp)
  | s :: l, m, 0, _ => by
    simp only [remU]
    split
    · exact ⟨rfl, rfl, fun _ => rfl⟩
    · rename_i g
      exact ⟨outS_core s m, rfl, fun h => absurd h g⟩
  | s :: l, m, j + 1, h => by
    simp only [remU]
    split
    · exact remU_at app l m j (by simpa using h)
    · exact remU_at app l _ j (by simpa using h)
theorem undS_at {p : Past} {i a : Nat} (c : Cho p i a) {k : Nat} (hk : k < p.st.length) : core ((undS p i).getD k default) = core (p.st.getD k default) ∧
    ((undS p i).getD k default).und = ((p.st.getD k default).und || decide (k = i)) ∧ (k ≤ i ∨ (p.st.getD k default).app ≠ a → ((undS p i).getD k default).e = (p.st.getD k default).e) := by
  have hi := c.lt
  have hA : (p.st.take i).length = i := by simp; omega
  rw [undS_eq p i hi]
  rcases Nat.lt_trichotomy k i with h | h | h
  · have e : ∀ R : List Stp, (p.st.take i ++ R).getD k default = p.st.getD k default := fun R => by
      rw [List.getD, List.getElem?_append_left (by rw [hA]; exact h), List.getElem?_take, if_pos h]; rfl
    rw [e]
    refine ⟨rfl, ?_, fun _ => rfl⟩
    rw [decide_eq_false (by omega)]; simp
  · subst h
    have e : ∀ (x : Stp) (R : List Stp), (p.st.take k ++ x :: R).getD k default = x := fun x R => by
      rw [List.getD, List.getElem?_append_right (by omega), hA]; simp
    rw [e]
    exact ⟨rfl, by simp, fun _ => rfl⟩
  · obtain ⟨j, rfl⟩ : ∃ j, k = i + 1 + j := ⟨k - (i + 1), by omega⟩
    have e : ∀ (x : Stp) (R : List Stp), (p.st.take i ++ x :: R).getD (i + 1 + j) default = R.getD j default := fun x R => by
      rw [List.getD, List.getElem?_append_right (by omega), hA, show i + 1 + j - i = j + 1 by omega]; rfl
    have e2 : (p.st.drop (i + 1)).getD j default = p.st.getD (i + 1 + j) default := by simp [List.getD, List.getElem?_drop]
    rw [e]
    obtain ⟨r1, r2, r3⟩ := remU_at (p.st.getD i default).app (p.st.drop (i + 1)) (fstM (p.st.getD i default)) j (by simp; omega)
    rw [e2] at r1 r2 r3
    refine ⟨r1, ?_, fun h => ?_⟩
    · rw [r2, decide_eq_false (by omega)]; simp
    · rw [r3 (.inl (by have := c.app; omega))]
/-- What undoing a commit leaves. -/
structure Und (p : Past) (i a : Nat) (D' : Doc) : Prop where
  eq : undU p i = (⟨p.docs.set a D', undS p i⟩, [], 0)
  good : Good ⟨p.docs.set a D', undS p i⟩
  ok : OkD D'
  len : (undS p i).length = p.st.length
end Go.Proofs
