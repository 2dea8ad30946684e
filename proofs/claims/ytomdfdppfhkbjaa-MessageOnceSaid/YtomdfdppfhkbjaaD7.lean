/- Documents: contracts of the reference's doing, putting, and of its text of a mark. -/
import Derived.Test.YtomdfdppfhkbjaaD6
set_option linter.unusedVariables false
set_option linter.unusedSimpArgs false
namespace Go.Proofs
open Go Go.Ideal
set_option maxRecDepth 8000
set_option maxHeartbeats 4000000

/-! ### Doing -/
theorem chg_len {s : List UInt8} {e : Edit} (hp : possB e s.length = true) : ((chg s e).length : Int) = if e.k = 1 then (s.length : Int) + e.s.length else if e.k = 2 then s.length - e.n else s.length := by
  obtain ⟨q1, q2, q3, q4, q5, q6, q7⟩ := possB_smE hp
  unfold chg
  by_cases h1 : e.k = 1
  · rw [if_pos h1, if_pos h1]; simp; omega
  have := q6 h1
  rw [if_neg h1, if_neg h1]
  by_cases h2 : e.k = 2
  · rw [if_pos h2, if_pos h2]; simp; omega
  rw [if_neg h2, if_neg h2]
  by_cases h3 : e.k = 3
  · rw [if_pos h3]
    have := q7 h3
    simp; omega
  · rw [if_neg h3]
/-! ### Putting -/
theorem idx_map {f : Mark → Mark} (hf : ∀ m, (f m).id = m.id) (l : List Mark) (id : Int) : idx (l.map f) id = idx l id := by
  induction l with
  | nil => rfl
  | cons x l ih =>
    simp only [idx, List.map_cons, List.takeWhile_cons, hf] at ih ⊢
    split <;> simp [ih]
theorem insM_id (a n : Int) (m : Mark) : (insM a n m).id = m.id := by unfold insM; split <;> first | rfl | (split <;> rfl)
@[go_sem] def cmtA (id at_ : Int) (text : List UInt8) : AV := .agg [.int .i64 id, .int .i64 at_, .str text]
end Go.Proofs
