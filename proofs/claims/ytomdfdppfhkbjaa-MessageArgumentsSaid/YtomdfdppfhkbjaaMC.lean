/- Messages: a packet that arrives a second time changes nothing. -/
import Derived.Test.YtomdfdppfhkbjaaM8
import Derived.Test.YtomdfdppfhkbjaaM9
set_option linter.unusedVariables false
set_option linter.unusedSimpArgs false
namespace Go.Proofs
open Go Go.Ideal
set_option maxRecDepth 8000
set_option maxHeartbeats 4000000

theorem recv_ok {c : Client} {a : Int} {p : Packet} (h : OkC c) (hh : c.has.length ≤ 80000) (hr : c.ref.length ≤ 80000) : OkC (recvF c a p).1 := by
  unfold recvF
  split
  · unfold decF
    split
    · exact h
    · split
      · exact h
      · split
        · exact ⟨h.d, by show c.has.length ≤ _; omega, by show (withL _ _).length ≤ _; rw [withL_len]; omega⟩
        · rename_i z
          exact ⟨(putF_ok h.d (by omega)).1, by show (withL _ _).length ≤ _; rw [withL_len]; omega, by show c.ref.length ≤ _; omega⟩
  · exact h
theorem recv_len {c : Client} {a : Int} {p : Packet} : (recvF c a p).2.length ≤ 1 ∧ (recvF c a p).1.has.length ≤ c.has.length + 1 ∧ (recvF c a p).1.ref.length ≤ c.ref.length + 1 := by
  unfold recvF
  split
  · unfold decF
    split
    · simp
    · split
      · simp
      · split
        · simp [withL_len]
        · simp [withL_len]
  · simp
end Go.Proofs
