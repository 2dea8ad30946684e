/- Devices: the laws' own small functions. -/
import Derived.Test.YtdhkkdhooobdhaaGreatDoorGB
set_option linter.unusedVariables false
set_option linter.unusedSimpArgs false
namespace Go.Proofs
open Go Go.Ideal
set_option maxRecDepth 8000
set_option maxHeartbeats 4000000

def wordT (n : Int) : List UInt8 := if n % 4 = 0 then [65] else if n % 4 = 1 then [65, 66] else if n % 4 = 2 then [66] else [67, 49]
theorem Word24_spec (n : Int) (h : 0 ≤ n ∧ n < 256) : Ideal.Spec Tryz.prog 8 [.int .u8 n] (.str (wordT n)) none := by
  refine Ideal.Spec.of_TD (n := 8) (fn := Tryz.f8) rfl rfl rfl rfl rfl rfl rfl fun w ok => ?_
  refine T.sregD 8 [0, 2] fun Kr hKr => ?_
  simp only [go_sem]
  (repeat (refine ⟨by (first | exact True.intro | omega | rfl | (simp; done) | (simp; omega)), ?_⟩)); try (refine hKr _ ?_; clear hKr Kr)
  have hr : remv n 4 = n % 4 := remv_nn h.1
  have hv : remv n 4 = 0 ∧ wordT n = [65] ∨ remv n 4 = 1 ∧ wordT n = [65, 66] ∨ remv n 4 = 2 ∧ wordT n = [66] ∨ remv n 4 = 3 ∧ wordT n = [67, 49] := by
    rw [hr]; unfold wordT
    rcases (by omega : n % 4 = 0 ∨ n % 4 = 1 ∨ n % 4 = 2 ∨ n % 4 = 3) with e | e | e | e <;> simp [e]
  rcases hv with ⟨e, e2⟩ | ⟨e, e2⟩ | ⟨e, e2⟩ | ⟨e, e2⟩ <;>
  · rw [e2]
    refine T.sregD 8 [0, 2] fun Kr hKr => ?_
    simp only [go_sem, e]
    (repeat (refine ⟨by (first | exact True.intro | omega | rfl | (simp; done) | (simp; omega)), ?_⟩)); try (refine hKr _ ?_; clear hKr Kr)
    refine T.ret (Fin.dataD rfl rfl rfl)
end Go.Proofs
