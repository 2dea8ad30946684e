/- Devices: the laws' own small functions. -/
import Derived.Test.YtjlhiahgmmlcdaaGC
set_option linter.unusedVariables false
set_option linter.unusedSimpArgs false
namespace Go.Proofs
open Go Go.Ideal
set_option maxRecDepth 8000
set_option maxHeartbeats 4000000

theorem record_spec (d : Int) (w : List UInt8) : Ideal.Spec Try.prog 29 [.int .i64 d, .str w] (recA ⟨d, 1, 3, w, 0, 1⟩) none := by
  refine Ideal.Spec.of_CD (n := 8) (fn := Try.f29) rfl rfl rfl rfl rfl rfl rfl fun w ok => ?_
  refine T.post [.tmp 4] ?_
  refine T.sregD 8 [0, 1, 4] fun Kr hKr => ?_
  simp only [go_sem]
  (repeat (refine ⟨by (first | exact True.intro | omega | rfl | (simp; done) | (simp; omega)), ?_⟩)); try (refine hKr _ ?_; clear hKr Kr)
  refine T.sregD 8 [0, 1, 4] fun Kr hKr => ?_
  simp only [go_sem]
  (repeat (refine ⟨by (first | exact True.intro | omega | rfl | (simp; done) | (simp; omega)), ?_⟩)); try (refine hKr _ ?_; clear hKr Kr)
  refine T.ret ?_
  simp only [go_sem]
  exact ⟨ResCellD rfl rfl rfl rfl (by simp only [go_sem]) (by simp only [go_sem]) rfl, trivial⟩
theorem wordL_spec (d s e : Int) : Ideal.Spec Try.prog 30 [.int .i64 d, .int .i64 s, .int .i64 e] (ordA ⟨d, s, e, 1, [65], 0, 0⟩) none := by
  refine Ideal.Spec.of_CD (n := 11) (fn := Try.f30) rfl rfl rfl rfl rfl rfl rfl fun w ok => ?_
  refine T.post [.tmp 6] ?_
  refine T.sregD 11 [0, 1, 2, 6] fun Kr hKr => ?_
  simp only [go_sem]
  (repeat (refine ⟨by (first | exact True.intro | omega | rfl | (simp; done) | (simp; omega)), ?_⟩)); try (refine hKr _ ?_; clear hKr Kr)
  refine T.sregD 11 [0, 1, 2, 6] fun Kr hKr => ?_
  simp only [go_sem]
  (repeat (refine ⟨by (first | exact True.intro | omega | rfl | (simp; done) | (simp; omega)), ?_⟩)); try (refine hKr _ ?_; clear hKr Kr)
  refine T.ret ?_
  simp only [go_sem]
  exact ⟨ResCellD rfl rfl rfl rfl (by simp only [go_sem]) (by simp only [go_sem]; try rfl) rfl, trivial⟩
def wordT (n : Int) : List UInt8 := if n % 4 = 0 then [65] else if n % 4 = 1 then [65, 66] else if n % 4 = 2 then [66] else [67, 49]
theorem Word24_spec (n : Int) (h : 0 ≤ n ∧ n < 256) : Ideal.Spec Try.prog 27 [.int .u8 n] (.str (wordT n)) none := by
  refine Ideal.Spec.of_TD (n := 8) (fn := Try.f27) rfl rfl rfl rfl rfl rfl rfl fun w ok => ?_
  refine T.sregD 8 [0, 2] fun Kr hKr => ?_
  simp only [go_sem]
  (repeat (refine ⟨by (first | exact True.intro | omega | rfl | (simp; done) | (simp; omega)), ?_⟩)); try (refine hKr _ ?_; clear hKr Kr)
  have hr : remv n 4 = n % 4 := remv_nn h.1
  have hv : remv n 4 = 0 ∧ wordT n = [65] ∨ remv n 4 = 1 ∧ wordT n = [65, 66] ∨ remv n 4 = 2 ∧ wordT n = [66] ∨ remv n 4 = 3 ∧ wordT n = [67, 49] := by
    rw [hr]; unfold wordT
    rcases (by omega : n % 4 = 0 ∨ n % 4 = 1 ∨ n % 4 = 2 ∨ n % 4 = 3) with e | e | e | e <;> simp [e]
  rcases hv with ⟨e, e2⟩ | ⟨e, e2⟩ | ⟨e, e2⟩ | ⟨e, e2⟩ <;>
  · rw [e2]
    refine T.sregD 8 [0, 2] fun Kr hKr => ?_
    simp only [go_sem, e]
    (repeat (refine ⟨by (first | exact True.intro | omega | rfl | (simp; done) | (simp; omega)), ?_⟩)); try (refine hKr _ ?_; clear hKr Kr)
    refine T.ret (Fin.dataD rfl rfl rfl)
end Go.Proofs
