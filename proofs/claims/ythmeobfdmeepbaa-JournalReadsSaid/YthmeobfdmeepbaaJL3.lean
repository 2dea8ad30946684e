/- 'JournalReads': lines that are put into an empty journal are read, and nothing else: the law returns true for every input, and each argument reads behind the call as it read before. No condition. -/
import Derived.Test.YthmeobfdmeepbaaRows
import Derived.Test.YthmeobfdmeepbaaCoreR
import Derived.Test.YthmeobfdmeepbaaJ9
set_option linter.unusedVariables false
set_option linter.unusedSimpArgs false
namespace Go.Proofs.Ythmeobfdmeepbaa
open Go Go.Ideal Go.RowKit Go.WideShapes Go.ChangeShapes Go.ChangeAt

theorem Try.own : ownKnob Try.prog.godebug = none := by kernel_rfl
theorem Try.laidOut : laidOutB Try.prog = true := by kernel_rfl

set_option maxRecDepth 100000 in
theorem reads_lifted (os : Os) (started : os.Started) (H : Type) (enc : TypeId × Value → H) :
    ReturnsInHanded {} Try.checked os 4 .any (Rows.journalReadsSpec.pre6 enc Try.prog Try.f4 Rows.journalReadsRow.domain false) (Rows.journalReadsSpec.post enc Try.prog Try.f4 false true false false) := by
  refine law_lift (C := Try.checked) (tb := 4) Try.own started (by kernel_rfl) Try.func4
    (ChangeSpec.witness6 (enc := enc) (C := Try.checked) false ⟨#[], #[.slice none 0 0], []⟩ 8 (by kernel_rfl) (by kernel_rfl) (by kernel_rfl) (by kernel_rfl))
    Try.laidOut ?_ rfl (by kernel_rfl) (by kernel_rfl) ?_
  · rw [Try.params4]
    intro t ht
    have : t = 22 := by simpa using ht
    rcases this with rfl
    all_goals exact ⟨by kernel_rfl, by decide +kernel⟩
  · intro W base args ds p hval hA
    rw [Try.params4] at hA hval
    obtain ⟨v0, d0, rfl, rfl, h0⟩ := trodAll_one hA
    obtain ⟨l, _, r0⟩ := arg_rows (P := Try.prog) Try.u22 Try.u23 Try.u5 Try.c23 Try.c5 (hval 0 22 v0 rfl rfl) h0
    refine ⟨rfl, [_], Pts.cons r0 Pts.nil, ?_⟩
    exact reads_law l

theorem reads_holds : Rows.JournalReadsSaid :=
  OpenClaim.holds_of_wide 4 Try.f4 rfl rfl rfl rfl rfl rfl rfl ⟨rfl, rfl, rfl, rfl, rfl⟩ rfl rfl rfl rfl rfl (by kernel_rfl) Try.func4 (by kernel_rfl)
    (of_decide_eq_true (by kernel_rfl)) (by unfold Func.isWrapper; first | (rw [if_pos (by decide +kernel)]; kernel_rfl) | (rw [if_neg (by decide +kernel)]; exact ⟨rfl, rfl⟩))
    (fun os started H enc _ => reads_lifted os started H enc)
end Go.Proofs.Ythmeobfdmeepbaa
