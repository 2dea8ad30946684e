/- 'JournalMatchesReference': Put and Read agree with the reference implementation: the law returns true for every input, and each argument reads behind the call as it read before. No condition. -/
import Derived.Test.YthmeobfdmeepbaaRows
import Derived.Test.YthmeobfdmeepbaaCoreR
import Derived.Test.YthmeobfdmeepbaaJ11
set_option linter.unusedVariables false
set_option linter.unusedSimpArgs false
namespace Go.Proofs.Ythmeobfdmeepbaa
open Go Go.Ideal Go.RowKit Go.WideShapes Go.ChangeShapes Go.ChangeAt

theorem Try.own : ownKnob Try.prog.godebug = none := by kernel_rfl
theorem Try.laidOut : laidOutB Try.prog = true := by kernel_rfl

set_option maxRecDepth 100000 in
theorem matches_lifted (os : Os) (started : os.Started) (H : Type) (enc : TypeId × Value → H) :
    ReturnsInHanded {} Try.checked os 3 .any (Rows.journalMatchesReferenceSpec.pre6 enc Try.prog Try.f3 Rows.journalMatchesReferenceRow.domain false) (Rows.journalMatchesReferenceSpec.post enc Try.prog Try.f3 false true false false) := by
  refine law_lift (C := Try.checked) (tb := 4) Try.own started (by kernel_rfl) Try.func3
    (ChangeSpec.witness6 (enc := enc) (C := Try.checked) false ⟨#[], #[.slice none 0 0, .slice none 0 0, .string ⟨#[]⟩], []⟩ 8 (by kernel_rfl) (by kernel_rfl) (by kernel_rfl) (by kernel_rfl))
    Try.laidOut ?_ rfl (by kernel_rfl) (by kernel_rfl) ?_
  · rw [Try.params3]
    intro t ht
    have : t = 22 ∨ t = 23 ∨ t = 9 := by simpa using ht
    rcases this with rfl | rfl | rfl
    all_goals exact ⟨by kernel_rfl, by decide +kernel⟩
  · intro W base args ds p hval hA
    rw [Try.params3] at hA hval
    obtain ⟨v0, v1, v2, d0, d1, d2, p0, p1, p2, rfl, rfl, rfl, h0, h1, h2⟩ := trodAll_three hA
    obtain ⟨l, _, r0⟩ := arg_rows (P := Try.prog) Try.u22 Try.u23 Try.u5 Try.c23 Try.c5 (hval 0 22 v0 rfl rfl) h0
    obtain ⟨x, _, r1⟩ := arg_bytes (P := Try.prog) Try.u23 Try.u5 Try.c5 (hval 1 23 v1 rfl rfl) h1
    obtain ⟨s, _, r2⟩ := arg_str (P := Try.prog) Try.u9 (hval 2 9 v2 rfl rfl) h2
    refine ⟨rfl, [_, _, _], Pts.cons r0 (Pts.cons r1 (Pts.cons r2 Pts.nil)), ?_⟩
    exact matches_law l x s

theorem matches_holds : Rows.JournalMatchesReferenceSaid :=
  OpenClaim.holds_of_wide 3 Try.f3 rfl rfl rfl rfl rfl rfl rfl ⟨rfl, rfl, rfl, rfl, rfl⟩ rfl rfl rfl rfl rfl (by kernel_rfl) Try.func3 (by kernel_rfl)
    (of_decide_eq_true (by kernel_rfl)) (by unfold Func.isWrapper; first | (rw [if_pos (by decide +kernel)]; kernel_rfl) | (rw [if_neg (by decide +kernel)]; exact ⟨rfl, rfl⟩))
    (fun os started H enc _ => matches_lifted os started H enc)
end Go.Proofs.Ythmeobfdmeepbaa
