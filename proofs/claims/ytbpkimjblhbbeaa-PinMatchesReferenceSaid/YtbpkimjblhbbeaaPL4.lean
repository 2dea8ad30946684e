/- 'PinMatchesReference': all functions return the results of the reference, and Put refuses what is not valid: the law returns true for every input, and each argument reads behind the call as it read before. No condition. -/
import Derived.Test.YtbpkimjblhbbeaaRows
import Derived.Test.YtbpkimjblhbbeaaP9
import Derived.Test.YtbpkimjblhbbeaaP13
set_option linter.unusedVariables false
set_option linter.unusedSimpArgs false
namespace Go.Proofs.Ytbpkimjblhbbeaa
open Go Go.Ideal Go.RowKit Go.WideShapes Go.ChangeShapes Go.ChangeAt

theorem Try.own : ownKnob Try.prog.godebug = none := by kernel_rfl
theorem Try.laidOut : laidOutB Try.prog = true := by kernel_rfl

set_option maxRecDepth 100000 in
theorem matches_lifted (os : Os) (started : os.Started) (H : Type) (enc : TypeId × Value → H) :
    ReturnsInHanded {} Try.checked os 3 .any (Rows.pinMatchesReferenceSpec.pre6 enc Try.prog Try.f3 Rows.pinMatchesReferenceRow.domain false) (Rows.pinMatchesReferenceSpec.post enc Try.prog Try.f3 false true false false) := by
  refine law_lift (C := Try.checked) (tb := 4) Try.own started (by kernel_rfl) Try.func3
    (ChangeSpec.witness6 (enc := enc) (C := Try.checked) false ⟨#[], #[.slice none 0 0, .slice none 0 0, .agg #[.int .i8 0, .int .i8 0, .int .i8 0, .int .i8 0]], []⟩ 8 (by kernel_rfl) (by kernel_rfl) (by kernel_rfl) (by kernel_rfl))
    Try.laidOut ?_ rfl (by kernel_rfl) (by kernel_rfl) ?_
  · rw [Try.params3]
    intro t ht
    have : t = 22 ∨ t = 24 := by simpa using ht
    rcases this with rfl | rfl
    all_goals exact ⟨by kernel_rfl, by decide +kernel⟩
  · intro W base args ds p hval hA
    rw [Try.params3] at hA hval
    obtain ⟨v0, v1, v2, d0, d1, d2, p0, p1, p2, rfl, rfl, rfl, h0, h1, h2⟩ := trodAll_three hA
    obtain ⟨l, r0⟩ := arg_u3s (P := Try.prog) Try.u22 Try.u42 Try.u5 Try.c5 Try.c42 (hval 0 22 v0 rfl rfl) h0
    obtain ⟨m, r1⟩ := arg_u3s (P := Try.prog) Try.u22 Try.u42 Try.u5 Try.c5 Try.c42 (hval 1 22 v1 rfl rfl) h1
    obtain ⟨ws, hl, hw, r2⟩ := arg_ints (P := Try.prog) Try.u24 Try.u23 Try.c23 Try.c24 (hval 2 24 v2 rfl rfl) h2
    obtain ⟨w0, w1, w2, w3, rfl⟩ : ∃ a b c d, ws = [a, b, c, d] := by
      match ws, hl with
      | [a, b, c, d], _ => exact ⟨a, b, c, d, rfl⟩
    have b0 := wf_i8 (hw w0 (by simp))
    have b1 := wf_i8 (hw w1 (by simp))
    have b2 := wf_i8 (hw w2 (by simp))
    have b3 := wf_i8 (hw w3 (by simp))
    refine ⟨rfl, [_, _, _], Pts.cons r0 (Pts.cons r1 (Pts.cons r2 Pts.nil)), ?_⟩
    exact matches_law l m w0 w1 w2 w3 b0 b1 b2 b3

theorem matches_holds : Rows.PinMatchesReferenceSaid :=
  OpenClaim.holds_of_wide 3 Try.f3 rfl rfl rfl rfl rfl rfl rfl ⟨rfl, rfl, rfl, rfl, rfl⟩ rfl rfl rfl rfl rfl (by kernel_rfl) Try.func3 (by kernel_rfl)
    (of_decide_eq_true (by kernel_rfl)) (by unfold Func.isWrapper; first | (rw [if_pos (by decide +kernel)]; kernel_rfl) | (rw [if_neg (by decide +kernel)]; exact ⟨rfl, rfl⟩))
    (fun os started H enc _ => matches_lifted os started H enc)
end Go.Proofs.Ytbpkimjblhbbeaa
