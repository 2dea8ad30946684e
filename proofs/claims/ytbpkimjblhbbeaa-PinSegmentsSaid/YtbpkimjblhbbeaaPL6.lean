/- 'PinSegments': pinning all segments of a way, with its words, leaves this way alone; without the words, the ways that remain have the same segments: the law returns true for every input, and each argument reads behind the call as it read before. No condition. -/
import Derived.Test.YtbpkimjblhbbeaaRows
import Derived.Test.YtbpkimjblhbbeaaP9
import Derived.Test.YtbpkimjblhbbeaaP17
set_option linter.unusedVariables false
set_option linter.unusedSimpArgs false
namespace Go.Proofs.Ytbpkimjblhbbeaa
open Go Go.Ideal Go.RowKit Go.WideShapes Go.ChangeShapes Go.ChangeAt

theorem Try.own : ownKnob Try.prog.godebug = none := by kernel_rfl
theorem Try.laidOut : laidOutB Try.prog = true := by kernel_rfl

set_option maxRecDepth 100000 in
theorem segments_lifted (os : Os) (started : os.Started) (H : Type) (enc : TypeId × Value → H) :
    ReturnsInHanded {} Try.checked os 8 .any (Rows.pinSegmentsSpec.pre6 enc Try.prog Try.f8 Rows.pinSegmentsRow.domain false) (Rows.pinSegmentsSpec.post enc Try.prog Try.f8 false true false false) := by
  refine law_lift (C := Try.checked) (tb := 4) Try.own started (by kernel_rfl) Try.func8
    (ChangeSpec.witness6 (enc := enc) (C := Try.checked) false ⟨#[], #[.slice none 0 0, .agg #[.int .u8 0, .int .u8 0]], []⟩ 8 (by kernel_rfl) (by kernel_rfl) (by kernel_rfl) (by kernel_rfl))
    Try.laidOut ?_ rfl (by kernel_rfl) (by kernel_rfl) ?_
  · rw [Try.params8]
    intro t ht
    have : t = 22 ∨ t = 54 := by simpa using ht
    rcases this with rfl | rfl
    all_goals exact ⟨by kernel_rfl, by decide +kernel⟩
  · intro W base args ds p hval hA
    rw [Try.params8] at hA hval
    obtain ⟨v0, v1, d0, d1, p0, p1, rfl, rfl, rfl, h0, h1⟩ := trodAll_two hA
    obtain ⟨m, r0⟩ := arg_u3s (P := Try.prog) Try.u22 Try.u42 Try.u5 Try.c5 Try.c42 (hval 0 22 v0 rfl rfl) h0
    obtain ⟨c, c', w1a, w1b, r1⟩ := arg_pair (P := Try.prog) Try.u54 Try.u5 Try.c5 Try.c54 (hval 1 54 v1 rfl rfl) h1
    have w1a := wf_u8 w1a
    have w1b := wf_u8 w1b
    refine ⟨rfl, [_, _], Pts.cons r0 (Pts.cons r1 Pts.nil), ?_⟩
    have := segments_law m (UInt8.ofNat c.toNat) (UInt8.ofNat c'.toNat)
    rw [show ((UInt8.ofNat c.toNat).toNat : Int) = c by simp; omega, show ((UInt8.ofNat c'.toNat).toNat : Int) = c' by simp; omega] at this
    exact this

theorem segments_holds : Rows.PinSegmentsSaid :=
  OpenClaim.holds_of_wide 8 Try.f8 rfl rfl rfl rfl rfl rfl rfl ⟨rfl, rfl, rfl, rfl, rfl⟩ rfl rfl rfl rfl rfl (by kernel_rfl) Try.func8 (by kernel_rfl)
    (of_decide_eq_true (by kernel_rfl)) (by unfold Func.isWrapper; first | (rw [if_pos (by decide +kernel)]; kernel_rfl) | (rw [if_neg (by decide +kernel)]; exact ⟨rfl, rfl⟩))
    (fun os started H enc _ => segments_lifted os started H enc)
end Go.Proofs.Ytbpkimjblhbbeaa
