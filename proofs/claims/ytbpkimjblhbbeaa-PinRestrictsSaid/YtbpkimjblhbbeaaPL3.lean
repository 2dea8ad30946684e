/- 'PinRestricts': restricting twice changes no more than once; with one pin more, no more edges remain; restricting pin by pin leads to the same lattice, in any order: the law returns true for every input, and each argument reads behind the call as it read before. No condition. -/
import Derived.Test.YtbpkimjblhbbeaaRows
import Derived.Test.YtbpkimjblhbbeaaP9
import Derived.Test.YtbpkimjblhbbeaaP12
set_option linter.unusedVariables false
set_option linter.unusedSimpArgs false
namespace Go.Proofs.Ytbpkimjblhbbeaa
open Go Go.Ideal Go.RowKit Go.WideShapes Go.ChangeShapes Go.ChangeAt

theorem Try.own : ownKnob Try.prog.godebug = none := by kernel_rfl
theorem Try.laidOut : laidOutB Try.prog = true := by kernel_rfl

set_option maxRecDepth 100000 in
theorem restricts_lifted (os : Os) (started : os.Started) (H : Type) (enc : TypeId × Value → H) :
    ReturnsInHanded {} Try.checked os 6 .any (Rows.pinRestrictsSpec.pre6 enc Try.prog Try.f6 Rows.pinRestrictsRow.domain false) (Rows.pinRestrictsSpec.post enc Try.prog Try.f6 false true false false) := by
  refine law_lift (C := Try.checked) (tb := 4) Try.own started (by kernel_rfl) Try.func6
    (ChangeSpec.witness6 (enc := enc) (C := Try.checked) false ⟨#[], #[.slice none 0 0, .slice none 0 0, .agg #[.int .u8 0, .int .u8 0]], []⟩ 8 (by kernel_rfl) (by kernel_rfl) (by kernel_rfl) (by kernel_rfl))
    Try.laidOut ?_ rfl (by kernel_rfl) (by kernel_rfl) ?_
  · rw [Try.params6]
    intro t ht
    have : t = 22 ∨ t = 54 := by simpa using ht
    rcases this with rfl | rfl
    all_goals exact ⟨by kernel_rfl, by decide +kernel⟩
  · intro W base args ds p hval hA
    rw [Try.params6] at hA hval
    obtain ⟨v0, v1, v2, d0, d1, d2, p0, p1, p2, rfl, rfl, rfl, h0, h1, h2⟩ := trodAll_three hA
    obtain ⟨l, r0⟩ := arg_u3s (P := Try.prog) Try.u22 Try.u42 Try.u5 Try.c5 Try.c42 (hval 0 22 v0 rfl rfl) h0
    obtain ⟨m, r1⟩ := arg_u3s (P := Try.prog) Try.u22 Try.u42 Try.u5 Try.c5 Try.c42 (hval 1 22 v1 rfl rfl) h1
    obtain ⟨c, c', w2a, w2b, r2⟩ := arg_pair (P := Try.prog) Try.u54 Try.u5 Try.c5 Try.c54 (hval 2 54 v2 rfl rfl) h2
    have w2a := wf_u8 w2a
    have w2b := wf_u8 w2b
    refine ⟨rfl, [_, _, _], Pts.cons r0 (Pts.cons r1 (Pts.cons r2 Pts.nil)), ?_⟩
    have := restricts_law l m (UInt8.ofNat c.toNat) (UInt8.ofNat c'.toNat)
    rw [show ((UInt8.ofNat c.toNat).toNat : Int) = c by simp; omega, show ((UInt8.ofNat c'.toNat).toNat : Int) = c' by simp; omega] at this
    exact this

theorem restricts_holds : Rows.PinRestrictsSaid :=
  OpenClaim.holds_of_wide 6 Try.f6 rfl rfl rfl rfl rfl rfl rfl ⟨rfl, rfl, rfl, rfl, rfl⟩ rfl rfl rfl rfl rfl (by kernel_rfl) Try.func6 (by kernel_rfl)
    (of_decide_eq_true (by kernel_rfl)) (by unfold Func.isWrapper; first | (rw [if_pos (by decide +kernel)]; kernel_rfl) | (rw [if_neg (by decide +kernel)]; exact ⟨rfl, rfl⟩))
    (fun os started H enc _ => restricts_lifted os started H enc)
end Go.Proofs.Ytbpkimjblhbbeaa
