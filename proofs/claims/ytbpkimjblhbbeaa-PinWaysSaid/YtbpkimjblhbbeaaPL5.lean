/- 'PinWays': the ways through a restricted lattice are exactly those through the lattice that have each pin as a segment, with its word, by going through all ways: the law returns true for every input, and each argument reads behind the call as it read before. No condition. -/
import Derived.Test.YtbpkimjblhbbeaaRows
import Derived.Test.YtbpkimjblhbbeaaP9
import Derived.Test.YtbpkimjblhbbeaaP16
set_option linter.unusedVariables false
set_option linter.unusedSimpArgs false
namespace Go.Proofs.Ytbpkimjblhbbeaa
open Go Go.Ideal Go.RowKit Go.WideShapes Go.ChangeShapes Go.ChangeAt

theorem Try.own : ownKnob Try.prog.godebug = none := by kernel_rfl
theorem Try.laidOut : laidOutB Try.prog = true := by kernel_rfl

set_option maxRecDepth 100000 in
theorem ways_lifted (os : Os) (started : os.Started) (H : Type) (enc : TypeId × Value → H) :
    ReturnsInHanded {} Try.checked os 5 .any (Rows.pinWaysSpec.pre6 enc Try.prog Try.f5 Rows.pinWaysRow.domain false) (Rows.pinWaysSpec.post enc Try.prog Try.f5 false true false false) := by
  refine law_lift (C := Try.checked) (tb := 4) Try.own started (by kernel_rfl) Try.func5
    (ChangeSpec.witness6 (enc := enc) (C := Try.checked) false ⟨#[], #[.slice none 0 0, .slice none 0 0, .int .u8 0], []⟩ 8 (by kernel_rfl) (by kernel_rfl) (by kernel_rfl) (by kernel_rfl))
    Try.laidOut ?_ rfl (by kernel_rfl) (by kernel_rfl) ?_
  · rw [Try.params5]
    intro t ht
    have : t = 22 ∨ t = 5 := by simpa using ht
    rcases this with rfl | rfl
    all_goals exact ⟨by kernel_rfl, by decide +kernel⟩
  · intro W base args ds p hval hA
    rw [Try.params5] at hA hval
    obtain ⟨v0, v1, v2, d0, d1, d2, p0, p1, p2, rfl, rfl, rfl, h0, h1, h2⟩ := trodAll_three hA
    obtain ⟨l, r0⟩ := arg_u3s (P := Try.prog) Try.u22 Try.u42 Try.u5 Try.c5 Try.c42 (hval 0 22 v0 rfl rfl) h0
    obtain ⟨m, r1⟩ := arg_u3s (P := Try.prog) Try.u22 Try.u42 Try.u5 Try.c5 Try.c42 (hval 1 22 v1 rfl rfl) h1
    obtain ⟨c, w2, r2⟩ := arg_int (P := Try.prog) Try.u5 (hval 2 5 v2 rfl rfl) h2
    have w2 := wf_u8 w2
    refine ⟨rfl, [_, _, _], Pts.cons r0 (Pts.cons r1 (Pts.cons r2 Pts.nil)), ?_⟩
    have := ways_law l m (UInt8.ofNat c.toNat)
    rw [show ((UInt8.ofNat c.toNat).toNat : Int) = c by simp; omega] at this
    exact this

theorem ways_holds : Rows.PinWaysSaid :=
  OpenClaim.holds_of_wide 5 Try.f5 rfl rfl rfl rfl rfl rfl rfl ⟨rfl, rfl, rfl, rfl, rfl⟩ rfl rfl rfl rfl rfl (by kernel_rfl) Try.func5 (by kernel_rfl)
    (of_decide_eq_true (by kernel_rfl)) (by unfold Func.isWrapper; first | (rw [if_pos (by decide +kernel)]; kernel_rfl) | (rw [if_neg (by decide +kernel)]; exact ⟨rfl, rfl⟩))
    (fun os started H enc _ => ways_lifted os started H enc)
end Go.Proofs.Ytbpkimjblhbbeaa
