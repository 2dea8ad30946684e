/- 'JournalLimits': lines of at most 200 bytes from 32 to 126 are accepted, and no others: the law returns true for every input, and each argument reads behind the call as it read before. No condition. -/
import Derived.Test.YthmeobfdmeepbaaRows
import Derived.Test.YthmeobfdmeepbaaCoreR
import Derived.Test.YthmeobfdmeepbaaJ10
set_option linter.unusedVariables false
set_option linter.unusedSimpArgs false
namespace Go.Proofs.Ythmeobfdmeepbaa
open Go Go.Ideal Go.RowKit Go.WideShapes Go.ChangeShapes Go.ChangeAt

theorem Try.own : ownKnob Try.prog.godebug = none := by kernel_rfl
theorem Try.laidOut : laidOutB Try.prog = true := by kernel_rfl

set_option maxRecDepth 100000 in
theorem limits_lifted (os : Os) (started : os.Started) (H : Type) (enc : TypeId × Value → H) :
    ReturnsInHanded {} Try.checked os 9 .any (Rows.journalLimitsSpec.pre6 enc Try.prog Try.f9 Rows.journalLimitsRow.domain false) (Rows.journalLimitsSpec.post enc Try.prog Try.f9 false true false false) := by
  refine law_lift (C := Try.checked) (tb := 4) Try.own started (by kernel_rfl) Try.func9
    (ChangeSpec.witness6 (enc := enc) (C := Try.checked) false ⟨#[], #[.int .u8 0, .int .u8 0], []⟩ 8 (by kernel_rfl) (by kernel_rfl) (by kernel_rfl) (by kernel_rfl))
    Try.laidOut ?_ rfl (by kernel_rfl) (by kernel_rfl) ?_
  · rw [Try.params9]
    intro t ht
    have : t = 5 := by simpa using ht
    rcases this with rfl
    all_goals exact ⟨by kernel_rfl, by decide +kernel⟩
  · intro W base args ds p hval hA
    rw [Try.params9] at hA hval
    obtain ⟨v0, v1, d0, d1, p0, p1, rfl, rfl, rfl, h0, h1⟩ := trodAll_two hA
    obtain ⟨n, w0, r0⟩ := arg_int (P := Try.prog) Try.u5 (hval 0 5 v0 rfl rfl) h0
    have w0 := wf_u8 w0
    obtain ⟨m, w1, r1⟩ := arg_int (P := Try.prog) Try.u5 (hval 1 5 v1 rfl rfl) h1
    have w1 := wf_u8 w1
    refine ⟨rfl, [_, _], Pts.cons r0 (Pts.cons r1 Pts.nil), ?_⟩
    have := limits_law (UInt8.ofNat n.toNat) (UInt8.ofNat m.toNat)
    rw [show ((UInt8.ofNat n.toNat).toNat : Int) = n by simp; omega, show ((UInt8.ofNat m.toNat).toNat : Int) = m by simp; omega] at this
    exact this

theorem limits_holds : Rows.JournalLimitsSaid :=
  OpenClaim.holds_of_wide 9 Try.f9 rfl rfl rfl rfl rfl rfl rfl ⟨rfl, rfl, rfl, rfl, rfl⟩ rfl rfl rfl rfl rfl (by kernel_rfl) Try.func9 (by kernel_rfl)
    (of_decide_eq_true (by kernel_rfl)) (by unfold Func.isWrapper; first | (rw [if_pos (by decide +kernel)]; kernel_rfl) | (rw [if_neg (by decide +kernel)]; exact ⟨rfl, rfl⟩))
    (fun os started H enc _ => limits_lifted os started H enc)
end Go.Proofs.Ythmeobfdmeepbaa
