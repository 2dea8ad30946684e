/- 'TopSentCommitsAreUndone': commits that arrive, possibly more than once, stand in the document at their marks; the history of these commits has the same document; and a commit that is undone in it is gone, while the texts of all others remain: the law returns true for every input, and each argument reads behind the call as it read before. No condition. -/
import Derived.Test.YtdhkkdhooobdhaaRows
import Derived.Test.YtdhkkdhooobdhaaM10
import Derived.Test.YtdhkkdhooobdhaaT2
set_option linter.unusedVariables false
set_option linter.unusedSimpArgs false
namespace Go.Proofs.Ytdhkkdhooobdhaa
open Go Go.Ideal Go.RowKit Go.WideShapes Go.ChangeShapes Go.ChangeAt

theorem Try.own : ownKnob Try.prog.godebug = none := by kernel_rfl
theorem Try.laidOut : laidOutB Try.prog = true := by kernel_rfl
theorem Try.mrawF : ∀ (i ty : Nat), [5, 5, 5, 5][i]? = some ty → fieldTy Try.prog 39 i = some (i, ty) ∧ Try.prog.cellsOf ty = 1
  | 0, _, h => by cases h; exact ⟨Try.f_39_0, Try.c5⟩
  | 1, _, h => by cases h; exact ⟨Try.f_39_1, Try.c5⟩
  | 2, _, h => by cases h; exact ⟨Try.f_39_2, Try.c5⟩
  | 3, _, h => by cases h; exact ⟨Try.f_39_3, Try.c5⟩
  | _ + 4, _, h => by cases h

set_option maxRecDepth 100000 in
theorem sent_lifted (os : Os) (started : os.Started) (H : Type) (enc : TypeId × Value → H) :
    ReturnsInHanded {} Try.checked os 3 .any (Rows.topSentCommitsAreUndoneSpec.pre6 enc Try.prog Try.f3 Rows.topSentCommitsAreUndoneRow.domain false) (Rows.topSentCommitsAreUndoneSpec.post enc Try.prog Try.f3 false true false false) := by
  refine law_lift (C := Try.checked) (tb := 4) Try.own started (by kernel_rfl) Try.func3
    (ChangeSpec.witness6 (enc := enc) (C := Try.checked) false ⟨#[], #[.slice none 0 0, .int .u8 0], []⟩ 8 (by kernel_rfl) (by kernel_rfl) (by kernel_rfl) (by kernel_rfl))
    Try.laidOut ?_ rfl (by kernel_rfl) (by kernel_rfl) ?_
  · rw [Try.params3]
    intro t ht
    have : t = 22 ∨ t = 5 := by simpa using ht
    rcases this with rfl | rfl
    all_goals exact ⟨by kernel_rfl, by decide +kernel⟩
  · intro W base args ds p hval hA
    rw [Try.params3] at hA hval
    obtain ⟨v0, v1, d0, d1, p0, p1, rfl, rfl, rfl, h0, h1⟩ := trodAll_two hA
    obtain ⟨l, r0⟩ := arg_mraws (P := Try.prog) Try.u22 ⟨_, rfl, rfl⟩ Try.c39 Try.mrawF Try.u5 (hval 0 22 v0 rfl rfl) h0
    obtain ⟨c, w1, r1⟩ := arg_int (P := Try.prog) Try.u5 (hval 1 5 v1 rfl rfl) h1
    have w1 := wf_u8 w1
    refine ⟨rfl, [_, _], Pts.cons r0 (Pts.cons r1 Pts.nil), ?_⟩
    have := sent_law l (UInt8.ofNat c.toNat)
    rw [show ((UInt8.ofNat c.toNat).toNat : Int) = c by simp; omega] at this
    exact this

theorem sent_holds : Rows.TopSentCommitsAreUndoneSaid :=
  OpenClaim.holds_of_wide 3 Try.f3 rfl rfl rfl rfl rfl rfl rfl ⟨rfl, rfl, rfl, rfl, rfl⟩ rfl rfl rfl rfl rfl (by kernel_rfl) Try.func3 (by kernel_rfl)
    (of_decide_eq_true (by kernel_rfl)) (by unfold Func.isWrapper; first | (rw [if_pos (by decide +kernel)]; kernel_rfl) | (rw [if_neg (by decide +kernel)]; exact ⟨rfl, rfl⟩))
    (fun os started H enc _ => sent_lifted os started H enc)
end Go.Proofs.Ytdhkkdhooobdhaa
