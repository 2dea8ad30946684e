/- 'UndoForgets': Without is a history in which the commit never was: the law returns true for every input, and each argument reads behind the call as it read before. No condition. -/
import Derived.Test.YtjbflniimfmnhaaRows
import Derived.Test.YtjbflniimfmnhaaVA
import Derived.Test.YtjbflniimfmnhaaVC
set_option linter.unusedVariables false
set_option linter.unusedSimpArgs false
namespace Go.Proofs.Ytjbflniimfmnhaa
open Go Go.Ideal Go.RowKit Go.WideShapes Go.ChangeShapes Go.ChangeAt

theorem Try.own : ownKnob Try.prog.godebug = none := by kernel_rfl
theorem Try.laidOut : laidOutB Try.prog = true := by kernel_rfl
theorem Try.rawF : ∀ (i ty : Nat), [5, 5, 5, 5, 54][i]? = some ty → fieldTy Try.prog 56 i = some (i, ty) ∧ Try.prog.cellsOf ty = 1
  | 0, _, h => by cases h; exact ⟨Try.f_56_0, Try.c5⟩
  | 1, _, h => by cases h; exact ⟨Try.f_56_1, Try.c5⟩
  | 2, _, h => by cases h; exact ⟨Try.f_56_2, Try.c5⟩
  | 3, _, h => by cases h; exact ⟨Try.f_56_3, Try.c5⟩
  | 4, _, h => by cases h; exact ⟨Try.f_56_4, Try.c54⟩
  | _ + 5, _, h => by cases h
set_option maxRecDepth 100000 in
theorem Try.urawF : UrawTy Try.prog 58 := ⟨⟨_, rfl⟩, Try.c58, 5, 4, 56, 54, 5, Try.f_58_0, Try.f_58_1, Try.f_58_2, Try.u5, Try.c5, Try.u4, Try.c4, ⟨_, rfl, rfl⟩, Try.c56, Try.rawF, Try.u54, Try.u5, Try.c5⟩

set_option maxRecDepth 100000 in
theorem forgets_lifted (os : Os) (started : os.Started) (H : Type) (enc : TypeId × Value → H) :
    ReturnsInHanded {} Try.checked os 9 .any (Rows.undoForgetsSpec.pre6 enc Try.prog Try.f9 Rows.undoForgetsRow.domain false) (Rows.undoForgetsSpec.post enc Try.prog Try.f9 false true false false) := by
  refine law_lift (C := Try.checked) (tb := 4) Try.own started (by kernel_rfl) Try.func9
    (ChangeSpec.witness6 (enc := enc) (C := Try.checked) false ⟨#[], #[.slice none 0 0, .int .u8 0], []⟩ 8 (by kernel_rfl) (by kernel_rfl) (by kernel_rfl) (by kernel_rfl))
    Try.laidOut ?_ rfl (by kernel_rfl) (by kernel_rfl) ?_
  · rw [Try.params9]
    intro t ht
    have : t = 22 ∨ t = 5 := by simpa using ht
    rcases this with rfl | rfl
    all_goals exact ⟨by kernel_rfl, by decide +kernel⟩
  · intro W base args ds p hval hA
    rw [Try.params9] at hA hval
    obtain ⟨v0, v1, d0, d1, p0, p1, rfl, rfl, rfl, h0, h1⟩ := trodAll_two hA
    obtain ⟨l, r0⟩ := arg_uraws (P := Try.prog) Try.u22 Try.urawF (hval 0 22 v0 rfl rfl) h0
    obtain ⟨c, w1, r1⟩ := arg_int (P := Try.prog) Try.u5 (hval 1 5 v1 rfl rfl) h1
    have w1 := wf_u8 w1
    refine ⟨rfl, [_, _], Pts.cons r0 (Pts.cons r1 Pts.nil), ?_⟩
    have := forgets_law l (UInt8.ofNat c.toNat)
    rw [show ((UInt8.ofNat c.toNat).toNat : Int) = c by simp; omega] at this
    exact this

theorem forgets_holds : Rows.UndoForgetsSaid :=
  OpenClaim.holds_of_wide 9 Try.f9 rfl rfl rfl rfl rfl rfl rfl ⟨rfl, rfl, rfl, rfl, rfl⟩ rfl rfl rfl rfl rfl (by kernel_rfl) Try.func9 (by kernel_rfl)
    (of_decide_eq_true (by kernel_rfl)) (by unfold Func.isWrapper; first | (rw [if_pos (by decide +kernel)]; kernel_rfl) | (rw [if_neg (by decide +kernel)]; exact ⟨rfl, rfl⟩))
    (fun os started H enc _ => forgets_lifted os started H enc)
end Go.Proofs.Ytjbflniimfmnhaa
