/- 'UndoMatchesReference': Do, Depends, Undo and Without agree with the reference implementation: the law returns true for every input, and each argument reads behind the call as it read before. No condition. -/
import Derived.Test.YtjbflniimfmnhaaRows
import Derived.Test.YtjbflniimfmnhaaVA
import Derived.Test.YtjbflniimfmnhaaVD
set_option linter.unusedVariables false
set_option linter.unusedSimpArgs false
namespace Go.Proofs.Ytjbflniimfmnhaa
open Go Go.Ideal Go.RowKit Go.WideShapes Go.ChangeShapes Go.ChangeAt

theorem Try.own : ownKnob Try.prog.godebug = none := by kernel_rfl
theorem Try.laidOut : laidOutB Try.prog = true := by kernel_rfl
theorem Try.rawF : ∀ (i ty : Nat), [5, 5, 5, 5, 54][i]? = some ty → fieldTy Try.prog 56 i = some (i, ty) ∧ Try.prog.cellsOf ty = 1
  | 0, _, h => by cases h; exact ⟨Try.f_56_0, Try.c5⟩
  | 1, _, h => by cases h; exact ⟨Try.f_56_1, Try.c5⟩
  | 2, _, h => by cases h; exact ⟨Try.f_56_2, Try.c5⟩
  | 3, _, h => by cases h; exact ⟨Try.f_56_3, Try.c5⟩
  | 4, _, h => by cases h; exact ⟨Try.f_56_4, Try.c54⟩
  | _ + 5, _, h => by cases h
set_option maxRecDepth 100000 in
theorem Try.urawF : UrawTy Try.prog 58 := ⟨⟨_, rfl⟩, Try.c58, 5, 4, 56, 54, 5, Try.f_58_0, Try.f_58_1, Try.f_58_2, Try.u5, Try.c5, Try.u4, Try.c4, ⟨_, rfl, rfl⟩, Try.c56, Try.rawF, Try.u54, Try.u5, Try.c5⟩
theorem Try.editF : ∀ (i ty : Nat), [3, 3, 3, 3, 9][i]? = some ty → fieldTy Try.prog 31 i = some (i, ty) ∧ Try.prog.cellsOf ty = 1
  | 0, _, h => by cases h; exact ⟨Try.f_31_0, Try.c3⟩
  | 1, _, h => by cases h; exact ⟨Try.f_31_1, Try.c3⟩
  | 2, _, h => by cases h; exact ⟨Try.f_31_2, Try.c3⟩
  | 3, _, h => by cases h; exact ⟨Try.f_31_3, Try.c3⟩
  | 4, _, h => by cases h; exact ⟨Try.f_31_4, Try.c9⟩
  | _ + 5, _, h => by cases h
set_option maxRecDepth 100000 in
theorem Try.stpF : StpTy Try.prog 33 := ⟨⟨_, rfl⟩, Try.c33, 3, 4, 31, 9, Try.f_33_0, Try.f_33_1, Try.f_33_2, Try.f_33_3, Try.u3, Try.c3, Try.u4, Try.c4, ⟨_, rfl, rfl⟩, Try.c31, Try.editF, Try.u9⟩

set_option maxRecDepth 100000 in
theorem umatches_lifted (os : Os) (started : os.Started) (H : Type) (enc : TypeId × Value → H) :
    ReturnsInHanded {} Try.checked os 8 .any (Rows.undoMatchesReferenceSpec.pre6 enc Try.prog Try.f8 Rows.undoMatchesReferenceRow.domain false) (Rows.undoMatchesReferenceSpec.post enc Try.prog Try.f8 false true false false) := by
  refine law_lift (C := Try.checked) (tb := 4) Try.own started (by kernel_rfl) Try.func8
    (ChangeSpec.witness6 (enc := enc) (C := Try.checked) false ⟨#[], #[.slice none 0 0, .agg #[.int .i64 0, .int .i64 0, .int .i64 0, .int .i64 0, .int .i64 0, .int .i64 0, .string ⟨#[]⟩, .bool false], .agg #[.int .i8 0, .int .i8 0]], []⟩ 8 (by kernel_rfl) (by kernel_rfl) (by kernel_rfl) (by kernel_rfl))
    Try.laidOut ?_ rfl (by kernel_rfl) (by kernel_rfl) ?_
  · rw [Try.params8]
    intro t ht
    have : t = 22 ∨ t = 33 ∨ t = 65 := by simpa using ht
    rcases this with rfl | rfl | rfl
    all_goals exact ⟨by kernel_rfl, by decide +kernel⟩
  · intro W base args ds p hval hA
    rw [Try.params8] at hA hval
    obtain ⟨v0, v1, v2, d0, d1, d2, p0, p1, p2, rfl, rfl, rfl, h0, h1, h2⟩ := trodAll_three hA
    obtain ⟨l, r0⟩ := arg_uraws (P := Try.prog) Try.u22 Try.urawF (hval 0 22 v0 rfl rfl) h0
    obtain ⟨s, r1⟩ := arg_stp (P := Try.prog) Try.stpF (hval 1 33 v1 rfl rfl) h1
    obtain ⟨ws, hl, hw, r2⟩ := arg_ints (P := Try.prog) Try.u65 Try.u64 Try.c64 Try.c65 (hval 2 65 v2 rfl rfl) h2
    obtain ⟨w0, w1, rfl⟩ : ∃ a b, ws = [a, b] := by
      match ws, hl with
      | [a, b], _ => exact ⟨a, b, rfl⟩
    have b0 := wf_i8 (hw w0 (by simp))
    have b1 := wf_i8 (hw w1 (by simp))
    refine ⟨rfl, [_, _, _], Pts.cons r0 (Pts.cons r1 (Pts.cons r2 Pts.nil)), ?_⟩
    exact umatches_law l s w0 w1 b0 b1

theorem umatches_holds : Rows.UndoMatchesReferenceSaid :=
  OpenClaim.holds_of_wide 8 Try.f8 rfl rfl rfl rfl rfl rfl rfl ⟨rfl, rfl, rfl, rfl, rfl⟩ rfl rfl rfl rfl rfl (by kernel_rfl) Try.func8 (by kernel_rfl)
    (of_decide_eq_true (by kernel_rfl)) (by unfold Func.isWrapper; first | (rw [if_pos (by decide +kernel)]; kernel_rfl) | (rw [if_neg (by decide +kernel)]; exact ⟨rfl, rfl⟩))
    (fun os started H enc _ => umatches_lifted os started H enc)
end Go.Proofs.Ytjbflniimfmnhaa
