/- 'DocumentMatchesReference': Do, Put, Text and Carry agree with the reference implementation, for edits that are possible or not: the law returns true for every input, and each argument reads behind the call as it read before. No condition. -/
import Derived.Test.YthopljgeajllpaaRows
import Derived.Test.YthopljgeajllpaaD10
import Derived.Test.YthopljgeajllpaaD13
set_option linter.unusedVariables false
set_option linter.unusedSimpArgs false
namespace Go.Proofs.Ythopljgeajllpaa
open Go Go.Ideal Go.RowKit Go.WideShapes Go.ChangeShapes Go.ChangeAt

theorem Try.own : ownKnob Try.prog.godebug = none := by kernel_rfl
theorem Try.laidOut : laidOutB Try.prog = true := by kernel_rfl
theorem Try.rawF : ∀ (i ty : Nat), [5, 5, 5, 5, 35][i]? = some ty → fieldTy Try.prog 37 i = some (i, ty) ∧ Try.prog.cellsOf ty = 1
  | 0, _, h => by cases h; exact ⟨Try.f_37_0, Try.c5⟩
  | 1, _, h => by cases h; exact ⟨Try.f_37_1, Try.c5⟩
  | 2, _, h => by cases h; exact ⟨Try.f_37_2, Try.c5⟩
  | 3, _, h => by cases h; exact ⟨Try.f_37_3, Try.c5⟩
  | 4, _, h => by cases h; exact ⟨Try.f_37_4, Try.c35⟩
  | _ + 5, _, h => by cases h
theorem Try.editF : ∀ (i ty : Nat), [3, 3, 3, 3, 9][i]? = some ty → fieldTy Try.prog 39 i = some (i, ty) ∧ Try.prog.cellsOf ty = 1
  | 0, _, h => by cases h; exact ⟨Try.f_39_0, Try.c3⟩
  | 1, _, h => by cases h; exact ⟨Try.f_39_1, Try.c3⟩
  | 2, _, h => by cases h; exact ⟨Try.f_39_2, Try.c3⟩
  | 3, _, h => by cases h; exact ⟨Try.f_39_3, Try.c3⟩
  | 4, _, h => by cases h; exact ⟨Try.f_39_4, Try.c9⟩
  | _ + 5, _, h => by cases h

set_option maxRecDepth 100000 in
theorem matches_lifted (os : Os) (started : os.Started) (H : Type) (enc : TypeId × Value → H) :
    ReturnsInHanded {} Try.checked os 8 .any (Rows.documentMatchesReferenceSpec.pre6 enc Try.prog Try.f8 Rows.documentMatchesReferenceRow.domain false) (Rows.documentMatchesReferenceSpec.post enc Try.prog Try.f8 false true false false) := by
  refine law_lift (C := Try.checked) (tb := 4) Try.own started (by kernel_rfl) Try.func8
    (ChangeSpec.witness6 (enc := enc) (C := Try.checked) false ⟨#[], #[.slice none 0 0, .agg #[.int .i64 0, .int .i64 0, .int .i64 0, .int .i64 0, .string ⟨#[]⟩], .agg #[.int .i16 0, .int .i16 0, .int .i16 0]], []⟩ 8 (by kernel_rfl) (by kernel_rfl) (by kernel_rfl) (by kernel_rfl))
    Try.laidOut ?_ rfl (by kernel_rfl) (by kernel_rfl) ?_
  · rw [Try.params8]
    intro t ht
    have : t = 22 ∨ t = 39 ∨ t = 24 := by simpa using ht
    rcases this with rfl | rfl | rfl
    all_goals exact ⟨by kernel_rfl, by decide +kernel⟩
  · intro W base args ds p hval hA
    rw [Try.params8] at hA hval
    obtain ⟨v0, v1, v2, d0, d1, d2, p0, p1, p2, rfl, rfl, rfl, h0, h1, h2⟩ := trodAll_three hA
    obtain ⟨l, r0⟩ := arg_raws (P := Try.prog) Try.u22 ⟨_, rfl, rfl⟩ Try.c37 Try.rawF Try.u5 Try.u35 Try.u5 Try.c5 (hval 0 22 v0 rfl rfl) h0
    obtain ⟨e, r1⟩ := arg_edit (P := Try.prog) ⟨_, rfl, rfl⟩ Try.c39 Try.editF Try.u3 Try.u9 (hval 1 39 v1 rfl rfl) h1
    obtain ⟨ws, hl, hw, r2⟩ := arg_ints (P := Try.prog) Try.u24 Try.u23 Try.c23 Try.c24 (hval 2 24 v2 rfl rfl) h2
    obtain ⟨w0, w1, w2, rfl⟩ : ∃ a b c, ws = [a, b, c] := by
      match ws, hl with
      | [a, b, c], _ => exact ⟨a, b, c, rfl⟩
    have b0 := wf_i16 (hw w0 (by simp))
    have b1 := wf_i16 (hw w1 (by simp))
    have b2 := wf_i16 (hw w2 (by simp))
    refine ⟨rfl, [_, _, _], Pts.cons r0 (Pts.cons r1 (Pts.cons r2 Pts.nil)), ?_⟩
    exact matches_law l e w0 w1 w2 b0 b1 b2

theorem matches_holds : Rows.DocumentMatchesReferenceSaid :=
  OpenClaim.holds_of_wide 8 Try.f8 rfl rfl rfl rfl rfl rfl rfl ⟨rfl, rfl, rfl, rfl, rfl⟩ rfl rfl rfl rfl rfl (by kernel_rfl) Try.func8 (by kernel_rfl)
    (of_decide_eq_true (by kernel_rfl)) (by unfold Func.isWrapper; first | (rw [if_pos (by decide +kernel)]; kernel_rfl) | (rw [if_neg (by decide +kernel)]; exact ⟨rfl, rfl⟩))
    (fun os started H enc _ => matches_lifted os started H enc)
end Go.Proofs.Ythopljgeajllpaa
