/- 'TopUndoneCommitsLeaveTheRest': undoing a commit takes exactly its text out of its document; the texts of all other marks remain, and doing the steps that remain from nothing leads to the same documents: the law returns true for every input, and each argument reads behind the call as it read before. No condition. -/
import Derived.Test.YtdhkkdhooobdhaaRows
import Derived.Test.YtdhkkdhooobdhaaVA
import Derived.Test.YtdhkkdhooobdhaaT4
set_option linter.unusedVariables false
set_option linter.unusedSimpArgs false
namespace Go.Proofs.Ytdhkkdhooobdhaa
open Go Go.Ideal Go.RowKit Go.WideShapes Go.ChangeShapes Go.ChangeAt

theorem Try.own : ownKnob Try.prog.godebug = none := by kernel_rfl
theorem Try.laidOut : laidOutB Try.prog = true := by kernel_rfl
theorem Try.rawF : ∀ (i ty : Nat), [5, 5, 5, 5, 91][i]? = some ty → fieldTy Try.prog 93 i = some (i, ty) ∧ Try.prog.cellsOf ty = 1
  | 0, _, h => by cases h; exact ⟨Try.f_93_0, Try.c5⟩
  | 1, _, h => by cases h; exact ⟨Try.f_93_1, Try.c5⟩
  | 2, _, h => by cases h; exact ⟨Try.f_93_2, Try.c5⟩
  | 3, _, h => by cases h; exact ⟨Try.f_93_3, Try.c5⟩
  | 4, _, h => by cases h; exact ⟨Try.f_93_4, Try.c91⟩
  | _ + 5, _, h => by cases h
set_option maxRecDepth 100000 in
theorem Try.urawF : UrawTy Try.prog 95 := ⟨⟨_, rfl⟩, Try.c95, 5, 4, 93, 91, 5, Try.f_95_0, Try.f_95_1, Try.f_95_2, Try.u5, Try.c5, Try.u4, Try.c4, ⟨_, rfl, rfl⟩, Try.c93, Try.rawF, Try.u91, Try.u5, Try.c5⟩

set_option maxRecDepth 100000 in
theorem undoneTop_lifted (os : Os) (started : os.Started) (H : Type) (enc : TypeId × Value → H) :
    ReturnsInHanded {} Try.checked os 4 .any (Rows.topUndoneCommitsLeaveTheRestSpec.pre6 enc Try.prog Try.f4 Rows.topUndoneCommitsLeaveTheRestRow.domain false) (Rows.topUndoneCommitsLeaveTheRestSpec.post enc Try.prog Try.f4 false true false false) := by
  refine law_lift (C := Try.checked) (tb := 4) Try.own started (by kernel_rfl) Try.func4
    (ChangeSpec.witness6 (enc := enc) (C := Try.checked) false ⟨#[], #[.slice none 0 0, .int .u8 0], []⟩ 8 (by kernel_rfl) (by kernel_rfl) (by kernel_rfl) (by kernel_rfl))
    Try.laidOut ?_ rfl (by kernel_rfl) (by kernel_rfl) ?_
  · rw [Try.params4]
    intro t ht
    have : t = 58 ∨ t = 5 := by simpa using ht
    rcases this with rfl | rfl
    all_goals exact ⟨by kernel_rfl, by decide +kernel⟩
  · intro W base args ds p hval hA
    rw [Try.params4] at hA hval
    obtain ⟨v0, v1, d0, d1, p0, p1, rfl, rfl, rfl, h0, h1⟩ := trodAll_two hA
    obtain ⟨l, r0⟩ := arg_uraws (P := Try.prog) Try.u58 Try.urawF (hval 0 58 v0 rfl rfl) h0
    obtain ⟨c, w1, r1⟩ := arg_int (P := Try.prog) Try.u5 (hval 1 5 v1 rfl rfl) h1
    have w1 := wf_u8 w1
    refine ⟨rfl, [_, _], Pts.cons r0 (Pts.cons r1 Pts.nil), ?_⟩
    have := undoneTop_law l (UInt8.ofNat c.toNat)
    rw [show ((UInt8.ofNat c.toNat).toNat : Int) = c by simp; omega] at this
    exact this

theorem undoneTop_holds : Rows.TopUndoneCommitsLeaveTheRestSaid :=
  OpenClaim.holds_of_wide 4 Try.f4 rfl rfl rfl rfl rfl rfl rfl ⟨rfl, rfl, rfl, rfl, rfl⟩ rfl rfl rfl rfl rfl (by kernel_rfl) Try.func4 (by kernel_rfl)
    (of_decide_eq_true (by kernel_rfl)) (by unfold Func.isWrapper; first | (rw [if_pos (by decide +kernel)]; kernel_rfl) | (rw [if_neg (by decide +kernel)]; exact ⟨rfl, rfl⟩))
    (fun os started H enc _ => undoneTop_lifted os started H enc)
end Go.Proofs.Ytdhkkdhooobdhaa
