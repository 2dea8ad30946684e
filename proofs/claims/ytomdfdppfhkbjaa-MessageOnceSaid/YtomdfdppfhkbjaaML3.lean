/- 'MessageOnce': each commit is in its document at most once: the law returns true for every input, and each argument reads behind the call as it read before. No condition. -/
import Derived.Test.YtomdfdppfhkbjaaRows
import Derived.Test.YtomdfdppfhkbjaaM10
import Derived.Test.YtomdfdppfhkbjaaMA
set_option linter.unusedVariables false
set_option linter.unusedSimpArgs false
namespace Go.Proofs.Ytomdfdppfhkbjaa
open Go Go.Ideal Go.RowKit Go.WideShapes Go.ChangeShapes Go.ChangeAt

theorem Try.own : ownKnob Try.prog.godebug = none := by kernel_rfl
theorem Try.laidOut : laidOutB Try.prog = true := by kernel_rfl
theorem Try.mrawF : ∀ (i ty : Nat), [5, 5, 5, 5][i]? = some ty → fieldTy Try.prog 32 i = some (i, ty) ∧ Try.prog.cellsOf ty = 1
  | 0, _, h => by cases h; exact ⟨Try.f_32_0, Try.c5⟩
  | 1, _, h => by cases h; exact ⟨Try.f_32_1, Try.c5⟩
  | 2, _, h => by cases h; exact ⟨Try.f_32_2, Try.c5⟩
  | 3, _, h => by cases h; exact ⟨Try.f_32_3, Try.c5⟩
  | _ + 4, _, h => by cases h

set_option maxRecDepth 100000 in
theorem once_lifted (os : Os) (started : os.Started) (H : Type) (enc : TypeId × Value → H) :
    ReturnsInHanded {} Try.checked os 3 .any (Rows.messageOnceSpec.pre6 enc Try.prog Try.f3 Rows.messageOnceRow.domain false) (Rows.messageOnceSpec.post enc Try.prog Try.f3 false true false false) := by
  refine law_lift (C := Try.checked) (tb := 4) Try.own started (by kernel_rfl) Try.func3
    (ChangeSpec.witness6 (enc := enc) (C := Try.checked) false ⟨#[], #[.slice none 0 0], []⟩ 8 (by kernel_rfl) (by kernel_rfl) (by kernel_rfl) (by kernel_rfl))
    Try.laidOut ?_ rfl (by kernel_rfl) (by kernel_rfl) ?_
  · rw [Try.params3]
    intro t ht
    have : t = 22 := by simpa using ht
    rcases this with rfl
    all_goals exact ⟨by kernel_rfl, by decide +kernel⟩
  · intro W base args ds p hval hA
    rw [Try.params3] at hA hval
    obtain ⟨v0, d0, rfl, rfl, h0⟩ := trodAll_one hA
    obtain ⟨l, r0⟩ := arg_mraws (P := Try.prog) Try.u22 ⟨_, rfl, rfl⟩ Try.c32 Try.mrawF Try.u5 (hval 0 22 v0 rfl rfl) h0
    refine ⟨rfl, [_], Pts.cons r0 Pts.nil, ?_⟩
    exact once_law l

theorem once_holds : Rows.MessageOnceSaid :=
  OpenClaim.holds_of_wide 3 Try.f3 rfl rfl rfl rfl rfl rfl rfl ⟨rfl, rfl, rfl, rfl, rfl⟩ rfl rfl rfl rfl rfl (by kernel_rfl) Try.func3 (by kernel_rfl)
    (of_decide_eq_true (by kernel_rfl)) (by unfold Func.isWrapper; first | (rw [if_pos (by decide +kernel)]; kernel_rfl) | (rw [if_neg (by decide +kernel)]; exact ⟨rfl, rfl⟩))
    (fun os started H enc _ => once_lifted os started H enc)
end Go.Proofs.Ytomdfdppfhkbjaa
