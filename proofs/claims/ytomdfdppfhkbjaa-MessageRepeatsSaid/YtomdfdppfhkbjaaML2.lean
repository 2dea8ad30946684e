/- 'MessageRepeats': the same step again: the law returns true for every input, and each argument reads behind the call as it read before. No condition. -/
import Derived.Test.YtomdfdppfhkbjaaRows
import Derived.Test.YtomdfdppfhkbjaaM10
import Derived.Test.YtomdfdppfhkbjaaMC
set_option linter.unusedVariables false
set_option linter.unusedSimpArgs false
namespace Go.Proofs.Ytomdfdppfhkbjaa
open Go Go.Ideal Go.RowKit Go.WideShapes Go.ChangeShapes Go.ChangeAt

theorem Try.own : ownKnob Try.prog.godebug = none := by kernel_rfl
theorem Try.laidOut : laidOutB Try.prog = true := by kernel_rfl
theorem Try.mrawF : ∀ (i ty : Nat), [5, 5, 5, 5][i]? = some ty → fieldTy Try.prog 32 i = some (i, ty) ∧ Try.prog.cellsOf ty = 1
  | 0, _, h => by cases h; exact ⟨Try.f_32_0, Try.c5⟩
  | 1, _, h => by cases h; exact ⟨Try.f_32_1, Try.c5⟩
  | 2, _, h => by cases h; exact ⟨Try.f_32_2, Try.c5⟩
  | 3, _, h => by cases h; exact ⟨Try.f_32_3, Try.c5⟩
  | _ + 4, _, h => by cases h

set_option maxRecDepth 100000 in
theorem repeats_lifted (os : Os) (started : os.Started) (H : Type) (enc : TypeId × Value → H) :
    ReturnsInHanded {} Try.checked os 5 .any (Rows.messageRepeatsSpec.pre6 enc Try.prog Try.f5 Rows.messageRepeatsRow.domain false) (Rows.messageRepeatsSpec.post enc Try.prog Try.f5 false true false false) := by
  refine law_lift (C := Try.checked) (tb := 4) Try.own started (by kernel_rfl) Try.func5
    (ChangeSpec.witness6 (enc := enc) (C := Try.checked) false ⟨#[], #[.slice none 0 0, .agg #[.int .u8 0, .int .u8 0, .int .u8 0, .int .u8 0]], []⟩ 8 (by kernel_rfl) (by kernel_rfl) (by kernel_rfl) (by kernel_rfl))
    Try.laidOut ?_ rfl (by kernel_rfl) (by kernel_rfl) ?_
  · rw [Try.params5]
    intro t ht
    have : t = 22 ∨ t = 32 := by simpa using ht
    rcases this with rfl | rfl
    all_goals exact ⟨by kernel_rfl, by decide +kernel⟩
  · intro W base args ds p hval hA
    rw [Try.params5] at hA hval
    obtain ⟨v0, v1, d0, d1, p0, p1, rfl, rfl, rfl, h0, h1⟩ := trodAll_two hA
    obtain ⟨l, r0⟩ := arg_mraws (P := Try.prog) Try.u22 ⟨_, rfl, rfl⟩ Try.c32 Try.mrawF Try.u5 (hval 0 22 v0 rfl rfl) h0
    obtain ⟨x, r1⟩ := arg_mraw (P := Try.prog) ⟨_, rfl, rfl⟩ Try.c32 Try.mrawF Try.u5 (hval 1 32 v1 rfl rfl) h1
    refine ⟨rfl, [_, _], Pts.cons r0 (Pts.cons r1 Pts.nil), ?_⟩
    exact repeats_law l x

theorem repeats_holds : Rows.MessageRepeatsSaid :=
  OpenClaim.holds_of_wide 5 Try.f5 rfl rfl rfl rfl rfl rfl rfl ⟨rfl, rfl, rfl, rfl, rfl⟩ rfl rfl rfl rfl rfl (by kernel_rfl) Try.func5 (by kernel_rfl)
    (of_decide_eq_true (by kernel_rfl)) (by unfold Func.isWrapper; first | (rw [if_pos (by decide +kernel)]; kernel_rfl) | (rw [if_neg (by decide +kernel)]; exact ⟨rfl, rfl⟩))
    (fun os started H enc _ => repeats_lifted os started H enc)
end Go.Proofs.Ytomdfdppfhkbjaa
