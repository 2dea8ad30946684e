/- 'MessageArrives': a commit that is submitted arrives, or is known to be refused, whatever is lost: the law returns true for every input, and each argument reads behind the call as it read before. No condition. -/
import Derived.Test.YtomdfdppfhkbjaaRows
import Derived.Test.YtomdfdppfhkbjaaM11
import Derived.Test.YtomdfdppfhkbjaaMD
set_option linter.unusedVariables false
set_option linter.unusedSimpArgs false
namespace Go.Proofs.Ytomdfdppfhkbjaa
open Go Go.Ideal Go.RowKit Go.WideShapes Go.ChangeShapes Go.ChangeAt

theorem Try.own : ownKnob Try.prog.godebug = none := by kernel_rfl
theorem Try.laidOut : laidOutB Try.prog = true := by kernel_rfl
theorem Try.mrawF : ∀ (i ty : Nat), [5, 5, 5, 5][i]? = some ty → fieldTy Try.prog 32 i = some (i, ty) ∧ Try.prog.cellsOf ty = 1
  | 0, _, h => by cases h; exact ⟨Try.f_32_0, Try.c5⟩
  | 1, _, h => by cases h; exact ⟨Try.f_32_1, Try.c5⟩
  | 2, _, h => by cases h; exact ⟨Try.f_32_2, Try.c5⟩
  | 3, _, h => by cases h; exact ⟨Try.f_32_3, Try.c5⟩
  | _ + 4, _, h => by cases h

set_option maxRecDepth 100000 in
theorem arrives_lifted (os : Os) (started : os.Started) (H : Type) (enc : TypeId × Value → H) :
    ReturnsInHanded {} Try.checked os 6 .any (Rows.messageArrivesSpec.pre6 enc Try.prog Try.f6 Rows.messageArrivesRow.domain false) (Rows.messageArrivesSpec.post enc Try.prog Try.f6 false true false false) := by
  refine law_lift (C := Try.checked) (tb := 4) Try.own started (by kernel_rfl) Try.func6
    (ChangeSpec.witness6 (enc := enc) (C := Try.checked) false ⟨#[], #[.slice none 0 0, .agg #[.int .u8 0, .int .u8 0, .int .u8 0, .int .u8 0], .agg #[.bool false, .bool false]], []⟩ 8 (by kernel_rfl) (by kernel_rfl) (by kernel_rfl) (by kernel_rfl))
    Try.laidOut ?_ rfl (by kernel_rfl) (by kernel_rfl) ?_
  · rw [Try.params6]
    intro t ht
    have : t = 22 ∨ t = 32 ∨ t = 57 := by simpa using ht
    rcases this with rfl | rfl | rfl
    all_goals exact ⟨by kernel_rfl, by decide +kernel⟩
  · intro W base args ds p hval hA
    rw [Try.params6] at hA hval
    obtain ⟨v0, v1, v2, d0, d1, d2, p0, p1, p2, rfl, rfl, rfl, h0, h1, h2⟩ := trodAll_three hA
    obtain ⟨l, r0⟩ := arg_mraws (P := Try.prog) Try.u22 ⟨_, rfl, rfl⟩ Try.c32 Try.mrawF Try.u5 (hval 0 22 v0 rfl rfl) h0
    obtain ⟨x, r1⟩ := arg_mraw (P := Try.prog) ⟨_, rfl, rfl⟩ Try.c32 Try.mrawF Try.u5 (hval 1 32 v1 rfl rfl) h1
    obtain ⟨b0, b1, r2⟩ := arg_bools2 (P := Try.prog) Try.u57 Try.u4 Try.c4 Try.c57 (hval 2 57 v2 rfl rfl) h2
    refine ⟨rfl, [_, _, _], Pts.cons r0 (Pts.cons r1 (Pts.cons r2 Pts.nil)), ?_⟩
    exact arrives_law l x b0 b1

theorem arrives_holds : Rows.MessageArrivesSaid :=
  OpenClaim.holds_of_wide 6 Try.f6 rfl rfl rfl rfl rfl rfl rfl ⟨rfl, rfl, rfl, rfl, rfl⟩ rfl rfl rfl rfl rfl (by kernel_rfl) Try.func6 (by kernel_rfl)
    (of_decide_eq_true (by kernel_rfl)) (by unfold Func.isWrapper; first | (rw [if_pos (by decide +kernel)]; kernel_rfl) | (rw [if_neg (by decide +kernel)]; exact ⟨rfl, rfl⟩))
    (fun os started H enc _ => arrives_lifted os started H enc)
end Go.Proofs.Ytomdfdppfhkbjaa
