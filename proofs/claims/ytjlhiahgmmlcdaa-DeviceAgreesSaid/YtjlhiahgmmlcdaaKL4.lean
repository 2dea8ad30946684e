/- 'DeviceAgrees': after all have merged with all, in any order, all three devices know the same: the law returns true for every input, and each argument reads behind the call as it read before. No condition. -/
import Derived.Test.YtjlhiahgmmlcdaaRows
import Derived.Test.YtjlhiahgmmlcdaaGR
import Derived.Test.YtjlhiahgmmlcdaaK4
set_option linter.unusedVariables false
set_option linter.unusedSimpArgs false
namespace Go.Proofs.Ytjlhiahgmmlcdaa
open Go Go.Ideal Go.RowKit Go.WideShapes Go.ChangeShapes Go.ChangeAt

theorem Try.own : ownKnob Try.prog.godebug = none := by kernel_rfl
theorem Try.laidOut : laidOutB Try.prog = true := by kernel_rfl
set_option maxRecDepth 100000 in
theorem Try.rawD : RawDTy Try.prog 56 5 := ⟨⟨_, rfl⟩, rfl, rfl, rfl, rfl, rfl, rfl, rfl, rfl, rfl⟩
set_option maxRecDepth 100000 in
theorem Try.rawT : RawTTy Try.prog 60 56 5 := ⟨⟨_, rfl⟩, rfl, rfl, ⟨4, rfl, rfl, rfl⟩, rfl, Try.rawD⟩

set_option maxRecDepth 100000 in
theorem dagrees_lifted (os : Os) (started : os.Started) (H : Type) (enc : TypeId × Value → H) :
    ReturnsInHanded {} Try.checked os 6 .any (Rows.deviceAgreesSpec.pre6 enc Try.prog Try.f6 Rows.deviceAgreesRow.domain false) (Rows.deviceAgreesSpec.post enc Try.prog Try.f6 false true false false) := by
  refine law_lift (C := Try.checked) (tb := 4) Try.own started (by kernel_rfl) Try.func6
    (ChangeSpec.witness6 (enc := enc) (C := Try.checked) false ⟨#[], #[.slice none 0 0, .int .u8 0], []⟩ 8 (by kernel_rfl) (by kernel_rfl) (by kernel_rfl) (by kernel_rfl))
    Try.laidOut ?_ rfl (by kernel_rfl) (by kernel_rfl) ?_
  · rw [Try.params6]
    intro t ht
    have : t = 39 ∨ t = 5 := by simpa using ht
    rcases this with rfl | rfl
    all_goals exact ⟨by kernel_rfl, by decide +kernel⟩
  · intro W base args ds p hval hA
    rw [Try.params6] at hA hval
    obtain ⟨v0, v1, d0, d1, p0, p1, rfl, rfl, rfl, h0, h1⟩ := trodAll_two hA
    obtain ⟨l, o0, r0⟩ := arg_rawTs (P := Try.prog) (by rfl) Try.rawT (hval 0 39 v0 rfl rfl) h0
    obtain ⟨c, w1, r1⟩ := arg_int (P := Try.prog) Try.u5 (hval 1 5 v1 rfl rfl) h1
    have w1 := wf_u8 w1
    refine ⟨rfl, [_, _], Pts.cons r0 (Pts.cons r1 Pts.nil), ?_⟩
    exact dagrees_law l o0 c w1

theorem dagrees_holds : Rows.DeviceAgreesSaid :=
  OpenClaim.holds_of_wide 6 Try.f6 rfl rfl rfl rfl rfl rfl rfl ⟨rfl, rfl, rfl, rfl, rfl⟩ rfl rfl rfl rfl rfl (by kernel_rfl) Try.func6 (by kernel_rfl)
    (of_decide_eq_true (by kernel_rfl)) (by unfold Func.isWrapper; first | (rw [if_pos (by decide +kernel)]; kernel_rfl) | (rw [if_neg (by decide +kernel)]; exact ⟨rfl, rfl⟩))
    (fun os started H enc _ => dagrees_lifted os started H enc)
end Go.Proofs.Ytjlhiahgmmlcdaa
