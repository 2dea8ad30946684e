/- 'DeviceCounts': the number of uses of a word in the union is the sum of both, less what both know: the law returns true for every input, and each argument reads behind the call as it read before. No condition. -/
import Derived.Test.YtjlhiahgmmlcdaaRows
import Derived.Test.YtjlhiahgmmlcdaaGR
import Derived.Test.YtjlhiahgmmlcdaaK8
set_option linter.unusedVariables false
set_option linter.unusedSimpArgs false
namespace Go.Proofs.Ytjlhiahgmmlcdaa
open Go Go.Ideal Go.RowKit Go.WideShapes Go.ChangeShapes Go.ChangeAt

theorem Try.own : ownKnob Try.prog.godebug = none := by kernel_rfl
theorem Try.laidOut : laidOutB Try.prog = true := by kernel_rfl
set_option maxRecDepth 100000 in
theorem Try.rawD : RawDTy Try.prog 56 5 := ⟨⟨_, rfl⟩, rfl, rfl, rfl, rfl, rfl, rfl, rfl, rfl, rfl⟩
set_option maxRecDepth 100000 in
theorem Try.rawT : RawTTy Try.prog 60 56 5 := ⟨⟨_, rfl⟩, rfl, rfl, ⟨4, rfl, rfl, rfl⟩, rfl, Try.rawD⟩

set_option maxRecDepth 100000 in
theorem dcounts_lifted (os : Os) (started : os.Started) (H : Type) (enc : TypeId × Value → H) :
    ReturnsInHanded {} Try.checked os 10 .any (Rows.deviceCountsSpec.pre6 enc Try.prog Try.f10 Rows.deviceCountsRow.domain false) (Rows.deviceCountsSpec.post enc Try.prog Try.f10 false true false false) := by
  refine law_lift (C := Try.checked) (tb := 4) Try.own started (by kernel_rfl) Try.func10
    (ChangeSpec.witness6 (enc := enc) (C := Try.checked) false ⟨#[], #[.slice none 0 0, .int .u8 0], []⟩ 8 (by kernel_rfl) (by kernel_rfl) (by kernel_rfl) (by kernel_rfl))
    Try.laidOut ?_ rfl (by kernel_rfl) (by kernel_rfl) ?_
  · rw [Try.params10]
    intro t ht
    have : t = 39 ∨ t = 5 := by simpa using ht
    rcases this with rfl | rfl
    all_goals exact ⟨by kernel_rfl, by decide +kernel⟩
  · intro W base args ds p hval hA
    rw [Try.params10] at hA hval
    obtain ⟨v0, v1, d0, d1, p0, p1, rfl, rfl, rfl, h0, h1⟩ := trodAll_two hA
    obtain ⟨l, o0, r0⟩ := arg_rawTs (P := Try.prog) (by rfl) Try.rawT (hval 0 39 v0 rfl rfl) h0
    obtain ⟨c, w1, r1⟩ := arg_int (P := Try.prog) Try.u5 (hval 1 5 v1 rfl rfl) h1
    have w1 := wf_u8 w1
    refine ⟨rfl, [_, _], Pts.cons r0 (Pts.cons r1 Pts.nil), ?_⟩
    exact dcounts_law l o0 c w1

theorem dcounts_holds : Rows.DeviceCountsSaid :=
  OpenClaim.holds_of_wide 10 Try.f10 rfl rfl rfl rfl rfl rfl rfl ⟨rfl, rfl, rfl, rfl, rfl⟩ rfl rfl rfl rfl rfl (by kernel_rfl) Try.func10 (by kernel_rfl)
    (of_decide_eq_true (by kernel_rfl)) (by unfold Func.isWrapper; first | (rw [if_pos (by decide +kernel)]; kernel_rfl) | (rw [if_neg (by decide +kernel)]; exact ⟨rfl, rfl⟩))
    (fun os started H enc _ => dcounts_lifted os started H enc)
end Go.Proofs.Ytjlhiahgmmlcdaa
