/- 'DeviceSince': merging what is newer than the clock has the same effect as merging all: the law returns true for every input, and each argument reads behind the call as it read before. No condition. -/
import Derived.Test.YtjlhiahgmmlcdaaRows
import Derived.Test.YtjlhiahgmmlcdaaGR
import Derived.Test.YtjlhiahgmmlcdaaK3
set_option linter.unusedVariables false
set_option linter.unusedSimpArgs false
namespace Go.Proofs.Ytjlhiahgmmlcdaa
open Go Go.Ideal Go.RowKit Go.WideShapes Go.ChangeShapes Go.ChangeAt

theorem Try.own : ownKnob Try.prog.godebug = none := by kernel_rfl
theorem Try.laidOut : laidOutB Try.prog = true := by kernel_rfl
set_option maxRecDepth 100000 in
theorem Try.rawD : RawDTy Try.prog 56 5 := ⟨⟨_, rfl⟩, rfl, rfl, rfl, rfl, rfl, rfl, rfl, rfl, rfl⟩
set_option maxRecDepth 100000 in
theorem Try.rawT : RawTTy Try.prog 60 56 5 := ⟨⟨_, rfl⟩, rfl, rfl, ⟨4, rfl, rfl, rfl⟩, rfl, Try.rawD⟩

set_option maxRecDepth 100000 in
theorem dsince_lifted (os : Os) (started : os.Started) (H : Type) (enc : TypeId × Value → H) :
    ReturnsInHanded {} Try.checked os 5 .any (Rows.deviceSinceSpec.pre6 enc Try.prog Try.f5 Rows.deviceSinceRow.domain false) (Rows.deviceSinceSpec.post enc Try.prog Try.f5 false true false false) := by
  refine law_lift (C := Try.checked) (tb := 4) Try.own started (by kernel_rfl) Try.func5
    (ChangeSpec.witness6 (enc := enc) (C := Try.checked) false ⟨#[], #[.slice none 0 0, .agg #[.int .u8 0, .int .u8 0]], []⟩ 8 (by kernel_rfl) (by kernel_rfl) (by kernel_rfl) (by kernel_rfl))
    Try.laidOut ?_ rfl (by kernel_rfl) (by kernel_rfl) ?_
  · rw [Try.params5]
    intro t ht
    have : t = 39 ∨ t = 45 := by simpa using ht
    rcases this with rfl | rfl
    all_goals exact ⟨by kernel_rfl, by decide +kernel⟩
  · intro W base args ds p hval hA
    rw [Try.params5] at hA hval
    obtain ⟨v0, v1, d0, d1, p0, p1, rfl, rfl, rfl, h0, h1⟩ := trodAll_two hA
    obtain ⟨l, o0, r0⟩ := arg_rawTs (P := Try.prog) (by rfl) Try.rawT (hval 0 39 v0 rfl rfl) h0
    obtain ⟨ws, hl, hw, r1⟩ := arg_ints (P := Try.prog) (by rfl : Try.prog.underlying 45 = _) (by rfl : Try.prog.underlying 5 = _) (by rfl : Try.prog.cellsOf 5 = _) (by rfl : Try.prog.cellsOf 45 = _) (hval 1 45 v1 rfl rfl) h1
    obtain ⟨w0, w1, rfl⟩ : ∃ w0 w1, ws = [w0, w1] := by
      match ws, hl with
      | [w0, w1], _ => exact ⟨w0, w1, rfl⟩
    have bw0 := wf_u8 (hw w0 (by simp))
    have bw1 := wf_u8 (hw w1 (by simp))
    refine ⟨rfl, [_, _], Pts.cons r0 (Pts.cons r1 Pts.nil), ?_⟩
    exact dsince_law l o0 w0 w1 bw0 bw1

theorem dsince_holds : Rows.DeviceSinceSaid :=
  OpenClaim.holds_of_wide 5 Try.f5 rfl rfl rfl rfl rfl rfl rfl ⟨rfl, rfl, rfl, rfl, rfl⟩ rfl rfl rfl rfl rfl (by kernel_rfl) Try.func5 (by kernel_rfl)
    (of_decide_eq_true (by kernel_rfl)) (by unfold Func.isWrapper; first | (rw [if_pos (by decide +kernel)]; kernel_rfl) | (rw [if_neg (by decide +kernel)]; exact ⟨rfl, rfl⟩))
    (fun os started H enc _ => dsince_lifted os started H enc)
end Go.Proofs.Ytjlhiahgmmlcdaa
