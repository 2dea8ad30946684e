/- 'TopDevicesCountOnce': the law returns true for every input, and each argument reads behind the call as it read before; what its row lists is tied to the program's text. -/
import Derived.Test.YtdhkkdhooobdhaaGreatDoorRows
import Derived.Test.YtdhkkdhooobdhaaGreatDoorTie
import Derived.Test.YtdhkkdhooobdhaaGreatDoorCards
import Derived.Test.YtdhkkdhooobdhaaGreatDoorCoreY
import Derived.Test.YtdhkkdhooobdhaaGreatDoorGR
import Derived.Test.YtdhkkdhooobdhaaGreatDoorTC
import Derived.Lay
import Derived.MakeChecks
import Derived.SevenTiedAt
set_option linter.unusedVariables false
set_option linter.unusedSimpArgs false
namespace Go.Proofs.YtdhkkdhooobdhaaGreatDoor
open Go Go.Ideal Go.RowKit Go.WideShapes Go.ChangeShapes Go.ChangeAt

theorem Tryz.own : ownKnob Tryz.prog.godebug = none := by kernel_rfl
theorem Tryz.laidOut : laidOutB Tryz.prog = true := by kernel_rfl
set_option maxRecDepth 100000 in
theorem Tryz.rawD : RawDTy Tryz.prog 55 5 := ⟨⟨_, rfl⟩, rfl, rfl, rfl, rfl, rfl, rfl, rfl, rfl, rfl⟩
set_option maxRecDepth 100000 in
theorem Tryz.rawT : RawTTy Tryz.prog 57 55 5 := ⟨⟨_, rfl⟩, rfl, rfl, ⟨4, rfl, rfl, rfl⟩, rfl, Tryz.rawD⟩
abbrev laid3 : List (String × DataW Unit) := Rows.topDevicesCountOnceRow.laid

set_option maxRecDepth 100000 in
theorem once_lifted (os : Os) (started : os.Started) (H : Type) (enc : TypeId × Value → H) :
    ReturnsInHanded {} Tryz.checked os 3 .any (fun w args => (Rows.topDevicesCountOnceSpec.pre enc Tryz.prog Tryz.f3 [] false w args ∧ laidMetH Tryz.prog laid3 w) ∧ sizedMet enc Tryz.prog Tryz.f3 (OpenSpec.ofChange Rows.topDevicesCountOnceSpec) false w args)
      (Rows.topDevicesCountOnceSpec.post enc Tryz.prog Tryz.f3 false true false false) := by
  refine law_lift_laid (C := Tryz.checked) (tb := 4) (laid := laid3) Tryz.own started (by kernel_rfl) Tryz.func3
    (ChangeSpec.witness_shaped (enc := enc) (C := Tryz.checked) (os := os) (X := fun w _ => laidMetH Tryz.prog laid3 w) false (World.laidAll Tryz.prog os laid3) #[.slice none 0 0, .agg #[.int .u8 0, .int .u8 0, .int .u8 0]] 8 (World.laidAll_os _ _ _)
      (World.shaped_of_ZipB (by kernel_rfl) (by kernel_rfl)) (by kernel_rfl) (by kernel_rfl) (by kernel_rfl)
      (by rw [MakeChecks.laidMetH_plain _ _ _ (by kernel_rfl)]; exact laidMet_laidAll _ (by kernel_rfl) (by kernel_rfl)))
    Tryz.laidOut ?_ rfl (by kernel_rfl) (by kernel_rfl) ?_
  · rw [Tryz.params3]
    intro t ht
    have : t = 22 ∨ t = 23 := by simpa using ht
    rcases this with rfl | rfl
    all_goals exact ⟨by kernel_rfl, by decide +kernel⟩
  · intro W base args ds p hval hA
    rw [Tryz.params3] at hA hval
    obtain ⟨v0, v1, d0, d1, p0, p1, rfl, rfl, rfl, h0, h1⟩ := trodAll_two hA
    obtain ⟨l, o0, r0⟩ := arg_rawTs (P := Tryz.prog) (by rfl) Tryz.rawT (hval 0 22 v0 rfl rfl) h0
    obtain ⟨ws, hl, hw, r1⟩ := arg_ints (P := Tryz.prog) (by rfl : Tryz.prog.underlying 23 = _) (by rfl : Tryz.prog.underlying 5 = _) (by rfl : Tryz.prog.cellsOf 5 = _) (by rfl : Tryz.prog.cellsOf 23 = _) (hval 1 23 v1 rfl rfl) h1
    obtain ⟨w0, w1, w2, rfl⟩ : ∃ w0 w1 w2, ws = [w0, w1, w2] := by
      match ws, hl with
      | [w0, w1, w2], _ => exact ⟨w0, w1, w2, rfl⟩
    have bw0 := wf_u8 (hw w0 (by simp))
    have bw1 := wf_u8 (hw w1 (by simp))
    have bw2 := wf_u8 (hw w2 (by simp))
    refine ⟨rfl, [_, _], Pts.cons r0 (Pts.cons r1 Pts.nil), ?_⟩
    exact once_law l o0 w0 w1 w2 bw0 bw1 bw2

theorem once_row : Rows.TopDevicesCountOnceSaid :=
  OpenClaim.holds_of_wide 3 Tryz.f3 rfl rfl rfl rfl rfl rfl rfl ⟨rfl, rfl, rfl, rfl, rfl⟩ rfl rfl rfl rfl rfl (by kernel_rfl) Tryz.func3 (by kernel_rfl)
    (of_decide_eq_true (by kernel_rfl)) (by unfold Func.isWrapper; first | (rw [if_pos (by decide +kernel)]; kernel_rfl) | (rw [if_neg (by decide +kernel)]; exact ⟨rfl, rfl⟩))
    (fun os started H enc _ => once_lifted os started H enc)
theorem once_holds : Rows.TopDevicesCountOnceCardSaid :=
  Claim7.holds_tied_plain_at .later [] [.data, .data, .data] true (true, "b3e378316ed014e12f60dc971b1328d7e63ad2181359564338ec7997d3a7bc5a") false
    once_row (fun _ h => by cases h) (by kernel_rfl) (fun _ h => by cases h) topDevicesCountOnce_row_tie rfl ⟨rfl, rfl⟩ (by kernel_rfl) rfl
    (fun f fn hf hfn => by
      obtain rfl : f = 3 := Option.some.inj ((show Tryz.prog.funcNamed Rows.topDevicesCountOnceRow.func = some 3 by kernel_rfl).symm.trans hf) |>.symm
      obtain rfl : fn = Tryz.f3 := (Option.some.inj (Tryz.func3.symm.trans hfn)).symm
      exact ⟨by kernel_rfl, fun j t ht => by
        rw [Tryz.params3] at ht
        have hm : t ∈ [22, 23] := by simpa using Array.mem_of_getElem? ht
        have hall : ([22, 23].all fun u => !Tryz.prog.wantsStandIn u) = true := by kernel_rfl
        exact (show Tryz.prog.wantsStandIn t = false by simpa using List.all_eq_true.1 hall t hm)⟩)
    (by kernel_rfl)
end Go.Proofs.YtdhkkdhooobdhaaGreatDoor
