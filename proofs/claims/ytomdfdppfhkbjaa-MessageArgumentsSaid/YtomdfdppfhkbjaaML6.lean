/- 'MessageArguments': commits and packets with any fields: the program answers as the reference does: the law returns true for every input, and each argument reads behind the call as it read before. No condition. -/
import Derived.Test.YtomdfdppfhkbjaaRows
import Derived.Test.YtomdfdppfhkbjaaM11
import Derived.Test.YtomdfdppfhkbjaaMF
set_option linter.unusedVariables false
set_option linter.unusedSimpArgs false
namespace Go.Proofs.Ytomdfdppfhkbjaa
open Go Go.Ideal Go.RowKit Go.WideShapes Go.ChangeShapes Go.ChangeAt

theorem Try.own : ownKnob Try.prog.godebug = none := by kernel_rfl
theorem Try.laidOut : laidOutB Try.prog = true := by kernel_rfl
theorem Try.cmF : ∀ (i ty : Nat), [3, 3, 9][i]? = some ty → fieldTy Try.prog 59 i = some (i, ty) ∧ Try.prog.cellsOf ty = 1
  | 0, _, h => by cases h; exact ⟨Try.f_59_0, Try.c3⟩
  | 1, _, h => by cases h; exact ⟨Try.f_59_1, Try.c3⟩
  | 2, _, h => by cases h; exact ⟨Try.f_59_2, Try.c9⟩
  | _ + 3, _, h => by cases h
theorem Try.pkF : ∀ (i ty : Nat), [3, 3, 3, 9][i]? = some ty → fieldTy Try.prog 49 i = some (i, ty) ∧ Try.prog.cellsOf ty = 1
  | 0, _, h => by cases h; exact ⟨Try.f_49_0, Try.c3⟩
  | 1, _, h => by cases h; exact ⟨Try.f_49_1, Try.c3⟩
  | 2, _, h => by cases h; exact ⟨Try.f_49_2, Try.c3⟩
  | 3, _, h => by cases h; exact ⟨Try.f_49_3, Try.c9⟩
  | _ + 4, _, h => by cases h

set_option maxRecDepth 100000 in
theorem arguments_lifted (os : Os) (started : os.Started) (H : Type) (enc : TypeId × Value → H) :
    ReturnsInHanded {} Try.checked os 8 .any (Rows.messageArgumentsSpec.pre6 enc Try.prog Try.f8 Rows.messageArgumentsRow.domain false) (Rows.messageArgumentsSpec.post enc Try.prog Try.f8 false true false false) := by
  refine law_lift (C := Try.checked) (tb := 4) Try.own started (by kernel_rfl) Try.func8
    (ChangeSpec.witness6 (enc := enc) (C := Try.checked) false ⟨#[], #[.agg #[.int .i64 0, .int .i64 0, .string ⟨#[]⟩], .agg #[.int .i64 0, .int .i64 0, .int .i64 0, .string ⟨#[]⟩], .int .u8 0], []⟩ 8 (by kernel_rfl) (by kernel_rfl) (by kernel_rfl) (by kernel_rfl))
    Try.laidOut ?_ rfl (by kernel_rfl) (by kernel_rfl) ?_
  · rw [Try.params8]
    intro t ht
    have : t = 59 ∨ t = 49 ∨ t = 5 := by simpa using ht
    rcases this with rfl | rfl | rfl
    all_goals exact ⟨by kernel_rfl, by decide +kernel⟩
  · intro W base args ds p hval hA
    rw [Try.params8] at hA hval
    obtain ⟨v0, v1, v2, d0, d1, d2, p0, p1, p2, rfl, rfl, rfl, h0, h1, h2⟩ := trodAll_three hA
    obtain ⟨x, r0⟩ := arg_cm (P := Try.prog) ⟨_, rfl, rfl⟩ Try.c59 Try.cmF Try.u3 Try.u9 (hval 0 59 v0 rfl rfl) h0
    obtain ⟨k, ap, id, s, r1⟩ := arg_pk (P := Try.prog) ⟨_, rfl, rfl⟩ Try.c49 Try.pkF Try.u3 Try.u9 (hval 1 49 v1 rfl rfl) h1
    obtain ⟨c, w2, r2⟩ := arg_int (P := Try.prog) Try.u5 (hval 2 5 v2 rfl rfl) h2
    have w2 := wf_u8 w2
    refine ⟨rfl, [_, _, _], Pts.cons r0 (Pts.cons r1 (Pts.cons r2 Pts.nil)), ?_⟩
    have := arguments_law x k ap id s (UInt8.ofNat c.toNat)
    rw [show ((UInt8.ofNat c.toNat).toNat : Int) = c by simp; omega] at this
    exact this

theorem arguments_holds : Rows.MessageArgumentsSaid :=
  OpenClaim.holds_of_wide 8 Try.f8 rfl rfl rfl rfl rfl rfl rfl ⟨rfl, rfl, rfl, rfl, rfl⟩ rfl rfl rfl rfl rfl (by kernel_rfl) Try.func8 (by kernel_rfl)
    (of_decide_eq_true (by kernel_rfl)) (by unfold Func.isWrapper; first | (rw [if_pos (by decide +kernel)]; kernel_rfl) | (rw [if_neg (by decide +kernel)]; exact ⟨rfl, rfl⟩))
    (fun os started H enc _ => arguments_lifted os started H enc)
end Go.Proofs.Ytomdfdppfhkbjaa
