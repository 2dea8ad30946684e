/- 'DocumentPuts': a text that is put is the text of its mark, whole, until an edit tears it; all other marks are as after an Insert: the law returns true for every input, and each argument reads behind the call as it read before. No condition. -/
import Derived.Test.YthopljgeajllpaaRows
import Derived.Test.YthopljgeajllpaaD10
import Derived.Test.YthopljgeajllpaaD18
set_option linter.unusedVariables false
set_option linter.unusedSimpArgs false
namespace Go.Proofs.Ythopljgeajllpaa
open Go Go.Ideal Go.RowKit Go.WideShapes Go.ChangeShapes Go.ChangeAt

theorem Try.own : ownKnob Try.prog.godebug = none := by kernel_rfl
theorem Try.laidOut : laidOutB Try.prog = true := by kernel_rfl
theorem Try.rawF : ∀ (i ty : Nat), [5, 5, 5, 5, 35][i]? = some ty → fieldTy Try.prog 37 i = some (i, ty) ∧ Try.prog.cellsOf ty = 1
  | 0, _, h => by cases h; exact ⟨Try.f_37_0, Try.c5⟩
  | 1, _, h => by cases h; exact ⟨Try.f_37_1, Try.c5⟩
  | 2, _, h => by cases h; exact ⟨Try.f_37_2, Try.c5⟩
  | 3, _, h => by cases h; exact ⟨Try.f_37_3, Try.c5⟩
  | 4, _, h => by cases h; exact ⟨Try.f_37_4, Try.c35⟩
  | _ + 5, _, h => by cases h

set_option maxRecDepth 100000 in
theorem puts_lifted (os : Os) (started : os.Started) (H : Type) (enc : TypeId × Value → H) :
    ReturnsInHanded {} Try.checked os 7 .any (Rows.documentPutsSpec.pre6 enc Try.prog Try.f7 Rows.documentPutsRow.domain false) (Rows.documentPutsSpec.post enc Try.prog Try.f7 false true false false) := by
  refine law_lift (C := Try.checked) (tb := 4) Try.own started (by kernel_rfl) Try.func7
    (ChangeSpec.witness6 (enc := enc) (C := Try.checked) false ⟨#[], #[.slice none 0 0, .agg #[.int .u8 0, .int .u8 0, .int .u8 0, .int .u8 0, .slice none 0 0], .agg #[.int .u8 0, .int .u8 0, .int .u8 0, .int .u8 0, .slice none 0 0]], []⟩ 8 (by kernel_rfl) (by kernel_rfl) (by kernel_rfl) (by kernel_rfl))
    Try.laidOut ?_ rfl (by kernel_rfl) (by kernel_rfl) ?_
  · rw [Try.params7]
    intro t ht
    have : t = 22 ∨ t = 37 := by simpa using ht
    rcases this with rfl | rfl
    all_goals exact ⟨by kernel_rfl, by decide +kernel⟩
  · intro W base args ds p hval hA
    rw [Try.params7] at hA hval
    obtain ⟨v0, v1, v2, d0, d1, d2, p0, p1, p2, rfl, rfl, rfl, h0, h1, h2⟩ := trodAll_three hA
    obtain ⟨l, r0⟩ := arg_raws (P := Try.prog) Try.u22 ⟨_, rfl, rfl⟩ Try.c37 Try.rawF Try.u5 Try.u35 Try.u5 Try.c5 (hval 0 22 v0 rfl rfl) h0
    obtain ⟨x, r1⟩ := arg_raw (P := Try.prog) ⟨_, rfl, rfl⟩ Try.c37 Try.rawF Try.u5 Try.u35 Try.u5 Try.c5 (hval 1 37 v1 rfl rfl) h1
    obtain ⟨y, r2⟩ := arg_raw (P := Try.prog) ⟨_, rfl, rfl⟩ Try.c37 Try.rawF Try.u5 Try.u35 Try.u5 Try.c5 (hval 2 37 v2 rfl rfl) h2
    refine ⟨rfl, [_, _, _], Pts.cons r0 (Pts.cons r1 (Pts.cons r2 Pts.nil)), ?_⟩
    exact puts_law l x y

theorem puts_holds : Rows.DocumentPutsSaid :=
  OpenClaim.holds_of_wide 7 Try.f7 rfl rfl rfl rfl rfl rfl rfl ⟨rfl, rfl, rfl, rfl, rfl⟩ rfl rfl rfl rfl rfl (by kernel_rfl) Try.func7 (by kernel_rfl)
    (of_decide_eq_true (by kernel_rfl)) (by unfold Func.isWrapper; first | (rw [if_pos (by decide +kernel)]; kernel_rfl) | (rw [if_neg (by decide +kernel)]; exact ⟨rfl, rfl⟩))
    (fun os started H enc _ => puts_lifted os started H enc)
end Go.Proofs.Ythopljgeajllpaa
