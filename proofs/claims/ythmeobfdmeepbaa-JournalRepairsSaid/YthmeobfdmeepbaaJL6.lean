/- 'JournalRepairs': after a repair of a torn or damaged journal, lines that are put are read after those that were left: the law returns true for every input, and each argument reads behind the call as it read before. No condition. -/
import Derived.Test.YthmeobfdmeepbaaRows
import Derived.Test.YthmeobfdmeepbaaCoreR
import Derived.Test.YthmeobfdmeepbaaJ10
set_option linter.unusedVariables false
set_option linter.unusedSimpArgs false
namespace Go.Proofs.Ythmeobfdmeepbaa
open Go Go.Ideal Go.RowKit Go.WideShapes Go.ChangeShapes Go.ChangeAt

theorem Try.own : ownKnob Try.prog.godebug = none := by kernel_rfl
theorem Try.laidOut : laidOutB Try.prog = true := by kernel_rfl

set_option maxRecDepth 100000 in
theorem repairs_lifted (os : Os) (started : os.Started) (H : Type) (enc : TypeId × Value → H) :
    ReturnsInHanded {} Try.checked os 7 .any (Rows.journalRepairsSpec.pre6 enc Try.prog Try.f7 Rows.journalRepairsRow.domain false) (Rows.journalRepairsSpec.post enc Try.prog Try.f7 false true false false) := by
  refine law_lift (C := Try.checked) (tb := 4) Try.own started (by kernel_rfl) Try.func7
    (ChangeSpec.witness6 (enc := enc) (C := Try.checked) false ⟨#[], #[.slice none 0 0, .agg #[.int .u16 0, .int .u16 0], .slice none 0 0], []⟩ 8 (by kernel_rfl) (by kernel_rfl) (by kernel_rfl) (by kernel_rfl))
    Try.laidOut ?_ rfl (by kernel_rfl) (by kernel_rfl) ?_
  · rw [Try.params7]
    intro t ht
    have : t = 22 ∨ t = 42 ∨ t = 23 := by simpa using ht
    rcases this with rfl | rfl | rfl
    all_goals exact ⟨by kernel_rfl, by decide +kernel⟩
  · intro W base args ds p hval hA
    rw [Try.params7] at hA hval
    obtain ⟨v0, v1, v2, d0, d1, d2, p0, p1, p2, rfl, rfl, rfl, h0, h1, h2⟩ := trodAll_three hA
    obtain ⟨l, _, r0⟩ := arg_rows (P := Try.prog) Try.u22 Try.u23 Try.u5 Try.c23 Try.c5 (hval 0 22 v0 rfl rfl) h0
    obtain ⟨a, b, wa, wb, r1⟩ := arg_pair (P := Try.prog) Try.u42 Try.u37 Try.c37 Try.c42 (hval 1 42 v1 rfl rfl) h1
    have wa := wf_u16 wa
    have wb := wf_u16 wb
    obtain ⟨x, _, r2⟩ := arg_bytes (P := Try.prog) Try.u23 Try.u5 Try.c5 (hval 2 23 v2 rfl rfl) h2
    refine ⟨rfl, [_, _, _], Pts.cons r0 (Pts.cons r1 (Pts.cons r2 Pts.nil)), ?_⟩
    have := repairs_law l a.toNat b.toNat x (by omega) (by omega)
    rw [show ((a.toNat : Nat) : Int) = a by omega, show ((b.toNat : Nat) : Int) = b by omega] at this
    exact this

theorem repairs_holds : Rows.JournalRepairsSaid :=
  OpenClaim.holds_of_wide 7 Try.f7 rfl rfl rfl rfl rfl rfl rfl ⟨rfl, rfl, rfl, rfl, rfl⟩ rfl rfl rfl rfl rfl (by kernel_rfl) Try.func7 (by kernel_rfl)
    (of_decide_eq_true (by kernel_rfl)) (by unfold Func.isWrapper; first | (rw [if_pos (by decide +kernel)]; kernel_rfl) | (rw [if_neg (by decide +kernel)]; exact ⟨rfl, rfl⟩))
    (fun os started H enc _ => repairs_lifted os started H enc)
end Go.Proofs.Ythmeobfdmeepbaa
