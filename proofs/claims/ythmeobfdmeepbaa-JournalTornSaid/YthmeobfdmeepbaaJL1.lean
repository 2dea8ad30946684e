/- 'JournalTorn': of each beginning of a journal, exactly the entries are read that are there as a whole: the law returns true for every input, and each argument reads behind the call as it read before. No condition. -/
import Derived.Test.YthmeobfdmeepbaaRows
import Derived.Test.YthmeobfdmeepbaaCoreR
import Derived.Test.YthmeobfdmeepbaaJ8
set_option linter.unusedVariables false
set_option linter.unusedSimpArgs false
namespace Go.Proofs.Ythmeobfdmeepbaa
open Go Go.Ideal Go.RowKit Go.WideShapes Go.ChangeShapes Go.ChangeAt

theorem Try.own : ownKnob Try.prog.godebug = none := by kernel_rfl
theorem Try.laidOut : laidOutB Try.prog = true := by kernel_rfl

set_option maxRecDepth 100000 in
theorem torn_lifted (os : Os) (started : os.Started) (H : Type) (enc : TypeId × Value → H) :
    ReturnsInHanded {} Try.checked os 5 .any (Rows.journalTornSpec.pre6 enc Try.prog Try.f5 Rows.journalTornRow.domain false) (Rows.journalTornSpec.post enc Try.prog Try.f5 false true false false) := by
  refine law_lift (C := Try.checked) (tb := 4) Try.own started (by kernel_rfl) Try.func5
    (ChangeSpec.witness6 (enc := enc) (C := Try.checked) false ⟨#[], #[.slice none 0 0, .int .u16 0], []⟩ 8 (by kernel_rfl) (by kernel_rfl) (by kernel_rfl) (by kernel_rfl))
    Try.laidOut ?_ rfl (by kernel_rfl) (by kernel_rfl) ?_
  · rw [Try.params5]
    intro t ht
    have : t = 22 ∨ t = 37 := by simpa using ht
    rcases this with rfl | rfl
    · exact ⟨by kernel_rfl, by decide +kernel⟩
    · exact ⟨by kernel_rfl, by decide +kernel⟩
  · intro W base args ds p hval hA
    rw [Try.params5] at hA hval
    obtain ⟨v0, v1, d0, d1, p0, p1, rfl, rfl, rfl, h0, h1⟩ := trodAll_two hA
    obtain ⟨l, hl, r0⟩ := arg_rows (P := Try.prog) Try.u22 Try.u23 Try.u5 Try.c23 Try.c5 (hval 0 22 v0 rfl rfl) h0
    obtain ⟨n, hn, r1⟩ := arg_int (P := Try.prog) Try.u37 (hval 1 37 v1 rfl rfl) h1
    have hw := wf_u16 hn
    refine ⟨rfl, [_, _], Pts.cons r0 (Pts.cons r1 Pts.nil), ?_⟩
    have := torn_law l n.toNat (by omega)
    rw [show ((n.toNat : Nat) : Int) = n by omega] at this
    exact this

theorem torn_holds : Rows.JournalTornSaid :=
  OpenClaim.holds_of_wide 5 Try.f5 rfl rfl rfl rfl rfl rfl rfl ⟨rfl, rfl, rfl, rfl, rfl⟩ rfl rfl rfl rfl rfl (by kernel_rfl) Try.func5 (by kernel_rfl)
    (of_decide_eq_true (by kernel_rfl)) (by unfold Func.isWrapper; first | (rw [if_pos (by decide +kernel)]; kernel_rfl) | (rw [if_neg (by decide +kernel)]; exact ⟨rfl, rfl⟩))
    (fun os started H enc _ => torn_lifted os started H enc)
end Go.Proofs.Ythmeobfdmeepbaa
