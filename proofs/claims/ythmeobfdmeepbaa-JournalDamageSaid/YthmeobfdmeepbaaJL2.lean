/- 'JournalDamage': if a byte is changed, exactly the entries before the one with this byte are read: the law returns true for every input, and each argument reads behind the call as it read before. No condition. -/
import Derived.Test.YthmeobfdmeepbaaRows
import Derived.Test.YthmeobfdmeepbaaCoreR
import Derived.Test.YthmeobfdmeepbaaJ8
set_option linter.unusedVariables false
set_option linter.unusedSimpArgs false
namespace Go.Proofs.Ythmeobfdmeepbaa
open Go Go.Ideal Go.RowKit Go.WideShapes Go.ChangeShapes Go.ChangeAt

theorem Try.own : ownKnob Try.prog.godebug = none := by kernel_rfl
theorem Try.laidOut : laidOutB Try.prog = true := by kernel_rfl

set_option maxRecDepth 100000 in
theorem damage_lifted (os : Os) (started : os.Started) (H : Type) (enc : TypeId × Value → H) :
    ReturnsInHanded {} Try.checked os 6 .any (Rows.journalDamageSpec.pre6 enc Try.prog Try.f6 Rows.journalDamageRow.domain false) (Rows.journalDamageSpec.post enc Try.prog Try.f6 false true false false) := by
  refine law_lift (C := Try.checked) (tb := 4) Try.own started (by kernel_rfl) Try.func6
    (ChangeSpec.witness6 (enc := enc) (C := Try.checked) false ⟨#[], #[.slice none 0 0, .int .u16 0, .int .u8 0], []⟩ 8 (by kernel_rfl) (by kernel_rfl) (by kernel_rfl) (by kernel_rfl))
    Try.laidOut ?_ rfl (by kernel_rfl) (by kernel_rfl) ?_
  · rw [Try.params6]
    intro t ht
    have : t = 22 ∨ t = 37 ∨ t = 5 := by simpa using ht
    rcases this with rfl | rfl | rfl
    all_goals exact ⟨by kernel_rfl, by decide +kernel⟩
  · intro W base args ds p hval hA
    rw [Try.params6] at hA hval
    obtain ⟨v0, v1, v2, d0, d1, d2, p0, p1, p2, rfl, rfl, rfl, h0, h1, h2⟩ := trodAll_three hA
    obtain ⟨l, _, r0⟩ := arg_rows (P := Try.prog) Try.u22 Try.u23 Try.u5 Try.c23 Try.c5 (hval 0 22 v0 rfl rfl) h0
    obtain ⟨n, w1, r1⟩ := arg_int (P := Try.prog) Try.u37 (hval 1 37 v1 rfl rfl) h1
    have w1 := wf_u16 w1
    obtain ⟨m, w2, r2⟩ := arg_int (P := Try.prog) Try.u5 (hval 2 5 v2 rfl rfl) h2
    have w2 := wf_u8 w2
    refine ⟨rfl, [_, _, _], Pts.cons r0 (Pts.cons r1 (Pts.cons r2 Pts.nil)), ?_⟩
    have := damage_law l n.toNat (UInt8.ofNat m.toNat) (by omega)
    rw [show ((n.toNat : Nat) : Int) = n by omega, show ((UInt8.ofNat m.toNat).toNat : Int) = m by simp; omega] at this
    exact this

theorem damage_holds : Rows.JournalDamageSaid :=
  OpenClaim.holds_of_wide 6 Try.f6 rfl rfl rfl rfl rfl rfl rfl ⟨rfl, rfl, rfl, rfl, rfl⟩ rfl rfl rfl rfl rfl (by kernel_rfl) Try.func6 (by kernel_rfl)
    (of_decide_eq_true (by kernel_rfl)) (by unfold Func.isWrapper; first | (rw [if_pos (by decide +kernel)]; kernel_rfl) | (rw [if_neg (by decide +kernel)]; exact ⟨rfl, rfl⟩))
    (fun os started H enc _ => damage_lifted os started H enc)
end Go.Proofs.Ythmeobfdmeepbaa
