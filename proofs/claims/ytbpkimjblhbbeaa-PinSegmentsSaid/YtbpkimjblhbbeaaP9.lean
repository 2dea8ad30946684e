/- Arguments of the pin statements. -/
import Derived.Test.YtbpkimjblhbbeaaP6
import Derived.Test.YtbpkimjblhbbeaaCoreU
set_option linter.unusedVariables false
set_option linter.unusedSimpArgs false
namespace Go.Proofs
open Go Go.Ideal Go.RowKit
theorem u3_of (l : List Int) (h : l.length = 3) (hw : ∀ x ∈ l, (Lit.int .u8 x).wf = true) : ∃ x : U3, intsA .u8 l = u3A x := by
  match l, h with
  | [a, b, c], _ =>
    have ha := wf_u8 (hw a (by simp))
    have hb := wf_u8 (hw b (by simp))
    have hc := wf_u8 (hw c (by simp))
    refine ⟨⟨UInt8.ofNat a.toNat, UInt8.ofNat b.toNat, UInt8.ofNat c.toNat⟩, ?_⟩
    have e : ∀ x : Int, 0 ≤ x ∧ x < 256 → (((UInt8.ofNat x.toNat).toNat : Nat) : Int) = x := by
      intro x hx
      simp
      omega
    simp only [intsA, u3A, List.map_cons, List.map_nil, e a ha, e b hb, e c hc]
theorem u3s_of : ∀ (ls : List (List Int)), (∀ l ∈ ls, l.length = 3 ∧ ∀ x ∈ l, (Lit.int .u8 x).wf = true) → ∃ l : List U3, ls.map (intsA .u8) = u3sOf l
  | [], _ => ⟨[], rfl⟩
  | l :: ls, h => by
    obtain ⟨x, hx⟩ := u3_of l (h l (by simp)).1 (h l (by simp)).2
    obtain ⟨xs, hxs⟩ := u3s_of ls (fun m hm => h m (by simp [hm]))
    exact ⟨x :: xs, by simp only [List.map_cons, hx, hxs, u3sOf]⟩
section
variable {H : Type} {enc : TypeId × Value → H} {P : Program} {w : World} {base : Nat} {spare : Nat → Bool} {held : Bool}
theorem arg_u3 {t e : TypeId} (ht : P.underlying t = some (.array 3 e)) (he : P.underlying e = some (.int .u8)) (hc : P.cellsOf e = 1) (hct : P.cellsOf t = 3) {r : Reach} {b0 : Nat} {v : Value} {d : DataW H} {ps : List MemPlace}
    (hval : Value.okWide P w r b0 t v) (hd : DataW.Trod enc P w base spare held t v d ps) : ∃ x : U3, DRep (oldW w) w v (u3A x) := by
  obtain ⟨l, h1, h2, h3⟩ := arg_ints ht he hc hct hval hd
  obtain ⟨x, hx⟩ := u3_of l h1 h2
  exact ⟨x, hx ▸ h3⟩
theorem arg_u3s {t t' e : TypeId} (ht : P.underlying t = some (.slice t')) (ht' : P.underlying t' = some (.array 3 e)) (he : P.underlying e = some (.int .u8)) (hc : P.cellsOf e = 1) (hct : P.cellsOf t' = 3) {r : Reach} {b0 : Nat} {v : Value} {d : DataW H} {ps : List MemPlace}
    (hval : Value.okWide P w r b0 t v) (hd : DataW.Trod enc P w base spare held t v d ps) : ∃ l : List U3, DRep (oldW w) w v (.sl false 3 (u3sOf l)) := by
  obtain ⟨ls, h1, h2⟩ := arg_intss ht ht' he hc hct (by decide) hval hd
  obtain ⟨l, hl⟩ := u3s_of ls h1
  exact ⟨l, hl ▸ h2⟩
end
end Go.Proofs
