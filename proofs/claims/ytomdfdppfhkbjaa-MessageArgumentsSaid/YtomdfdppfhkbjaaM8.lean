/- Messages, plainly: what a script keeps. -/
import Derived.Test.YtomdfdppfhkbjaaM6
import Derived.Test.YtomdfdppfhkbjaaM7
set_option linter.unusedVariables false
set_option linter.unusedSimpArgs false
namespace Go.Proofs
open Go Go.Ideal
set_option maxRecDepth 8000
set_option maxHeartbeats 4000000

theorem PkI.mono {K K' : List Cmt} {c c' : List Client} {p : Packet} (h : PkI K c p) (hK : ∀ k ∈ K, k ∈ K') (hc : ∀ a : Nat, a < 2 → (∀ x ∈ (c.getD a default).has, x ∈ (c'.getD a default).has) ∧ ∀ x ∈ (c.getD a default).ref, x ∈ (c'.getD a default).ref) : PkI K' c' p := by
  rcases h with ⟨h1, h2⟩ | ⟨h1, h2, h3⟩
  · exact .inl ⟨h1, hK _ h2⟩
  · have ha : p.app.toNat < 2 := by omega
    refine .inr ⟨h1, h2, ?_⟩
    rcases h3 with ⟨h3, h4⟩ | ⟨h3, h4⟩
    · exact .inl ⟨h3, (hc _ ha).1 _ h4⟩
    · exact .inr ⟨h3, (hc _ ha).2 _ h4⟩
theorem MInv.up {i j : Nat} {s : MSt} (h : MInv i s) (hij : i ≤ j) : MInv j s :=
  ⟨h.k, h.c, Nat.le_trans h.ll hij, Nat.le_trans h.wl (by omega), fun a ha => (h.cl a ha).up hij, h.st, h.pk⟩
end Go.Proofs
