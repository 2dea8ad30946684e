/- Documents: the functions agree with the reference. -/
import Derived.Test.YtjbflniimfmnhaaD11
set_option linter.unusedVariables false
set_option linter.unusedSimpArgs false
namespace Go.Proofs
open Go Go.Ideal
set_option maxRecDepth 8000
set_option maxHeartbeats 4000000

theorem wordF_plain (l : List UInt8) : plainB (wordF l) = true := by
  unfold wordF
  split
  · decide
  · simp only [plainB, List.all_eq_true]
    intro x hx
    obtain ⟨b, _, rfl⟩ := List.mem_map.1 hx
    have := letter_nat b
    simp only [okB, Bool.not_eq_true', Bool.or_eq_false_iff, decide_eq_false_iff_not]
    omega
theorem edLen_le (x : Raw) (n : Nat) : edLen x n ≤ n - x.a.toNat % (n + 1) ∧ edLen x n < 8 := by
  unfold edLen
  have h1 := Nat.mod_lt x.n.toNat (show 0 < n - x.a.toNat % (n + 1) + 1 by omega)
  have h2 := Nat.mod_le (x.n.toNat % (n - x.a.toNat % (n + 1) + 1)) 8
  have h3 := Nat.mod_lt (x.n.toNat % (n - x.a.toNat % (n + 1) + 1)) (show 0 < 8 by omega)
  omega
theorem editF_poss (x : Raw) (n : Nat) : possB (editF x n) n = true := by
  have ham : x.a.toNat % (n + 1) ≤ n := by have := Nat.mod_lt x.a.toNat (show 0 < n + 1 by omega); omega
  obtain ⟨hL, _⟩ := edLen_le x n
  have hm4 : x.k.toNat % 4 < 4 := Nat.mod_lt _ (by decide)
  unfold editF
  generalize x.a.toNat % (n + 1) = A at *
  generalize edLen x n = L at *
  split
  · unfold possB
    rw [if_pos rfl]
    obtain ⟨h1, h2⟩ := wordF_len x.s
    simp only [Bool.and_eq_true, decide_eq_true_eq]
    exact ⟨⟨⟨⟨by omega, by omega⟩, by omega⟩, by omega⟩, wordF_plain _⟩
  · split
    · have hT := Nat.mod_lt x.t.toNat (show 0 < n - L + 1 by omega)
      generalize x.t.toNat % (n - L + 1) = TT at *
      unfold possB
      simp only [pieceB]
      rw [if_neg (by decide), if_neg (by decide), if_pos trivial]
      simp only [Bool.and_eq_true, decide_eq_true_eq]
      omega
    · rename_i h1 h2
      unfold possB
      simp only [pieceB]
      rw [if_neg (by omega), if_pos (by omega)]
      simp only [Bool.and_eq_true, decide_eq_true_eq]
      omega

end Go.Proofs
