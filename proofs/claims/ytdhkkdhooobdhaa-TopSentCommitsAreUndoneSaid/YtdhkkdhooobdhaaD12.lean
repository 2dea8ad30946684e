/- Documents, plainly: what edits do to texts and to whole marks. -/
import Derived.Test.YtdhkkdhooobdhaaD8
set_option linter.unusedVariables false
set_option linter.unusedSimpArgs false
namespace Go.Proofs
open Go Go.Ideal
set_option maxRecDepth 8000
set_option maxHeartbeats 4000000

/-! ### Pieces of texts -/
theorem sub_get (s : List UInt8) (f t i : Nat) : (sub s (f : Int) (t : Int))[i]? = if f + i < t then s[f + i]? else none := by
  simp only [sub, Int.toNat_natCast, List.getElem?_drop, List.getElem?_take]
theorem ins_get (s x : List UInt8) (a i : Nat) (ha : a ≤ s.length) : (s.take a ++ x ++ s.drop a)[i]? = if i < a then s[i]? else if i < a + x.length then x[i - a]? else s[i - x.length]? := by
  simp only [List.getElem?_append, List.length_append, List.length_take, List.getElem?_take, List.getElem?_drop, Nat.min_eq_left ha]
  by_cases h1 : i < a
  · simp [h1, show i < a + x.length by omega]
  · by_cases h2 : i < a + x.length
    · simp [h1, h2]
    · simp only [h1, h2, if_false]
      congr 1; omega
theorem del_get (s : List UInt8) (a n i : Nat) (ha : a ≤ s.length) : (s.take a ++ s.drop (a + n))[i]? = if i < a then s[i]? else s[i + n]? := by
  simp only [List.getElem?_append, List.length_take, List.getElem?_take, List.getElem?_drop, Nat.min_eq_left ha]
  by_cases h1 : i < a
  · simp [h1]
  · simp only [h1, if_false]
    congr 1; omega
/-! The text after an edit, over natural numbers. -/
theorem chg_ins {s x : List UInt8} {a : Nat} {n t : Int} : chg s ⟨1, a, n, t, x⟩ = s.take a ++ x ++ s.drop a := by simp [chg]
theorem chg_del {s x : List UInt8} {a n : Nat} {t : Int} : chg s ⟨2, a, n, t, x⟩ = s.take a ++ s.drop (a + n) := by
  have : ((a : Int) + (n : Int)).toNat = a + n := by omega
  simp [chg, this]
theorem chg_mov {s x : List UInt8} {a n t : Nat} : chg s ⟨3, a, n, t, x⟩ = (s.take a ++ s.drop (a + n)).take t ++ (s.take (a + n)).drop a ++ (s.take a ++ s.drop (a + n)).drop t := by
  have : ((a : Int) + (n : Int)).toNat = a + n := by omega
  simp [chg, this]
end Go.Proofs
