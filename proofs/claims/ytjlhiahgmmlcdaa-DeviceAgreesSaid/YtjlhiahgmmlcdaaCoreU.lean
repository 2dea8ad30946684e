/- Arguments that are arrays of numbers, and slices of them. -/
import Derived.Test.YtjlhiahgmmlcdaaCoreR
set_option linter.unusedVariables false
set_option linter.unusedSimpArgs false
namespace Go.Ideal
open Go.RowKit Go.WideShapes Go.ChangeShapes

section
variable {H : Type} {enc : TypeId × Value → H} {P : Program} {w : World} {base : Nat} {spare : Nat → Bool} {held : Bool}
def intsA (k : IntKind) (l : List Int) : AV := .agg (l.map (.int k))
theorem ints_rep {k : IntKind} (l : List Int) : Pts (DRep (oldW w) w) (l.map (Value.int k)) (l.map (AV.int k)) := by
  refine ⟨by simp, fun i v x h1 h2 => ?_⟩
  rw [List.getElem?_map] at h1 h2
  cases h : l[i]? with
  | none => simp [h] at h1
  | some n => simp [h] at h1 h2; subst h1 h2; exact .int ..
theorem rd_ints {t e : TypeId} {n : Nat} {k : IntKind} (ht : P.underlying t = some (.array n e)) (he : P.underlying e = some (.int k)) (hc : P.cellsOf e = 1) (hct : P.cellsOf t = n) {fuel : Nat} {cs : List Value} {y : DataW H × List MemPlace}
    (h : DataW.trod enc P w base spare held fuel t cs = some y) : ∃ l : List Int, l.length = n ∧ (∀ x ∈ l, (Lit.int k x).wf = true) ∧ cs = l.map (Value.int k) := by
  obtain ⟨xs, m, _, _, hl, hx, hi⟩ := DataW.trod_array ht h
  rw [hct] at hl
  have each : ∀ i : Nat, ∃ a : Int, i < n → cs[i]? = some (.int k a) ∧ (Lit.int k a).wf = true := by
    intro i
    by_cases hin : i < n
    · have hi := hi i hin
      rw [hc, Nat.mul_one, List.getElem?_eq_getElem (by omega)] at hi
      obtain ⟨a, e0, _, w0⟩ := DataW.trod_int he hi
      refine ⟨a, fun _ => ⟨?_, w0⟩⟩
      have : (List.take 1 (List.drop i cs))[0]? = some (.int k a) := by rw [e0]; rfl
      rw [List.getElem?_take] at this
      simpa using this
    · exact ⟨0, fun h => absurd h hin⟩
  obtain ⟨f, hf⟩ := Classical.axiomOfChoice each
  refine ⟨(List.range n).map f, by simp, ?_, ?_⟩
  · intro x hx
    obtain ⟨i, hi, rfl⟩ := List.mem_map.1 hx
    exact (hf i (by simpa using hi)).2
  · apply List.ext_getElem?
    intro i
    by_cases hin : i < n
    · rw [(hf i hin).1]; simp [hin]
    · rw [List.getElem?_eq_none (by omega), List.getElem?_eq_none (by simp; omega)]
theorem arg_ints {t e : TypeId} {n : Nat} {k : IntKind} (ht : P.underlying t = some (.array n e)) (he : P.underlying e = some (.int k)) (hc : P.cellsOf e = 1) (hct : P.cellsOf t = n) {r : Reach} {b0 : Nat} {v : Value} {d : DataW H} {ps : List MemPlace}
    (hval : Value.okWide P w r b0 t v) (hd : DataW.Trod enc P w base spare held t v d ps) : ∃ l : List Int, l.length = n ∧ (∀ x ∈ l, (Lit.int k x).wf = true) ∧ DRep (oldW w) w v (intsA k l) := by
  have hv : ∃ cs, v = .agg cs := by
    unfold Value.okWide at hval
    rw [ht] at hval
    obtain ⟨cs, h, _⟩ := hval
    exact ⟨cs, h⟩
  obtain ⟨cs, rfl⟩ := hv
  obtain ⟨fuel, hf⟩ := hd
  obtain ⟨l, h1, h2, h3⟩ := rd_ints ht he hc hct hf
  refine ⟨l, h1, h2, ?_⟩
  simp only [Value.cells] at h3
  have hp := ints_rep (w := w) (k := k) l
  rw [← h3] at hp
  have := DRep.agg (ok := oldW w) (w := w) cs.toList (l.map (.int k)) hp.1 (by rw [h3]; intro v hv; obtain ⟨x, _, rfl⟩ := List.mem_map.1 hv; rfl) hp.2
  simpa [intsA] using this
end
end Go.Ideal
