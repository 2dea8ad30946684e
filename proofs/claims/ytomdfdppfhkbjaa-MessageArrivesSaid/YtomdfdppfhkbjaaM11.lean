/- Arguments of the message statements: bools, pairs of bools, a commit, a packet. -/
import Derived.Test.YtomdfdppfhkbjaaM10
set_option linter.unusedVariables false
set_option linter.unusedSimpArgs false
namespace Go.Proofs
open Go Go.Ideal Go.RowKit Go.WideShapes Go.ChangeShapes
section
variable {H : Type} {enc : TypeId × Value → H} {P : Program} {w : World} {base : Nat} {spare : Nat → Bool} {held : Bool}
theorem arg_bools2 {t e : TypeId} (ht : P.underlying t = some (.array 2 e)) (he : P.underlying e = some .bool) (hc : P.cellsOf e = 1) (hct : P.cellsOf t = 2) {r : Reach} {b0 : Nat} {v : Value} {d : DataW H} {ps : List MemPlace}
    (hval : Value.okWide P w r b0 t v) (hd : DataW.Trod enc P w base spare held t v d ps) : ∃ a b : Bool, DRep (oldW w) w v (.agg [.bool a, .bool b]) := by
  have hv : ∃ cs, v = .agg cs := by
    unfold Value.okWide at hval
    rw [ht] at hval
    obtain ⟨cs, h, _⟩ := hval
    exact ⟨cs, h⟩
  obtain ⟨cs, rfl⟩ := hv
  obtain ⟨fuel, hf⟩ := hd
  obtain ⟨xs, m, _, _, hl, hx, hi⟩ := DataW.trod_array ht hf
  simp only [Value.cells] at hl hi
  rw [hct] at hl
  obtain ⟨c0, c1, hcs⟩ : ∃ c0 c1, cs.toList = [c0, c1] := by
    match hm : cs.toList, hl with
    | [c0, c1], _ => exact ⟨c0, c1, rfl⟩
  have h0 := hi 0 (by decide)
  have h1 := hi 1 (by decide)
  rw [hcs, hc] at h0 h1
  rw [List.getElem?_eq_getElem (by omega)] at h0 h1
  obtain ⟨a, e0, _⟩ := DataW.trod_bool he h0
  obtain ⟨b, e1, _⟩ := DataW.trod_bool he h1
  simp at e0 e1
  subst e0 e1
  refine ⟨a, b, arg_of_cells rfl ⟨by rw [hcs]; rfl, ?_, ?_⟩⟩
  · rw [hcs]; intro v hv
    simp only [List.mem_cons, List.not_mem_nil, or_false] at hv
    rcases hv with rfl | rfl <;> rfl
  · rw [hcs]
    exact Pts.cons (.bool ..) (Pts.cons (.bool ..) Pts.nil)
end
end Go.Proofs
