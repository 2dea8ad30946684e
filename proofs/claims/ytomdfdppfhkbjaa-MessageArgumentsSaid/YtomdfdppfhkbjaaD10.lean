/- Arguments of the document statements. -/
import Derived.Test.YtomdfdppfhkbjaaD8
import Derived.Test.YtomdfdppfhkbjaaCoreU
set_option linter.unusedVariables false
set_option linter.unusedSimpArgs false
namespace Go.Proofs
open Go Go.Ideal Go.RowKit Go.WideShapes Go.ChangeShapes
section
variable {H : Type} {enc : TypeId × Value → H} {P : Program} {w : World} {base : Nat} {spare : Nat → Bool} {held : Bool}

/-- A struct of which every field is one cell. -/
theorem rd_fields {t : TypeId} {ts : List TypeId} (hst : ∃ fs : Array Field, P.underlying t = some (.struct fs) ∧ fs.size = ts.length) (hct : P.cellsOf t = ts.length)
    (hf : ∀ i ty, ts[i]? = some ty → fieldTy P t i = some (i, ty) ∧ P.cellsOf ty = 1) {fuel : Nat} {cs : List Value} {y : DataW H × List MemPlace} (h : DataW.trod enc P w base spare held fuel t cs = some y) :
    cs.length = ts.length ∧ ∀ (i : Nat) ty c, ts[i]? = some ty → cs[i]? = some c → ∃ fuel' y', DataW.trod enc P w base spare held fuel' ty [c] = some y' := by
  obtain ⟨fs, ht, hs⟩ := hst
  obtain ⟨xs, n, _, _, hl, hx, hi⟩ := DataW.trod_struct ht h
  refine ⟨by rw [hl, hct], fun i ty c h1 h2 => ?_⟩
  obtain ⟨h3, h4⟩ := hf i ty h1
  have hil : i < ts.length := (List.getElem?_eq_some_iff.1 h1).1
  simp only [fieldTy, ht] at h3
  cases hfi : fs[i]? with
  | none => simp [hfi] at h3
  | some f =>
    simp only [hfi, Option.map_some, Option.some.injEq, Prod.mk.injEq] at h3
    obtain ⟨h5, h6⟩ := h3
    have := hi i f hfi
    rw [h5, h6, h4] at this
    have hcs : (cs.drop i).take 1 = [c] := by
      have : cs.drop i = c :: cs.drop (i + 1) := by
        obtain ⟨hlt, he⟩ := List.getElem?_eq_some_iff.1 h2
        rw [List.drop_eq_getElem_cons hlt, he]
      rw [this]; rfl
    rw [hcs, List.getElem?_eq_getElem (by omega)] at this
    exact ⟨n, _, this⟩

theorem okWide_agg {t : TypeId} {fs : Array Field} (ht : P.underlying t = some (.struct fs)) {r : Reach} {b0 : Nat} {v : Value} (hval : Value.okWide P w r b0 t v) : ∃ cs, v = .agg cs := by
  unfold Value.okWide at hval
  rw [ht] at hval
  obtain ⟨cs, h, _⟩ := hval
  exact ⟨cs, h⟩
theorem arg_of_cells {v : Value} {cs : Array Value} {xs : List AV} (hv : v = .agg cs) (h : Cells w cs.toList (.agg xs)) : DRep (oldW w) w v (.agg xs) := by
  subst hv
  have := DRep.agg (ok := oldW w) (w := w) cs.toList xs h.len h.one h.rep.2
  simpa using this
end
end Go.Proofs
