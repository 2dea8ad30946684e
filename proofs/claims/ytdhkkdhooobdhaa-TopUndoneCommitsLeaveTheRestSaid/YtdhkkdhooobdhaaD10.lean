/- Arguments of the document statements. -/
import Derived.Test.YtdhkkdhooobdhaaD8
import Derived.Test.YtdhkkdhooobdhaaCoreU
set_option linter.unusedVariables false
set_option linter.unusedSimpArgs false
namespace Go.Proofs
open Go Go.Ideal Go.RowKit Go.WideShapes Go.ChangeShapes
section
variable {H : Type} {enc : TypeId × Value → H} {P : Program} {w : World} {base : Nat} {spare : Nat → Bool} {held : Bool}

/-- A struct of which every field is one cell. -/
theorem rd_fields {t : TypeId} {ts : List TypeId} (hst : ∃ fs : Array Field, P.underlying t = some (.struct fs) ∧ fs.size = ts.length) (hct : P.cellsOf t = ts.length)
    (hf : ∀ i ty, ts[i]? = some ty → fieldTy P t i = some (i, ty) ∧ P.cellsOf ty = 1) {fuel : Nat} {cs : List Value} {y : DataW H × List MemPlace} (h : DataW.trod enc P w base spare held fuel t cs = some y) :
    cs.length = ts.length ∧ ∀ (i : Nat) ty c, ts[i]? = some ty → cs[i]? = some c → ∃ fuel' y', DataW.trod enc P w base spare held fuel' ty [c] = some y' := by
  obtain ⟨fs, ht, hs⟩ := hst
  obtain ⟨xs, n, _, _, hl, hx, hi⟩ := DataW.trod_struct ht h
  refine ⟨by rw [hl, hct], fun i ty c h1 h2 => ?_⟩
  obtain ⟨h3, h4⟩ := hf i ty h1
  have hil : i < ts.length := (List.getElem?_eq_some_iff.1 h1).1
  simp only [fieldTy, ht] at h3
  cases hfi : fs[i]? with
  | none => simp [hfi] at h3
  | some f =>
    simp only [hfi, Option.map_some, Option.some.injEq, Prod.mk.injEq] at h3
    obtain ⟨h5, h6⟩ := h3
    have := hi i f hfi
    rw [h5, h6, h4] at this
    have hcs : (cs.drop i).take 1 = [c] := by
      have : cs.drop i = c :: cs.drop (i + 1) := by
        obtain ⟨hlt, he⟩ := List.getElem?_eq_some_iff.1 h2
        rw [List.drop_eq_getElem_cons hlt, he]
      rw [this]; rfl
    rw [hcs, List.getElem?_eq_getElem (by omega)] at this
    exact ⟨n, _, this⟩

theorem rd_raw {t a b e : TypeId} (hst : ∃ fs : Array Field, P.underlying t = some (.struct fs) ∧ fs.size = 5) (hct : P.cellsOf t = 5)
    (hf : ∀ i ty, [a, a, a, a, b][i]? = some ty → fieldTy P t i = some (i, ty) ∧ P.cellsOf ty = 1) (ha : P.underlying a = some (.int .u8)) (hb : P.underlying b = some (.slice e)) (he : P.underlying e = some (.int .u8)) (hc : P.cellsOf e = 1)
    {fuel : Nat} {cs : List Value} {y : DataW H × List MemPlace} (h : DataW.trod enc P w base spare held fuel t cs = some y) : ∃ x : Raw, Cells w cs (rawA x) := by
  obtain ⟨hl, hi⟩ := rd_fields (ts := [a, a, a, a, b]) hst hct hf h
  match cs, hl with
  | [c0, c1, c2, c3, c4], _ =>
    obtain ⟨_, _, h0⟩ := hi 0 a c0 rfl rfl
    obtain ⟨_, _, h1⟩ := hi 1 a c1 rfl rfl
    obtain ⟨_, _, h2⟩ := hi 2 a c2 rfl rfl
    obtain ⟨_, _, h3⟩ := hi 3 a c3 rfl rfl
    obtain ⟨_, _, h4⟩ := hi 4 b c4 rfl rfl
    obtain ⟨b0, e0⟩ := rd_u8 ha h0
    obtain ⟨b1, e1⟩ := rd_u8 ha h1
    obtain ⟨b2, e2⟩ := rd_u8 ha h2
    obtain ⟨b3, e3⟩ := rd_u8 ha h3
    obtain ⟨l, _, r4⟩ := rd_bytes hb he hc h4
    obtain ⟨v4, e4, o4⟩ := DataW.one_cell hb h4
    cases e0; cases e1; cases e2; cases e3; cases e4
    refine ⟨⟨b0, b1, b2, b3, l⟩, rfl, ?_, ?_⟩
    · intro v hv
      simp only [List.mem_cons, List.not_mem_nil, or_false] at hv
      rcases hv with rfl | rfl | rfl | rfl | rfl
      · rfl
      · rfl
      · rfl
      · rfl
      · exact o4
    · exact Pts.cons (.int ..) (Pts.cons (.int ..) (Pts.cons (.int ..) (Pts.cons (.int ..) (Pts.cons r4 Pts.nil))))
end
end Go.Proofs
