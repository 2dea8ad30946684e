/- Arguments of the undo statements: steps that are chosen, a step. -/
import Derived.Test.YtdhkkdhooobdhaaV1
import Derived.Test.YtdhkkdhooobdhaaD10
set_option linter.unusedVariables false
set_option linter.unusedSimpArgs false
namespace Go.Proofs
open Go Go.Ideal Go.RowKit Go.WideShapes Go.ChangeShapes
section
variable {H : Type} {enc : TypeId × Value → H} {P : Program} {w : World} {base : Nat} {spare : Nat → Bool} {held : Bool}

/-- The cells of a field. -/
theorem rd_part {t : TypeId} (hst : ∃ fs : Array Field, P.underlying t = some (.struct fs)) {fuel : Nat} {cs : List Value} {y : DataW H × List MemPlace} (h : DataW.trod enc P w base spare held fuel t cs = some y) :
    cs.length = P.cellsOf t ∧ ∀ (i off ty : Nat), fieldTy P t i = some (off, ty) → ∃ fuel' y', DataW.trod enc P w base spare held fuel' ty ((cs.drop off).take (P.cellsOf ty)) = some y' := by
  obtain ⟨fs, ht⟩ := hst
  obtain ⟨xs, n, _, _, hl, hx, hi⟩ := DataW.trod_struct ht h
  refine ⟨hl, fun i off ty h3 => ?_⟩
  simp only [fieldTy, ht] at h3
  cases hfi : fs[i]? with
  | none => simp [hfi] at h3
  | some f =>
    simp only [hfi, Option.map_some, Option.some.injEq, Prod.mk.injEq] at h3
    obtain ⟨h5, h6⟩ := h3
    have hil : i < fs.size := (Array.getElem?_eq_some_iff.1 hfi).1
    have := hi i f hfi
    rw [h5, h6, List.getElem?_eq_getElem (by omega)] at this
    exact ⟨n, _, this⟩
structure UrawTy (P : Program) (t : TypeId) : Prop where
  st : ∃ fs : Array Field, P.underlying t = some (.struct fs)
  ct : P.cellsOf t = 7
  ty : ∃ a b x s e : Nat, fieldTy P t 0 = some (0, a) ∧ fieldTy P t 1 = some (1, b) ∧ fieldTy P t 2 = some (2, x) ∧ P.underlying a = some (.int .u8) ∧ P.cellsOf a = 1 ∧ P.underlying b = some .bool ∧ P.cellsOf b = 1 ∧
    (∃ fs : Array Field, P.underlying x = some (.struct fs) ∧ fs.size = 5) ∧ P.cellsOf x = 5 ∧ (∀ i ty, [a, a, a, a, s][i]? = some ty → fieldTy P x i = some (i, ty) ∧ P.cellsOf ty = 1) ∧ P.underlying s = some (.slice e) ∧
    P.underlying e = some (.int .u8) ∧ P.cellsOf e = 1
theorem rd_uraw {t : TypeId} (T : UrawTy P t) {fuel : Nat} {cs : List Value} {y : DataW H × List MemPlace} (h : DataW.trod enc P w base spare held fuel t cs = some y) : ∃ x : URaw, Cells w cs (urawA x) := by
  obtain ⟨a, b, x, s, e, f0, f1, f2, ha, ca, hb, cb, hx, cx, fx, hs, he, ce⟩ := T.ty
  obtain ⟨hl, hi⟩ := rd_part T.st h
  rw [T.ct] at hl
  match cs, hl with
  | [c0, c1, c2, c3, c4, c5, c6], _ =>
    obtain ⟨_, _, h0⟩ := hi 0 _ _ f0
    obtain ⟨_, _, h1⟩ := hi 1 _ _ f1
    obtain ⟨_, _, h2⟩ := hi 2 _ _ f2
    rw [ca] at h0
    rw [cb] at h1
    rw [cx] at h2
    obtain ⟨b0, e0⟩ := rd_u8 ha h0
    obtain ⟨b1, e1, _⟩ := DataW.trod_bool hb h1
    obtain ⟨r, hr⟩ := rd_raw hx cx fx ha hs he ce h2
    obtain ⟨r1, r2, r3⟩ := hr
    cases e0; cases e1
    refine ⟨⟨b0, b1, r⟩, rfl, ?_, ?_⟩
    · intro v hv
      rcases List.mem_cons.1 hv with rfl | hv
      · rfl
      rcases List.mem_cons.1 hv with rfl | hv
      · rfl
      · exact r2 v hv
    · exact Pts.cons (.int ..) (Pts.cons (.bool ..) r3)
theorem exists_uraws : ∀ {xs : List AV}, (∀ x ∈ xs, ∃ r, x = urawA r) → ∃ l, xs = urawsOf l
  | [], _ => ⟨[], rfl⟩
  | x :: xs, h => by
    obtain ⟨b, rfl⟩ := h x (by simp)
    obtain ⟨l, rfl⟩ := exists_uraws (xs := xs) (fun y hy => h y (by simp [hy]))
    exact ⟨b :: l, rfl⟩
theorem arg_uraws {t' t : TypeId} (ht' : P.underlying t' = some (.slice t)) (T : UrawTy P t) {r : Reach} {b0 : Nat} {v : Value} {d : DataW H} {ps : List MemPlace}
    (hval : Value.okWide P w r b0 t' v) (hd : DataW.Trod enc P w base spare held t' v d ps) : ∃ l : List URaw, DRep (oldW w) w v (.sl false 7 (urawsOf l)) := by
  obtain ⟨a', len, cap, rfl⟩ := okWide_slice ht' hval
  obtain ⟨fuel, hf'⟩ := hd
  obtain ⟨xs, h1, h2, h3⟩ := rd_slice (Q := fun x => ∃ r : URaw, x = urawA r) ht' (by rw [T.ct]; omega) (fun fuel cs y hl h => by
    obtain ⟨x, hx⟩ := rd_uraw T h
    exact ⟨urawA x, ⟨x, rfl⟩, hx⟩) hf'
  obtain ⟨l, rfl⟩ := exists_uraws h1
  rw [T.ct] at h3
  exact ⟨l, h3⟩
end
end Go.Proofs
