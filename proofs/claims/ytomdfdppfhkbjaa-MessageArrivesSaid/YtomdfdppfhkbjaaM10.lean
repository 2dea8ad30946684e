/- Arguments of the message statements: lists of actions. -/
import Derived.Test.YtomdfdppfhkbjaaM2
import Derived.Test.YtomdfdppfhkbjaaD10
set_option linter.unusedVariables false
set_option linter.unusedSimpArgs false
namespace Go.Proofs
open Go Go.Ideal Go.RowKit Go.WideShapes Go.ChangeShapes
section
variable {H : Type} {enc : TypeId × Value → H} {P : Program} {w : World} {base : Nat} {spare : Nat → Bool} {held : Bool}
theorem rd_mraw {t a : TypeId} (hst : ∃ fs : Array Field, P.underlying t = some (.struct fs) ∧ fs.size = 4) (hct : P.cellsOf t = 4)
    (hf : ∀ i ty, [a, a, a, a][i]? = some ty → fieldTy P t i = some (i, ty) ∧ P.cellsOf ty = 1) (ha : P.underlying a = some (.int .u8))
    {fuel : Nat} {cs : List Value} {y : DataW H × List MemPlace} (h : DataW.trod enc P w base spare held fuel t cs = some y) : ∃ x : MRaw, Cells w cs (mrawA x) := by
  obtain ⟨hl, hi⟩ := rd_fields (ts := [a, a, a, a]) hst hct hf h
  match cs, hl with
  | [c0, c1, c2, c3], _ =>
    obtain ⟨_, _, h0⟩ := hi 0 a c0 rfl rfl
    obtain ⟨_, _, h1⟩ := hi 1 a c1 rfl rfl
    obtain ⟨_, _, h2⟩ := hi 2 a c2 rfl rfl
    obtain ⟨_, _, h3⟩ := hi 3 a c3 rfl rfl
    obtain ⟨b0, e0⟩ := rd_u8 ha h0
    obtain ⟨b1, e1⟩ := rd_u8 ha h1
    obtain ⟨b2, e2⟩ := rd_u8 ha h2
    obtain ⟨b3, e3⟩ := rd_u8 ha h3
    cases e0; cases e1; cases e2; cases e3
    refine ⟨⟨b0, b1, b2, b3⟩, rfl, ?_, ?_⟩
    · intro v hv
      simp only [List.mem_cons, List.not_mem_nil, or_false] at hv
      rcases hv with rfl | rfl | rfl | rfl <;> rfl
    · exact Pts.cons (.int ..) (Pts.cons (.int ..) (Pts.cons (.int ..) (Pts.cons (.int ..) Pts.nil)))
theorem exists_mraws : ∀ {xs : List AV}, (∀ x ∈ xs, ∃ r, x = mrawA r) → ∃ l, xs = mrawsOf l
  | [], _ => ⟨[], rfl⟩
  | x :: xs, h => by
    obtain ⟨b, rfl⟩ := h x (by simp)
    obtain ⟨l, rfl⟩ := exists_mraws (xs := xs) (fun y hy => h y (by simp [hy]))
    exact ⟨b :: l, rfl⟩
theorem arg_mraws {t' t a : TypeId} (ht' : P.underlying t' = some (.slice t)) (hst : ∃ fs : Array Field, P.underlying t = some (.struct fs) ∧ fs.size = 4) (hct : P.cellsOf t = 4)
    (hf : ∀ i ty, [a, a, a, a][i]? = some ty → fieldTy P t i = some (i, ty) ∧ P.cellsOf ty = 1) (ha : P.underlying a = some (.int .u8)) {r : Reach} {b0 : Nat} {v : Value} {d : DataW H} {ps : List MemPlace}
    (hval : Value.okWide P w r b0 t' v) (hd : DataW.Trod enc P w base spare held t' v d ps) : ∃ l : List MRaw, DRep (oldW w) w v (.sl false 4 (mrawsOf l)) := by
  obtain ⟨a', len, cap, rfl⟩ := okWide_slice ht' hval
  obtain ⟨fuel, hf'⟩ := hd
  obtain ⟨xs, h1, h2, h3⟩ := rd_slice (Q := fun x => ∃ r : MRaw, x = mrawA r) ht' (by omega) (fun fuel cs y hl h => by
    obtain ⟨x, hx⟩ := rd_mraw hst hct hf ha h
    exact ⟨mrawA x, ⟨x, rfl⟩, hx⟩) hf'
  obtain ⟨l, rfl⟩ := exists_mraws h1
  rw [hct] at h3
  exact ⟨l, h3⟩
theorem arg_mraw {t a : TypeId} (hst : ∃ fs : Array Field, P.underlying t = some (.struct fs) ∧ fs.size = 4) (hct : P.cellsOf t = 4)
    (hf : ∀ i ty, [a, a, a, a][i]? = some ty → fieldTy P t i = some (i, ty) ∧ P.cellsOf ty = 1) (ha : P.underlying a = some (.int .u8)) {r : Reach} {b0 : Nat} {v : Value} {d : DataW H} {ps : List MemPlace}
    (hval : Value.okWide P w r b0 t v) (hd : DataW.Trod enc P w base spare held t v d ps) : ∃ x : MRaw, DRep (oldW w) w v (mrawA x) := by
  have hst0 := hst
  obtain ⟨fs, ht, _⟩ := hst0
  obtain ⟨cs, hv⟩ := okWide_agg ht hval
  obtain ⟨fuel, hf'⟩ := hd
  subst hv
  obtain ⟨x, hx⟩ := rd_mraw hst hct hf ha hf'
  exact ⟨x, arg_of_cells rfl hx⟩
end
end Go.Proofs
