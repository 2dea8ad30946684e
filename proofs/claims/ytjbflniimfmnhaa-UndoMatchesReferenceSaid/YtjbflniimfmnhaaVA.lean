/- Arguments of the undo statements: steps that are chosen, a step. -/
import Derived.Test.YtjbflniimfmnhaaV1
import Derived.Test.YtjbflniimfmnhaaD10
set_option linter.unusedVariables false
set_option linter.unusedSimpArgs false
namespace Go.Proofs
open Go Go.Ideal Go.RowKit Go.WideShapes Go.ChangeShapes
section
variable {H : Type} {enc : TypeId × Value → H} {P : Program} {w : World} {base : Nat} {spare : Nat → Bool} {held : Bool}

/-- The cells of a field. -/
theorem rd_part {t : TypeId} (hst : ∃ fs : Array Field, P.underlying t = some (.struct fs)) {fuel : Nat} {cs : List Value} {y : DataW H × List MemPlace} (h : DataW.trod enc P w base spare held fuel t cs = some y) :
    cs.length = P.cellsOf t ∧ ∀ (i off ty : Nat), fieldTy P t i = some (off, ty) → ∃ fuel' y', DataW.trod enc P w base spare held fuel' ty ((cs.drop off).take (P.cellsOf ty)) = some y' := by
  obtain ⟨fs, ht⟩ := hst
  obtain ⟨xs, n, _, _, hl, hx, hi⟩ := DataW.trod_struct ht h
  refine ⟨hl, fun i off ty h3 => ?_⟩
  simp only [fieldTy, ht] at h3
  cases hfi : fs[i]? with
  | none => simp [hfi] at h3
  | some f =>
    simp only [hfi, Option.map_some, Option.some.injEq, Prod.mk.injEq] at h3
    obtain ⟨h5, h6⟩ := h3
    have hil : i < fs.size := (Array.getElem?_eq_some_iff.1 hfi).1
    have := hi i f hfi
    rw [h5, h6, List.getElem?_eq_getElem (by omega)] at this
    exact ⟨n, _, this⟩
structure UrawTy (P : Program) (t : TypeId) : Prop where
  st : ∃ fs : Array Field, P.underlying t = some (.struct fs)
  ct : P.cellsOf t = 7
  ty : ∃ a b x s e : Nat, fieldTy P t 0 = some (0, a) ∧ fieldTy P t 1 = some (1, b) ∧ fieldTy P t 2 = some (2, x) ∧ P.underlying a = some (.int .u8) ∧ P.cellsOf a = 1 ∧ P.underlying b = some .bool ∧ P.cellsOf b = 1 ∧
    (∃ fs : Array Field, P.underlying x = some (.struct fs) ∧ fs.size = 5) ∧ P.cellsOf x = 5 ∧ (∀ i ty, [a, a, a, a, s][i]? = some ty → fieldTy P x i = some (i, ty) ∧ P.cellsOf ty = 1) ∧ P.underlying s = some (.slice e) ∧
    P.underlying e = some (.int .u8) ∧ P.cellsOf e = 1
theorem rd_uraw {t : TypeId} (T : UrawTy P t) {fuel : Nat} {cs : List Value} {y : DataW H × List MemPlace} (h : DataW.trod enc P w base spare held fuel t cs = some y) : ∃ x : URaw, Cells w cs (urawA x) := by
  obtain ⟨a, b, x, s, e, f0, f1, f2, ha, ca, hb, cb, hx, cx, fx, hs, he, ce⟩ := T.ty
  obtain ⟨hl, hi⟩ := rd_part T.st h
  rw [T.ct] at hl
  match cs, hl with
  | [c0, c1, c2, c3, c4, c5, c6], _ =>
    obtain ⟨_, _, h0⟩ := hi 0 _ _ f0
    obtain ⟨_, _, h1⟩ := hi 1 _ _ f1
    obtain ⟨_, _, h2⟩ := hi 2 _ _ f2
    rw [ca] at h0
    rw [cb] at h1
    rw [cx] at h2
    obtain ⟨b0, e0⟩ := rd_u8 ha h0
    obtain ⟨b1, e1, _⟩ := DataW.trod_bool hb h1
    obtain ⟨r, hr⟩ := rd_raw hx cx fx ha hs he ce h2
    obtain ⟨r1, r2, r3⟩ := hr
    cases e0; cases e1
    refine ⟨⟨b0, b1, r⟩, rfl, ?_, ?_⟩
    · intro v hv
      rcases List.mem_cons.1 hv with rfl | hv
      · rfl
      rcases List.mem_cons.1 hv with rfl | hv
      · rfl
      · exact r2 v hv
    · exact Pts.cons (.int ..) (Pts.cons (.bool ..) r3)
theorem exists_uraws : ∀ {xs : List AV}, (∀ x ∈ xs, ∃ r, x = urawA r) → ∃ l, xs = urawsOf l
  | [], _ => ⟨[], rfl⟩
  | x :: xs, h => by
    obtain ⟨b, rfl⟩ := h x (by simp)
    obtain ⟨l, rfl⟩ := exists_uraws (xs := xs) (fun y hy => h y (by simp [hy]))
    exact ⟨b :: l, rfl⟩
theorem arg_uraws {t' t : TypeId} (ht' : P.underlying t' = some (.slice t)) (T : UrawTy P t) {r : Reach} {b0 : Nat} {v : Value} {d : DataW H} {ps : List MemPlace}
    (hval : Value.okWide P w r b0 t' v) (hd : DataW.Trod enc P w base spare held t' v d ps) : ∃ l : List URaw, DRep (oldW w) w v (.sl false 7 (urawsOf l)) := by
  obtain ⟨a', len, cap, rfl⟩ := okWide_slice ht' hval
  obtain ⟨fuel, hf'⟩ := hd
  obtain ⟨xs, h1, h2, h3⟩ := rd_slice (Q := fun x => ∃ r : URaw, x = urawA r) ht' (by rw [T.ct]; omega) (fun fuel cs y hl h => by
    obtain ⟨x, hx⟩ := rd_uraw T h
    exact ⟨urawA x, ⟨x, rfl⟩, hx⟩) hf'
  obtain ⟨l, rfl⟩ := exists_uraws h1
  rw [T.ct] at h3
  exact ⟨l, h3⟩
structure StpTy (P : Program) (t : TypeId) : Prop where
  st : ∃ fs : Array Field, P.underlying t = some (.struct fs)
  ct : P.cellsOf t = 8
  ty : ∃ a b x s : Nat, fieldTy P t 0 = some (0, a) ∧ fieldTy P t 1 = some (1, a) ∧ fieldTy P t 2 = some (2, x) ∧ fieldTy P t 3 = some (7, b) ∧ P.underlying a = some (.int .i64) ∧ P.cellsOf a = 1 ∧ P.underlying b = some .bool ∧ P.cellsOf b = 1 ∧
    (∃ fs : Array Field, P.underlying x = some (.struct fs) ∧ fs.size = 5) ∧ P.cellsOf x = 5 ∧ (∀ i ty, [a, a, a, a, s][i]? = some ty → fieldTy P x i = some (i, ty) ∧ P.cellsOf ty = 1) ∧ P.underlying s = some .string
theorem arg_stp {t : TypeId} (T : StpTy P t) {r : Reach} {b0 : Nat} {v : Value} {d : DataW H} {ps : List MemPlace}
    (hval : Value.okWide P w r b0 t v) (hd : DataW.Trod enc P w base spare held t v d ps) : ∃ x : Stp, DRep (oldW w) w v (stA x) := by
  obtain ⟨fs, ht⟩ := T.st
  obtain ⟨a, b, x, s, f0, f1, f2, f3, ha, ca, hb, cb, hx, cx, fx, hs⟩ := T.ty
  obtain ⟨cs, hv⟩ := okWide_agg ht hval
  obtain ⟨fuel, hf'⟩ := hd
  subst hv
  obtain ⟨hl, hi⟩ := rd_part T.st hf'
  rw [T.ct] at hl
  simp only [Value.cells] at hl hi
  match hm : cs.toList, hl with
  | [c0, c1, c2, c3, c4, c5, c6, c7], _ =>
    rw [hm] at hi
    obtain ⟨_, _, h0⟩ := hi 0 _ _ f0
    obtain ⟨_, _, h1⟩ := hi 1 _ _ f1
    obtain ⟨_, _, h2⟩ := hi 2 _ _ f2
    obtain ⟨_, _, h3⟩ := hi 3 _ _ f3
    rw [ca] at h0 h1
    rw [cb] at h3
    rw [cx] at h2
    obtain ⟨n0, e0, _⟩ := DataW.trod_int ha h0
    obtain ⟨n1, e1, _⟩ := DataW.trod_int ha h1
    obtain ⟨b3, e3, _⟩ := DataW.trod_bool hb h3
    obtain ⟨_, hj⟩ := rd_fields (ts := [a, a, a, a, s]) hx cx fx h2
    obtain ⟨_, _, g0⟩ := hj 0 a c2 rfl rfl
    obtain ⟨_, _, g1⟩ := hj 1 a c3 rfl rfl
    obtain ⟨_, _, g2⟩ := hj 2 a c4 rfl rfl
    obtain ⟨_, _, g3⟩ := hj 3 a c5 rfl rfl
    obtain ⟨_, _, g4⟩ := hj 4 s c6 rfl rfl
    obtain ⟨m0, q0, _⟩ := DataW.trod_int ha g0
    obtain ⟨m1, q1, _⟩ := DataW.trod_int ha g1
    obtain ⟨m2, q2, _⟩ := DataW.trod_int ha g2
    obtain ⟨m3, q3, _⟩ := DataW.trod_int ha g3
    obtain ⟨t, q4, _⟩ := DataW.trod_string hs g4
    cases e0; cases e1; cases e3; cases q0; cases q1; cases q2; cases q3; cases q4
    refine ⟨⟨n0, n1, ⟨m0, m1, m2, m3, t.data.toList⟩, b3⟩, arg_of_cells rfl ⟨by rw [hm]; rfl, ?_, ?_⟩⟩
    · rw [hm]; intro v hv
      simp only [List.mem_cons, List.not_mem_nil, or_false] at hv
      rcases hv with rfl | rfl | rfl | rfl | rfl | rfl | rfl | rfl <;> rfl
    · rw [hm]
      have hs := DRep.str (ok := oldW w) (w := w) t.data.toList
      exact Pts.cons (.int ..) (Pts.cons (.int ..) (Pts.cons (.int ..) (Pts.cons (.int ..) (Pts.cons (.int ..) (Pts.cons (.int ..) (Pts.cons (by simpa using hs) (Pts.cons (.bool ..) Pts.nil)))))))
end
end Go.Proofs
