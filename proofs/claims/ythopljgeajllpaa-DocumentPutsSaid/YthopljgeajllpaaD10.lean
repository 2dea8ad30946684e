/- Arguments of the document statements. -/
import Derived.Test.YthopljgeajllpaaD8
import Derived.Test.YthopljgeajllpaaCoreU
set_option linter.unusedVariables false
set_option linter.unusedSimpArgs false
namespace Go.Proofs
open Go Go.Ideal Go.RowKit Go.WideShapes Go.ChangeShapes
section
variable {H : Type} {enc : TypeId × Value → H} {P : Program} {w : World} {base : Nat} {spare : Nat → Bool} {held : Bool}

/-- A struct of which every field is one cell. -/
theorem rd_fields {t : TypeId} {ts : List TypeId} (hst : ∃ fs : Array Field, P.underlying t = some (.struct fs) ∧ fs.size = ts.length) (hct : P.cellsOf t = ts.length)
    (hf : ∀ i ty, ts[i]? = some ty → fieldTy P t i = some (i, ty) ∧ P.cellsOf ty = 1) {fuel : Nat} {cs : List Value} {y : DataW H × List MemPlace} (h : DataW.trod enc P w base spare held fuel t cs = some y) :
    cs.length = ts.length ∧ ∀ (i : Nat) ty c, ts[i]? = some ty → cs[i]? = some c → ∃ fuel' y', DataW.trod enc P w base spare held fuel' ty [c] = some y' := by
  obtain ⟨fs, ht, hs⟩ := hst
  obtain ⟨xs, n, _, _, hl, hx, hi⟩ := DataW.trod_struct ht h
  refine ⟨by rw [hl, hct], fun i ty c h1 h2 => ?_⟩
  obtain ⟨h3, h4⟩ := hf i ty h1
  have hil : i < ts.length := (List.getElem?_eq_some_iff.1 h1).1
  simp only [fieldTy, ht] at h3
  cases hfi : fs[i]? with
  | none => simp [hfi] at h3
  | some f =>
    simp only [hfi, Option.map_some, Option.some.injEq, Prod.mk.injEq] at h3
    obtain ⟨h5, h6⟩ := h3
    have := hi i f hfi
    rw [h5, h6, h4] at this
    have hcs : (cs.drop i).take 1 = [c] := by
      have : cs.drop i = c :: cs.drop (i + 1) := by
        obtain ⟨hlt, he⟩ := List.getElem?_eq_some_iff.1 h2
        rw [List.drop_eq_getElem_cons hlt, he]
      rw [this]; rfl
    rw [hcs, List.getElem?_eq_getElem (by omega)] at this
    exact ⟨n, _, this⟩

theorem rd_raw {t a b e : TypeId} (hst : ∃ fs : Array Field, P.underlying t = some (.struct fs) ∧ fs.size = 5) (hct : P.cellsOf t = 5)
    (hf : ∀ i ty, [a, a, a, a, b][i]? = some ty → fieldTy P t i = some (i, ty) ∧ P.cellsOf ty = 1) (ha : P.underlying a = some (.int .u8)) (hb : P.underlying b = some (.slice e)) (he : P.underlying e = some (.int .u8)) (hc : P.cellsOf e = 1)
    {fuel : Nat} {cs : List Value} {y : DataW H × List MemPlace} (h : DataW.trod enc P w base spare held fuel t cs = some y) : ∃ x : Raw, Cells w cs (rawA x) := by
  obtain ⟨hl, hi⟩ := rd_fields (ts := [a, a, a, a, b]) hst hct hf h
  match cs, hl with
  | [c0, c1, c2, c3, c4], _ =>
    obtain ⟨_, _, h0⟩ := hi 0 a c0 rfl rfl
    obtain ⟨_, _, h1⟩ := hi 1 a c1 rfl rfl
    obtain ⟨_, _, h2⟩ := hi 2 a c2 rfl rfl
    obtain ⟨_, _, h3⟩ := hi 3 a c3 rfl rfl
    obtain ⟨_, _, h4⟩ := hi 4 b c4 rfl rfl
    obtain ⟨b0, e0⟩ := rd_u8 ha h0
    obtain ⟨b1, e1⟩ := rd_u8 ha h1
    obtain ⟨b2, e2⟩ := rd_u8 ha h2
    obtain ⟨b3, e3⟩ := rd_u8 ha h3
    obtain ⟨l, _, r4⟩ := rd_bytes hb he hc h4
    obtain ⟨v4, e4, o4⟩ := DataW.one_cell hb h4
    cases e0; cases e1; cases e2; cases e3; cases e4
    refine ⟨⟨b0, b1, b2, b3, l⟩, rfl, ?_, ?_⟩
    · intro v hv
      simp only [List.mem_cons, List.not_mem_nil, or_false] at hv
      rcases hv with rfl | rfl | rfl | rfl | rfl
      · rfl
      · rfl
      · rfl
      · rfl
      · exact o4
    · exact Pts.cons (.int ..) (Pts.cons (.int ..) (Pts.cons (.int ..) (Pts.cons (.int ..) (Pts.cons r4 Pts.nil))))
theorem exists_raws : ∀ {xs : List AV}, (∀ x ∈ xs, ∃ r, x = rawA r) → ∃ l, xs = rawsOf l
  | [], _ => ⟨[], rfl⟩
  | x :: xs, h => by
    obtain ⟨b, rfl⟩ := h x (by simp)
    obtain ⟨l, rfl⟩ := exists_raws (xs := xs) (fun y hy => h y (by simp [hy]))
    exact ⟨b :: l, rfl⟩
theorem arg_raws {t' t a b e : TypeId} (ht' : P.underlying t' = some (.slice t)) (hst : ∃ fs : Array Field, P.underlying t = some (.struct fs) ∧ fs.size = 5) (hct : P.cellsOf t = 5)
    (hf : ∀ i ty, [a, a, a, a, b][i]? = some ty → fieldTy P t i = some (i, ty) ∧ P.cellsOf ty = 1) (ha : P.underlying a = some (.int .u8)) (hb : P.underlying b = some (.slice e)) (he : P.underlying e = some (.int .u8)) (hc : P.cellsOf e = 1) {r : Reach} {b0 : Nat} {v : Value} {d : DataW H} {ps : List MemPlace}
    (hval : Value.okWide P w r b0 t' v) (hd : DataW.Trod enc P w base spare held t' v d ps) : ∃ l : List Raw, DRep (oldW w) w v (.sl false 5 (rawsOf l)) := by
  obtain ⟨a', len, cap, rfl⟩ := okWide_slice ht' hval
  obtain ⟨fuel, hf'⟩ := hd
  obtain ⟨xs, h1, h2, h3⟩ := rd_slice (Q := fun x => ∃ r : Raw, x = rawA r) ht' (by omega) (fun fuel cs y hl h => by
    obtain ⟨x, hx⟩ := rd_raw hst hct hf ha hb he hc h
    exact ⟨rawA x, ⟨x, rfl⟩, hx⟩) hf'
  obtain ⟨l, rfl⟩ := exists_raws h1
  rw [hct] at h3
  exact ⟨l, h3⟩
theorem okWide_agg {t : TypeId} {fs : Array Field} (ht : P.underlying t = some (.struct fs)) {r : Reach} {b0 : Nat} {v : Value} (hval : Value.okWide P w r b0 t v) : ∃ cs, v = .agg cs := by
  unfold Value.okWide at hval
  rw [ht] at hval
  obtain ⟨cs, h, _⟩ := hval
  exact ⟨cs, h⟩
theorem arg_of_cells {v : Value} {cs : Array Value} {xs : List AV} (hv : v = .agg cs) (h : Cells w cs.toList (.agg xs)) : DRep (oldW w) w v (.agg xs) := by
  subst hv
  have := DRep.agg (ok := oldW w) (w := w) cs.toList xs h.len h.one h.rep.2
  simpa using this
theorem arg_raw {t a b e : TypeId} (hst : ∃ fs : Array Field, P.underlying t = some (.struct fs) ∧ fs.size = 5) (hct : P.cellsOf t = 5)
    (hf : ∀ i ty, [a, a, a, a, b][i]? = some ty → fieldTy P t i = some (i, ty) ∧ P.cellsOf ty = 1) (ha : P.underlying a = some (.int .u8)) (hb : P.underlying b = some (.slice e)) (he : P.underlying e = some (.int .u8)) (hc : P.cellsOf e = 1) {r : Reach} {b0 : Nat} {v : Value} {d : DataW H} {ps : List MemPlace}
    (hval : Value.okWide P w r b0 t v) (hd : DataW.Trod enc P w base spare held t v d ps) : ∃ x : Raw, DRep (oldW w) w v (rawA x) := by
  have hst0 := hst
  obtain ⟨fs, ht, _⟩ := hst0
  obtain ⟨cs, hv⟩ := okWide_agg ht hval
  obtain ⟨fuel, hf'⟩ := hd
  subst hv
  obtain ⟨x, hx⟩ := rd_raw hst hct hf ha hb he hc hf'
  exact ⟨x, arg_of_cells rfl hx⟩
theorem arg_edit {t a b : TypeId} (hst : ∃ fs : Array Field, P.underlying t = some (.struct fs) ∧ fs.size = 5) (hct : P.cellsOf t = 5)
    (hf : ∀ i ty, [a, a, a, a, b][i]? = some ty → fieldTy P t i = some (i, ty) ∧ P.cellsOf ty = 1) (ha : P.underlying a = some (.int .i64)) (hb : P.underlying b = some .string) {r : Reach} {b0 : Nat} {v : Value} {d : DataW H} {ps : List MemPlace}
    (hval : Value.okWide P w r b0 t v) (hd : DataW.Trod enc P w base spare held t v d ps) : ∃ x : Edit, DRep (oldW w) w v (editA x) := by
  have hst0 := hst
  obtain ⟨fs, ht, _⟩ := hst0
  obtain ⟨cs, hv⟩ := okWide_agg ht hval
  obtain ⟨fuel, hf'⟩ := hd
  subst hv
  obtain ⟨hl, hi⟩ := rd_fields (ts := [a, a, a, a, b]) hst hct hf hf'
  simp only [Value.cells] at hl hi
  match hm : cs.toList, hl with
  | [c0, c1, c2, c3, c4], _ =>
    rw [hm] at hi
    obtain ⟨_, _, h0⟩ := hi 0 a c0 rfl rfl
    obtain ⟨_, _, h1⟩ := hi 1 a c1 rfl rfl
    obtain ⟨_, _, h2⟩ := hi 2 a c2 rfl rfl
    obtain ⟨_, _, h3⟩ := hi 3 a c3 rfl rfl
    obtain ⟨_, _, h4⟩ := hi 4 b c4 rfl rfl
    obtain ⟨n0, e0, _⟩ := DataW.trod_int ha h0
    obtain ⟨n1, e1, _⟩ := DataW.trod_int ha h1
    obtain ⟨n2, e2, _⟩ := DataW.trod_int ha h2
    obtain ⟨n3, e3, _⟩ := DataW.trod_int ha h3
    obtain ⟨s, e4, _⟩ := DataW.trod_string hb h4
    cases e0; cases e1; cases e2; cases e3; cases e4
    refine ⟨⟨n0, n1, n2, n3, s.data.toList⟩, arg_of_cells rfl ⟨by rw [hm]; rfl, ?_, ?_⟩⟩
    · rw [hm]; intro v hv
      simp only [List.mem_cons, List.not_mem_nil, or_false] at hv
      rcases hv with rfl | rfl | rfl | rfl | rfl <;> rfl
    · rw [hm]
      have hs := DRep.str (ok := oldW w) (w := w) s.data.toList
      exact Pts.cons (.int ..) (Pts.cons (.int ..) (Pts.cons (.int ..) (Pts.cons (.int ..) (Pts.cons (by simpa using hs) Pts.nil))))
theorem wf_i16 {n : Int} (h : (Lit.int .i16 n).wf = true) : -32768 ≤ n ∧ n < 32768 := by
  simp [Lit.wf, IntKind.min, IntKind.max, IntKind.signed, IntKind.bits] at h; omega
end
end Go.Proofs
