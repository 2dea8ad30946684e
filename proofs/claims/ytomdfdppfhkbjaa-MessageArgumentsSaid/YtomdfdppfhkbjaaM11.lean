/- Arguments of the message statements: bools, pairs of bools, a commit, a packet. -/
import Derived.Test.YtomdfdppfhkbjaaM10
set_option linter.unusedVariables false
set_option linter.unusedSimpArgs false
namespace Go.Proofs
open Go Go.Ideal Go.RowKit Go.WideShapes Go.ChangeShapes
section
variable {H : Type} {enc : TypeId × Value → H} {P : Program} {w : World} {base : Nat} {spare : Nat → Bool} {held : Bool}
theorem arg_cm {t a b : TypeId} (hst : ∃ fs : Array Field, P.underlying t = some (.struct fs) ∧ fs.size = 3) (hct : P.cellsOf t = 3)
    (hf : ∀ i ty, [a, a, b][i]? = some ty → fieldTy P t i = some (i, ty) ∧ P.cellsOf ty = 1) (ha : P.underlying a = some (.int .i64)) (hb : P.underlying b = some .string) {r : Reach} {b0 : Nat} {v : Value} {d : DataW H} {ps : List MemPlace}
    (hval : Value.okWide P w r b0 t v) (hd : DataW.Trod enc P w base spare held t v d ps) : ∃ x : Cmt, DRep (oldW w) w v (cmA x) := by
  have hst0 := hst
  obtain ⟨fs, ht, _⟩ := hst0
  obtain ⟨cs, hv⟩ := okWide_agg ht hval
  obtain ⟨fuel, hf'⟩ := hd
  subst hv
  obtain ⟨hl, hi⟩ := rd_fields (ts := [a, a, b]) hst hct hf hf'
  simp only [Value.cells] at hl hi
  match hm : cs.toList, hl with
  | [c0, c1, c2], _ =>
    rw [hm] at hi
    obtain ⟨_, _, h0⟩ := hi 0 a c0 rfl rfl
    obtain ⟨_, _, h1⟩ := hi 1 a c1 rfl rfl
    obtain ⟨_, _, h2⟩ := hi 2 b c2 rfl rfl
    obtain ⟨n0, e0, _⟩ := DataW.trod_int ha h0
    obtain ⟨n1, e1, _⟩ := DataW.trod_int ha h1
    obtain ⟨s, e2, _⟩ := DataW.trod_string hb h2
    cases e0; cases e1; cases e2
    refine ⟨⟨n0, n1, s.data.toList⟩, arg_of_cells rfl ⟨by rw [hm]; rfl, ?_, ?_⟩⟩
    · rw [hm]; intro v hv
      simp only [List.mem_cons, List.not_mem_nil, or_false] at hv
      rcases hv with rfl | rfl | rfl <;> rfl
    · rw [hm]
      have hs := DRep.str (ok := oldW w) (w := w) s.data.toList
      exact Pts.cons (.int ..) (Pts.cons (.int ..) (Pts.cons (by simpa using hs) Pts.nil))
theorem arg_pk {t a b : TypeId} (hst : ∃ fs : Array Field, P.underlying t = some (.struct fs) ∧ fs.size = 4) (hct : P.cellsOf t = 4)
    (hf : ∀ i ty, [a, a, a, b][i]? = some ty → fieldTy P t i = some (i, ty) ∧ P.cellsOf ty = 1) (ha : P.underlying a = some (.int .i64)) (hb : P.underlying b = some .string) {r : Reach} {b0 : Nat} {v : Value} {d : DataW H} {ps : List MemPlace}
    (hval : Value.okWide P w r b0 t v) (hd : DataW.Trod enc P w base spare held t v d ps) : ∃ k p i : Int, ∃ s : List UInt8, DRep (oldW w) w v (.agg [.int .i64 k, .int .i64 p, .int .i64 i, .str s]) := by
  have hst0 := hst
  obtain ⟨fs, ht, _⟩ := hst0
  obtain ⟨cs, hv⟩ := okWide_agg ht hval
  obtain ⟨fuel, hf'⟩ := hd
  subst hv
  obtain ⟨hl, hi⟩ := rd_fields (ts := [a, a, a, b]) hst hct hf hf'
  simp only [Value.cells] at hl hi
  match hm : cs.toList, hl with
  | [c0, c1, c2, c3], _ =>
    rw [hm] at hi
    obtain ⟨_, _, h0⟩ := hi 0 a c0 rfl rfl
    obtain ⟨_, _, h1⟩ := hi 1 a c1 rfl rfl
    obtain ⟨_, _, h2⟩ := hi 2 a c2 rfl rfl
    obtain ⟨_, _, h3⟩ := hi 3 b c3 rfl rfl
    obtain ⟨n0, e0, _⟩ := DataW.trod_int ha h0
    obtain ⟨n1, e1, _⟩ := DataW.trod_int ha h1
    obtain ⟨n2, e2, _⟩ := DataW.trod_int ha h2
    obtain ⟨s, e3, _⟩ := DataW.trod_string hb h3
    cases e0; cases e1; cases e2; cases e3
    refine ⟨n0, n1, n2, s.data.toList, arg_of_cells rfl ⟨by rw [hm]; rfl, ?_, ?_⟩⟩
    · rw [hm]; intro v hv
      simp only [List.mem_cons, List.not_mem_nil, or_false] at hv
      rcases hv with rfl | rfl | rfl | rfl <;> rfl
    · rw [hm]
      have hs := DRep.str (ok := oldW w) (w := w) s.data.toList
      exact Pts.cons (.int ..) (Pts.cons (.int ..) (Pts.cons (.int ..) (Pts.cons (by simpa using hs) Pts.nil)))
end
end Go.Proofs
