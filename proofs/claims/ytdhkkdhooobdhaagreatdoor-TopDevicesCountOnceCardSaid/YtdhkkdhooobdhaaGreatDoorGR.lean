/- Arguments of the device statements: steps of one user, steps of a team. -/
import Derived.Test.YtdhkkdhooobdhaaGreatDoorGM
import Derived.Test.YtdhkkdhooobdhaaGreatDoorCoreY
set_option linter.unusedVariables false
set_option linter.unusedSimpArgs false
namespace Go.Proofs
open Go Go.Ideal Go.RowKit Go.WideShapes Go.ChangeShapes
section
variable {H : Type} {enc : TypeId × Value → H} {P : Program} {w : World} {base : Nat} {spare : Nat → Bool} {held : Bool}
theorem rd_partD {t : TypeId} (hst : ∃ fs : Array Field, P.underlying t = some (.struct fs)) {fuel : Nat} {cs : List Value} {y : DataW H × List MemPlace} (h : DataW.trod enc P w base spare held fuel t cs = some y) :
    cs.length = P.cellsOf t ∧ ∀ (i off ty : Nat), fieldTy P t i = some (off, ty) → ∃ fuel' y', DataW.trod enc P w base spare held fuel' ty ((cs.drop off).take (P.cellsOf ty)) = some y' := by
  obtain ⟨fs, ht⟩ := hst
  obtain ⟨xs, n, _, _, hl, hx, hi⟩ := DataW.trod_struct ht h
  refine ⟨hl, fun i off ty h3 => ?_⟩
  simp only [fieldTy, ht] at h3
  cases hfi : fs[i]? with
  | none => simp [hfi] at h3
  | some f =>
    simp only [hfi, Option.map_some, Option.some.injEq, Prod.mk.injEq] at h3
    obtain ⟨h5, h6⟩ := h3
    have hil : i < fs.size := (Array.getElem?_eq_some_iff.1 hfi).1
    have := hi i f hfi
    rw [h5, h6, List.getElem?_eq_getElem (by omega)] at this
    exact ⟨n, _, this⟩
structure RawDTy (P : Program) (t a : TypeId) : Prop where
  st : ∃ fs : Array Field, P.underlying t = some (.struct fs)
  ct : P.cellsOf t = 6
  f0 : fieldTy P t 0 = some (0, a)
  f1 : fieldTy P t 1 = some (1, a)
  f2 : fieldTy P t 2 = some (2, a)
  f3 : fieldTy P t 3 = some (3, a)
  f4 : fieldTy P t 4 = some (4, a)
  f5 : fieldTy P t 5 = some (5, a)
  ha : P.underlying a = some (.int .u8)
  ca : P.cellsOf a = 1
theorem u8_lt (b : UInt8) : 0 ≤ (b.toNat : Int) ∧ (b.toNat : Int) < 256 := by
  have := b.toNat_lt; omega
theorem rd_rawD {t a : TypeId} (T : RawDTy P t a) {fuel : Nat} {cs : List Value} {y : DataW H × List MemPlace} (h : DataW.trod enc P w base spare held fuel t cs = some y) : ∃ x : Raw, OkRaw x ∧ Cells w cs (rawA x) := by
  obtain ⟨hl, hi⟩ := rd_partD T.st h
  rw [T.ct] at hl
  match cs, hl with
  | [c0, c1, c2, c3, c4, c5], _ =>
    obtain ⟨_, _, h0⟩ := hi 0 _ _ T.f0
    obtain ⟨_, _, h1⟩ := hi 1 _ _ T.f1
    obtain ⟨_, _, h2⟩ := hi 2 _ _ T.f2
    obtain ⟨_, _, h3⟩ := hi 3 _ _ T.f3
    obtain ⟨_, _, h4⟩ := hi 4 _ _ T.f4
    obtain ⟨_, _, h5⟩ := hi 5 _ _ T.f5
    rw [T.ca] at h0 h1 h2 h3 h4 h5
    obtain ⟨b0, e0⟩ := rd_u8 T.ha h0
    obtain ⟨b1, e1⟩ := rd_u8 T.ha h1
    obtain ⟨b2, e2⟩ := rd_u8 T.ha h2
    obtain ⟨b3, e3⟩ := rd_u8 T.ha h3
    obtain ⟨b4, e4⟩ := rd_u8 T.ha h4
    obtain ⟨b5, e5⟩ := rd_u8 T.ha h5
    cases e0; cases e1; cases e2; cases e3; cases e4; cases e5
    refine ⟨⟨b0.toNat, b1.toNat, b2.toNat, b3.toNat, b4.toNat, b5.toNat⟩, ⟨u8_lt _, u8_lt _, u8_lt _, u8_lt _, u8_lt _, u8_lt _⟩, rfl, ?_, ?_⟩
    · intro v hv
      simp only [List.mem_cons, List.not_mem_nil, or_false] at hv
      rcases hv with rfl | rfl | rfl | rfl | rfl | rfl <;> rfl
    · exact Pts.cons (.int ..) (Pts.cons (.int ..) (Pts.cons (.int ..) (Pts.cons (.int ..) (Pts.cons (.int ..) (Pts.cons (.int ..) Pts.nil)))))
structure RawTTy (P : Program) (t x a : TypeId) : Prop where
  st : ∃ fs : Array Field, P.underlying t = some (.struct fs)
  ct : P.cellsOf t = 8
  f0 : fieldTy P t 0 = some (0, x)
  f1 : ∃ b, fieldTy P t 1 = some (6, b) ∧ P.underlying b = some .bool ∧ P.cellsOf b = 1
  f2 : fieldTy P t 2 = some (7, a)
  x : RawDTy P x a
theorem rd_rawT {t x a : TypeId} (T : RawTTy P t x a) {fuel : Nat} {cs : List Value} {y : DataW H × List MemPlace} (h : DataW.trod enc P w base spare held fuel t cs = some y) : ∃ x : RawT, OkRawT x ∧ Cells w cs (rawTA x) := by
  obtain ⟨hl, hi⟩ := rd_partD T.st h
  obtain ⟨b, g1, g2, g3⟩ := T.f1
  rw [T.ct] at hl
  match cs, hl with
  | [c0, c1, c2, c3, c4, c5, c6, c7], _ =>
    obtain ⟨_, _, h0⟩ := hi 0 _ _ T.f0
    obtain ⟨_, _, h1⟩ := hi 1 _ _ g1
    obtain ⟨_, _, h2⟩ := hi 2 _ _ T.f2
    rw [T.x.ct] at h0
    rw [g3] at h1
    rw [T.x.ca] at h2
    obtain ⟨q, hq, r1, r2, r3⟩ := rd_rawD T.x h0
    obtain ⟨b1, e1, _⟩ := DataW.trod_bool g2 h1
    obtain ⟨b2, e2⟩ := rd_u8 T.x.ha h2
    cases e1; cases e2
    refine ⟨⟨q, b1, b2.toNat⟩, ⟨hq, u8_lt _⟩, rfl, ?_, ?_⟩
    · intro v hv
      simp only [List.mem_cons, List.not_mem_nil, or_false] at hv
      have h6 : ∀ v, v = c0 ∨ v = c1 ∨ v = c2 ∨ v = c3 ∨ v = c4 ∨ v = c5 → v.oneCell' = true := fun v hv => r2 v (by simpa using hv)
      rcases hv with rfl | rfl | rfl | rfl | rfl | rfl | rfl | rfl
      · exact h6 _ (by simp)
      · exact h6 _ (by simp)
      · exact h6 _ (by simp)
      · exact h6 _ (by simp)
      · exact h6 _ (by simp)
      · exact h6 _ (by simp)
      · rfl
      · rfl
    · obtain ⟨p1, p2⟩ := r3
      have e0 := fun i v x h1 h2 => p2 i v x h1 h2
      exact Pts.cons (e0 0 c0 _ rfl rfl) (Pts.cons (e0 1 c1 _ rfl rfl) (Pts.cons (e0 2 c2 _ rfl rfl) (Pts.cons (e0 3 c3 _ rfl rfl) (Pts.cons (e0 4 c4 _ rfl rfl) (Pts.cons (e0 5 c5 _ rfl rfl) (Pts.cons (.bool ..) (Pts.cons (.int ..) Pts.nil)))))))
theorem exists_rawTs : ∀ {xs : List AV}, (∀ x ∈ xs, ∃ r, OkRawT r ∧ x = rawTA r) → ∃ l : List RawT, (∀ x ∈ l, OkRawT x) ∧ xs = l.map rawTA
  | [], _ => ⟨[], by simp, rfl⟩
  | x :: xs, h => by
    obtain ⟨b, hb, rfl⟩ := h x (by simp)
    obtain ⟨l, hl, rfl⟩ := exists_rawTs (xs := xs) (fun y hy => h y (by simp [hy]))
    exact ⟨b :: l, fun y hy => (List.mem_cons.1 hy).elim (fun e => e ▸ hb) (hl y), rfl⟩
theorem arg_rawTs {t' t x a : TypeId} (ht' : P.underlying t' = some (.slice t)) (T : RawTTy P t x a) {r : Reach} {b0 : Nat} {v : Value} {d : DataW H} {ps : List MemPlace}
    (hval : Value.okWide P w r b0 t' v) (hd : DataW.Trod enc P w base spare held t' v d ps) : ∃ l : List RawT, (∀ x ∈ l, OkRawT x) ∧ DRep (oldW w) w v (.sl false 8 (l.map rawTA)) := by
  obtain ⟨a', len, cap, rfl⟩ := okWide_slice ht' hval
  obtain ⟨fuel, hf'⟩ := hd
  obtain ⟨xs, h1, h2, h3⟩ := rd_slice (Q := fun x => ∃ r : RawT, OkRawT r ∧ x = rawTA r) ht' (by rw [T.ct]; omega) (fun fuel cs y hl h => by
    obtain ⟨x, ho, hx⟩ := rd_rawT T h
    exact ⟨rawTA x, ⟨x, ho, rfl⟩, hx⟩) hf'
  obtain ⟨l, hl, rfl⟩ := exists_rawTs h1
  rw [T.ct] at h3
  exact ⟨l, hl, h3⟩
end
end Go.Proofs
