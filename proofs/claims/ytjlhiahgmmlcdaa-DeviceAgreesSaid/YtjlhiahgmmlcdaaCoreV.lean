/- Results that are more than is asked. -/
import Derived.Test.YtjlhiahgmmlcdaaCoreR
set_option linter.unusedVariables false
set_option linter.unusedSimpArgs false
namespace Go.Ideal
open Go.RowKit

theorem AV.fin_R00 {ok : Nat → Prop} {φ : Names} {w : World} {v : Value} {x : AV} (h : x.fin = true) (hr : R0 ok φ w v x) : DRep ok w v x := AV.fin_R0 h (R2.of_R0 hr)
theorem Spec.weakT {P : Program} {f : FuncId} {ds : List AV} {rs rs' : List AV} (h : Spec P f ds (.tup rs) none) (hf : rs.all AV.fin = true) (hf' : rs'.all AV.fin = true) (hle : ArgsLe rs rs') : Spec P f ds (.tup rs') none := by
  refine ⟨h.1, by simp, fun ok w vs hlt hp => ?_⟩
  refine Calls.mono (h.2.2 ok w vs hlt hp) ?_
  rintro e w' ⟨v, ok', φ, h1, h2, h3, h4, h5, h6, h7⟩
  refine ⟨v, ok', φ, h1, h2, h3, h4, ?_, (fun k hk => by rw [AV.tup_names hf'] at hk; cases hk), h7⟩
  obtain ⟨us, rfl, hpts⟩ := h5
  have hd : Pts (DRep ok' w') us rs := ⟨hpts.1, fun i v x q1 q2 => AV.fin_R00 (List.all_eq_true.1 hf x (List.mem_of_getElem? q2)) (hpts.2 i v x q1 q2)⟩
  exact ⟨us, rfl, (hle.pts hd).mono fun v x hx => R0.of_data hx⟩

/-! A box's content, weakened. -/
section
variable {c : Ctx} {σ : St}
theorem ArgsLe.length : ∀ {xs ys : List AV}, ArgsLe xs ys → xs.length = ys.length
  | [], [], _ => rfl
  | _ :: _, _ :: _, h => by simp [h.2.length]
  | [], _ :: _, h => h.elim
  | _ :: _, [], h => h.elim
theorem ArgsLe.get : ∀ {xs ys : List AV}, ArgsLe xs ys → ∀ (i : Nat) x y, xs[i]? = some x → ys[i]? = some y → AvLe x y
  | [], [], _, _, _, _, h, _ => by simp at h
  | a :: xs, b :: ys, h, 0, x, y, h1, h2 => by simp at h1 h2; subst h1 h2; exact h.1
  | a :: xs, b :: ys, h, i + 1, x, y, h1, h2 => h.2.get i x y (by simpa using h1) (by simpa using h2)
  | [], _ :: _, h, _, _, _, _, _ => h.elim
  | _ :: _, [], h, _, _, _, _, _ => h.elim
theorem Le.boxW (b sz : Nat) (e : TypeId) (cs ds : List AV) (hb : look σ.h b = some ⟨sz, e, true, [.agg cs]⟩) (h1 : cs.all AV.data0 = true) (h2 : ds.all AV.data0 = true) (hle : ArgsLe cs ds) : Le c σ ⟨σ.s, upd σ.h b ⟨sz, e, true, [.agg ds]⟩⟩ := by
  rintro a w ⟨ok, φ, h⟩
  have hfx : flat [AV.agg cs] = cs := by simp [flat, AV.cells]
  have hfy : flat [AV.agg ds] = ds := by simp [flat, AV.cells]
  have hcl : cs.length = sz := by
    rcases h.heap.at_ b _ hb with ⟨_, a2⟩ | ⟨g, N, a1, a2, a3, cur, fz, b1, b2, b3, b4, b5, b6, b7⟩
    · simp at a2
    · simpa [AV.cells] using b5 (.agg cs) (by simp)
  refine ⟨ok, φ, h.defers, h.slots, ?_, h.okLt, h.okOr, h.ok0, h.below⟩
  refine h.heap.cells hb ?_ (by rw [hfx, hfy, hle.length]) (by simp) ?_
  · intro y hy
    simp at hy; subst hy
    simpa [AV.cells, ← hle.length] using hcl
  · intro i v x y hx hy hr
    rw [hfx] at hx; rw [hfy] at hy
    have hdx := List.all_eq_true.1 h1 x (List.mem_of_getElem? hx)
    have hdy := List.all_eq_true.1 h2 y (List.mem_of_getElem? hy)
    exact R0.of_data (hle.get i x y hx hy _ _ _ (R0.data hr hdx))
end
end Go.Ideal
