/- Rules for the control of a function over abstract states. -/
import Derived.Test.YtdhkkdhooobdhaaGreatDoorCore
import Derived.Deep.LoopGhost
set_option linter.unusedVariables false
set_option linter.unusedSimpArgs false
namespace Go.Ideal
open Go.RowKit

def PQ (c : Ctx) (N : St → Prop) (E : Nat → St → Prop) (R : St → Prop) : Exit → Act → World → Prop
  | .normal, a, w => ∃ σ, N σ ∧ Holds c σ a w
  | .exit i, a, w => ∃ σ, E i σ ∧ Holds c σ a w
  | .ret, a, w => ∃ σ, R σ ∧ Holds c σ a w
  | _, _, _ => False

def T (c : Ctx) (code : Code) (N : St → Prop) (E : Nat → St → Prop) (R : St → Prop) (σ : St) : Prop :=
  ∀ a w, Holds c σ a w → code.wp c.P (PQ c N E R) a w

section
variable {c : Ctx} {N N' : St → Prop} {E E' : Nat → St → Prop} {R R' : St → Prop} {σ σ' : St} {x y : Code}

theorem T.seq (h : T c x (fun σ' => T c y N E R σ') E R σ) : T c (.seq x y) N E R σ := fun a w ha =>
  wp_seq (wp_mono (h a w ha) fun e a' w' q => by
    cases e <;> first | exact q | skip
    obtain ⟨σ', hT, hH⟩ := q
    exact hT a' w' hH)
theorem T.skip (h : N σ) : T c .skip N E R σ := fun a w ha => wp_skip ⟨σ, h, ha⟩
theorem T.exit {i : Nat} (h : E i σ) : T c (.exit i) N E R σ := fun a w ha => wp_exit ⟨σ, h, ha⟩
theorem T.ret (h : R σ) : T c .ret N E R σ := fun a w ha => wp_ret ⟨σ, h, ha⟩
theorem T.mono (h : T c x N E R σ) (hN : ∀ σ, N σ → N' σ) (hE : ∀ i σ, E i σ → E' i σ) (hR : ∀ σ, R σ → R' σ) : T c x N' E' R' σ := fun a w ha =>
  wp_mono (h a w ha) fun e a' w' q => by
    cases e <;> first | exact q | skip
    · obtain ⟨σ', h1, h2⟩ := q; exact ⟨σ', hN _ h1, h2⟩
    · obtain ⟨σ', h1, h2⟩ := q; exact ⟨σ', hE _ _ h1, h2⟩
    · obtain ⟨σ', h1, h2⟩ := q; exact ⟨σ', hR _ h1, h2⟩
theorem T.block {id : Nat} (h : T c x N (fun i => if i = id then N else E i) R σ) : T c (.block id x) N E R σ := fun a w ha =>
  wp_block (wp_mono (h a w ha) fun e a' w' q => by
    cases e <;> first | exact q | skip
    rename_i i
    obtain ⟨σ', h1, h2⟩ := q
    simp only [Exit.inBlock]
    by_cases e : i = id
    · simp only [e, if_true] at h1 ⊢; exact ⟨σ', h1, h2⟩
    · simp only [e, if_false] at h1 ⊢; exact ⟨σ', h1, h2⟩)

def Le (c : Ctx) (σ σ' : St) : Prop := ∀ a w, Holds c σ a w → Holds c σ' a w
theorem Le.refl : Le c σ σ := fun _ _ h => h
theorem Le.trans {σ1 σ2 σ3 : St} (h : Le c σ1 σ2) (h' : Le c σ2 σ3) : Le c σ1 σ3 := fun a w x => h' a w (h a w x)
theorem T.weaken (h : Le c σ σ') (t : T c x N E R σ') : T c x N E R σ := fun a w ha => t a w (h a w ha)

theorem T.loop {ι : Type} (st : ι → St) (I : ι → Prop) (μ : ι → Nat) (h0 : ∃ i, I i ∧ Le c σ (st i))
    (hr : ∀ i, I i → T c x (fun σ' => ∃ i', I i' ∧ μ i' < μ i ∧ Le c σ' (st i')) E R (st i)) : T c (.loop x) N E R σ := by
  intro a w ha
  obtain ⟨i0, hi0, hle0⟩ := h0
  refine wp_loop_ghost (fun n a w => ∃ i, I i ∧ μ i = n ∧ Holds c (st i) a w) (μ i0) ⟨i0, hi0, rfl, hle0 a w ha⟩ ?_
  rintro n a w ⟨i, hi, rfl, hh⟩
  refine wp_mono (hr i hi a w hh) fun e a' w' q => ?_
  cases e <;> first | exact q | skip
  obtain ⟨σ', ⟨i', h1, h2, h3⟩, h4⟩ := q
  exact ⟨μ i', h2, i', h1, rfl, h3 a' w' h4⟩
end

/-! Slots that are forgotten -/
def Fits (xs ys : List AV) : Prop := xs.length = ys.length ∧ ∀ (i : Nat) x y, xs[i]? = some x → ys[i]? = some y → x = y ∨ y = .junk
theorem Fits.nil : Fits [] [] := ⟨rfl, by simp⟩
theorem Fits.cons {x : AV} {xs ys : List AV} (h : Fits xs ys) : Fits (x :: xs) (x :: ys) := by
  refine ⟨by simp [h.1], fun i a b h1 h2 => ?_⟩
  cases i with
  | zero => simp at h1 h2; exact .inl (h1.symm.trans h2)
  | succ i => exact h.2 i a b (by simpa using h1) (by simpa using h2)
theorem Fits.le {c : Ctx} {xs ys : List AV} {h : List (Nat × HO)} (f : Fits xs ys) : Le c ⟨xs, h⟩ ⟨ys, h⟩ := by
  rintro a w ⟨ok, φ, hh⟩
  refine ⟨ok, φ, hh.defers, ⟨hh.slots.1.trans f.1, fun i v y h1 h2 => ?_⟩, hh.heap, hh.okLt, hh.okOr, hh.ok0, hh.below⟩
  have hi : i < xs.length := f.1 ▸ (List.getElem?_eq_some_iff.1 h2).1
  have hx : xs[i]? = some xs[i] := by simp
  rcases f.2 i _ y hx h2 with e | e
  · subst e; exact hh.slots.2 i v _ h1 hx
  · subst e; trivial

end Go.Ideal
