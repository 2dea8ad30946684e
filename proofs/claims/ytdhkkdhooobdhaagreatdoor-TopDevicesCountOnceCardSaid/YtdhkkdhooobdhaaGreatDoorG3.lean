/- Devices: the table of the kinds of orders. -/
import Derived.Test.YtdhkkdhooobdhaaGreatDoorG2
import Derived.Test.YtdhkkdhooobdhaaGreatDoorCoreW
import Derived.WalkSpells
import Derived.Deep.LoopGhost
import Derived.Carry
set_option linter.unusedVariables false
set_option linter.unusedSimpArgs false
namespace Go.Proofs
open Go Go.RowKit
def fv (f : Nat) : Value := .func (.func f) #[] #[]
def fent (k : Int) (f g : Nat) (b : Nat) : MapEntry := { key := .int .i64 k, val := .agg #[fv f, fv g], born := b }
def putM (w : World) (b : Nat) (o : Obj) : World := { w with heap := w.heap.setIfInBounds b o }
theorem putM_heap {w : World} {b : Nat} {o o' : Obj} (h : w.heap[b]? = some o') : (putM w b o).heap[b]? = some o := by
  have hb : b < w.heap.size := (Array.getElem?_eq_some_iff.1 h).1
  simp [putM, hb]
theorem putM_other {w : World} {b k : Nat} {o : Obj} (h : k ≠ b) : (putM w b o).heap[k]? = w.heap[k]? := by
  simp [putM, Array.getElem?_setIfInBounds, Ne.symm h]
set_option maxRecDepth 100000 in
set_option maxHeartbeats 4000000 in
theorem forms_calls (w : World) : Calls Tryz.prog 34 #[] w fun e w' => e = .returned (.map (some w.heap.size)) ∧ w'.os = w.os ∧ w'.tape = w.tape ∧ w'.output = w.output ∧ w.heap.size < w'.heap.size ∧ (∀ k, k < w.heap.size → w'.heap[k]? = w.heap[k]?) ∧
    w'.heap[w.heap.size]? = some (.map #[fent 1 53 54 0, fent 2 55 56 1, fent 3 57 58 2, fent 4 59 60 3, fent 5 61 62 4] 5) := by
  have hm : Tryz.prog.underlying 87 = some (.map 3 107) := rfl
  have hk : Tryz.prog.underlying 3 = some (.int .i64) := rfl
  obtain ⟨b, hb⟩ : ∃ b, b = w.heap.size := ⟨_, rfl⟩
  obtain ⟨W0, hW0⟩ : ∃ W0, W0 = w.alloc (.map #[] 0) := ⟨_, rfl⟩
  have g0 : W0.heap[b]? = some (.map #[] 0) := by rw [hW0, hb]; exact heap_alloc_new w _
  have r0 : (Instr.makeMap 87 none).run Tryz.prog w = .ok (.map (some b)) W0 := by rw [hW0, hb]; rfl
  obtain ⟨W1, hW1⟩ : ∃ W1, W1 = putM W0 b (.map #[fent 1 53 54 0] 1) := ⟨_, rfl⟩
  have r1 : (Instr.mapUpdate 87 (.map (some b)) (.int .i64 1) (.agg #[fv 53, fv 54])).run Tryz.prog W0 = .ok () W1 := by
    rw [hW1]; exact Ideal.mapUpd_run (ks := []) hm hk g0 rfl 1 _ (by simp)
  have g1 : W1.heap[b]? = some (.map #[fent 1 53 54 0] 1) := by rw [hW1]; exact putM_heap g0
  obtain ⟨W2, hW2⟩ : ∃ W2, W2 = putM W1 b (.map #[fent 1 53 54 0, fent 2 55 56 1] 2) := ⟨_, rfl⟩
  have r2 : (Instr.mapUpdate 87 (.map (some b)) (.int .i64 2) (.agg #[fv 55, fv 56])).run Tryz.prog W1 = .ok () W2 := by
    rw [hW2]; exact Ideal.mapUpd_run (ks := [1]) hm hk g1 rfl 2 _ (by simp)
  have g2 : W2.heap[b]? = some (.map #[fent 1 53 54 0, fent 2 55 56 1] 2) := by rw [hW2]; exact putM_heap g1
  obtain ⟨W3, hW3⟩ : ∃ W3, W3 = putM W2 b (.map #[fent 1 53 54 0, fent 2 55 56 1, fent 3 57 58 2] 3) := ⟨_, rfl⟩
  have r3 : (Instr.mapUpdate 87 (.map (some b)) (.int .i64 3) (.agg #[fv 57, fv 58])).run Tryz.prog W2 = .ok () W3 := by
    rw [hW3]; exact Ideal.mapUpd_run (ks := [1, 2]) hm hk g2 rfl 3 _ (by simp)
  have g3 : W3.heap[b]? = some (.map #[fent 1 53 54 0, fent 2 55 56 1, fent 3 57 58 2] 3) := by rw [hW3]; exact putM_heap g2
  obtain ⟨W4, hW4⟩ : ∃ W4, W4 = putM W3 b (.map #[fent 1 53 54 0, fent 2 55 56 1, fent 3 57 58 2, fent 4 59 60 3] 4) := ⟨_, rfl⟩
  have r4 : (Instr.mapUpdate 87 (.map (some b)) (.int .i64 4) (.agg #[fv 59, fv 60])).run Tryz.prog W3 = .ok () W4 := by
    rw [hW4]; exact Ideal.mapUpd_run (ks := [1, 2, 3]) hm hk g3 rfl 4 _ (by simp)
  have g4 : W4.heap[b]? = some (.map #[fent 1 53 54 0, fent 2 55 56 1, fent 3 57 58 2, fent 4 59 60 3] 4) := by rw [hW4]; exact putM_heap g3
  obtain ⟨W5, hW5⟩ : ∃ W5, W5 = putM W4 b (.map #[fent 1 53 54 0, fent 2 55 56 1, fent 3 57 58 2, fent 4 59 60 3, fent 5 61 62 4] 5) := ⟨_, rfl⟩
  have r5 : (Instr.mapUpdate 87 (.map (some b)) (.int .i64 5) (.agg #[fv 61, fv 62])).run Tryz.prog W4 = .ok () W5 := by
    rw [hW5]; exact Ideal.mapUpd_run (ks := [1, 2, 3, 4]) hm hk g4 rfl 5 _ (by simp)
  have g5 : Aside (W5.heap[b]? = some (.map #[fent 1 53 54 0, fent 2 55 56 1, fent 3 57 58 2, fent 4 59 60 3, fent 5 61 62 4] 5)) := by
    unfold Aside; rw [hW5]; exact putM_heap g4
  have g6 : Aside (W5.os = w.os ∧ W5.tape = w.tape ∧ W5.output = w.output ∧ w.heap.size < W5.heap.size ∧ (∀ k, k < w.heap.size → W5.heap[k]? = w.heap[k]?)) := by
    unfold Aside
    rw [hW5, hW4, hW3, hW2, hW1, hW0]
    refine ⟨rfl, rfl, rfl, by simp [putM], fun k hk => ?_⟩
    have hkb : k ≠ b := by omega
    rw [putM_other hkb, putM_other hkb, putM_other hkb, putM_other hkb, putM_other hkb]
    exact Below.heap_alloc w _ k hk
  have hB : Aside (b = w.heap.size) := hb
  clear hW0 hW1 hW2 hW3 hW4 hW5 g0 g1 g2 g3 g4 hb
  simp only [fv] at r1 r2 r3 r4 r5
  go_enter Tryz.func34, Tryz.ntmps34
  go_wp2
  go_ret
  have e1 := g5.out
  obtain ⟨q1, q2, q3, q4, q5⟩ := g6.out
  refine ⟨by rw [hB.out]; rfl, q1, q2, q3, q4, q5, ?_⟩
  rw [← hB.out]; exact e1

open Go.Ideal
/-- The table, as data. -/
def frmA (f g : Nat) : AV := .agg [.fn f [], .fn g []]
def tabA : AV := .mp [1, 2, 3, 4, 5] [frmA 53 54, frmA 55 56, frmA 57 58, frmA 59 60, frmA 61 62]
theorem frm_rep {ok : Nat → Prop} {w : World} (f g : Nat) : DRep ok w (.agg #[fv f, fv g]) (frmA f g) := by
  have h : ∀ f, DRep ok w (fv f) (.fn f []) := fun f => .fn f [] [] rfl (by simp)
  have := DRep.agg (ok := ok) (w := w) [fv f, fv g] [.fn f [], .fn g []] rfl (by intro v hv; simp only [List.mem_cons, List.not_mem_nil, or_false] at hv; rcases hv with rfl | rfl <;> rfl) (Pts.cons (R := DRep ok w) (h f) (Pts.cons (h g) Pts.nil)).2
  exact this
theorem forms_spec : Ideal.Spec Tryz.prog 34 [] tabA none := by
  refine ⟨⟨Tryz.f34, Tryz.func34, rfl, rfl⟩, (fun o h => by cases h), fun ok w vs hlt hp => ?_⟩
  rw [hp.nil_inv]
  refine (forms_calls w).mono ?_
  rintro e w' ⟨rfl, h1, h2, h3, h4, h5, h6⟩
  refine ⟨_, fun b => ok b ∨ b = w.heap.size, fun _ => none, rfl, ⟨h1, h2, h3, by omega, h5⟩, fun _ h => .inl h, fun b hb => ?_, ?_, fun k h => ?_, ?_⟩
  · rcases hb with hb | rfl
    · exact ⟨by have := hlt b hb; omega, .inl hb⟩
    · exact ⟨h4, .inr (Nat.le_refl _)⟩
  · refine DRep.mp _ _ _ _ _ (.inr rfl) h6 rfl rfl ?_
    have key : Pts (DRep (fun b => ok b ∨ b = w.heap.size) w') [.agg #[fv 53, fv 54], .agg #[fv 55, fv 56], .agg #[fv 57, fv 58], .agg #[fv 59, fv 60], .agg #[fv 61, fv 62]]
        [frmA 53 54, frmA 55 56, frmA 57 58, frmA 59 60, frmA 61 62] :=
      Pts.cons (frm_rep _ _) (Pts.cons (frm_rep _ _) (Pts.cons (frm_rep _ _) (Pts.cons (frm_rep _ _) (Pts.cons (frm_rep _ _) Pts.nil))))
    intro i e x hi hx
    have hi' : [Value.agg #[fv 53, fv 54], .agg #[fv 55, fv 56], .agg #[fv 57, fv 58], .agg #[fv 59, fv 60], .agg #[fv 61, fv 62]][i]? = some e.val := by
      match i, hi with
      | 0, hi => cases hi; rfl
      | 1, hi => cases hi; rfl
      | 2, hi => cases hi; rfl
      | 3, hi => cases hi; rfl
      | 4, hi => cases hi; rfl
      | i + 5, hi => simp at hi
    exact key.2 i _ x hi' hx
  · simp [tabA, AV.names, AV.names1, AV.names0] at h
  · exact ⟨(fun k o h => by cases h), (fun k k2 o o2 _ _ _ _ _ h => by cases h)⟩
end Go.Proofs
