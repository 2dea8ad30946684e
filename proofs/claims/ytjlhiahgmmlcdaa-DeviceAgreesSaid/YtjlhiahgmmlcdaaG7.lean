/- Devices: which orders cover which; needless orders. Written by mkg7.py. -/
import Derived.Test.YtjlhiahgmmlcdaaG2
set_option linter.unusedVariables false
set_option linter.unusedSimpArgs false
namespace Go.Proofs
open Go Go.Ideal
set_option maxRecDepth 8000
set_option maxHeartbeats 4000000

def covB (p o : Ord) : Bool :=
  if p.e < o.e then false else if (p.k = 4 ∧ p.n = 0) ∨ (p.k = 3 ∧ o.k = 5 ∧ o.f = p.n) then true else if p.k ≠ o.k then false
  else if o.k = 1 then p.w == o.w else if o.k = 4 then decide (p.n ≤ o.n) else (decide (p.n = o.n) && decide (p.f = o.f))
theorem ord_cases {o : Ord} (h : RightO o) : (o.k = 1 ∧ o.n = 0 ∧ o.f = 0) ∨ (o.k = 2 ∧ o.f = 0) ∨ (o.k = 3 ∧ o.f = 0) ∨ (o.k = 4 ∧ o.f = 0) ∨ o.k = 5 := by
  rcases h.k with h | h | h | h | h
  · exact .inl ⟨h.1, h.2.2.1, h.2.2.2⟩
  · exact .inr (.inl ⟨h.1, h.2.2.1⟩)
  · exact .inr (.inr (.inl ⟨h.1, h.2.2.1⟩))
  · exact .inr (.inr (.inr (.inl ⟨h.1, h.2.2.1⟩)))
  · exact .inr (.inr (.inr (.inr h.1)))
theorem covers_spec (p o : Ord) (hp : RightO p) (ho : RightO o) : Ideal.Spec Try.prog 74 [ordA p, ordA o] (.bool (covB p o)) none := by
  have hp := ord_cases hp
  have ho := ord_cases ho
  refine Ideal.Spec.of_TD (n := 78) (fn := Try.f74) rfl rfl rfl rfl rfl rfl rfl fun w ok => ?_
  refine T.sregD 78 [0, 1, 2, 3, 4, 5, 11, 20, 34, 41, 42, 49, 57, 71] fun Kr hKr => ?_
  simp only [go_sem]
  (repeat (refine ⟨by (first | exact True.intro | omega | rfl | (simp; done) | (simp; omega)), ?_⟩)); try (refine hKr _ ?_; clear hKr Kr)
  refine T.seqK fun K1 hK1 => ?_
  refine T.block ?_
  by_cases he : p.e < o.e
  · have he' : (p.e < o.e) = True := eq_true he
    have ee : covB p o = false := by unfold covB; rw [if_pos he]
    refine T.sregD 78 [0, 1, 2, 3, 4, 5, 11, 20, 34, 41, 42, 49, 57, 71] fun Kr hKr => ?_
    simp only [go_sem, he']
    (repeat (refine ⟨by (first | exact True.intro | omega | rfl | (simp; done) | (simp; omega)), ?_⟩)); try (refine hKr _ ?_; clear hKr Kr)
    refine T.condTD rfl rfl (fun hb => ?_) (fun hb => ?_) <;> try simp at hb
    refine T.sregD 78 [0, 1, 2, 3, 4, 5, 11, 20, 34, 41, 42, 49, 57, 71] fun Kr hKr => ?_
    simp only [go_sem]
    (repeat (refine ⟨by (first | exact True.intro | omega | rfl | (simp; done) | (simp; omega)), ?_⟩)); try (refine hKr _ ?_; clear hKr Kr)
    refine T.ret (Fin.dataD (by rw [ee]; rfl) rfl rfl)
  have he' : (p.e < o.e) = False := eq_false he
  refine T.sregD 78 [0, 1, 2, 3, 4, 5, 11, 20, 34, 41, 42, 49, 57, 71] fun Kr hKr => ?_
  simp only [go_sem, he']
  (repeat (refine ⟨by (first | exact True.intro | omega | rfl | (simp; done) | (simp; omega)), ?_⟩)); try (refine hKr _ ?_; clear hKr Kr)
  refine T.condTD rfl rfl (fun hb => ?_) (fun hb => ?_) <;> try simp at hb
  obtain ⟨pd, ps, pe, pk, pw, pn, pf⟩ := p
  obtain ⟨od, os, oe, q, ow, on, of⟩ := o
  simp only at hp ho he
  rcases hp with ⟨rfl, rfl, rfl⟩ | ⟨rfl, rfl⟩ | ⟨rfl, rfl⟩ | ⟨rfl, rfl⟩ | rfl
  · -- kind 1
    refine T.sregD 78 [0, 1, 2, 3, 4, 5, 11, 20, 34, 41, 42, 49, 57, 71] fun Kr hKr => ?_
    simp only [go_sem]
    (repeat (refine ⟨by (first | exact True.intro | omega | rfl | (simp; done) | (simp; omega)), ?_⟩)); try (refine hKr _ ?_; clear hKr Kr)
    refine T.condTD rfl rfl (fun hb => ?_) (fun hb => ?_) <;> try simp at hb
    refine T.sregD 78 [0, 1, 2, 3, 4, 5, 11, 20, 34, 41, 42, 49, 57, 71] fun Kr hKr => ?_
    simp only [go_sem]
    (repeat (refine ⟨by (first | exact True.intro | omega | rfl | (simp; done) | (simp; omega)), ?_⟩)); try (refine hKr _ ?_; clear hKr Kr)
    refine T.condTD rfl rfl (fun hb => ?_) (fun hb => ?_) <;> try simp at hb
    by_cases hk : (1 : Int) = q
    · subst hk
      have ee : covB ⟨pd, ps, pe, 1, pw, 0, 0⟩ ⟨od, os, oe, 1, ow, on, of⟩ = (pw == ow) := by simp [covB, he]
      refine T.sregD 78 [0, 1, 2, 3, 4, 5, 11, 20, 34, 41, 42, 49, 57, 71] fun Kr hKr => ?_
      simp only [go_sem]
      (repeat (refine ⟨by (first | exact True.intro | omega | rfl | (simp; done) | (simp; omega)), ?_⟩)); try (refine hKr _ ?_; clear hKr Kr)
      refine T.condTD rfl rfl (fun hb => ?_) (fun hb => ?_) <;> try simp at hb
      refine T.skip ?_
      refine hK1 _ ?_
      refine T.seqK fun K2 hK2 => ?_
      refine T.sregD 78 [0, 1, 2, 3, 4, 5, 11, 20, 34, 41, 42, 49, 57, 71] fun Kr hKr => ?_
      simp only [go_sem]
      (repeat (refine ⟨by (first | exact True.intro | omega | rfl | (simp; done) | (simp; omega)), ?_⟩)); try (refine hKr _ ?_; clear hKr Kr)
      refine T.block ?_
      refine T.sregD 78 [0, 1, 2, 3, 4, 5, 11, 20, 34, 41, 42, 49, 57, 71] fun Kr hKr => ?_
      simp only [go_sem]
      (repeat (refine ⟨by (first | exact True.intro | omega | rfl | (simp; done) | (simp; omega)), ?_⟩)); try (refine hKr _ ?_; clear hKr Kr)
      refine T.condTD rfl rfl (fun hb => ?_) (fun hb => ?_) <;> try simp at hb
      refine T.sregD 78 [0, 1, 2, 3, 4, 5, 11, 20, 34, 41, 42, 49, 57, 71] fun Kr hKr => ?_
      simp only [go_sem]
      (repeat (refine ⟨by (first | exact True.intro | omega | rfl | (simp; done) | (simp; omega)), ?_⟩)); try (refine hKr _ ?_; clear hKr Kr)
      refine T.ret (Fin.dataD (by rw [ee]; rfl) rfl rfl)
    · have hk' : ((1 : Int) = q) = False := eq_false hk
      have ee : covB ⟨pd, ps, pe, 1, pw, 0, 0⟩ ⟨od, os, oe, q, ow, on, of⟩ = false := by simp [covB, he, hk]
      refine T.sregD 78 [0, 1, 2, 3, 4, 5, 11, 20, 34, 41, 42, 49, 57, 71] fun Kr hKr => ?_
      simp only [go_sem, hk']
      (repeat (refine ⟨by (first | exact True.intro | omega | rfl | (simp; done) | (simp; omega)), ?_⟩)); try (refine hKr _ ?_; clear hKr Kr)
      refine T.condTD rfl rfl (fun hb => ?_) (fun hb => ?_) <;> try simp at hb
      refine T.sregD 78 [0, 1, 2, 3, 4, 5, 11, 20, 34, 41, 42, 49, 57, 71] fun Kr hKr => ?_
      simp only [go_sem]
      (repeat (refine ⟨by (first | exact True.intro | omega | rfl | (simp; done) | (simp; omega)), ?_⟩)); try (refine hKr _ ?_; clear hKr Kr)
      refine T.ret (Fin.dataD (by rw [ee]; rfl) rfl rfl)
  · -- kind 2
    refine T.sregD 78 [0, 1, 2, 3, 4, 5, 11, 20, 34, 41, 42, 49, 57, 71] fun Kr hKr => ?_
    simp only [go_sem]
    (repeat (refine ⟨by (first | exact True.intro | omega | rfl | (simp; done) | (simp; omega)), ?_⟩)); try (refine hKr _ ?_; clear hKr Kr)
    refine T.condTD rfl rfl (fun hb => ?_) (fun hb => ?_) <;> try simp at hb
    refine T.sregD 78 [0, 1, 2, 3, 4, 5, 11, 20, 34, 41, 42, 49, 57, 71] fun Kr hKr => ?_
    simp only [go_sem]
    (repeat (refine ⟨by (first | exact True.intro | omega | rfl | (simp; done) | (simp; omega)), ?_⟩)); try (refine hKr _ ?_; clear hKr Kr)
    refine T.condTD rfl rfl (fun hb => ?_) (fun hb => ?_) <;> try simp at hb
    by_cases hk : (2 : Int) = q
    · subst hk
      have hof : of = 0 := by omega
      subst hof
      have ee : covB ⟨pd, ps, pe, 2, pw, pn, 0⟩ ⟨od, os, oe, 2, ow, on, 0⟩ = decide (pn = on) := by simp [covB, he]
      refine T.sregD 78 [0, 1, 2, 3, 4, 5, 11, 20, 34, 41, 42, 49, 57, 71] fun Kr hKr => ?_
      simp only [go_sem]
      (repeat (refine ⟨by (first | exact True.intro | omega | rfl | (simp; done) | (simp; omega)), ?_⟩)); try (refine hKr _ ?_; clear hKr Kr)
      refine T.condTD rfl rfl (fun hb => ?_) (fun hb => ?_) <;> try simp at hb
      refine T.skip ?_
      refine hK1 _ ?_
      refine T.seqK fun K2 hK2 => ?_
      refine T.sregD 78 [0, 1, 2, 3, 4, 5, 11, 20, 34, 41, 42, 49, 57, 71] fun Kr hKr => ?_
      simp only [go_sem]
      (repeat (refine ⟨by (first | exact True.intro | omega | rfl | (simp; done) | (simp; omega)), ?_⟩)); try (refine hKr _ ?_; clear hKr Kr)
      refine T.block ?_
      refine T.sregD 78 [0, 1, 2, 3, 4, 5, 11, 20, 34, 41, 42, 49, 57, 71] fun Kr hKr => ?_
      simp only [go_sem]
      (repeat (refine ⟨by (first | exact True.intro | omega | rfl | (simp; done) | (simp; omega)), ?_⟩)); try (refine hKr _ ?_; clear hKr Kr)
      refine T.condTD rfl rfl (fun hb => ?_) (fun hb => ?_) <;> try simp at hb
      refine T.seqK fun K3 hK3 => ?_
      refine T.sregD 78 [0, 1, 2, 3, 4, 5, 11, 20, 34, 41, 42, 49, 57, 71] fun Kr hKr => ?_
      simp only [go_sem]
      (repeat (refine ⟨by (first | exact True.intro | omega | rfl | (simp; done) | (simp; omega)), ?_⟩)); try (refine hKr _ ?_; clear hKr Kr)
      refine T.condTD rfl rfl (fun hb => ?_) (fun hb => ?_) <;> try simp at hb
      refine T.skip ?_
      refine hK3 _ ?_
      refine T.condTD rfl rfl (fun hb => ?_) (fun hb => ?_) <;> try simp at hb
      refine T.sregD 78 [0, 1, 2, 3, 4, 5, 11, 20, 34, 41, 42, 49, 57, 71] fun Kr hKr => ?_
      simp only [go_sem]
      (repeat (refine ⟨by (first | exact True.intro | omega | rfl | (simp; done) | (simp; omega)), ?_⟩)); try (refine hKr _ ?_; clear hKr Kr)
      refine T.ret (Fin.dataD (by rw [ee]; rfl) rfl rfl)
    · have hk' : ((2 : Int) = q) = False := eq_false hk
      have ee : covB ⟨pd, ps, pe, 2, pw, pn, 0⟩ ⟨od, os, oe, q, ow, on, of⟩ = false := by simp [covB, he, hk]
      refine T.sregD 78 [0, 1, 2, 3, 4, 5, 11, 20, 34, 41, 42, 49, 57, 71] fun Kr hKr => ?_
      simp only [go_sem, hk']
      (repeat (refine ⟨by (first | exact True.intro | omega | rfl | (simp; done) | (simp; omega)), ?_⟩)); try (refine hKr _ ?_; clear hKr Kr)
      refine T.condTD rfl rfl (fun hb => ?_) (fun hb => ?_) <;> try simp at hb
      refine T.sregD 78 [0, 1, 2, 3, 4, 5, 11, 20, 34, 41, 42, 49, 57, 71] fun Kr hKr => ?_
      simp only [go_sem]
      (repeat (refine ⟨by (first | exact True.intro | omega | rfl | (simp; done) | (simp; omega)), ?_⟩)); try (refine hKr _ ?_; clear hKr Kr)
      refine T.ret (Fin.dataD (by rw [ee]; rfl) rfl rfl)
  · -- kind 3
    refine T.sregD 78 [0, 1, 2, 3, 4, 5, 11, 20, 34, 41, 42, 49, 57, 71] fun Kr hKr => ?_
    simp only [go_sem]
    (repeat (refine ⟨by (first | exact True.intro | omega | rfl | (simp; done) | (simp; omega)), ?_⟩)); try (refine hKr _ ?_; clear hKr Kr)
    refine T.condTD rfl rfl (fun hb => ?_) (fun hb => ?_) <;> try simp at hb
    by_cases h5 : q = 5
    · subst h5
      have ee : covB ⟨pd, ps, pe, 3, pw, pn, 0⟩ ⟨od, os, oe, 5, ow, on, of⟩ = decide (pn = of) := by
        by_cases h : pn = of
        · subst h; simp [covB, he]
        · have h2 : ¬ of = pn := fun e => h e.symm
          simp [covB, he, h, h2]
      refine T.sregD 78 [0, 1, 2, 3, 4, 5, 11, 20, 34, 41, 42, 49, 57, 71] fun Kr hKr => ?_
      simp only [go_sem]
      (repeat (refine ⟨by (first | exact True.intro | omega | rfl | (simp; done) | (simp; omega)), ?_⟩)); try (refine hKr _ ?_; clear hKr Kr)
      refine T.condTD rfl rfl (fun hb => ?_) (fun hb => ?_) <;> try simp at hb
      refine T.sregD 78 [0, 1, 2, 3, 4, 5, 11, 20, 34, 41, 42, 49, 57, 71] fun Kr hKr => ?_
      simp only [go_sem]
      (repeat (refine ⟨by (first | exact True.intro | omega | rfl | (simp; done) | (simp; omega)), ?_⟩)); try (refine hKr _ ?_; clear hKr Kr)
      refine T.ret (Fin.dataD (by rw [ee]; rfl) rfl rfl)
    have h5' : (q = 5) = False := eq_false h5
    refine T.sregD 78 [0, 1, 2, 3, 4, 5, 11, 20, 34, 41, 42, 49, 57, 71] fun Kr hKr => ?_
    simp only [go_sem, h5']
    (repeat (refine ⟨by (first | exact True.intro | omega | rfl | (simp; done) | (simp; omega)), ?_⟩)); try (refine hKr _ ?_; clear hKr Kr)
    refine T.condTD rfl rfl (fun hb => ?_) (fun hb => ?_) <;> try simp at hb
    by_cases hk : (3 : Int) = q
    · subst hk
      have hof : of = 0 := by omega
      subst hof
      have ee : covB ⟨pd, ps, pe, 3, pw, pn, 0⟩ ⟨od, os, oe, 3, ow, on, 0⟩ = decide (pn = on) := by simp [covB, he]
      refine T.sregD 78 [0, 1, 2, 3, 4, 5, 11, 20, 34, 41, 42, 49, 57, 71] fun Kr hKr => ?_
      simp only [go_sem]
      (repeat (refine ⟨by (first | exact True.intro | omega | rfl | (simp; done) | (simp; omega)), ?_⟩)); try (refine hKr _ ?_; clear hKr Kr)
      refine T.condTD rfl rfl (fun hb => ?_) (fun hb => ?_) <;> try simp at hb
      refine T.skip ?_
      refine hK1 _ ?_
      refine T.seqK fun K2 hK2 => ?_
      refine T.sregD 78 [0, 1, 2, 3, 4, 5, 11, 20, 34, 41, 42, 49, 57, 71] fun Kr hKr => ?_
      simp only [go_sem]
      (repeat (refine ⟨by (first | exact True.intro | omega | rfl | (simp; done) | (simp; omega)), ?_⟩)); try (refine hKr _ ?_; clear hKr Kr)
      refine T.block ?_
      refine T.sregD 78 [0, 1, 2, 3, 4, 5, 11, 20, 34, 41, 42, 49, 57, 71] fun Kr hKr => ?_
      simp only [go_sem]
      (repeat (refine ⟨by (first | exact True.intro | omega | rfl | (simp; done) | (simp; omega)), ?_⟩)); try (refine hKr _ ?_; clear hKr Kr)
      refine T.condTD rfl rfl (fun hb => ?_) (fun hb => ?_) <;> try simp at hb
      refine T.seqK fun K3 hK3 => ?_
      refine T.sregD 78 [0, 1, 2, 3, 4, 5, 11, 20, 34, 41, 42, 49, 57, 71] fun Kr hKr => ?_
      simp only [go_sem]
      (repeat (refine ⟨by (first | exact True.intro | omega | rfl | (simp; done) | (simp; omega)), ?_⟩)); try (refine hKr _ ?_; clear hKr Kr)
      refine T.condTD rfl rfl (fun hb => ?_) (fun hb => ?_) <;> try simp at hb
      refine T.regD 78 [0, 1, 2, 3, 4, 5, 11, 20, 34, 41, 42, 49, 57, 71] fun Kr hKr => ?_
      simp only [go_sem]
      (repeat (refine ⟨by (first | exact True.intro | omega | rfl | (simp; done) | (simp; omega)), ?_⟩)); try (refine hKr _ ?_; clear hKr Kr)
      refine hK3 _ ?_
      refine T.condTD rfl rfl (fun hb => ?_) (fun hb => ?_) <;> try simp at hb
      refine T.sregD 78 [0, 1, 2, 3, 4, 5, 11, 20, 34, 41, 42, 49, 57, 71] fun Kr hKr => ?_
      simp only [go_sem]
      (repeat (refine ⟨by (first | exact True.intro | omega | rfl | (simp; done) | (simp; omega)), ?_⟩)); try (refine hKr _ ?_; clear hKr Kr)
      refine T.ret (Fin.dataD (by rw [ee]; rfl) rfl rfl)
    · have hk' : ((3 : Int) = q) = False := eq_false hk
      have ee : covB ⟨pd, ps, pe, 3, pw, pn, 0⟩ ⟨od, os, oe, q, ow, on, of⟩ = false := by simp [covB, he, hk, h5]
      refine T.sregD 78 [0, 1, 2, 3, 4, 5, 11, 20, 34, 41, 42, 49, 57, 71] fun Kr hKr => ?_
      simp only [go_sem, hk']
      (repeat (refine ⟨by (first | exact True.intro | omega | rfl | (simp; done) | (simp; omega)), ?_⟩)); try (refine hKr _ ?_; clear hKr Kr)
      refine T.condTD rfl rfl (fun hb => ?_) (fun hb => ?_) <;> try simp at hb
      refine T.sregD 78 [0, 1, 2, 3, 4, 5, 11, 20, 34, 41, 42, 49, 57, 71] fun Kr hKr => ?_
      simp only [go_sem]
      (repeat (refine ⟨by (first | exact True.intro | omega | rfl | (simp; done) | (simp; omega)), ?_⟩)); try (refine hKr _ ?_; clear hKr Kr)
      refine T.ret (Fin.dataD (by rw [ee]; rfl) rfl rfl)
  · -- kind 4
    by_cases hn : pn = 0
    · subst hn
      have ee : covB ⟨pd, ps, pe, 4, pw, 0, 0⟩ ⟨od, os, oe, q, ow, on, of⟩ = true := by simp [covB, he]
      refine T.sregD 78 [0, 1, 2, 3, 4, 5, 11, 20, 34, 41, 42, 49, 57, 71] fun Kr hKr => ?_
      simp only [go_sem]
      (repeat (refine ⟨by (first | exact True.intro | omega | rfl | (simp; done) | (simp; omega)), ?_⟩)); try (refine hKr _ ?_; clear hKr Kr)
      refine T.condTD rfl rfl (fun hb => ?_) (fun hb => ?_) <;> try simp at hb
      refine T.sregD 78 [0, 1, 2, 3, 4, 5, 11, 20, 34, 41, 42, 49, 57, 71] fun Kr hKr => ?_
      simp only [go_sem]
      (repeat (refine ⟨by (first | exact True.intro | omega | rfl | (simp; done) | (simp; omega)), ?_⟩)); try (refine hKr _ ?_; clear hKr Kr)
      refine T.ret (Fin.dataD (by rw [ee]; rfl) rfl rfl)
    have hn' : (pn = 0) = False := eq_false hn
    refine T.sregD 78 [0, 1, 2, 3, 4, 5, 11, 20, 34, 41, 42, 49, 57, 71] fun Kr hKr => ?_
    simp only [go_sem, hn']
    (repeat (refine ⟨by (first | exact True.intro | omega | rfl | (simp; done) | (simp; omega)), ?_⟩)); try (refine hKr _ ?_; clear hKr Kr)
    refine T.condTD rfl rfl (fun hb => ?_) (fun hb => ?_) <;> try simp at hb
    refine T.sregD 78 [0, 1, 2, 3, 4, 5, 11, 20, 34, 41, 42, 49, 57, 71] fun Kr hKr => ?_
    simp only [go_sem]
    (repeat (refine ⟨by (first | exact True.intro | omega | rfl | (simp; done) | (simp; omega)), ?_⟩)); try (refine hKr _ ?_; clear hKr Kr)
    refine T.condTD rfl rfl (fun hb => ?_) (fun hb => ?_) <;> try simp at hb
    by_cases hk : (4 : Int) = q
    · subst hk
      have ee : covB ⟨pd, ps, pe, 4, pw, pn, 0⟩ ⟨od, os, oe, 4, ow, on, of⟩ = decide (pn ≤ on) := by simp [covB, he, hn]
      refine T.sregD 78 [0, 1, 2, 3, 4, 5, 11, 20, 34, 41, 42, 49, 57, 71] fun Kr hKr => ?_
      simp only [go_sem]
      (repeat (refine ⟨by (first | exact True.intro | omega | rfl | (simp; done) | (simp; omega)), ?_⟩)); try (refine hKr _ ?_; clear hKr Kr)
      refine T.condTD rfl rfl (fun hb => ?_) (fun hb => ?_) <;> try simp at hb
      refine T.skip ?_
      refine hK1 _ ?_
      refine T.seqK fun K2 hK2 => ?_
      refine T.sregD 78 [0, 1, 2, 3, 4, 5, 11, 20, 34, 41, 42, 49, 57, 71] fun Kr hKr => ?_
      simp only [go_sem]
      (repeat (refine ⟨by (first | exact True.intro | omega | rfl | (simp; done) | (simp; omega)), ?_⟩)); try (refine hKr _ ?_; clear hKr Kr)
      refine T.block ?_
      refine T.sregD 78 [0, 1, 2, 3, 4, 5, 11, 20, 34, 41, 42, 49, 57, 71] fun Kr hKr => ?_
      simp only [go_sem]
      (repeat (refine ⟨by (first | exact True.intro | omega | rfl | (simp; done) | (simp; omega)), ?_⟩)); try (refine hKr _ ?_; clear hKr Kr)
      refine T.condTD rfl rfl (fun hb => ?_) (fun hb => ?_) <;> try simp at hb
      refine T.seqK fun K3 hK3 => ?_
      refine T.sregD 78 [0, 1, 2, 3, 4, 5, 11, 20, 34, 41, 42, 49, 57, 71] fun Kr hKr => ?_
      simp only [go_sem]
      (repeat (refine ⟨by (first | exact True.intro | omega | rfl | (simp; done) | (simp; omega)), ?_⟩)); try (refine hKr _ ?_; clear hKr Kr)
      refine T.condTD rfl rfl (fun hb => ?_) (fun hb => ?_) <;> try simp at hb
      refine T.regD 78 [0, 1, 2, 3, 4, 5, 11, 20, 34, 41, 42, 49, 57, 71] fun Kr hKr => ?_
      simp only [go_sem]
      (repeat (refine ⟨by (first | exact True.intro | omega | rfl | (simp; done) | (simp; omega)), ?_⟩)); try (refine hKr _ ?_; clear hKr Kr)
      refine hK3 _ ?_
      refine T.condTD rfl rfl (fun hb => ?_) (fun hb => ?_) <;> try simp at hb
      refine T.sregD 78 [0, 1, 2, 3, 4, 5, 11, 20, 34, 41, 42, 49, 57, 71] fun Kr hKr => ?_
      simp only [go_sem]
      (repeat (refine ⟨by (first | exact True.intro | omega | rfl | (simp; done) | (simp; omega)), ?_⟩)); try (refine hKr _ ?_; clear hKr Kr)
      refine T.condTD rfl rfl (fun hb => ?_) (fun hb => ?_) <;> try simp at hb
      refine T.sregD 78 [0, 1, 2, 3, 4, 5, 11, 20, 34, 41, 42, 49, 57, 71] fun Kr hKr => ?_
      simp only [go_sem]
      (repeat (refine ⟨by (first | exact True.intro | omega | rfl | (simp; done) | (simp; omega)), ?_⟩)); try (refine hKr _ ?_; clear hKr Kr)
      refine T.condTD rfl rfl (fun hb => ?_) (fun hb => ?_) <;> try simp at hb
      refine T.sregD 78 [0, 1, 2, 3, 4, 5, 11, 20, 34, 41, 42, 49, 57, 71] fun Kr hKr => ?_
      simp only [go_sem]
      (repeat (refine ⟨by (first | exact True.intro | omega | rfl | (simp; done) | (simp; omega)), ?_⟩)); try (refine hKr _ ?_; clear hKr Kr)
      refine T.ret (Fin.dataD (by rw [ee]; rfl) rfl rfl)
    · have hk' : ((4 : Int) = q) = False := eq_false hk
      have ee : covB ⟨pd, ps, pe, 4, pw, pn, 0⟩ ⟨od, os, oe, q, ow, on, of⟩ = false := by simp [covB, he, hk, hn]
      refine T.sregD 78 [0, 1, 2, 3, 4, 5, 11, 20, 34, 41, 42, 49, 57, 71] fun Kr hKr => ?_
      simp only [go_sem, hk']
      (repeat (refine ⟨by (first | exact True.intro | omega | rfl | (simp; done) | (simp; omega)), ?_⟩)); try (refine hKr _ ?_; clear hKr Kr)
      refine T.condTD rfl rfl (fun hb => ?_) (fun hb => ?_) <;> try simp at hb
      refine T.sregD 78 [0, 1, 2, 3, 4, 5, 11, 20, 34, 41, 42, 49, 57, 71] fun Kr hKr => ?_
      simp only [go_sem]
      (repeat (refine ⟨by (first | exact True.intro | omega | rfl | (simp; done) | (simp; omega)), ?_⟩)); try (refine hKr _ ?_; clear hKr Kr)
      refine T.ret (Fin.dataD (by rw [ee]; rfl) rfl rfl)
  · -- kind 5
    refine T.sregD 78 [0, 1, 2, 3, 4, 5, 11, 20, 34, 41, 42, 49, 57, 71] fun Kr hKr => ?_
    simp only [go_sem]
    (repeat (refine ⟨by (first | exact True.intro | omega | rfl | (simp; done) | (simp; omega)), ?_⟩)); try (refine hKr _ ?_; clear hKr Kr)
    refine T.condTD rfl rfl (fun hb => ?_) (fun hb => ?_) <;> try simp at hb
    refine T.sregD 78 [0, 1, 2, 3, 4, 5, 11, 20, 34, 41, 42, 49, 57, 71] fun Kr hKr => ?_
    simp only [go_sem]
    (repeat (refine ⟨by (first | exact True.intro | omega | rfl | (simp; done) | (simp; omega)), ?_⟩)); try (refine hKr _ ?_; clear hKr Kr)
    refine T.condTD rfl rfl (fun hb => ?_) (fun hb => ?_) <;> try simp at hb
    by_cases hk : (5 : Int) = q
    · subst hk
      have ee : covB ⟨pd, ps, pe, 5, pw, pn, pf⟩ ⟨od, os, oe, 5, ow, on, of⟩ = (decide (pn = on) && decide (pf = of)) := by simp [covB, he]
      refine T.sregD 78 [0, 1, 2, 3, 4, 5, 11, 20, 34, 41, 42, 49, 57, 71] fun Kr hKr => ?_
      simp only [go_sem]
      (repeat (refine ⟨by (first | exact True.intro | omega | rfl | (simp; done) | (simp; omega)), ?_⟩)); try (refine hKr _ ?_; clear hKr Kr)
      refine T.condTD rfl rfl (fun hb => ?_) (fun hb => ?_) <;> try simp at hb
      refine T.skip ?_
      refine hK1 _ ?_
      refine T.seqK fun K2 hK2 => ?_
      refine T.sregD 78 [0, 1, 2, 3, 4, 5, 11, 20, 34, 41, 42, 49, 57, 71] fun Kr hKr => ?_
      simp only [go_sem]
      (repeat (refine ⟨by (first | exact True.intro | omega | rfl | (simp; done) | (simp; omega)), ?_⟩)); try (refine hKr _ ?_; clear hKr Kr)
      refine T.block ?_
      refine T.sregD 78 [0, 1, 2, 3, 4, 5, 11, 20, 34, 41, 42, 49, 57, 71] fun Kr hKr => ?_
      simp only [go_sem]
      (repeat (refine ⟨by (first | exact True.intro | omega | rfl | (simp; done) | (simp; omega)), ?_⟩)); try (refine hKr _ ?_; clear hKr Kr)
      refine T.condTD rfl rfl (fun hb => ?_) (fun hb => ?_) <;> try simp at hb
      refine T.seqK fun K3 hK3 => ?_
      refine T.sregD 78 [0, 1, 2, 3, 4, 5, 11, 20, 34, 41, 42, 49, 57, 71] fun Kr hKr => ?_
      simp only [go_sem]
      (repeat (refine ⟨by (first | exact True.intro | omega | rfl | (simp; done) | (simp; omega)), ?_⟩)); try (refine hKr _ ?_; clear hKr Kr)
      refine T.condTD rfl rfl (fun hb => ?_) (fun hb => ?_) <;> try simp at hb
      refine T.regD 78 [0, 1, 2, 3, 4, 5, 11, 20, 34, 41, 42, 49, 57, 71] fun Kr hKr => ?_
      simp only [go_sem]
      (repeat (refine ⟨by (first | exact True.intro | omega | rfl | (simp; done) | (simp; omega)), ?_⟩)); try (refine hKr _ ?_; clear hKr Kr)
      refine hK3 _ ?_
      refine T.condTD rfl rfl (fun hb => ?_) (fun hb => ?_) <;> try simp at hb
      refine T.sregD 78 [0, 1, 2, 3, 4, 5, 11, 20, 34, 41, 42, 49, 57, 71] fun Kr hKr => ?_
      simp only [go_sem]
      (repeat (refine ⟨by (first | exact True.intro | omega | rfl | (simp; done) | (simp; omega)), ?_⟩)); try (refine hKr _ ?_; clear hKr Kr)
      refine T.condTD rfl rfl (fun hb => ?_) (fun hb => ?_) <;> try simp at hb
      refine T.sregD 78 [0, 1, 2, 3, 4, 5, 11, 20, 34, 41, 42, 49, 57, 71] fun Kr hKr => ?_
      simp only [go_sem]
      (repeat (refine ⟨by (first | exact True.intro | omega | rfl | (simp; done) | (simp; omega)), ?_⟩)); try (refine hKr _ ?_; clear hKr Kr)
      refine T.ret (Fin.dataD (by rw [ee]; simp only [slook, cond_and]; rfl) rfl rfl)
    · have hk' : ((5 : Int) = q) = False := eq_false hk
      have ee : covB ⟨pd, ps, pe, 5, pw, pn, pf⟩ ⟨od, os, oe, q, ow, on, of⟩ = false := by simp [covB, he, hk]
      refine T.sregD 78 [0, 1, 2, 3, 4, 5, 11, 20, 34, 41, 42, 49, 57, 71] fun Kr hKr => ?_
      simp only [go_sem, hk']
      (repeat (refine ⟨by (first | exact True.intro | omega | rfl | (simp; done) | (simp; omega)), ?_⟩)); try (refine hKr _ ?_; clear hKr Kr)
      refine T.condTD rfl rfl (fun hb => ?_) (fun hb => ?_) <;> try simp at hb
      refine T.sregD 78 [0, 1, 2, 3, 4, 5, 11, 20, 34, 41, 42, 49, 57, 71] fun Kr hKr => ?_
      simp only [go_sem]
      (repeat (refine ⟨by (first | exact True.intro | omega | rfl | (simp; done) | (simp; omega)), ?_⟩)); try (refine hKr _ ?_; clear hKr Kr)
      refine T.ret (Fin.dataD (by rw [ee]; rfl) rfl rfl)
end Go.Proofs
