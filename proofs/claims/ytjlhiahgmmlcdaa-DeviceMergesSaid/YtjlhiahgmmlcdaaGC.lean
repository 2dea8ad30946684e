/- Devices: the reference's covers, first, Clean. -/
import Derived.Test.YtjlhiahgmmlcdaaGB
set_option linter.unusedVariables false
set_option linter.unusedSimpArgs false
namespace Go.Proofs
open Go Go.Ideal
set_option maxRecDepth 8000
set_option maxHeartbeats 4000000

def covR (p o : Ord) : Bool :=
  if p.e < o.e then false
  else bif (bif (bif decide (p.k = 4) then decide (p.n = 0) else false) then true else (bif (bif decide (p.k = 3) then decide (o.k = 5) else false) then decide (o.f = p.n) else false)) then true
  else if p.k ≠ o.k then false
  else if o.k = 1 then p.w == o.w else if o.k = 4 then decide (p.n ≤ o.n) else (bif decide (p.n = o.n) then decide (p.f = o.f) else false)
theorem covR_spec (p o : Ord) : Ideal.Spec Try.prog 57 [ordA p, ordA o] (.bool (covR p o)) none := by
  refine Ideal.Spec.of_TD (n := 68) (fn := Try.f57) rfl rfl rfl rfl rfl rfl rfl fun w ok => ?_
  refine T.sregD 68 [0, 1, 2, 3, 4, 9, 34, 39, 41, 42, 49] fun Kr hKr => ?_
  simp only [go_sem]
  (repeat (refine ⟨by (first | exact True.intro | omega | rfl | (simp; done) | (simp; omega)), ?_⟩)); try (refine hKr _ ?_; clear hKr Kr)
  refine T.seqK fun K143 hK143 => ?_
  refine T.sregD 68 [0, 1, 2, 3, 4, 9, 34, 39, 41, 42, 49] fun Kr hKr => ?_
  simp only [go_sem]
  (repeat (refine ⟨by (first | exact True.intro | omega | rfl | (simp; done) | (simp; omega)), ?_⟩)); try (refine hKr _ ?_; clear hKr Kr)
  refine T.condTD rfl rfl (fun hb => ?_) (fun hb => ?_) <;> try simp at hb
  · -- yes
    have ee : covR p o = false := by unfold covR; rw [if_pos hb]
    refine T.sregD 68 [0, 1, 2, 3, 4, 9, 34, 39, 41, 42, 49] fun Kr hKr => ?_
    simp only [go_sem]
    (repeat (refine ⟨by (first | exact True.intro | omega | rfl | (simp; done) | (simp; omega)), ?_⟩)); try (refine hKr _ ?_; clear hKr Kr)
    refine T.ret (Fin.dataD (by rw [ee]; rfl) rfl rfl)
  have e0 : ¬ p.e < o.e := by omega
  refine T.skip ?_
  refine hK143 _ ?_
  refine T.seqK fun K144 hK144 => ?_
  refine T.sregD 68 [0, 1, 2, 3, 4, 9, 34, 39, 41, 42, 49] fun Kr hKr => ?_
  simp only [go_sem]
  (repeat (refine ⟨by (first | exact True.intro | omega | rfl | (simp; done) | (simp; omega)), ?_⟩)); try (refine hKr _ ?_; clear hKr Kr)
  cases hx : (bif (bif decide (p.k = 4) then decide (p.n = 0) else false) then true else (bif (bif decide (p.k = 3) then decide (o.k = 5) else false) then decide (o.f = p.n) else false)) with
  | true =>
    have ee : covR p o = true := by unfold covR; rw [if_neg e0, hx]; rfl
    refine T.condTD rfl rfl (fun hb => ?_) (fun hb => ?_) <;> try simp at hb
    refine T.sregD 68 [0, 1, 2, 3, 4, 9, 34, 39, 41, 42, 49] fun Kr hKr => ?_
    simp only [go_sem]
    (repeat (refine ⟨by (first | exact True.intro | omega | rfl | (simp; done) | (simp; omega)), ?_⟩)); try (refine hKr _ ?_; clear hKr Kr)
    refine T.ret (Fin.dataD (by rw [ee]; rfl) rfl rfl)
  | false =>
  have ec : covR p o = if p.k ≠ o.k then false
    else if o.k = 1 then p.w == o.w else if o.k = 4 then decide (p.n ≤ o.n) else (bif decide (p.n = o.n) then decide (p.f = o.f) else false) := by unfold covR; rw [if_neg e0, hx]; rfl
  refine T.condTD rfl rfl (fun hb => ?_) (fun hb => ?_) <;> try simp at hb
  refine T.skip ?_
  refine hK144 _ ?_
  refine T.seqK fun K145 hK145 => ?_
  refine T.sregD 68 [0, 1, 2, 3, 4, 9, 34, 39, 41, 42, 49] fun Kr hKr => ?_
  simp only [go_sem]
  (repeat (refine ⟨by (first | exact True.intro | omega | rfl | (simp; done) | (simp; omega)), ?_⟩)); try (refine hKr _ ?_; clear hKr Kr)
  by_cases hk : p.k = o.k
  rotate_left
  · rw [if_pos hk] at ec
    have hk1 : (p.k = o.k) = False := eq_false hk
    simp only [hk1]
    refine T.condTD rfl rfl (fun hb => ?_) (fun hb => ?_) <;> try simp at hb
    all_goals first | exact absurd hb hk | skip
    refine T.sregD 68 [0, 1, 2, 3, 4, 9, 34, 39, 41, 42, 49] fun Kr hKr => ?_
    simp only [go_sem]
    (repeat (refine ⟨by (first | exact True.intro | omega | rfl | (simp; done) | (simp; omega)), ?_⟩)); try (refine hKr _ ?_; clear hKr Kr)
    refine T.ret (Fin.dataD (by rw [ec]; rfl) rfl rfl)
  rw [if_neg (by simpa using hk)] at ec
  have hk1 : (p.k = o.k) = True := eq_true hk
  simp only [hk1]
  refine T.condTD rfl rfl (fun hb => ?_) (fun hb => ?_) <;> try simp at hb
  all_goals first | exact absurd hk hb | skip
  refine T.skip ?_
  refine hK145 _ ?_
  refine T.seqK fun K146 hK146 => ?_
  refine T.sregD 68 [0, 1, 2, 3, 4, 9, 34, 39, 41, 42, 49] fun Kr hKr => ?_
  simp only [go_sem]
  (repeat (refine ⟨by (first | exact True.intro | omega | rfl | (simp; done) | (simp; omega)), ?_⟩)); try (refine hKr _ ?_; clear hKr Kr)
  refine T.block ?_
  refine T.sregD 68 [0, 1, 2, 3, 4, 9, 34, 39, 41, 42, 49] fun Kr hKr => ?_
  simp only [go_sem]
  (repeat (refine ⟨by (first | exact True.intro | omega | rfl | (simp; done) | (simp; omega)), ?_⟩)); try (refine hKr _ ?_; clear hKr Kr)
  by_cases h1 : o.k = 1
  · rw [if_pos h1] at ec
    refine T.condTD rfl rfl (fun hb => ?_) (fun hb => ?_) <;> try simp at hb
    all_goals first | exact absurd h1 hb | skip
    refine T.sregD 68 [0, 1, 2, 3, 4, 9, 34, 39, 41, 42, 49] fun Kr hKr => ?_
    simp only [go_sem]
    (repeat (refine ⟨by (first | exact True.intro | omega | rfl | (simp; done) | (simp; omega)), ?_⟩)); try (refine hKr _ ?_; clear hKr Kr)
    refine T.ret (Fin.dataD (by rw [ec]; rfl) rfl rfl)
  rw [if_neg h1] at ec
  refine T.condTD rfl rfl (fun hb => ?_) (fun hb => ?_) <;> try simp at hb
  all_goals first | exact absurd hb h1 | skip
  refine T.sregD 68 [0, 1, 2, 3, 4, 9, 34, 39, 41, 42, 49] fun Kr hKr => ?_
  simp only [go_sem]
  (repeat (refine ⟨by (first | exact True.intro | omega | rfl | (simp; done) | (simp; omega)), ?_⟩)); try (refine hKr _ ?_; clear hKr Kr)
  by_cases h4 : o.k = 4
  · rw [if_pos h4] at ec
    refine T.condTD rfl rfl (fun hb => ?_) (fun hb => ?_) <;> try simp at hb
    all_goals first | exact absurd h4 hb | skip
    refine T.sregD 68 [0, 1, 2, 3, 4, 9, 34, 39, 41, 42, 49] fun Kr hKr => ?_
    simp only [go_sem]
    (repeat (refine ⟨by (first | exact True.intro | omega | rfl | (simp; done) | (simp; omega)), ?_⟩)); try (refine hKr _ ?_; clear hKr Kr)
    refine T.ret (Fin.dataD (by rw [ec]; rfl) rfl rfl)
  rw [if_neg h4] at ec
  refine T.condTD rfl rfl (fun hb => ?_) (fun hb => ?_) <;> try simp at hb
  all_goals first | exact absurd hb h4 | skip
  refine T.skip ?_
  refine hK146 _ ?_
  refine T.sregD 68 [0, 1, 2, 3, 4, 9, 34, 39, 41, 42, 49] fun Kr hKr => ?_
  simp only [go_sem]
  (repeat (refine ⟨by (first | exact True.intro | omega | rfl | (simp; done) | (simp; omega)), ?_⟩)); try (refine hKr _ ?_; clear hKr Kr)
  refine T.ret (Fin.dataD (by rw [ec]; rfl) rfl rfl)
theorem covR_eq (p o : Ord) : covR p o = covB p o := by
  unfold covR covB
  simp only [cond_and, cond_or]
  by_cases h1 : p.e < o.e
  · rw [if_pos h1, if_pos h1]
  · rw [if_neg h1, if_neg h1]
    by_cases h2 : (p.k = 4 ∧ p.n = 0) ∨ (p.k = 3 ∧ o.k = 5 ∧ o.f = p.n)
    · have e : (decide (p.k = 4) && decide (p.n = 0) || decide (p.k = 3) && decide (o.k = 5) && decide (o.f = p.n)) = true := by
        rcases h2 with ⟨a, b⟩ | ⟨a, b, c⟩
        · simp [a, b]
        · simp [a, b, c]
      rw [if_pos h2, e]; rfl
    · have e : (decide (p.k = 4) && decide (p.n = 0) || decide (p.k = 3) && decide (o.k = 5) && decide (o.f = p.n)) = false := by
        rw [Bool.eq_false_iff]; intro h; apply h2; simpa [and_assoc] using h
      rw [if_neg h2, e]; rfl
theorem firstR_spec (a b : Ord) : Ideal.Spec Try.prog 58 [ordA a, ordA b] (.bool (befB a.d a.s b.d b.s)) none := by
  refine Ideal.Spec.of_TD (n := 24) (fn := Try.f58) rfl rfl rfl rfl rfl rfl rfl fun w ok => ?_
  refine T.sregD 24 [0, 1, 2, 3, 4] fun Kr hKr => ?_
  simp only [go_sem]
  (repeat (refine ⟨by (first | exact True.intro | omega | rfl | (simp; done) | (simp; omega)), ?_⟩)); try (refine hKr _ ?_; clear hKr Kr)
  refine T.sregD 24 [0, 1, 2, 3, 4] fun Kr hKr => ?_
  simp only [go_sem]
  (repeat (refine ⟨by (first | exact True.intro | omega | rfl | (simp; done) | (simp; omega)), ?_⟩)); try (refine hKr _ ?_; clear hKr Kr)
  have ee : befB a.d a.s b.d b.s = (bif decide (a.d < b.d) then true else (bif decide (a.d = b.d) then decide (a.s < b.s) else false)) := by unfold befB; rw [cond_and, cond_or]
  rw [ee]
  refine T.ret (Fin.dataD rfl rfl rfl)
end Go.Proofs
