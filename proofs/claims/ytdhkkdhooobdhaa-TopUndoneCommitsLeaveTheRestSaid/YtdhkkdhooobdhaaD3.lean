/- Documents: edits that are possible; the text after an edit; words. -/
import Derived.Test.YtdhkkdhooobdhaaD2
set_option linter.unusedVariables false
set_option linter.unusedSimpArgs false
namespace Go.Proofs
open Go Go.Ideal
set_option maxRecDepth 8000
set_option maxHeartbeats 4000000

/-! ### Possible edits -/
def pieceB (e : Edit) (n : Int) : Bool := decide (0 ≤ e.a) && decide (e.a ≤ n) && decide (0 ≤ e.n) && decide (e.n ≤ n - e.a)
def possB (e : Edit) (n : Int) : Bool :=
  if e.k = 1 then decide (0 ≤ e.a) && decide (e.a ≤ n) && decide (1 ≤ (e.s.length : Int)) && decide ((e.s.length : Int) ≤ 40) && plainB e.s
  else if e.k = 2 ∨ e.k = 4 then pieceB e n else if e.k = 3 then pieceB e n && decide (0 ≤ e.t) && decide (e.t ≤ n - e.n) else false
theorem possible_spec (e : Edit) (n : Int) (hn : 0 ≤ n ∧ n ≤ 100000) (hl : e.s.length < 2 ^ 31) : Ideal.Spec Try.prog 53 [editA e, .int .i64 n] (.bool (possB e n)) none := by
  have sp := printable_spec e.s hl
  obtain ⟨hn1, hn2⟩ := hn
  refine Ideal.Spec.of_TD (n := 80) (fn := Try.f53) rfl rfl rfl rfl rfl rfl rfl fun w ok => ?_
  refine T.sregD 80 [0, 1, 2, 4, 5, 30, 31, 59, 63] fun Kr hKr => ?_
  simp only [go_sem]
  (repeat (refine ⟨by (first | exact True.intro | omega | rfl | (simp; done) | (simp; omega)), ?_⟩)); try (refine hKr _ ?_; clear hKr Kr)
  refine T.sregD 80 [0, 1, 2, 4, 5, 30, 31, 59, 63] fun Kr hKr => ?_
  simp only [go_sem, cond_and, Bool.and_eq_true, decide_eq_true_eq]
  (repeat (refine ⟨by (first | exact True.intro | omega | rfl | (simp; done) | (simp; omega)), ?_⟩)); try (refine hKr _ ?_; clear hKr Kr)
  refine T.seqK fun K1 hK1 => ?_
  refine T.sregD 80 [0, 1, 2, 4, 5, 30, 31, 59, 63] fun Kr hKr => ?_
  simp only [go_sem]
  (repeat (refine ⟨by (first | exact True.intro | omega | rfl | (simp; done) | (simp; omega)), ?_⟩)); try (refine hKr _ ?_; clear hKr Kr)
  refine T.block ?_
  refine T.sregD 80 [0, 1, 2, 4, 5, 30, 31, 59, 63] fun Kr hKr => ?_
  simp only [go_sem]
  (repeat (refine ⟨by (first | exact True.intro | omega | rfl | (simp; done) | (simp; omega)), ?_⟩)); try (refine hKr _ ?_; clear hKr Kr)
  refine T.condTD rfl rfl (fun hb => ?_) (fun hb => ?_) <;> simp at hb
  · -- Insert
    have ee : possB e n = (decide (0 ≤ e.a) && decide (e.a ≤ n) && decide (1 ≤ (e.s.length : Int)) && decide ((e.s.length : Int) ≤ 40) && plainB e.s) := by simp only [possB]; rw [if_pos hb]
    by_cases hg : (decide (0 ≤ e.a) && decide (e.a ≤ n) && decide (1 ≤ (e.s.length : Int)) && decide ((e.s.length : Int) ≤ 40)) = true
    · rw [hg, Bool.true_and] at ee
      refine T.sregD 80 [0, 1, 2, 4, 5, 30, 31, 59, 63] fun Kr hKr => ?_
      simp only [go_sem, cond_and, hg]
      (repeat (refine ⟨by (first | exact True.intro | omega | rfl | (simp; done) | (simp; omega)), ?_⟩)); try (refine hKr _ ?_; clear hKr Kr)
      refine CallK.data (fun _ => Spec.args (sp) (by (first | exact ArgsLe.refl | (repeat (first | exact True.intro | refine And.intro (by first | exact AvLe.refl | exact AvLe.loose | exact AvLe.nil | exact AvLe.nilT | exact AvLe.slk | (refine AvLe.agg ?_; exact ArgsLe.refl) | (refine AvLe.agg ?_; (repeat (first | exact True.intro | refine And.intro (by first | exact AvLe.refl | exact AvLe.loose | exact AvLe.nil | exact AvLe.nilT | exact AvLe.slk) ?_)))) ?_))))) rfl ?_
      simp only [go_sem]
      (repeat (refine ⟨by (first | exact True.intro | omega | rfl | (simp; done) | (simp; omega)), ?_⟩)); try (refine hKr _ ?_; clear hKr Kr)
      refine T.ret (Fin.dataD (by simp only [slook, ee]; rfl) rfl rfl)
    · simp only [Bool.not_eq_true] at hg
      rw [hg, Bool.false_and] at ee
      refine T.sregD 80 [0, 1, 2, 4, 5, 30, 31, 59, 63] fun Kr hKr => ?_
      simp only [go_sem, cond_and, hg]
      (repeat (refine ⟨by (first | exact True.intro | omega | rfl | (simp; done) | (simp; omega)), ?_⟩)); try (refine hKr _ ?_; clear hKr Kr)
      refine CallK.data (r := .bool true) (fun h => by cases h) rfl ?_
      simp only [go_sem]
      (repeat (refine ⟨by (first | exact True.intro | omega | rfl | (simp; done) | (simp; omega)), ?_⟩)); try (refine hKr _ ?_; clear hKr Kr)
      refine T.ret (Fin.dataD (by simp only [slook, ee]; rfl) rfl rfl)
  have fin0 : ¬ e.k = 2 → ¬ e.k = 4 → ¬ e.k = 3 → possB e n = false := by
    intro h2 h4 h3; simp only [possB]; rw [if_neg hb, if_neg (by omega), if_neg h3]
  have pc : (decide (0 ≤ e.a) && decide (e.a ≤ n) && decide (0 ≤ e.n) && decide (e.n ≤ n - e.a)) = pieceB e n := rfl
  rw [pc]
  have fin2 : e.k = 2 ∨ e.k = 4 → possB e n = pieceB e n := by
    intro h; simp only [possB]; rw [if_neg hb, if_pos h]
  have fin3 : e.k = 3 → possB e n = (pieceB e n && decide (0 ≤ e.t) && decide (e.t ≤ n - e.n)) := by
    intro h; simp only [possB]; rw [if_neg hb, if_neg (by omega), if_pos h]
  have hpn : pieceB e n = true → 0 ≤ e.n ∧ e.n ≤ n := by
    simp only [pieceB, Bool.and_eq_true, decide_eq_true_eq]; omega
  refine T.seqK fun K2 hK2 => ?_
  refine T.sregD 80 [0, 1, 2, 4, 5, 30, 31, 59, 63] fun Kr hKr => ?_
  simp only [go_sem]
  (repeat (refine ⟨by (first | exact True.intro | omega | rfl | (simp; done) | (simp; omega)), ?_⟩)); try (refine hKr _ ?_; clear hKr Kr)
  refine T.condTD rfl rfl (fun hc => ?_) (fun hc => ?_) <;> simp at hc
  · -- Delete
    refine T.skip ?_
    refine hK2 _ ?_
    refine T.condTD rfl rfl (fun hd => ?_) (fun hd => ?_) <;> simp at hd
    · refine T.sregD 80 [0, 1, 2, 4, 5, 30, 31, 59, 63] fun Kr hKr => ?_
      simp only [go_sem]
      (repeat (refine ⟨by (first | exact True.intro | omega | rfl | (simp; done) | (simp; omega)), ?_⟩)); try (refine hKr _ ?_; clear hKr Kr)
      refine T.ret (Fin.dataD (by simp only [slook, fin2 (.inl hc)]; rfl) rfl rfl)
    exact absurd hc hd
  refine T.regD 80 [0, 1, 2, 4, 5, 30, 31, 59, 63] fun Kr hKr => ?_
  simp only [go_sem]
  (repeat (refine ⟨by (first | exact True.intro | omega | rfl | (simp; done) | (simp; omega)), ?_⟩)); try (refine hKr _ ?_; clear hKr Kr)
  refine hK2 _ ?_
  refine T.condTD rfl rfl (fun hd => ?_) (fun hd => ?_) <;> simp at hd
  · refine T.sregD 80 [0, 1, 2, 4, 5, 30, 31, 59, 63] fun Kr hKr => ?_
    simp only [go_sem]
    (repeat (refine ⟨by (first | exact True.intro | omega | rfl | (simp; done) | (simp; omega)), ?_⟩)); try (refine hKr _ ?_; clear hKr Kr)
    refine T.ret (Fin.dataD (by simp only [slook, fin2 (.inr hd)]; rfl) rfl rfl)
  refine T.sregD 80 [0, 1, 2, 4, 5, 30, 31, 59, 63] fun Kr hKr => ?_
  simp only [go_sem]
  (repeat (refine ⟨by (first | exact True.intro | omega | rfl | (simp; done) | (simp; omega)), ?_⟩)); try (refine hKr _ ?_; clear hKr Kr)
  refine T.condTD rfl rfl (fun hf => ?_) (fun hf => ?_) <;> simp at hf
  · have e3 := fin3 hf
    generalize pieceB e n = pb at *
    refine T.sregD 80 [0, 1, 2, 4, 5, 30, 31, 59, 63] fun Kr hKr => ?_
    simp only [go_sem, cond_and, Bool.and_eq_true, decide_eq_true_eq]
    (repeat (refine ⟨by (first | exact True.intro | omega | rfl | (simp; done) | (simp; omega)), ?_⟩)); try (refine hKr _ ?_; clear hKr Kr)
    refine ⟨fun h => by have := hpn h.1; omega, hKr _ ?_⟩
    refine T.ret (Fin.dataD (by simp only [slook, e3]; rfl) rfl rfl)
  refine T.skip ?_
  refine hK1 _ ?_
  refine T.sregD 80 [0, 1, 2, 4, 5, 30, 31, 59, 63] fun Kr hKr => ?_
  simp only [go_sem]
  (repeat (refine ⟨by (first | exact True.intro | omega | rfl | (simp; done) | (simp; omega)), ?_⟩)); try (refine hKr _ ?_; clear hKr Kr)
  refine T.ret (Fin.dataD (by simp only [slook, fin0 hc hd hf]; rfl) rfl rfl)

theorem Possible_spec (e : Edit) (n : Int) (hn : 0 ≤ n ∧ n ≤ 100000) (hl : e.s.length < 2 ^ 31) : Ideal.Spec Try.prog 85 [editA e, .int .i64 n] (.bool (possB e n)) none := by
  have sp := Plain_spec e.s 1 40 hl
  have si := In_spec e.a 0 n
  have sj := In_spec e.t 0 (n - e.n)
  obtain ⟨hn1, hn2⟩ := hn
  refine Ideal.Spec.of_TD (n := 58) (fn := Try.f85) rfl rfl rfl rfl rfl rfl rfl fun w ok => ?_
  refine T.sregD 58 [0, 1, 2, 4, 5, 30, 31, 42, 46] fun Kr hKr => ?_
  simp only [go_sem]
  (repeat (refine ⟨by (first | exact True.intro | omega | rfl | (simp; done) | (simp; omega)), ?_⟩)); try (refine hKr _ ?_; clear hKr Kr)
  refine T.sregD 58 [0, 1, 2, 4, 5, 30, 31, 42, 46] fun Kr hKr => ?_
  simp only [go_sem, cond_and, Bool.and_eq_true, decide_eq_true_eq]
  (repeat (refine ⟨by (first | exact True.intro | omega | rfl | (simp; done) | (simp; omega)), ?_⟩)); try (refine hKr _ ?_; clear hKr Kr)
  refine T.seqK fun K1 hK1 => ?_
  refine T.sregD 58 [0, 1, 2, 4, 5, 30, 31, 42, 46] fun Kr hKr => ?_
  simp only [go_sem]
  (repeat (refine ⟨by (first | exact True.intro | omega | rfl | (simp; done) | (simp; omega)), ?_⟩)); try (refine hKr _ ?_; clear hKr Kr)
  refine T.block ?_
  have pc : (decide (e.a ≥ 0) && decide (e.n ≥ 0) && decide (e.a ≤ n) && decide (e.n ≤ n - e.a)) = pieceB e n := by
    simp only [pieceB, ge_iff_le]; cases decide (0 ≤ e.a) <;> cases decide (0 ≤ e.n) <;> cases decide (e.a ≤ n) <;> rfl
  rw [pc]
  refine T.sregD 58 [0, 1, 2, 4, 5, 30, 31, 42, 46] fun Kr hKr => ?_
  simp only [go_sem]
  (repeat (refine ⟨by (first | exact True.intro | omega | rfl | (simp; done) | (simp; omega)), ?_⟩)); try (refine hKr _ ?_; clear hKr Kr)
  refine T.condTD rfl rfl (fun hb => ?_) (fun hb => ?_) <;> simp at hb
  · -- Insert
    have ee : possB e n = (inB e.a 0 n && (plainB e.s && inB e.s.length 1 40)) := by
      simp only [possB]; rw [if_pos hb]; simp only [inB, ge_iff_le]
      cases decide (0 ≤ e.a) <;> cases decide (e.a ≤ n) <;> cases decide (1 ≤ (e.s.length : Int)) <;> cases decide ((e.s.length : Int) ≤ 40) <;> cases plainB e.s <;> rfl
    by_cases hg : inB e.a 0 n = true
    · rw [hg, Bool.true_and] at ee
      rw [hg] at si
      refine T.sregD 58 [0, 1, 2, 4, 5, 30, 31, 42, 46] fun Kr hKr => ?_
      simp only [go_sem]
      (repeat (refine ⟨by (first | exact True.intro | omega | rfl | (simp; done) | (simp; omega)), ?_⟩)); try (refine hKr _ ?_; clear hKr Kr)
      refine CallK.data (fun _ => Spec.args (si) (by (first | exact ArgsLe.refl | (repeat (first | exact True.intro | refine And.intro (by first | exact AvLe.refl | exact AvLe.loose | exact AvLe.nil | exact AvLe.nilT | exact AvLe.slk | (refine AvLe.agg ?_; exact ArgsLe.refl) | (refine AvLe.agg ?_; (repeat (first | exact True.intro | refine And.intro (by first | exact AvLe.refl | exact AvLe.loose | exact AvLe.nil | exact AvLe.nilT | exact AvLe.slk) ?_)))) ?_))))) rfl ?_
      simp only [go_sem]
      (repeat (refine ⟨by (first | exact True.intro | omega | rfl | (simp; done) | (simp; omega)), ?_⟩)); try (refine hKr _ ?_; clear hKr Kr)
      refine CallK.data (fun _ => Spec.args (sp) (by (first | exact ArgsLe.refl | (repeat (first | exact True.intro | refine And.intro (by first | exact AvLe.refl | exact AvLe.loose | exact AvLe.nil | exact AvLe.nilT | exact AvLe.slk | (refine AvLe.agg ?_; exact ArgsLe.refl) | (refine AvLe.agg ?_; (repeat (first | exact True.intro | refine And.intro (by first | exact AvLe.refl | exact AvLe.loose | exact AvLe.nil | exact AvLe.nilT | exact AvLe.slk) ?_)))) ?_))))) rfl ?_
      simp only [go_sem]
      (repeat (refine ⟨by (first | exact True.intro | omega | rfl | (simp; done) | (simp; omega)), ?_⟩)); try (refine hKr _ ?_; clear hKr Kr)
      refine T.ret (Fin.dataD (by simp only [slook, ee]; rfl) rfl rfl)
    · simp only [Bool.not_eq_true] at hg
      rw [hg, Bool.false_and] at ee
      rw [hg] at si
      refine T.sregD 58 [0, 1, 2, 4, 5, 30, 31, 42, 46] fun Kr hKr => ?_
      simp only [go_sem]
      (repeat (refine ⟨by (first | exact True.intro | omega | rfl | (simp; done) | (simp; omega)), ?_⟩)); try (refine hKr _ ?_; clear hKr Kr)
      refine CallK.data (fun _ => Spec.args (si) (by (first | exact ArgsLe.refl | (repeat (first | exact True.intro | refine And.intro (by first | exact AvLe.refl | exact AvLe.loose | exact AvLe.nil | exact AvLe.nilT | exact AvLe.slk | (refine AvLe.agg ?_; exact ArgsLe.refl) | (refine AvLe.agg ?_; (repeat (first | exact True.intro | refine And.intro (by first | exact AvLe.refl | exact AvLe.loose | exact AvLe.nil | exact AvLe.nilT | exact AvLe.slk) ?_)))) ?_))))) rfl ?_
      simp only [go_sem]
      (repeat (refine ⟨by (first | exact True.intro | omega | rfl | (simp; done) | (simp; omega)), ?_⟩)); try (refine hKr _ ?_; clear hKr Kr)
      refine CallK.data (r := .bool true) (fun h => by cases h) rfl ?_
      simp only [go_sem]
      (repeat (refine ⟨by (first | exact True.intro | omega | rfl | (simp; done) | (simp; omega)), ?_⟩)); try (refine hKr _ ?_; clear hKr Kr)
      refine T.ret (Fin.dataD (by simp only [slook, ee]; rfl) rfl rfl)
  have fin0 : ¬ e.k = 2 → ¬ e.k = 4 → ¬ e.k = 3 → possB e n = false := by
    intro h2 h4 h3; simp only [possB]; rw [if_neg hb, if_neg (by omega), if_neg h3]
  have fin2 : e.k = 2 ∨ e.k = 4 → possB e n = pieceB e n := by
    intro h; simp only [possB]; rw [if_neg hb, if_pos h]
  have fin3 : e.k = 3 → possB e n = (pieceB e n && inB e.t 0 (n - e.n)) := by
    intro h; simp only [possB]; rw [if_neg hb, if_neg (by omega), if_pos h]; simp only [inB, ge_iff_le, Bool.and_assoc]
  have hpn : pieceB e n = true → 0 ≤ e.n ∧ e.n ≤ n := by
    simp only [pieceB, Bool.and_eq_true, decide_eq_true_eq]; omega
  refine T.seqK fun K2 hK2 => ?_
  refine T.sregD 58 [0, 1, 2, 4, 5, 30, 31, 42, 46] fun Kr hKr => ?_
  simp only [go_sem]
  (repeat (refine ⟨by (first | exact True.intro | omega | rfl | (simp; done) | (simp; omega)), ?_⟩)); try (refine hKr _ ?_; clear hKr Kr)
  refine T.condTD rfl rfl (fun hc => ?_) (fun hc => ?_) <;> simp at hc
  · -- Delete
    refine T.skip ?_
    refine hK2 _ ?_
    refine T.condTD rfl rfl (fun hd => ?_) (fun hd => ?_) <;> simp at hd
    · refine T.sregD 58 [0, 1, 2, 4, 5, 30, 31, 42, 46] fun Kr hKr => ?_
      simp only [go_sem]
      (repeat (refine ⟨by (first | exact True.intro | omega | rfl | (simp; done) | (simp; omega)), ?_⟩)); try (refine hKr _ ?_; clear hKr Kr)
      refine T.ret (Fin.dataD (by simp only [slook, fin2 (.inl hc)]; rfl) rfl rfl)
    exact absurd hc hd
  refine T.regD 58 [0, 1, 2, 4, 5, 30, 31, 42, 46] fun Kr hKr => ?_
  simp only [go_sem]
  (repeat (refine ⟨by (first | exact True.intro | omega | rfl | (simp; done) | (simp; omega)), ?_⟩)); try (refine hKr _ ?_; clear hKr Kr)
  refine hK2 _ ?_
  refine T.condTD rfl rfl (fun hd => ?_) (fun hd => ?_) <;> simp at hd
  · refine T.sregD 58 [0, 1, 2, 4, 5, 30, 31, 42, 46] fun Kr hKr => ?_
    simp only [go_sem]
    (repeat (refine ⟨by (first | exact True.intro | omega | rfl | (simp; done) | (simp; omega)), ?_⟩)); try (refine hKr _ ?_; clear hKr Kr)
    refine T.ret (Fin.dataD (by simp only [slook, fin2 (.inr hd)]; rfl) rfl rfl)
  refine T.sregD 58 [0, 1, 2, 4, 5, 30, 31, 42, 46] fun Kr hKr => ?_
  simp only [go_sem]
  (repeat (refine ⟨by (first | exact True.intro | omega | rfl | (simp; done) | (simp; omega)), ?_⟩)); try (refine hKr _ ?_; clear hKr Kr)
  refine T.condTD rfl rfl (fun hf => ?_) (fun hf => ?_) <;> simp at hf
  · have e3 := fin3 hf
    cases hpb : pieceB e n
    · rw [hpb, Bool.false_and] at e3
      refine T.sregD 58 [0, 1, 2, 4, 5, 30, 31, 42, 46] fun Kr hKr => ?_
      simp only [go_sem]
      (repeat (refine ⟨by (first | exact True.intro | omega | rfl | (simp; done) | (simp; omega)), ?_⟩)); try (refine hKr _ ?_; clear hKr Kr)
      refine CallK.data (r := .bool true) (fun h => by cases h) rfl ?_
      simp only [go_sem]
      (repeat (refine ⟨by (first | exact True.intro | omega | rfl | (simp; done) | (simp; omega)), ?_⟩)); try (refine hKr _ ?_; clear hKr Kr)
      refine T.ret (Fin.dataD (by simp only [slook, e3]; rfl) rfl rfl)
    · rw [hpb, Bool.true_and] at e3
      obtain ⟨q1, q2⟩ := hpn hpb
      refine T.sregD 58 [0, 1, 2, 4, 5, 30, 31, 42, 46] fun Kr hKr => ?_
      simp only [go_sem]
      (repeat (refine ⟨by (first | exact True.intro | omega | rfl | (simp; done) | (simp; omega)), ?_⟩)); try (refine hKr _ ?_; clear hKr Kr)
      refine CallK.data (fun _ => Spec.args (sj) (by (first | exact ArgsLe.refl | (repeat (first | exact True.intro | refine And.intro (by first | exact AvLe.refl | exact AvLe.loose | exact AvLe.nil | exact AvLe.nilT | exact AvLe.slk | (refine AvLe.agg ?_; exact ArgsLe.refl) | (refine AvLe.agg ?_; (repeat (first | exact True.intro | refine And.intro (by first | exact AvLe.refl | exact AvLe.loose | exact AvLe.nil | exact AvLe.nilT | exact AvLe.slk) ?_)))) ?_))))) rfl ?_
      simp only [go_sem]
      (repeat (refine ⟨by (first | exact True.intro | omega | rfl | (simp; done) | (simp; omega)), ?_⟩)); try (refine hKr _ ?_; clear hKr Kr)
      refine T.ret (Fin.dataD (by simp only [slook, e3]; rfl) rfl rfl)
  refine T.skip ?_
  refine hK1 _ ?_
  refine T.sregD 58 [0, 1, 2, 4, 5, 30, 31, 42, 46] fun Kr hKr => ?_
  simp only [go_sem]
  (repeat (refine ⟨by (first | exact True.intro | omega | rfl | (simp; done) | (simp; omega)), ?_⟩)); try (refine hKr _ ?_; clear hKr Kr)
  refine T.ret (Fin.dataD (by simp only [slook, fin0 hc hd hf]; rfl) rfl rfl)

/-! ### Texts -/
def chg (s : List UInt8) (e : Edit) : List UInt8 :=
  if e.k = 1 then s.take e.a.toNat ++ e.s ++ s.drop e.a.toNat
  else if e.k = 2 then s.take e.a.toNat ++ s.drop (e.a + e.n).toNat
  else if e.k = 3 then (s.take e.a.toNat ++ s.drop (e.a + e.n).toNat).take e.t.toNat ++ (s.take (e.a + e.n).toNat).drop e.a.toNat ++ (s.take e.a.toNat ++ s.drop (e.a + e.n).toNat).drop e.t.toNat
  else s
theorem possB_smE {e : Edit} {n : Int} (hp : possB e n = true) : 1 ≤ e.k ∧ e.k ≤ 4 ∧ 0 ≤ e.a ∧ e.a ≤ n ∧ (e.k = 1 → 1 ≤ e.s.length ∧ e.s.length ≤ 40 ∧ plainB e.s = true) ∧ (e.k ≠ 1 → 0 ≤ e.n ∧ e.n ≤ n - e.a) ∧ (e.k = 3 → 0 ≤ e.t ∧ e.t ≤ n - e.n) := by
  unfold possB at hp
  by_cases h1 : e.k = 1
  · rw [if_pos h1] at hp
    simp only [Bool.and_eq_true, decide_eq_true_eq] at hp
    refine ⟨by omega, by omega, by omega, by omega, fun _ => ⟨by omega, by omega, hp.2⟩, by omega, by omega⟩
  rw [if_neg h1] at hp
  by_cases h2 : e.k = 2 ∨ e.k = 4
  · rw [if_pos h2] at hp
    simp only [pieceB, Bool.and_eq_true, decide_eq_true_eq] at hp
    refine ⟨by omega, by omega, by omega, by omega, by omega, by omega, by omega⟩
  rw [if_neg h2] at hp
  by_cases h3 : e.k = 3
  · rw [if_pos h3] at hp
    simp only [pieceB, Bool.and_eq_true, decide_eq_true_eq] at hp
    refine ⟨by omega, by omega, by omega, by omega, by omega, by omega, by omega⟩
  rw [if_neg h3] at hp; cases hp

theorem change_spec (s : List UInt8) (e : Edit) (hs : s.length ≤ 100000) (hl : e.s.length ≤ 100000) (hp : possB e s.length = true) : Ideal.Spec Try.prog 56 [.str s, editA e] (.str (chg s e)) none := by
  obtain ⟨q1, q2, q3, q4, q5, q6, q7⟩ := possB_smE hp
  refine Ideal.Spec.of_TD (n := 72) (fn := Try.f56) rfl rfl rfl rfl rfl rfl rfl fun w ok => ?_
  refine T.sregD 72 [0, 1, 3, 4, 5, 6, 8, 9, 23, 37] fun Kr hKr => ?_
  simp only [go_sem]
  (repeat (refine ⟨by (first | exact True.intro | omega | rfl | (simp; done) | (simp; omega)), ?_⟩)); try (refine hKr _ ?_; clear hKr Kr)
  refine T.seqK fun K1 hK1 => ?_
  refine T.sregD 72 [0, 1, 3, 4, 5, 6, 8, 9, 23, 37] fun Kr hKr => ?_
  simp only [go_sem]
  (repeat (refine ⟨by (first | exact True.intro | omega | rfl | (simp; done) | (simp; omega)), ?_⟩)); try (refine hKr _ ?_; clear hKr Kr)
  refine T.block ?_
  refine T.sregD 72 [0, 1, 3, 4, 5, 6, 8, 9, 23, 37] fun Kr hKr => ?_
  simp only [go_sem]
  (repeat (refine ⟨by (first | exact True.intro | omega | rfl | (simp; done) | (simp; omega)), ?_⟩)); try (refine hKr _ ?_; clear hKr Kr)
  refine T.condTD rfl rfl (fun hb => ?_) (fun hb => ?_) <;> simp at hb
  · -- Insert
    have ee : chg s e = s.take e.a.toNat ++ e.s ++ s.drop e.a.toNat := by simp only [chg]; rw [if_pos hb]
    refine T.sdrawD 72 [0, 1, 3, 4, 5, 6, 8, 9, 23, 37] (.take 0 (.take 1 (.take 2 (.take 3 (.take 4 (.take 5 (.take 6 (.take 7 (.take 8 (.take 9 (.take 10 (.take 11 (.take 12 .done))))))))))))) [3] rfl (by decide +kernel) (by decide +kernel) fun Kr hKr => ?_
    simp only [go_sem, List.drop_zero, List.take_length]
    (repeat (refine ⟨by (first | exact True.intro | omega | rfl | (simp; done) | (simp; omega)), ?_⟩)); try (refine hKr _ ?_; clear hKr Kr)
    refine T.ret (Fin.dataD (by simp only [slook, ee, List.append_assoc]; rfl) rfl rfl)
  obtain ⟨r1, r2⟩ := q6 hb
  refine T.sregD 72 [0, 1, 3, 4, 5, 6, 8, 9, 23, 37] fun Kr hKr => ?_
  simp only [go_sem]
  (repeat (refine ⟨by (first | exact True.intro | omega | rfl | (simp; done) | (simp; omega)), ?_⟩)); try (refine hKr _ ?_; clear hKr Kr)
  refine T.condTD rfl rfl (fun hc => ?_) (fun hc => ?_) <;> simp at hc
  · -- Delete
    have ee : chg s e = s.take e.a.toNat ++ s.drop (e.a + e.n).toNat := by simp only [chg]; rw [if_neg hb, if_pos hc]
    refine T.sdrawD 72 [0, 1, 3, 4, 5, 6, 8, 9, 23, 37] (.take 0 (.take 1 (.take 2 (.take 3 (.take 4 (.take 5 (.take 6 (.take 7 (.take 8 (.take 9 (.take 10 (.take 11 (.take 12 .done))))))))))))) [3] rfl (by decide +kernel) (by decide +kernel) fun Kr hKr => ?_
    simp only [go_sem, List.drop_zero, List.take_length]
    (repeat (refine ⟨by (first | exact True.intro | omega | rfl | (simp; done) | (simp; omega)), ?_⟩)); try (refine hKr _ ?_; clear hKr Kr)
    refine T.ret (Fin.dataD (by simp only [slook, ee]; rfl) rfl rfl)
  refine T.sregD 72 [0, 1, 3, 4, 5, 6, 8, 9, 23, 37] fun Kr hKr => ?_
  simp only [go_sem]
  (repeat (refine ⟨by (first | exact True.intro | omega | rfl | (simp; done) | (simp; omega)), ?_⟩)); try (refine hKr _ ?_; clear hKr Kr)
  refine T.condTD rfl rfl (fun hd => ?_) (fun hd => ?_) <;> simp at hd
  · -- Move
    have ee : chg s e = (s.take e.a.toNat ++ s.drop (e.a + e.n).toNat).take e.t.toNat ++ (s.take (e.a + e.n).toNat).drop e.a.toNat ++ (s.take e.a.toNat ++ s.drop (e.a + e.n).toNat).drop e.t.toNat := by
      simp only [chg]; rw [if_neg hb, if_neg hc, if_pos hd]
    obtain ⟨r3, r4⟩ := q7 hd
    have hlen : (s.take e.a.toNat ++ s.drop (e.a + e.n).toNat).length = s.length - e.n.toNat := by simp; omega
    refine T.sregD 72 [0, 1, 3, 4, 5, 6, 8, 9, 23, 37] fun Kr hKr => ?_
    simp only [go_sem, List.drop_zero, List.take_length]
    (repeat (refine ⟨by (first | exact True.intro | omega | rfl | (simp; done) | (simp; omega)), ?_⟩)); try (refine hKr _ ?_; clear hKr Kr)
    refine T.sdrawD 72 [0, 1, 3, 4, 5, 6, 8, 9, 23, 37] (.take 0 (.take 1 (.take 2 (.take 3 (.take 4 (.take 5 (.take 6 (.take 7 (.take 8 (.take 9 (.take 10 (.take 11 (.take 12 .done))))))))))))) [3] rfl (by decide +kernel) (by decide +kernel) fun Kr hKr => ?_
    simp only [go_sem, List.drop_zero, List.take_length]
    (repeat (refine ⟨by (first | exact True.intro | omega | rfl | (simp; done) | (simp; omega)), ?_⟩)); try (refine hKr _ ?_; clear hKr Kr)
    generalize s.take e.a.toNat ++ s.drop (e.a + e.n).toNat = rest at *
    refine T.sdrawD 72 [0, 1, 3, 4, 5, 6, 8, 9, 23, 37] (.take 0 (.take 1 (.take 2 (.take 3 (.take 4 (.take 5 (.take 6 (.take 7 (.take 8 (.take 9 (.take 10 (.take 11 .done)))))))))))) [3] rfl (by decide +kernel) (by decide +kernel) fun Kr hKr => ?_
    simp only [go_sem, List.drop_zero, List.take_length]
    (repeat (refine ⟨by (first | exact True.intro | omega | rfl | (simp; done) | (simp; omega)), ?_⟩)); try (refine hKr _ ?_; clear hKr Kr)
    refine T.ret (Fin.dataD (by simp only [slook, ee, List.append_assoc]; rfl) rfl rfl)
  have ee : chg s e = s := by simp only [chg]; rw [if_neg hb, if_neg hc, if_neg hd]
  refine T.skip ?_
  refine hK1 _ ?_
  refine T.sregD 72 [0, 1, 3, 4, 5, 6, 8, 9, 23, 37] fun Kr hKr => ?_
  simp only [go_sem]
  (repeat (refine ⟨by (first | exact True.intro | omega | rfl | (simp; done) | (simp; omega)), ?_⟩)); try (refine hKr _ ?_; clear hKr Kr)
  refine T.ret (Fin.dataD (by simp only [slook, ee]; rfl) rfl rfl)
/-! The reference's -/
theorem text_spec (s : List UInt8) (e : Edit) (hs : s.length ≤ 100000) (hl : e.s.length ≤ 100000) (hp : possB e s.length = true) : Ideal.Spec Try.prog 86 [.str s, editA e] (.str (chg s e)) none := by
  obtain ⟨q1, q2, q3, q4, q5, q6, q7⟩ := possB_smE hp
  refine Ideal.Spec.of_TD (n := 72) (fn := Try.f86) rfl rfl rfl rfl rfl rfl rfl fun w ok => ?_
  refine T.sregD 72 [0, 1, 3, 4, 5, 6, 8, 9, 23, 37] fun Kr hKr => ?_
  simp only [go_sem]
  (repeat (refine ⟨by (first | exact True.intro | omega | rfl | (simp; done) | (simp; omega)), ?_⟩)); try (refine hKr _ ?_; clear hKr Kr)
  refine T.seqK fun K1 hK1 => ?_
  refine T.sregD 72 [0, 1, 3, 4, 5, 6, 8, 9, 23, 37] fun Kr hKr => ?_
  simp only [go_sem]
  (repeat (refine ⟨by (first | exact True.intro | omega | rfl | (simp; done) | (simp; omega)), ?_⟩)); try (refine hKr _ ?_; clear hKr Kr)
  refine T.block ?_
  refine T.sregD 72 [0, 1, 3, 4, 5, 6, 8, 9, 23, 37] fun Kr hKr => ?_
  simp only [go_sem]
  (repeat (refine ⟨by (first | exact True.intro | omega | rfl | (simp; done) | (simp; omega)), ?_⟩)); try (refine hKr _ ?_; clear hKr Kr)
  refine T.condTD rfl rfl (fun hb => ?_) (fun hb => ?_) <;> simp at hb
  · -- Insert
    have ee : chg s e = s.take e.a.toNat ++ e.s ++ s.drop e.a.toNat := by simp only [chg]; rw [if_pos hb]
    refine T.sdrawD 72 [0, 1, 3, 4, 5, 6, 8, 9, 23, 37] (.take 0 (.take 1 (.take 2 (.take 3 (.take 4 (.take 5 (.take 6 (.take 7 (.take 8 (.take 9 (.take 10 (.take 11 (.take 12 .done))))))))))))) [3] rfl (by decide +kernel) (by decide +kernel) fun Kr hKr => ?_
    simp only [go_sem, List.drop_zero, List.take_length]
    (repeat (refine ⟨by (first | exact True.intro | omega | rfl | (simp; done) | (simp; omega)), ?_⟩)); try (refine hKr _ ?_; clear hKr Kr)
    refine T.ret (Fin.dataD (by simp only [slook, ee, List.append_assoc]; rfl) rfl rfl)
  obtain ⟨r1, r2⟩ := q6 hb
  refine T.sregD 72 [0, 1, 3, 4, 5, 6, 8, 9, 23, 37] fun Kr hKr => ?_
  simp only [go_sem]
  (repeat (refine ⟨by (first | exact True.intro | omega | rfl | (simp; done) | (simp; omega)), ?_⟩)); try (refine hKr _ ?_; clear hKr Kr)
  refine T.condTD rfl rfl (fun hc => ?_) (fun hc => ?_) <;> simp at hc
  · -- Delete
    have ee : chg s e = s.take e.a.toNat ++ s.drop (e.a + e.n).toNat := by simp only [chg]; rw [if_neg hb, if_pos hc]
    refine T.sdrawD 72 [0, 1, 3, 4, 5, 6, 8, 9, 23, 37] (.take 0 (.take 1 (.take 2 (.take 3 (.take 4 (.take 5 (.take 6 (.take 7 (.take 8 (.take 9 (.take 10 (.take 11 (.take 12 .done))))))))))))) [3] rfl (by decide +kernel) (by decide +kernel) fun Kr hKr => ?_
    simp only [go_sem, List.drop_zero, List.take_length]
    (repeat (refine ⟨by (first | exact True.intro | omega | rfl | (simp; done) | (simp; omega)), ?_⟩)); try (refine hKr _ ?_; clear hKr Kr)
    refine T.ret (Fin.dataD (by simp only [slook, ee]; rfl) rfl rfl)
  refine T.sregD 72 [0, 1, 3, 4, 5, 6, 8, 9, 23, 37] fun Kr hKr => ?_
  simp only [go_sem]
  (repeat (refine ⟨by (first | exact True.intro | omega | rfl | (simp; done) | (simp; omega)), ?_⟩)); try (refine hKr _ ?_; clear hKr Kr)
  refine T.condTD rfl rfl (fun hd => ?_) (fun hd => ?_) <;> simp at hd
  · -- Move
    have ee : chg s e = (s.take e.a.toNat ++ s.drop (e.a + e.n).toNat).take e.t.toNat ++ (s.take (e.a + e.n).toNat).drop e.a.toNat ++ (s.take e.a.toNat ++ s.drop (e.a + e.n).toNat).drop e.t.toNat := by
      simp only [chg]; rw [if_neg hb, if_neg hc, if_pos hd]
    obtain ⟨r3, r4⟩ := q7 hd
    have hlen : (s.take e.a.toNat ++ s.drop (e.a + e.n).toNat).length = s.length - e.n.toNat := by simp; omega
    refine T.sdrawD 72 [0, 1, 3, 4, 5, 6, 8, 9, 23, 37] (.take 0 (.take 1 (.take 2 (.take 3 (.take 4 (.take 5 (.take 6 (.take 7 (.take 8 (.take 9 (.take 10 (.take 11 (.take 12 (.take 13 (.take 14 (.take 15 (.take 16 (.take 17 (.take 18 (.take 19 (.take 20 (.take 21 (.take 22 .done))))))))))))))))))))))) [3] rfl (by decide +kernel) (by decide +kernel) fun Kr hKr => ?_
    simp only [go_sem, List.drop_zero, List.take_length]
    (repeat (refine ⟨by (first | exact True.intro | omega | rfl | (simp; done) | (simp; omega)), ?_⟩)); try (refine hKr _ ?_; clear hKr Kr)
    generalize s.take e.a.toNat ++ s.drop (e.a + e.n).toNat = rest at *
    refine T.sdrawD 72 [0, 1, 3, 4, 5, 6, 8, 9, 23, 37] (.take 0 (.take 1 (.take 2 (.take 3 (.take 4 (.take 5 (.take 6 (.take 7 (.take 8 (.take 9 (.take 10 (.take 11 .done)))))))))))) [3] rfl (by decide +kernel) (by decide +kernel) fun Kr hKr => ?_
    simp only [go_sem, List.drop_zero, List.take_length]
    (repeat (refine ⟨by (first | exact True.intro | omega | rfl | (simp; done) | (simp; omega)), ?_⟩)); try (refine hKr _ ?_; clear hKr Kr)
    refine T.ret (Fin.dataD (by simp only [slook, ee, List.append_assoc]; rfl) rfl rfl)
  have ee : chg s e = s := by simp only [chg]; rw [if_neg hb, if_neg hc, if_neg hd]
  refine T.skip ?_
  refine hK1 _ ?_
  refine T.sregD 72 [0, 1, 3, 4, 5, 6, 8, 9, 23, 37] fun Kr hKr => ?_
  simp only [go_sem]
  (repeat (refine ⟨by (first | exact True.intro | omega | rfl | (simp; done) | (simp; omega)), ?_⟩)); try (refine hKr _ ?_; clear hKr Kr)
  refine T.ret (Fin.dataD (by simp only [slook, ee]; rfl) rfl rfl)

/-! ### Words -/
def letter (b : UInt8) : UInt8 := 97 + b % 26
def wordF (l : List UInt8) : List UInt8 := if l = [] then [45] else (l.take 4).map letter
theorem letter_nat (b : UInt8) : ((letter b).toNat : Int) = 97 + (b.toNat : Int) % 26 := by
  have : (letter b).toNat = 97 + b.toNat % 26 := by
    simp only [letter, UInt8.toNat_add, UInt8.toNat_mod]
    have : b.toNat % 26 < 26 := Nat.mod_lt _ (by decide)
    show (97 + b.toNat % 26) % 256 = _
    omega
  omega
theorem word_spec (l : List UInt8) : Ideal.Spec Try.prog 82 [.sl false 1 (bytesOf l)] (.str (wordF l)) none := by
  refine Ideal.Spec.of_TD (n := 28) (fn := Try.f82) rfl rfl rfl rfl rfl rfl rfl fun w ok => ?_
  refine T.sregD 28 [0, 2, 3, 4, 12, 26] fun Kr hKr => ?_
  simp only [go_sem]
  (repeat (refine ⟨by (first | exact True.intro | omega | rfl | (simp; done) | (simp; omega)), ?_⟩)); try (refine hKr _ ?_; clear hKr Kr)
  refine T.sregD 28 [0, 2, 3, 4, 12, 26] fun Kr hKr => ?_
  simp only [go_sem]
  (repeat (refine ⟨by (first | exact True.intro | omega | rfl | (simp; done) | (simp; omega)), ?_⟩)); try (refine hKr _ ?_; clear hKr Kr)
  refine T.seqK fun K1 hK1 => ?_
  refine T.sregD 28 [0, 2, 3, 4, 12, 26] fun Kr hKr => ?_
  simp only [go_sem]
  (repeat (refine ⟨by (first | exact True.intro | omega | rfl | (simp; done) | (simp; omega)), ?_⟩)); try (refine hKr _ ?_; clear hKr Kr)
  refine T.bloop (fun i : Nat => ⟨dense 28 [(0, .sl false 1 (bytesOf l)), (3, .str ((l.take i).map letter)), (4, .int .i64 i)], []⟩) (fun i => i ≤ l.length ∧ i ≤ 4) (fun i => l.length - i) 0 ⟨by omega, by omega⟩ ?_ fun i hi => ?_
  · refine Le.fitS (by (repeat (first | exact DFit.nil | refine DFit.cons (by first | rfl | (simp [slook]; done) | (simp [slook]; omega)) ?_))) (by (repeat (first | exact True.intro | refine And.intro (by first | rfl | (simp [look]; done)) ?_)))
  obtain ⟨hi, hi4⟩ := hi
  refine T.seqK fun K2 hK2 => ?_
  refine T.sregD 28 [0, 2, 3, 4, 12, 26] fun Kr hKr => ?_
  simp only [go_sem]
  (repeat (refine ⟨by (first | exact True.intro | omega | rfl | (simp; done) | (simp; omega)), ?_⟩)); try (refine hKr _ ?_; clear hKr Kr)
  refine T.condFD rfl rfl (fun hb => ?_) (fun hb => ?_) <;> simp [Bool.cond_eq_ite] at hb
  · -- no: exit
    refine T.exit ?_
    simp only [if_true]
    refine hK1 _ ?_
    have e : (l.take i).map letter = (l.take 4).map letter := by
      by_cases h : i < l.length
      · have := hb h
        have : i = 4 := by omega
        rw [this]
      · rw [List.take_of_length_le (by omega : l.length ≤ i), List.take_of_length_le (by omega : l.length ≤ 4)]
    rw [e]
    refine T.seqK fun K3 hK3 => ?_
    refine T.sregD 28 [0, 2, 3, 4, 12, 26] fun Kr hKr => ?_
    simp only [go_sem]
    (repeat (refine ⟨by (first | exact True.intro | omega | rfl | (simp; done) | (simp; omega)), ?_⟩)); try (refine hKr _ ?_; clear hKr Kr)
    refine T.condTD rfl rfl (fun hc => ?_) (fun hc => ?_) <;> simp at hc
    · have e2 : wordF l = [45] := by simp [wordF, hc]
      refine T.sregD 28 [0, 2, 3, 4, 12, 26] fun Kr hKr => ?_
      simp only [go_sem]
      (repeat (refine ⟨by (first | exact True.intro | omega | rfl | (simp; done) | (simp; omega)), ?_⟩)); try (refine hKr _ ?_; clear hKr Kr)
      refine T.ret (Fin.dataD (by simp only [slook, e2]; rfl) rfl rfl)
    have e2 : wordF l = (l.take 4).map letter := by simp [wordF, hc]
    refine T.skip ?_
    refine hK3 _ ?_
    refine T.sregD 28 [0, 2, 3, 4, 12, 26] fun Kr hKr => ?_
    simp only [go_sem]
    (repeat (refine ⟨by (first | exact True.intro | omega | rfl | (simp; done) | (simp; omega)), ?_⟩)); try (refine hKr _ ?_; clear hKr Kr)
    refine T.ret (Fin.dataD (by simp only [slook, e2]; rfl) rfl rfl)
  refine T.skip ?_
  refine hK2 _ ?_
  obtain ⟨hb1, hb2⟩ := hb
  refine T.seqK fun K3 hK3 => ?_
  refine T.block ?_
  have hr : remv ((l.getD i 0).toNat : Int) 26 = ((l.getD i 0).toNat : Int) % 26 := remv_nn (by omega)
  have hx : (0 : Int) ≤ ((l.getD i 0).toNat : Int) % 26 ∧ ((l.getD i 0).toNat : Int) % 26 < 26 := ⟨by omega, by omega⟩
  have hln := letter_nat (l.getD i 0)
  have hlt : (l.take i).length = i := by simp; omega
  have hs : (l.take (i + 1)).map letter = (l.take i).map letter ++ [letter (l.getD i 0)] := by
    have : l.take (i + 1) = l.take i ++ [l.getD i 0] := by rw [List.take_add_one]; simp [List.getD, hb1]
    rw [this, List.map_append]; rfl
  refine T.regD 28 [0, 2, 3, 4, 12, 26] fun Kr hKr => ?_
  simp only [go_sem, hb1, hr, hln.symm, hlt]
  (repeat (refine ⟨by (first | exact True.intro | omega | rfl | (simp; done) | (simp; omega)), ?_⟩)); try (refine hKr _ ?_; clear hKr Kr)
  refine hK3 _ ?_
  refine T.regD 28 [0, 2, 3, 4, 12, 26] fun Kr hKr => ?_
  simp only [go_sem]
  (repeat (refine ⟨by (first | exact True.intro | omega | rfl | (simp; done) | (simp; omega)), ?_⟩)); try (refine hKr _ ?_; clear hKr Kr)
  refine ⟨i + 1, ?_, ?_, Le.fitS (by (repeat (first | exact DFit.nil | refine DFit.cons (by first | rfl | (simp [slook, hs]; done) | (simp [slook, hs]; omega)) ?_))) ?_⟩
  · omega
  · omega
  · (repeat (first | exact True.intro | refine And.intro (by first | rfl | (simp [look]; done)) ?_))
end Go.Proofs
