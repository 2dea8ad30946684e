/- Pins and edges: closures, choosing, restricting. -/
import Derived.Test.YtbpkimjblhbbeaaP1
set_option linter.unusedVariables false
set_option linter.unusedSimpArgs false
namespace Go.Proofs
open Go Go.Ideal
set_option maxRecDepth 8000
set_option maxHeartbeats 4000000

/-! Closures -/
theorem toB_spec (p : Pin) (q : Pin) : Ideal.Spec Try.prog 30 [pinA q, .cp [.int .i64 p.f, .int .i64 p.t, .int .i64 p.w]] (.bool (decide (q.t ≤ p.f))) none := by
  refine Ideal.Spec.of_TD (n := 9) (fn := Try.f30) rfl rfl rfl rfl rfl rfl rfl fun w ok => ?_
  refine T.sregD 9 [0, 1, 2, 3] fun Kr hKr => ?_
  simp only [go_sem, reduceCtorEq, Nat.reduceEqDiff, Nat.reduceBEq, Nat.reduceAdd, Nat.reduceMul, Nat.reduceLeDiff, Nat.reduceSub, Int.reduceToNat, Int.reduceNeg, Nat.reduceLT, Int.reduceMul, Int.reduceSub, Int.reduceAdd, Int.reduceLT, Int.reduceLE, Int.reduceGE, Int.reduceGT, Int.reduceDiv, Int.reduceMod, Int.reduceEq, Int.reducePow, Nat.reducePow, Nat.reduceDiv, Nat.reduceMod]
  (repeat (refine ⟨by (first | exact True.intro | omega | rfl | (simp; done) | (simp; omega)), ?_⟩)); try (refine hKr _ ?_; clear hKr Kr)
  refine T.sregD 9 [0, 1, 2, 3] fun Kr hKr => ?_
  simp only [go_sem, reduceCtorEq, Nat.reduceEqDiff, Nat.reduceBEq, Nat.reduceAdd, Nat.reduceMul, Nat.reduceLeDiff, Nat.reduceSub, Int.reduceToNat, Int.reduceNeg, Nat.reduceLT, Int.reduceMul, Int.reduceSub, Int.reduceAdd, Int.reduceLT, Int.reduceLE, Int.reduceGE, Int.reduceGT, Int.reduceDiv, Int.reduceMod, Int.reduceEq, Int.reducePow, Nat.reducePow, Nat.reduceDiv, Nat.reduceMod]
  (repeat (refine ⟨by (first | exact True.intro | omega | rfl | (simp; done) | (simp; omega)), ?_⟩)); try (refine hKr _ ?_; clear hKr Kr)
  refine T.ret (Fin.dataD (by simp [slook]) rfl rfl)
theorem fromA_spec (p : Pin) (q : Pin) : Ideal.Spec Try.prog 31 [pinA q, .cp [.int .i64 p.f, .int .i64 p.t, .int .i64 p.w]] (.bool (decide (q.f ≥ p.t))) none := by
  refine Ideal.Spec.of_TD (n := 9) (fn := Try.f31) rfl rfl rfl rfl rfl rfl rfl fun w ok => ?_
  refine T.sregD 9 [0, 1, 2, 3] fun Kr hKr => ?_
  simp only [go_sem, reduceCtorEq, Nat.reduceEqDiff, Nat.reduceBEq, Nat.reduceAdd, Nat.reduceMul, Nat.reduceLeDiff, Nat.reduceSub, Int.reduceToNat, Int.reduceNeg, Nat.reduceLT, Int.reduceMul, Int.reduceSub, Int.reduceAdd, Int.reduceLT, Int.reduceLE, Int.reduceGE, Int.reduceGT, Int.reduceDiv, Int.reduceMod, Int.reduceEq, Int.reducePow, Nat.reducePow, Nat.reduceDiv, Nat.reduceMod]
  (repeat (refine ⟨by (first | exact True.intro | omega | rfl | (simp; done) | (simp; omega)), ?_⟩)); try (refine hKr _ ?_; clear hKr Kr)
  refine T.sregD 9 [0, 1, 2, 3] fun Kr hKr => ?_
  simp only [go_sem, reduceCtorEq, Nat.reduceEqDiff, Nat.reduceBEq, Nat.reduceAdd, Nat.reduceMul, Nat.reduceLeDiff, Nat.reduceSub, Int.reduceToNat, Int.reduceNeg, Nat.reduceLT, Int.reduceMul, Int.reduceSub, Int.reduceAdd, Int.reduceLT, Int.reduceLE, Int.reduceGE, Int.reduceGT, Int.reduceDiv, Int.reduceMod, Int.reduceEq, Int.reducePow, Nat.reducePow, Nat.reduceDiv, Nat.reduceMod]
  (repeat (refine ⟨by (first | exact True.intro | omega | rfl | (simp; done) | (simp; omega)), ?_⟩)); try (refine hKr _ ?_; clear hKr Kr)
  refine T.ret (Fin.dataD (by simp [slook]) rfl rfl)
theorem keepI_spec (a : Int) (q : Pin) : Ideal.Spec Try.prog 36 [pinA q, .cp [.int .i64 a]] (.bool (decide (q.f ≥ a) || decide (q.t ≤ a))) none := by
  refine Ideal.Spec.of_TD (n := 14) (fn := Try.f36) rfl rfl rfl rfl rfl rfl rfl fun w ok => ?_
  refine T.sregD 14 [0, 1, 2, 3] fun Kr hKr => ?_
  simp only [go_sem, reduceCtorEq, Nat.reduceEqDiff, Nat.reduceBEq, Nat.reduceAdd, Nat.reduceMul, Nat.reduceLeDiff, Nat.reduceSub, Int.reduceToNat, Int.reduceNeg, Nat.reduceLT, Int.reduceMul, Int.reduceSub, Int.reduceAdd, Int.reduceLT, Int.reduceLE, Int.reduceGE, Int.reduceGT, Int.reduceDiv, Int.reduceMod, Int.reduceEq, Int.reducePow, Nat.reducePow, Nat.reduceDiv, Nat.reduceMod]
  (repeat (refine ⟨by (first | exact True.intro | omega | rfl | (simp; done) | (simp; omega)), ?_⟩)); try (refine hKr _ ?_; clear hKr Kr)
  refine T.sregD 14 [0, 1, 2, 3] fun Kr hKr => ?_
  simp only [go_sem, reduceCtorEq, Nat.reduceEqDiff, Nat.reduceBEq, Nat.reduceAdd, Nat.reduceMul, Nat.reduceLeDiff, Nat.reduceSub, Int.reduceToNat, Int.reduceNeg, Nat.reduceLT, Int.reduceMul, Int.reduceSub, Int.reduceAdd, Int.reduceLT, Int.reduceLE, Int.reduceGE, Int.reduceGT, Int.reduceDiv, Int.reduceMod, Int.reduceEq, Int.reducePow, Nat.reducePow, Nat.reduceDiv, Nat.reduceMod]
  (repeat (refine ⟨by (first | exact True.intro | omega | rfl | (simp; done) | (simp; omega)), ?_⟩)); try (refine hKr _ ?_; clear hKr Kr)
  refine T.ret (Fin.dataD (by simp [slook]) rfl rfl)
theorem keepD_spec (a : Int) (q : Pin) : Ideal.Spec Try.prog 37 [pinA q, .cp [.int .i64 a]] (.bool (decide (q.f > a) || decide (q.t ≤ a))) none := by
  refine Ideal.Spec.of_TD (n := 14) (fn := Try.f37) rfl rfl rfl rfl rfl rfl rfl fun w ok => ?_
  refine T.sregD 14 [0, 1, 2, 3] fun Kr hKr => ?_
  simp only [go_sem, reduceCtorEq, Nat.reduceEqDiff, Nat.reduceBEq, Nat.reduceAdd, Nat.reduceMul, Nat.reduceLeDiff, Nat.reduceSub, Int.reduceToNat, Int.reduceNeg, Nat.reduceLT, Int.reduceMul, Int.reduceSub, Int.reduceAdd, Int.reduceLT, Int.reduceLE, Int.reduceGE, Int.reduceGT, Int.reduceDiv, Int.reduceMod, Int.reduceEq, Int.reducePow, Nat.reducePow, Nat.reduceDiv, Nat.reduceMod]
  (repeat (refine ⟨by (first | exact True.intro | omega | rfl | (simp; done) | (simp; omega)), ?_⟩)); try (refine hKr _ ?_; clear hKr Kr)
  refine T.sregD 14 [0, 1, 2, 3] fun Kr hKr => ?_
  simp only [go_sem, reduceCtorEq, Nat.reduceEqDiff, Nat.reduceBEq, Nat.reduceAdd, Nat.reduceMul, Nat.reduceLeDiff, Nat.reduceSub, Int.reduceToNat, Int.reduceNeg, Nat.reduceLT, Int.reduceMul, Int.reduceSub, Int.reduceAdd, Int.reduceLT, Int.reduceLE, Int.reduceGE, Int.reduceGT, Int.reduceDiv, Int.reduceMod, Int.reduceEq, Int.reducePow, Nat.reducePow, Nat.reduceDiv, Nat.reduceMod]
  (repeat (refine ⟨by (first | exact True.intro | omega | rfl | (simp; done) | (simp; omega)), ?_⟩)); try (refine hKr _ ?_; clear hKr Kr)
  refine T.ret (Fin.dataD (by simp [slook]) rfl rfl)
theorem agC_spec (e : Edge) (p : Pin) : Ideal.Spec Try.prog 33 [pinA p, .cp [.int .i64 e.f, .int .i64 e.t, .int .i64 e.w, .int .i64 e.c]] (.bool (agB e p)) none := by
  refine Ideal.Spec.of_TD (n := 7) (fn := Try.f33) rfl rfl rfl rfl rfl rfl rfl fun w ok => ?_
  refine T.sregD 7 [0, 1, 2, 3] fun Kr hKr => ?_
  simp only [go_sem, reduceCtorEq, Nat.reduceEqDiff, Nat.reduceBEq, Nat.reduceAdd, Nat.reduceMul, Nat.reduceLeDiff, Nat.reduceSub, Int.reduceToNat, Int.reduceNeg, Nat.reduceLT, Int.reduceMul, Int.reduceSub, Int.reduceAdd, Int.reduceLT, Int.reduceLE, Int.reduceGE, Int.reduceGT, Int.reduceDiv, Int.reduceMod, Int.reduceEq, Int.reducePow, Nat.reducePow, Nat.reduceDiv, Nat.reduceMod]
  (repeat (refine ⟨by (first | exact True.intro | omega | rfl | (simp; done) | (simp; omega)), ?_⟩)); try (refine hKr _ ?_; clear hKr Kr)
  refine T.sregD 7 [0, 1, 2, 3] fun Kr hKr => ?_
  simp only [go_sem, reduceCtorEq, Nat.reduceEqDiff, Nat.reduceBEq, Nat.reduceAdd, Nat.reduceMul, Nat.reduceLeDiff, Nat.reduceSub, Int.reduceToNat, Int.reduceNeg, Nat.reduceLT, Int.reduceMul, Int.reduceSub, Int.reduceAdd, Int.reduceLT, Int.reduceLE, Int.reduceGE, Int.reduceGT, Int.reduceDiv, Int.reduceMod, Int.reduceEq, Int.reducePow, Nat.reducePow, Nat.reduceDiv, Nat.reduceMod]
  (repeat (refine ⟨by (first | exact True.intro | omega | rfl | (simp; done) | (simp; omega)), ?_⟩)); try (refine hKr _ ?_; clear hKr Kr)
  refine CallK.data (fun _ => Spec.args (against_spec e p) (by (first | exact ArgsLe.refl | (repeat (first | exact True.intro | refine And.intro (by first | exact AvLe.refl | exact AvLe.loose | exact AvLe.nil | exact AvLe.nilT | (refine AvLe.agg ?_; exact ArgsLe.refl) | (refine AvLe.agg ?_; (repeat (first | exact True.intro | refine And.intro (by first | exact AvLe.refl | exact AvLe.loose | exact AvLe.nil | exact AvLe.nilT) ?_)))) ?_))))) rfl ?_
  simp only [go_sem, reduceCtorEq, Nat.reduceEqDiff, Nat.reduceBEq, Nat.reduceAdd, Nat.reduceMul, Nat.reduceLeDiff, Nat.reduceSub, Int.reduceToNat, Int.reduceNeg, Nat.reduceLT, Int.reduceMul, Int.reduceSub, Int.reduceAdd, Int.reduceLT, Int.reduceLE, Int.reduceGE, Int.reduceGT, Int.reduceDiv, Int.reduceMod, Int.reduceEq, Int.reducePow, Nat.reducePow, Nat.reduceDiv, Nat.reduceMod]
  (repeat (refine ⟨by (first | exact True.intro | omega | rfl | (simp; done) | (simp; omega)), ?_⟩)); try (refine hKr _ ?_; clear hKr Kr)
  refine T.ret (Fin.dataD rfl rfl rfl)
/-- A condition that does not hold of a pin. -/
theorem broken_spec (g : Nat) (cs : List AV) (p : Pin) (b : Bool) (h : Ideal.Spec Try.prog g [pinA p, .cp cs] (.bool b) none) :
    Ideal.Spec Try.prog 38 [.fn g [.cp cs], .cp [.int .i64 p.f, .int .i64 p.t, .int .i64 p.w]] (.bool (!b)) none := by
  refine Ideal.Spec.of_TD (n := 8) (fn := Try.f38) rfl rfl rfl rfl rfl rfl rfl fun w ok => ?_
  refine T.sregD 8 [0, 1, 3] fun Kr hKr => ?_
  simp only [go_sem, reduceCtorEq, Nat.reduceEqDiff, Nat.reduceBEq, Nat.reduceAdd, Nat.reduceMul, Nat.reduceLeDiff, Nat.reduceSub, Int.reduceToNat, Int.reduceNeg, Nat.reduceLT, Int.reduceMul, Int.reduceSub, Int.reduceAdd, Int.reduceLT, Int.reduceLE, Int.reduceGE, Int.reduceGT, Int.reduceDiv, Int.reduceMod, Int.reduceEq, Int.reducePow, Nat.reducePow, Nat.reduceDiv, Nat.reduceMod]
  (repeat (refine ⟨by (first | exact True.intro | omega | rfl | (simp; done) | (simp; omega)), ?_⟩)); try (refine hKr _ ?_; clear hKr Kr)
  refine T.sregD 8 [0, 1, 3] fun Kr hKr => ?_
  simp only [go_sem, reduceCtorEq, Nat.reduceEqDiff, Nat.reduceBEq, Nat.reduceAdd, Nat.reduceMul, Nat.reduceLeDiff, Nat.reduceSub, Int.reduceToNat, Int.reduceNeg, Nat.reduceLT, Int.reduceMul, Int.reduceSub, Int.reduceAdd, Int.reduceLT, Int.reduceLE, Int.reduceGE, Int.reduceGT, Int.reduceDiv, Int.reduceMod, Int.reduceEq, Int.reducePow, Nat.reducePow, Nat.reduceDiv, Nat.reduceMod]
  (repeat (refine ⟨by (first | exact True.intro | omega | rfl | (simp; done) | (simp; omega)), ?_⟩)); try (refine hKr _ ?_; clear hKr Kr)
  refine CallK.data (fun _ => Spec.args (h) (by (first | exact ArgsLe.refl | (repeat (first | exact True.intro | refine And.intro (by first | exact AvLe.refl | exact AvLe.loose | exact AvLe.nil | exact AvLe.nilT | (refine AvLe.agg ?_; exact ArgsLe.refl) | (refine AvLe.agg ?_; (repeat (first | exact True.intro | refine And.intro (by first | exact AvLe.refl | exact AvLe.loose | exact AvLe.nil | exact AvLe.nilT) ?_)))) ?_))))) rfl ?_
  simp only [go_sem, reduceCtorEq, Nat.reduceEqDiff, Nat.reduceBEq, Nat.reduceAdd, Nat.reduceMul, Nat.reduceLeDiff, Nat.reduceSub, Int.reduceToNat, Int.reduceNeg, Nat.reduceLT, Int.reduceMul, Int.reduceSub, Int.reduceAdd, Int.reduceLT, Int.reduceLE, Int.reduceGE, Int.reduceGT, Int.reduceDiv, Int.reduceMod, Int.reduceEq, Int.reducePow, Nat.reducePow, Nat.reduceDiv, Nat.reduceMod]
  (repeat (refine ⟨by (first | exact True.intro | omega | rfl | (simp; done) | (simp; omega)), ?_⟩)); try (refine hKr _ ?_; clear hKr Kr)
  refine T.ret (Fin.dataD rfl rfl rfl)

/-! Searching -/
theorem indexFunc_spec (l : List Pin) (hl : l.length < 2 ^ 31) (g : Nat) (cs : List AV) (q : Pin → Bool) (h : ∀ p ∈ l, Ideal.Spec Try.prog g [pinA p, .cp cs] (.bool (q p)) none) :
    ∃ n : Int, (0 ≤ n ↔ l.any q = true) ∧ Ideal.Spec Try.prog 40 [.sl false 3 (pinsOf l), .fn g [.cp cs]] (.int .i64 n) none := by
  refine ⟨match l.findIdx? q with | some i => i | none => -1, ?_, ?_⟩
  · cases hf : l.findIdx? q with
    | none =>
      rw [List.findIdx?_eq_none_iff] at hf
      simp only [Int.reduceNeg, Int.reduceLE, false_iff, Bool.not_eq_true, List.any_eq_false]
      intro x hx; simpa using hf x hx
    | some i =>
      rw [List.findIdx?_eq_some_iff_getElem] at hf
      obtain ⟨hi, h1, _⟩ := hf
      simp only [Int.natCast_nonneg, true_iff, List.any_eq_true]
      exact ⟨_, List.getElem_mem hi, h1⟩
  refine Ideal.Spec.of_TD (n := 19) (fn := Try.f40) rfl rfl rfl rfl rfl rfl rfl fun w ok => ?_
  refine T.sregD 19 [0, 1, 4, 5, 7, 8, 9, 16] fun Kr hKr => ?_
  simp only [go_sem, reduceCtorEq, Nat.reduceEqDiff, Nat.reduceBEq, Nat.reduceAdd, Nat.reduceMul, Nat.reduceLeDiff, Nat.reduceSub, Int.reduceToNat, Int.reduceNeg, Nat.reduceLT, Int.reduceMul, Int.reduceSub, Int.reduceAdd, Int.reduceLT, Int.reduceLE, Int.reduceGE, Int.reduceGT, Int.reduceDiv, Int.reduceMod, Int.reduceEq, Int.reducePow, Nat.reducePow, Nat.reduceDiv, Nat.reduceMod]
  (repeat (refine ⟨by (first | exact True.intro | omega | rfl | (simp; done) | (simp; omega)), ?_⟩)); try (refine hKr _ ?_; clear hKr Kr)
  refine T.seqK fun K116 hK116 => ?_
  refine T.sregD 19 [0, 1, 4, 5, 7, 8, 9, 16] fun Kr hKr => ?_
  simp only [go_sem, reduceCtorEq, Nat.reduceEqDiff, Nat.reduceBEq, Nat.reduceAdd, Nat.reduceMul, Nat.reduceLeDiff, Nat.reduceSub, Int.reduceToNat, Int.reduceNeg, Nat.reduceLT, Int.reduceMul, Int.reduceSub, Int.reduceAdd, Int.reduceLT, Int.reduceLE, Int.reduceGE, Int.reduceGT, Int.reduceDiv, Int.reduceMod, Int.reduceEq, Int.reducePow, Nat.reducePow, Nat.reduceDiv, Nat.reduceMod]
  (repeat (refine ⟨by (first | exact True.intro | omega | rfl | (simp; done) | (simp; omega)), ?_⟩)); try (refine hKr _ ?_; clear hKr Kr)
  refine T.bloop (fun i : Nat => ⟨dense 19 [(0, .sl false 3 (pinsOf l)), (1, .fn g [.cp cs]), (7, .int .i64 l.length), (8, .int .i64 i)], []⟩) (fun i => i ≤ l.length ∧ (l.take i).any q = false) (fun i => l.length - i) 0 (by simp) ?_ fun i hi => ?_
  · refine Le.fitS (by (repeat (first | exact DFit.nil | refine DFit.cons (by first | rfl | (simp [slook]; done) | (simp [slook]; omega)) ?_))) (by (repeat (first | exact True.intro | refine And.intro (by first | rfl | (simp [look]; done)) ?_)))
  obtain ⟨hi, hn⟩ := hi
  refine T.sregD 19 [0, 1, 4, 5, 7, 8, 9, 16] fun Kr hKr => ?_
  simp only [go_sem, reduceCtorEq, Nat.reduceEqDiff, Nat.reduceBEq, Nat.reduceAdd, Nat.reduceMul, Nat.reduceLeDiff, Nat.reduceSub, Int.reduceToNat, Int.reduceNeg, Nat.reduceLT, Int.reduceMul, Int.reduceSub, Int.reduceAdd, Int.reduceLT, Int.reduceLE, Int.reduceGE, Int.reduceGT, Int.reduceDiv, Int.reduceMod, Int.reduceEq, Int.reducePow, Nat.reducePow, Nat.reduceDiv, Nat.reduceMod]
  (repeat (refine ⟨by (first | exact True.intro | omega | rfl | (simp; done) | (simp; omega)), ?_⟩)); try (refine hKr _ ?_; clear hKr Kr)
  refine T.seqK fun K117 hK117 => ?_
  refine T.condFD rfl rfl (fun hb => ?_) (fun hb => ?_) <;> simp [-List.getD_eq_getElem?_getD] at hb
  · -- no: exit
    refine T.exit ?_
    simp only [if_true]
    refine hK116 _ ?_
    refine T.sregD 19 [0, 1, 4, 5, 7, 8, 9, 16] fun Kr hKr => ?_
    simp only [go_sem, reduceCtorEq, Nat.reduceEqDiff, Nat.reduceBEq, Nat.reduceAdd, Nat.reduceMul, Nat.reduceLeDiff, Nat.reduceSub, Int.reduceToNat, Int.reduceNeg, Nat.reduceLT, Int.reduceMul, Int.reduceSub, Int.reduceAdd, Int.reduceLT, Int.reduceLE, Int.reduceGE, Int.reduceGT, Int.reduceDiv, Int.reduceMod, Int.reduceEq, Int.reducePow, Nat.reducePow, Nat.reduceDiv, Nat.reduceMod]
    (repeat (refine ⟨by (first | exact True.intro | omega | rfl | (simp; done) | (simp; omega)), ?_⟩)); try (refine hKr _ ?_; clear hKr Kr)
    have : i = l.length := by omega
    subst this
    rw [List.take_length] at hn
    have hf : l.findIdx? q = none := by
      rw [List.findIdx?_eq_none_iff]; intro x hx
      simpa using List.any_eq_false.1 hn x hx
    refine T.ret (Fin.dataD (by simp only [slook, hf]; rfl) rfl rfl)
  refine T.skip ?_
  refine hK117 _ ?_
  refine T.seqK fun K118 hK118 => ?_
  refine T.block ?_
  refine T.sregD 19 [0, 1, 4, 5, 7, 8, 9, 16] fun Kr hKr => ?_
  simp only [go_sem, reduceCtorEq, Nat.reduceEqDiff, Nat.reduceBEq, Nat.reduceAdd, Nat.reduceMul, Nat.reduceLeDiff, Nat.reduceSub, Int.reduceToNat, Int.reduceNeg, Nat.reduceLT, Int.reduceMul, Int.reduceSub, Int.reduceAdd, Int.reduceLT, Int.reduceLE, Int.reduceGE, Int.reduceGT, Int.reduceDiv, Int.reduceMod, Int.reduceEq, Int.reducePow, Nat.reducePow, Nat.reduceDiv, Nat.reduceMod]
  (repeat (refine ⟨by (first | exact True.intro | omega | rfl | (simp; done) | (simp; omega)), ?_⟩)); try (refine hKr _ ?_; clear hKr Kr)
  have hm : l.getD i default ∈ l := by simp [List.getD, hb]
  refine T.sregD 19 [0, 1, 4, 5, 7, 8, 9, 16] fun Kr hKr => ?_
  simp only [go_sem, reduceCtorEq, Nat.reduceEqDiff, Nat.reduceBEq, Nat.reduceAdd, Nat.reduceMul, Nat.reduceLeDiff, Nat.reduceSub, Int.reduceToNat, Int.reduceNeg, Nat.reduceLT, Int.reduceMul, Int.reduceSub, Int.reduceAdd, Int.reduceLT, Int.reduceLE, Int.reduceGE, Int.reduceGT, Int.reduceDiv, Int.reduceMod, Int.reduceEq, Int.reducePow, Nat.reducePow, Nat.reduceDiv, Nat.reduceMod, hb]
  (repeat (refine ⟨by (first | exact True.intro | omega | rfl | (simp; done) | (simp; omega)), ?_⟩)); try (refine hKr _ ?_; clear hKr Kr)
  refine CallK.data (fun _ => Spec.args (h _ hm) (by (first | exact ArgsLe.refl | (repeat (first | exact True.intro | refine And.intro (by first | exact AvLe.refl | exact AvLe.loose | exact AvLe.nil | exact AvLe.nilT | (refine AvLe.agg ?_; exact ArgsLe.refl) | (refine AvLe.agg ?_; (repeat (first | exact True.intro | refine And.intro (by first | exact AvLe.refl | exact AvLe.loose | exact AvLe.nil | exact AvLe.nilT) ?_)))) ?_))))) rfl ?_
  simp only [go_sem, reduceCtorEq, Nat.reduceEqDiff, Nat.reduceBEq, Nat.reduceAdd, Nat.reduceMul, Nat.reduceLeDiff, Nat.reduceSub, Int.reduceToNat, Int.reduceNeg, Nat.reduceLT, Int.reduceMul, Int.reduceSub, Int.reduceAdd, Int.reduceLT, Int.reduceLE, Int.reduceGE, Int.reduceGT, Int.reduceDiv, Int.reduceMod, Int.reduceEq, Int.reducePow, Nat.reducePow, Nat.reduceDiv, Nat.reduceMod]
  (repeat (refine ⟨by (first | exact True.intro | omega | rfl | (simp; done) | (simp; omega)), ?_⟩)); try (refine hKr _ ?_; clear hKr Kr)
  refine T.condTD rfl rfl (fun hc => ?_) (fun hc => ?_) <;> try simp [-List.getD_eq_getElem?_getD] at hc
  · -- yes
    refine T.sregD 19 [0, 1, 4, 5, 7, 8, 9, 16] fun Kr hKr => ?_
    simp only [go_sem, reduceCtorEq, Nat.reduceEqDiff, Nat.reduceBEq, Nat.reduceAdd, Nat.reduceMul, Nat.reduceLeDiff, Nat.reduceSub, Int.reduceToNat, Int.reduceNeg, Nat.reduceLT, Int.reduceMul, Int.reduceSub, Int.reduceAdd, Int.reduceLT, Int.reduceLE, Int.reduceGE, Int.reduceGT, Int.reduceDiv, Int.reduceMod, Int.reduceEq, Int.reducePow, Nat.reducePow, Nat.reduceDiv, Nat.reduceMod]
    (repeat (refine ⟨by (first | exact True.intro | omega | rfl | (simp; done) | (simp; omega)), ?_⟩)); try (refine hKr _ ?_; clear hKr Kr)
    have hf : l.findIdx? q = some i := by
      rw [List.findIdx?_eq_some_iff_getElem]
      refine ⟨hb, by simpa [List.getD, hb] using hc, fun j hj => ?_⟩
      have hjl : j < l.length := by omega
      have := List.any_eq_false.1 hn l[j] (by
        rw [List.mem_take_iff_getElem]; exact ⟨j, by omega, rfl⟩)
      simpa using this
    refine T.ret (Fin.dataD (by simp only [slook, hf]; rfl) rfl rfl)
  refine T.skip ?_
  refine hK118 _ ?_
  refine T.regD 19 [0, 1, 4, 5, 7, 8, 9, 16] fun Kr hKr => ?_
  simp only [go_sem, reduceCtorEq, Nat.reduceEqDiff, Nat.reduceBEq, Nat.reduceAdd, Nat.reduceMul, Nat.reduceLeDiff, Nat.reduceSub, Int.reduceToNat, Int.reduceNeg, Nat.reduceLT, Int.reduceMul, Int.reduceSub, Int.reduceAdd, Int.reduceLT, Int.reduceLE, Int.reduceGE, Int.reduceGT, Int.reduceDiv, Int.reduceMod, Int.reduceEq, Int.reducePow, Nat.reducePow, Nat.reduceDiv, Nat.reduceMod]
  (repeat (refine ⟨by (first | exact True.intro | omega | rfl | (simp; done) | (simp; omega)), ?_⟩)); try (refine hKr _ ?_; clear hKr Kr)
  refine ⟨i + 1, ?_, ?_, Le.fitS (by (repeat (first | exact DFit.nil | refine DFit.cons (by first | rfl | (simp [slook]; done) | (simp [slook]; omega)) ?_))) ?_⟩
  · refine ⟨by omega, ?_⟩
    rw [take_succ_pin hb, List.any_append, hn]
    simp only [List.any_cons, List.any_nil, Bool.or_false, Bool.false_or]
    exact hc
  · omega
  · (repeat (first | exact True.intro | refine And.intro (by first | rfl | (simp [look]; done)) ?_))
theorem contains_spec (l : List Pin) (hl : l.length < 2 ^ 31) (g : Nat) (cs : List AV) (q : Pin → Bool) (h : ∀ p ∈ l, Ideal.Spec Try.prog g [pinA p, .cp cs] (.bool (q p)) none) :
    Ideal.Spec Try.prog 32 [.sl false 3 (pinsOf l), .fn g [.cp cs]] (.bool (l.any q)) none := by
  obtain ⟨n, hn, hs⟩ := indexFunc_spec l hl g cs q h
  refine Ideal.Spec.of_TD (n := 9) (fn := Try.f32) rfl rfl rfl rfl rfl rfl rfl fun w ok => ?_
  refine T.sregD 9 [0, 1, 4] fun Kr hKr => ?_
  simp only [go_sem, reduceCtorEq, Nat.reduceEqDiff, Nat.reduceBEq, Nat.reduceAdd, Nat.reduceMul, Nat.reduceLeDiff, Nat.reduceSub, Int.reduceToNat, Int.reduceNeg, Nat.reduceLT, Int.reduceMul, Int.reduceSub, Int.reduceAdd, Int.reduceLT, Int.reduceLE, Int.reduceGE, Int.reduceGT, Int.reduceDiv, Int.reduceMod, Int.reduceEq, Int.reducePow, Nat.reducePow, Nat.reduceDiv, Nat.reduceMod]
  (repeat (refine ⟨by (first | exact True.intro | omega | rfl | (simp; done) | (simp; omega)), ?_⟩)); try (refine hKr _ ?_; clear hKr Kr)
  refine T.sregD 9 [0, 1, 4] fun Kr hKr => ?_
  simp only [go_sem, reduceCtorEq, Nat.reduceEqDiff, Nat.reduceBEq, Nat.reduceAdd, Nat.reduceMul, Nat.reduceLeDiff, Nat.reduceSub, Int.reduceToNat, Int.reduceNeg, Nat.reduceLT, Int.reduceMul, Int.reduceSub, Int.reduceAdd, Int.reduceLT, Int.reduceLE, Int.reduceGE, Int.reduceGT, Int.reduceDiv, Int.reduceMod, Int.reduceEq, Int.reducePow, Nat.reducePow, Nat.reduceDiv, Nat.reduceMod]
  (repeat (refine ⟨by (first | exact True.intro | omega | rfl | (simp; done) | (simp; omega)), ?_⟩)); try (refine hKr _ ?_; clear hKr Kr)
  refine CallK.data (fun _ => Spec.args (hs) (by (first | exact ArgsLe.refl | (repeat (first | exact True.intro | refine And.intro (by first | exact AvLe.refl | exact AvLe.loose | exact AvLe.nil | exact AvLe.nilT | (refine AvLe.agg ?_; exact ArgsLe.refl) | (refine AvLe.agg ?_; (repeat (first | exact True.intro | refine And.intro (by first | exact AvLe.refl | exact AvLe.loose | exact AvLe.nil | exact AvLe.nilT) ?_)))) ?_))))) rfl ?_
  simp only [go_sem, reduceCtorEq, Nat.reduceEqDiff, Nat.reduceBEq, Nat.reduceAdd, Nat.reduceMul, Nat.reduceLeDiff, Nat.reduceSub, Int.reduceToNat, Int.reduceNeg, Nat.reduceLT, Int.reduceMul, Int.reduceSub, Int.reduceAdd, Int.reduceLT, Int.reduceLE, Int.reduceGE, Int.reduceGT, Int.reduceDiv, Int.reduceMod, Int.reduceEq, Int.reducePow, Nat.reducePow, Nat.reduceDiv, Nat.reduceMod]
  (repeat (refine ⟨by (first | exact True.intro | omega | rfl | (simp; done) | (simp; omega)), ?_⟩)); try (refine hKr _ ?_; clear hKr Kr)
  refine T.ret (Fin.dataD (congrArg AV.bool ?_) rfl rfl)
  cases hq : l.any q
  · rw [hq] at hn; simp at hn ⊢; omega
  · rw [hq] at hn; simp at hn ⊢; omega

theorem indexFunc1_spec (g g' : Nat) (cs cs' : List AV) (b : Bool) (h : Ideal.Spec Try.prog g' [.fn g [.cp cs], .cp cs'] (.bool b) none) :
    Ideal.Spec Try.prog 41 [.sl false 1 [.fn g [.cp cs]], .fn g' [.cp cs']] (.int .i64 (if b then 0 else -1)) none := by
  refine Ideal.Spec.of_TD (n := 19) (fn := Try.f41) rfl rfl rfl rfl rfl rfl rfl fun w ok => ?_
  refine T.sregD 19 [0, 1, 4, 5, 7, 8, 9, 16] fun Kr hKr => ?_
  simp only [go_sem, reduceCtorEq, Nat.reduceEqDiff, Nat.reduceBEq, Nat.reduceAdd, Nat.reduceMul, Nat.reduceLeDiff, Nat.reduceSub, Int.reduceToNat, Int.reduceNeg, Nat.reduceLT, Int.reduceMul, Int.reduceSub, Int.reduceAdd, Int.reduceLT, Int.reduceLE, Int.reduceGE, Int.reduceGT, Int.reduceDiv, Int.reduceMod, Int.reduceEq, Int.reducePow, Nat.reducePow, Nat.reduceDiv, Nat.reduceMod]
  (repeat (refine ⟨by (first | exact True.intro | omega | rfl | (simp; done) | (simp; omega)), ?_⟩)); try (refine hKr _ ?_; clear hKr Kr)
  refine T.seqK fun K116 hK116 => ?_
  refine T.sregD 19 [0, 1, 4, 5, 7, 8, 9, 16] fun Kr hKr => ?_
  simp only [go_sem, reduceCtorEq, Nat.reduceEqDiff, Nat.reduceBEq, Nat.reduceAdd, Nat.reduceMul, Nat.reduceLeDiff, Nat.reduceSub, Int.reduceToNat, Int.reduceNeg, Nat.reduceLT, Int.reduceMul, Int.reduceSub, Int.reduceAdd, Int.reduceLT, Int.reduceLE, Int.reduceGE, Int.reduceGT, Int.reduceDiv, Int.reduceMod, Int.reduceEq, Int.reducePow, Nat.reducePow, Nat.reduceDiv, Nat.reduceMod]
  (repeat (refine ⟨by (first | exact True.intro | omega | rfl | (simp; done) | (simp; omega)), ?_⟩)); try (refine hKr _ ?_; clear hKr Kr)
  refine T.bloop (fun i : Nat => ⟨dense 19 [(0, .sl false 1 [.fn g [.cp cs]]), (1, .fn g' [.cp cs']), (7, .int .i64 1), (8, .int .i64 i)], []⟩) (fun i => i ≤ 1 ∧ (i = 1 → b = false)) (fun i => 1 - i) 0 (by simp) ?_ fun i hi => ?_
  · refine Le.fitS (by (repeat (first | exact DFit.nil | refine DFit.cons (by first | rfl | (simp [slook]; done) | (simp [slook]; omega)) ?_))) (by (repeat (first | exact True.intro | refine And.intro (by first | rfl | (simp [look]; done)) ?_)))
  obtain ⟨hi, hn⟩ := hi
  refine T.sregD 19 [0, 1, 4, 5, 7, 8, 9, 16] fun Kr hKr => ?_
  simp only [go_sem, reduceCtorEq, Nat.reduceEqDiff, Nat.reduceBEq, Nat.reduceAdd, Nat.reduceMul, Nat.reduceLeDiff, Nat.reduceSub, Int.reduceToNat, Int.reduceNeg, Nat.reduceLT, Int.reduceMul, Int.reduceSub, Int.reduceAdd, Int.reduceLT, Int.reduceLE, Int.reduceGE, Int.reduceGT, Int.reduceDiv, Int.reduceMod, Int.reduceEq, Int.reducePow, Nat.reducePow, Nat.reduceDiv, Nat.reduceMod]
  (repeat (refine ⟨by (first | exact True.intro | omega | rfl | (simp; done) | (simp; omega)), ?_⟩)); try (refine hKr _ ?_; clear hKr Kr)
  refine T.seqK fun K117 hK117 => ?_
  refine T.condFD rfl rfl (fun hb => ?_) (fun hb => ?_) <;> simp at hb
  · -- no: exit
    refine T.exit ?_
    simp only [if_true]
    refine hK116 _ ?_
    refine T.sregD 19 [0, 1, 4, 5, 7, 8, 9, 16] fun Kr hKr => ?_
    simp only [go_sem, reduceCtorEq, Nat.reduceEqDiff, Nat.reduceBEq, Nat.reduceAdd, Nat.reduceMul, Nat.reduceLeDiff, Nat.reduceSub, Int.reduceToNat, Int.reduceNeg, Nat.reduceLT, Int.reduceMul, Int.reduceSub, Int.reduceAdd, Int.reduceLT, Int.reduceLE, Int.reduceGE, Int.reduceGT, Int.reduceDiv, Int.reduceMod, Int.reduceEq, Int.reducePow, Nat.reducePow, Nat.reduceDiv, Nat.reduceMod]
    (repeat (refine ⟨by (first | exact True.intro | omega | rfl | (simp; done) | (simp; omega)), ?_⟩)); try (refine hKr _ ?_; clear hKr Kr)
    have : i = 1 := by omega
    refine T.ret (Fin.dataD (by simp [slook, hn this]) rfl rfl)
  refine T.skip ?_
  refine hK117 _ ?_
  refine T.seqK fun K118 hK118 => ?_
  refine T.block ?_
  have h0 : i = 0 := by omega
  subst h0
  refine T.sregD 19 [0, 1, 4, 5, 7, 8, 9, 16] fun Kr hKr => ?_
  simp only [go_sem, reduceCtorEq, Nat.reduceEqDiff, Nat.reduceBEq, Nat.reduceAdd, Nat.reduceMul, Nat.reduceLeDiff, Nat.reduceSub, Int.reduceToNat, Int.reduceNeg, Nat.reduceLT, Int.reduceMul, Int.reduceSub, Int.reduceAdd, Int.reduceLT, Int.reduceLE, Int.reduceGE, Int.reduceGT, Int.reduceDiv, Int.reduceMod, Int.reduceEq, Int.reducePow, Nat.reducePow, Nat.reduceDiv, Nat.reduceMod]
  (repeat (refine ⟨by (first | exact True.intro | omega | rfl | (simp; done) | (simp; omega)), ?_⟩)); try (refine hKr _ ?_; clear hKr Kr)
  refine T.sregD 19 [0, 1, 4, 5, 7, 8, 9, 16] fun Kr hKr => ?_
  simp only [go_sem, reduceCtorEq, Nat.reduceEqDiff, Nat.reduceBEq, Nat.reduceAdd, Nat.reduceMul, Nat.reduceLeDiff, Nat.reduceSub, Int.reduceToNat, Int.reduceNeg, Nat.reduceLT, Int.reduceMul, Int.reduceSub, Int.reduceAdd, Int.reduceLT, Int.reduceLE, Int.reduceGE, Int.reduceGT, Int.reduceDiv, Int.reduceMod, Int.reduceEq, Int.reducePow, Nat.reducePow, Nat.reduceDiv, Nat.reduceMod]
  (repeat (refine ⟨by (first | exact True.intro | omega | rfl | (simp; done) | (simp; omega)), ?_⟩)); try (refine hKr _ ?_; clear hKr Kr)
  refine CallK.data (fun _ => Spec.args (h) (by (first | exact ArgsLe.refl | (repeat (first | exact True.intro | refine And.intro (by first | exact AvLe.refl | exact AvLe.loose | exact AvLe.nil | exact AvLe.nilT | (refine AvLe.agg ?_; exact ArgsLe.refl) | (refine AvLe.agg ?_; (repeat (first | exact True.intro | refine And.intro (by first | exact AvLe.refl | exact AvLe.loose | exact AvLe.nil | exact AvLe.nilT) ?_)))) ?_))))) rfl ?_
  simp only [go_sem, reduceCtorEq, Nat.reduceEqDiff, Nat.reduceBEq, Nat.reduceAdd, Nat.reduceMul, Nat.reduceLeDiff, Nat.reduceSub, Int.reduceToNat, Int.reduceNeg, Nat.reduceLT, Int.reduceMul, Int.reduceSub, Int.reduceAdd, Int.reduceLT, Int.reduceLE, Int.reduceGE, Int.reduceGT, Int.reduceDiv, Int.reduceMod, Int.reduceEq, Int.reducePow, Nat.reducePow, Nat.reduceDiv, Nat.reduceMod]
  (repeat (refine ⟨by (first | exact True.intro | omega | rfl | (simp; done) | (simp; omega)), ?_⟩)); try (refine hKr _ ?_; clear hKr Kr)
  refine T.condTD rfl rfl (fun hc => ?_) (fun hc => ?_) <;> try simp at hc
  · -- yes
    refine T.sregD 19 [0, 1, 4, 5, 7, 8, 9, 16] fun Kr hKr => ?_
    simp only [go_sem, reduceCtorEq, Nat.reduceEqDiff, Nat.reduceBEq, Nat.reduceAdd, Nat.reduceMul, Nat.reduceLeDiff, Nat.reduceSub, Int.reduceToNat, Int.reduceNeg, Nat.reduceLT, Int.reduceMul, Int.reduceSub, Int.reduceAdd, Int.reduceLT, Int.reduceLE, Int.reduceGE, Int.reduceGT, Int.reduceDiv, Int.reduceMod, Int.reduceEq, Int.reducePow, Nat.reducePow, Nat.reduceDiv, Nat.reduceMod]
    (repeat (refine ⟨by (first | exact True.intro | omega | rfl | (simp; done) | (simp; omega)), ?_⟩)); try (refine hKr _ ?_; clear hKr Kr)
    refine T.ret (Fin.dataD (by simp [slook, hc]) rfl rfl)
  refine T.skip ?_
  refine hK118 _ ?_
  refine T.regD 19 [0, 1, 4, 5, 7, 8, 9, 16] fun Kr hKr => ?_
  simp only [go_sem, reduceCtorEq, Nat.reduceEqDiff, Nat.reduceBEq, Nat.reduceAdd, Nat.reduceMul, Nat.reduceLeDiff, Nat.reduceSub, Int.reduceToNat, Int.reduceNeg, Nat.reduceLT, Int.reduceMul, Int.reduceSub, Int.reduceAdd, Int.reduceLT, Int.reduceLE, Int.reduceGE, Int.reduceGT, Int.reduceDiv, Int.reduceMod, Int.reduceEq, Int.reducePow, Nat.reducePow, Nat.reduceDiv, Nat.reduceMod]
  (repeat (refine ⟨by (first | exact True.intro | omega | rfl | (simp; done) | (simp; omega)), ?_⟩)); try (refine hKr _ ?_; clear hKr Kr)
  refine ⟨1, ?_, ?_, Le.fitS (by (repeat (first | exact DFit.nil | refine DFit.cons (by first | rfl | (simp [slook]; done) | (simp [slook]; omega)) ?_))) ?_⟩
  · simp [hc]
  · omega
  · (repeat (first | exact True.intro | refine And.intro (by first | rfl | (simp [look]; done)) ?_))
theorem contains1_spec (g g' : Nat) (cs cs' : List AV) (b : Bool) (h : Ideal.Spec Try.prog g' [.fn g [.cp cs], .cp cs'] (.bool b) none) :
    Ideal.Spec Try.prog 39 [.sl false 1 [.fn g [.cp cs]], .fn g' [.cp cs']] (.bool b) none := by
  refine Ideal.Spec.of_TD (n := 9) (fn := Try.f39) rfl rfl rfl rfl rfl rfl rfl fun w ok => ?_
  refine T.sregD 9 [0, 1, 4] fun Kr hKr => ?_
  simp only [go_sem, reduceCtorEq, Nat.reduceEqDiff, Nat.reduceBEq, Nat.reduceAdd, Nat.reduceMul, Nat.reduceLeDiff, Nat.reduceSub, Int.reduceToNat, Int.reduceNeg, Nat.reduceLT, Int.reduceMul, Int.reduceSub, Int.reduceAdd, Int.reduceLT, Int.reduceLE, Int.reduceGE, Int.reduceGT, Int.reduceDiv, Int.reduceMod, Int.reduceEq, Int.reducePow, Nat.reducePow, Nat.reduceDiv, Nat.reduceMod]
  (repeat (refine ⟨by (first | exact True.intro | omega | rfl | (simp; done) | (simp; omega)), ?_⟩)); try (refine hKr _ ?_; clear hKr Kr)
  refine T.sregD 9 [0, 1, 4] fun Kr hKr => ?_
  simp only [go_sem, reduceCtorEq, Nat.reduceEqDiff, Nat.reduceBEq, Nat.reduceAdd, Nat.reduceMul, Nat.reduceLeDiff, Nat.reduceSub, Int.reduceToNat, Int.reduceNeg, Nat.reduceLT, Int.reduceMul, Int.reduceSub, Int.reduceAdd, Int.reduceLT, Int.reduceLE, Int.reduceGE, Int.reduceGT, Int.reduceDiv, Int.reduceMod, Int.reduceEq, Int.reducePow, Nat.reducePow, Nat.reduceDiv, Nat.reduceMod]
  (repeat (refine ⟨by (first | exact True.intro | omega | rfl | (simp; done) | (simp; omega)), ?_⟩)); try (refine hKr _ ?_; clear hKr Kr)
  refine CallK.data (fun _ => Spec.args (indexFunc1_spec g g' cs cs' b h) (by (first | exact ArgsLe.refl | (repeat (first | exact True.intro | refine And.intro (by first | exact AvLe.refl | exact AvLe.loose | exact AvLe.nil | exact AvLe.nilT | (refine AvLe.agg ?_; exact ArgsLe.refl) | (refine AvLe.agg ?_; (repeat (first | exact True.intro | refine And.intro (by first | exact AvLe.refl | exact AvLe.loose | exact AvLe.nil | exact AvLe.nilT) ?_)))) ?_))))) rfl ?_
  simp only [go_sem, reduceCtorEq, Nat.reduceEqDiff, Nat.reduceBEq, Nat.reduceAdd, Nat.reduceMul, Nat.reduceLeDiff, Nat.reduceSub, Int.reduceToNat, Int.reduceNeg, Nat.reduceLT, Int.reduceMul, Int.reduceSub, Int.reduceAdd, Int.reduceLT, Int.reduceLE, Int.reduceGE, Int.reduceGT, Int.reduceDiv, Int.reduceMod, Int.reduceEq, Int.reducePow, Nat.reducePow, Nat.reduceDiv, Nat.reduceMod]
  (repeat (refine ⟨by (first | exact True.intro | omega | rfl | (simp; done) | (simp; omega)), ?_⟩)); try (refine hKr _ ?_; clear hKr Kr)
  refine T.ret (Fin.dataD (congrArg AV.bool ?_) rfl rfl)
  cases b <;> rfl

/-- Those for which a condition holds, in owned memory. -/
theorem choose_spec (l : List Pin) (hl : l.length < 2 ^ 31) (g : Nat) (cs : List AV) (q : Pin → Bool) (h : ∀ p ∈ l, Ideal.Spec Try.prog g [pinA p, .cp cs] (.bool (q p)) none) :
    Ideal.Spec Try.prog 29 [.sl false 3 (pinsOf l), .sl false 1 [.fn g [.cp cs]]] (.osl 0 0 (l.filter q).length) (some ⟨3, 33, false, pinsOf (l.filter q)⟩) := by
  refine Ideal.Spec.of_TD (n := 26) (fn := Try.f29) rfl rfl rfl rfl rfl rfl rfl fun w ok => ?_
  refine T.sregD 26 [0, 1, 4, 5, 7, 8, 9, 10, 11, 12, 19] fun Kr hKr => ?_
  simp only [go_sem, reduceCtorEq, Nat.reduceEqDiff, Nat.reduceBEq, Nat.reduceAdd, Nat.reduceMul, Nat.reduceLeDiff, Nat.reduceSub, Int.reduceToNat, Int.reduceNeg, Nat.reduceLT, Int.reduceMul, Int.reduceSub, Int.reduceAdd, Int.reduceLT, Int.reduceLE, Int.reduceGE, Int.reduceGT, Int.reduceDiv, Int.reduceMod, Int.reduceEq, Int.reducePow, Nat.reducePow, Nat.reduceDiv, Nat.reduceMod]
  (repeat (refine ⟨by (first | exact True.intro | omega | rfl | (simp; done) | (simp; omega)), ?_⟩)); try (refine hKr _ ?_; clear hKr Kr)
  refine T.sregD 26 [0, 1, 4, 5, 7, 8, 9, 10, 11, 12, 19] fun Kr hKr => ?_
  simp only [go_sem, reduceCtorEq, Nat.reduceEqDiff, Nat.reduceBEq, Nat.reduceAdd, Nat.reduceMul, Nat.reduceLeDiff, Nat.reduceSub, Int.reduceToNat, Int.reduceNeg, Nat.reduceLT, Int.reduceMul, Int.reduceSub, Int.reduceAdd, Int.reduceLT, Int.reduceLE, Int.reduceGE, Int.reduceGT, Int.reduceDiv, Int.reduceMod, Int.reduceEq, Int.reducePow, Nat.reducePow, Nat.reduceDiv, Nat.reduceMod]
  (repeat (refine ⟨by (first | exact True.intro | omega | rfl | (simp; done) | (simp; omega)), ?_⟩)); try (refine hKr _ ?_; clear hKr Kr)
  refine T.seqK fun K111 hK111 => ?_
  refine T.sregD 26 [0, 1, 4, 5, 7, 8, 9, 10, 11, 12, 19] fun Kr hKr => ?_
  simp only [go_sem, reduceCtorEq, Nat.reduceEqDiff, Nat.reduceBEq, Nat.reduceAdd, Nat.reduceMul, Nat.reduceLeDiff, Nat.reduceSub, Int.reduceToNat, Int.reduceNeg, Nat.reduceLT, Int.reduceMul, Int.reduceSub, Int.reduceAdd, Int.reduceLT, Int.reduceLE, Int.reduceGE, Int.reduceGT, Int.reduceDiv, Int.reduceMod, Int.reduceEq, Int.reducePow, Nat.reducePow, Nat.reduceDiv, Nat.reduceMod]
  (repeat (refine ⟨by (first | exact True.intro | omega | rfl | (simp; done) | (simp; omega)), ?_⟩)); try (refine hKr _ ?_; clear hKr Kr)
  refine T.bloop (fun i : Nat => ⟨dense 26 [(1, .sl false 1 [.fn g [.cp cs]]), (5, .osl 23 0 ((l.take i).filter q).length), (9, .sl false 3 (pinsOf l)), (10, .int .i64 l.length), (11, .int .i64 i)], [(23, ⟨3, 33, false, pinsOf ((l.take i).filter q)⟩)]⟩) (fun i => i ≤ l.length) (fun i => l.length - i) 0 (by simp) ?_ fun i hi => ?_
  · refine (Le.own 5 23 3 33).trans ?_
    simp only [go_sem, reduceCtorEq, Nat.reduceEqDiff, Nat.reduceBEq, Nat.reduceAdd, Nat.reduceMul, Nat.reduceLeDiff, Nat.reduceSub, Int.reduceToNat, Int.reduceNeg, Nat.reduceLT, Int.reduceMul, Int.reduceSub, Int.reduceAdd, Int.reduceLT, Int.reduceLE, Int.reduceGE, Int.reduceGT, Int.reduceDiv, Int.reduceMod, Int.reduceEq, Int.reducePow, Nat.reducePow, Nat.reduceDiv, Nat.reduceMod]
    refine Le.fitS (by (repeat (first | exact DFit.nil | refine DFit.cons (by first | rfl | (simp [slook]; done) | (simp [slook]; omega)) ?_))) (by (repeat (first | exact True.intro | refine And.intro (by first | rfl | (simp [look]; done)) ?_)))
  refine T.sregD 26 [0, 1, 4, 5, 7, 8, 9, 10, 11, 12, 19] fun Kr hKr => ?_
  simp only [go_sem, reduceCtorEq, Nat.reduceEqDiff, Nat.reduceBEq, Nat.reduceAdd, Nat.reduceMul, Nat.reduceLeDiff, Nat.reduceSub, Int.reduceToNat, Int.reduceNeg, Nat.reduceLT, Int.reduceMul, Int.reduceSub, Int.reduceAdd, Int.reduceLT, Int.reduceLE, Int.reduceGE, Int.reduceGT, Int.reduceDiv, Int.reduceMod, Int.reduceEq, Int.reducePow, Nat.reducePow, Nat.reduceDiv, Nat.reduceMod]
  (repeat (refine ⟨by (first | exact True.intro | omega | rfl | (simp; done) | (simp; omega)), ?_⟩)); try (refine hKr _ ?_; clear hKr Kr)
  refine T.seqK fun K112 hK112 => ?_
  refine T.condFD rfl rfl (fun hb => ?_) (fun hb => ?_) <;> simp [-List.getD_eq_getElem?_getD] at hb
  · -- no: exit
    refine T.exit ?_
    simp only [if_true]
    refine hK111 _ ?_
    have : i = l.length := by omega
    subst this
    rw [List.take_length]
    refine T.sregD 26 [0, 1, 4, 5, 7, 8, 9, 10, 11, 12, 19] fun Kr hKr => ?_
    simp only [go_sem, reduceCtorEq, Nat.reduceEqDiff, Nat.reduceBEq, Nat.reduceAdd, Nat.reduceMul, Nat.reduceLeDiff, Nat.reduceSub, Int.reduceToNat, Int.reduceNeg, Nat.reduceLT, Int.reduceMul, Int.reduceSub, Int.reduceAdd, Int.reduceLT, Int.reduceLE, Int.reduceGE, Int.reduceGT, Int.reduceDiv, Int.reduceMod, Int.reduceEq, Int.reducePow, Nat.reducePow, Nat.reduceDiv, Nat.reduceMod]
    (repeat (refine ⟨by (first | exact True.intro | omega | rfl | (simp; done) | (simp; omega)), ?_⟩)); try (refine hKr _ ?_; clear hKr Kr)
    refine T.ret (Fin.oslD rfl rfl rfl)
  refine T.skip ?_
  refine hK112 _ ?_
  refine T.seqK fun K113 hK113 => ?_
  refine T.block ?_
  have hm : l.getD i default ∈ l := by simp [List.getD, hb]
  have hfl : ((l.take i).filter q).length ≤ i := Nat.le_trans (List.length_filter_le _ _) (by simp; omega)
  refine T.sregD 26 [0, 1, 4, 5, 7, 8, 9, 10, 11, 12, 19] fun Kr hKr => ?_
  simp only [go_sem, reduceCtorEq, Nat.reduceEqDiff, Nat.reduceBEq, Nat.reduceAdd, Nat.reduceMul, Nat.reduceLeDiff, Nat.reduceSub, Int.reduceToNat, Int.reduceNeg, Nat.reduceLT, Int.reduceMul, Int.reduceSub, Int.reduceAdd, Int.reduceLT, Int.reduceLE, Int.reduceGE, Int.reduceGT, Int.reduceDiv, Int.reduceMod, Int.reduceEq, Int.reducePow, Nat.reducePow, Nat.reduceDiv, Nat.reduceMod, hb]
  (repeat (refine ⟨by (first | exact True.intro | omega | rfl | (simp; done) | (simp; omega)), ?_⟩)); try (refine hKr _ ?_; clear hKr Kr)
  refine T.sregD 26 [0, 1, 4, 5, 7, 8, 9, 10, 11, 12, 19] fun Kr hKr => ?_
  simp only [go_sem, reduceCtorEq, Nat.reduceEqDiff, Nat.reduceBEq, Nat.reduceAdd, Nat.reduceMul, Nat.reduceLeDiff, Nat.reduceSub, Int.reduceToNat, Int.reduceNeg, Nat.reduceLT, Int.reduceMul, Int.reduceSub, Int.reduceAdd, Int.reduceLT, Int.reduceLE, Int.reduceGE, Int.reduceGT, Int.reduceDiv, Int.reduceMod, Int.reduceEq, Int.reducePow, Nat.reducePow, Nat.reduceDiv, Nat.reduceMod]
  (repeat (refine ⟨by (first | exact True.intro | omega | rfl | (simp; done) | (simp; omega)), ?_⟩)); try (refine hKr _ ?_; clear hKr Kr)
  refine T.sregD 26 [0, 1, 4, 5, 7, 8, 9, 10, 11, 12, 19] fun Kr hKr => ?_
  simp only [go_sem, reduceCtorEq, Nat.reduceEqDiff, Nat.reduceBEq, Nat.reduceAdd, Nat.reduceMul, Nat.reduceLeDiff, Nat.reduceSub, Int.reduceToNat, Int.reduceNeg, Nat.reduceLT, Int.reduceMul, Int.reduceSub, Int.reduceAdd, Int.reduceLT, Int.reduceLE, Int.reduceGE, Int.reduceGT, Int.reduceDiv, Int.reduceMod, Int.reduceEq, Int.reducePow, Nat.reducePow, Nat.reduceDiv, Nat.reduceMod]
  (repeat (refine ⟨by (first | exact True.intro | omega | rfl | (simp; done) | (simp; omega)), ?_⟩)); try (refine hKr _ ?_; clear hKr Kr)
  refine CallK.data (fun _ => Spec.args (contains1_spec _ _ _ _ _ (broken_spec g cs _ _ (h _ hm))) (by (first | exact ArgsLe.refl | (repeat (first | exact True.intro | refine And.intro (by first | exact AvLe.refl | exact AvLe.loose | exact AvLe.nil | exact AvLe.nilT | (refine AvLe.agg ?_; exact ArgsLe.refl) | (refine AvLe.agg ?_; (repeat (first | exact True.intro | refine And.intro (by first | exact AvLe.refl | exact AvLe.loose | exact AvLe.nil | exact AvLe.nilT) ?_)))) ?_))))) rfl ?_
  simp only [go_sem, reduceCtorEq, Nat.reduceEqDiff, Nat.reduceBEq, Nat.reduceAdd, Nat.reduceMul, Nat.reduceLeDiff, Nat.reduceSub, Int.reduceToNat, Int.reduceNeg, Nat.reduceLT, Int.reduceMul, Int.reduceSub, Int.reduceAdd, Int.reduceLT, Int.reduceLE, Int.reduceGE, Int.reduceGT, Int.reduceDiv, Int.reduceMod, Int.reduceEq, Int.reducePow, Nat.reducePow, Nat.reduceDiv, Nat.reduceMod]
  (repeat (refine ⟨by (first | exact True.intro | omega | rfl | (simp; done) | (simp; omega)), ?_⟩)); try (refine hKr _ ?_; clear hKr Kr)
  refine T.condTD rfl rfl (fun hc => ?_) (fun hc => ?_) <;> try simp [-List.getD_eq_getElem?_getD] at hc
  · -- yes
    refine T.regD 26 [0, 1, 4, 5, 7, 8, 9, 10, 11, 12, 19] fun Kr hKr => ?_
    simp only [go_sem, reduceCtorEq, Nat.reduceEqDiff, Nat.reduceBEq, Nat.reduceAdd, Nat.reduceMul, Nat.reduceLeDiff, Nat.reduceSub, Int.reduceToNat, Int.reduceNeg, Nat.reduceLT, Int.reduceMul, Int.reduceSub, Int.reduceAdd, Int.reduceLT, Int.reduceLE, Int.reduceGE, Int.reduceGT, Int.reduceDiv, Int.reduceMod, Int.reduceEq, Int.reducePow, Nat.reducePow, Nat.reduceDiv, Nat.reduceMod]
    (repeat (refine ⟨by (first | exact True.intro | omega | rfl | (simp; done) | (simp; omega)), ?_⟩)); try (refine hKr _ ?_; clear hKr Kr)
    refine hK113 _ ?_
    refine T.regD 26 [0, 1, 4, 5, 7, 8, 9, 10, 11, 12, 19] fun Kr hKr => ?_
    simp only [go_sem, reduceCtorEq, Nat.reduceEqDiff, Nat.reduceBEq, Nat.reduceAdd, Nat.reduceMul, Nat.reduceLeDiff, Nat.reduceSub, Int.reduceToNat, Int.reduceNeg, Nat.reduceLT, Int.reduceMul, Int.reduceSub, Int.reduceAdd, Int.reduceLT, Int.reduceLE, Int.reduceGE, Int.reduceGT, Int.reduceDiv, Int.reduceMod, Int.reduceEq, Int.reducePow, Nat.reducePow, Nat.reduceDiv, Nat.reduceMod]
    (repeat (refine ⟨by (first | exact True.intro | omega | rfl | (simp; done) | (simp; omega)), ?_⟩)); try (refine hKr _ ?_; clear hKr Kr)
    have e : (l.take (i + 1)).filter q = (l.take i).filter q ++ [l.getD i default] := by rw [take_succ_pin hb, List.filter_append]; simp only [List.filter_cons, hc, if_true, List.filter_nil]
    refine ⟨i + 1, ?_, ?_, Le.fitS (by (repeat (first | exact DFit.nil | refine DFit.cons (by first | rfl | (simp [slook, e, List.length_append, List.length_singleton]; done) | (simp [slook, e, List.length_append, List.length_singleton]; omega)) ?_))) ?_⟩
    · omega
    · omega
    · simp only [e, pinsOf_app]; (repeat (first | exact True.intro | refine And.intro (by first | rfl | (simp [look]; done)) ?_))
  refine T.skip ?_
  refine hK113 _ ?_
  refine T.regD 26 [0, 1, 4, 5, 7, 8, 9, 10, 11, 12, 19] fun Kr hKr => ?_
  simp only [go_sem, reduceCtorEq, Nat.reduceEqDiff, Nat.reduceBEq, Nat.reduceAdd, Nat.reduceMul, Nat.reduceLeDiff, Nat.reduceSub, Int.reduceToNat, Int.reduceNeg, Nat.reduceLT, Int.reduceMul, Int.reduceSub, Int.reduceAdd, Int.reduceLT, Int.reduceLE, Int.reduceGE, Int.reduceGT, Int.reduceDiv, Int.reduceMod, Int.reduceEq, Int.reducePow, Nat.reducePow, Nat.reduceDiv, Nat.reduceMod]
  (repeat (refine ⟨by (first | exact True.intro | omega | rfl | (simp; done) | (simp; omega)), ?_⟩)); try (refine hKr _ ?_; clear hKr Kr)
  have e : (l.take (i + 1)).filter q = (l.take i).filter q := by rw [take_succ_pin hb, List.filter_append]; simp only [List.filter_cons, hc, List.filter_nil]; simp
  refine ⟨i + 1, ?_, ?_, Le.fitS (by (repeat (first | exact DFit.nil | refine DFit.cons (by first | rfl | (simp [slook, e]; done) | (simp [slook, e]; omega)) ?_))) ?_⟩
  · omega
  · omega
  · rw [e]; (repeat (first | exact True.intro | refine And.intro (by first | rfl | (simp [look]; done)) ?_))
end Go.Proofs
