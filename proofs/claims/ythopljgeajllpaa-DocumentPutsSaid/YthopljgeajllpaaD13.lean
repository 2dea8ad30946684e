/- Documents: the functions agree with the reference. -/
import Derived.Test.YthopljgeajllpaaD11
set_option linter.unusedVariables false
set_option linter.unusedSimpArgs false
namespace Go.Proofs
open Go Go.Ideal
set_option maxRecDepth 8000
set_option maxHeartbeats 4000000

theorem wordF_plain (l : List UInt8) : plainB (wordF l) = true := by
  unfold wordF
  split
  · decide
  · simp only [plainB, List.all_eq_true]
    intro x hx
    obtain ⟨b, _, rfl⟩ := List.mem_map.1 hx
    have := letter_nat b
    simp only [okB, Bool.not_eq_true', Bool.or_eq_false_iff, decide_eq_false_iff_not]
    omega
theorem edLen_le (x : Raw) (n : Nat) : edLen x n ≤ n - x.a.toNat % (n + 1) ∧ edLen x n < 8 := by
  unfold edLen
  have h1 := Nat.mod_lt x.n.toNat (show 0 < n - x.a.toNat % (n + 1) + 1 by omega)
  have h2 := Nat.mod_le (x.n.toNat % (n - x.a.toNat % (n + 1) + 1)) 8
  have h3 := Nat.mod_lt (x.n.toNat % (n - x.a.toNat % (n + 1) + 1)) (show 0 < 8 by omega)
  omega
theorem editF_poss (x : Raw) (n : Nat) : possB (editF x n) n = true := by
  have ham : x.a.toNat % (n + 1) ≤ n := by have := Nat.mod_lt x.a.toNat (show 0 < n + 1 by omega); omega
  obtain ⟨hL, _⟩ := edLen_le x n
  have hm4 : x.k.toNat % 4 < 4 := Nat.mod_lt _ (by decide)
  unfold editF
  generalize x.a.toNat % (n + 1) = A at *
  generalize edLen x n = L at *
  split
  · unfold possB
    rw [if_pos rfl]
    obtain ⟨h1, h2⟩ := wordF_len x.s
    simp only [Bool.and_eq_true, decide_eq_true_eq]
    exact ⟨⟨⟨⟨by omega, by omega⟩, by omega⟩, by omega⟩, wordF_plain _⟩
  · split
    · have hT := Nat.mod_lt x.t.toNat (show 0 < n - L + 1 by omega)
      generalize x.t.toNat % (n - L + 1) = TT at *
      unfold possB
      simp only [pieceB]
      rw [if_neg (by decide), if_neg (by decide), if_pos trivial]
      simp only [Bool.and_eq_true, decide_eq_true_eq]
      omega
    · rename_i h1 h2
      unfold possB
      simp only [pieceB]
      rw [if_neg (by omega), if_pos (by omega)]
      simp only [Bool.and_eq_true, decide_eq_true_eq]
      omega

theorem matches_law (l : List Raw) (e : Edit) (a b c : Int) (ha : -32768 ≤ a ∧ a < 32768) (hb : -32768 ≤ b ∧ b < 32768) (hc : -32768 ≤ c ∧ c < 32768) :
    Ideal.Spec Try.prog 8 [.sl false 5 (rawsOf l), editA e, .agg [.int .i16 a, .int .i16 b, .int .i16 c]] (.bool true) none := by
  have sm := Made14 l
  obtain ⟨hok, _⟩ := madeN_ok l (min l.length 14)
  have hmd : madeF l 14 = madeN l (min l.length 14) := rfl
  rw [← hmd] at hok
  generalize madeF l 14 = d at *
  have hlen := hok.len
  have hcnt := hok.cnt
  obtain ⟨ha1, ha2⟩ := ha
  obtain ⟨hb1, hb2⟩ := hb
  obtain ⟨hc1, hc2⟩ := hc
  refine Ideal.Spec.of_TD (n := 162) (fn := Try.f8) rfl rfl rfl rfl rfl rfl rfl fun w ok => ?_
  refine T.sregD 162 [0, 1, 2, 4, 5, 6, 7, 8, 9, 10, 11, 12, 13, 14, 15, 16, 17, 18, 19, 20, 21, 22, 23, 24, 25, 26, 33, 118, 130, 160] fun Kr hKr => ?_
  simp only [go_sem, reduceCtorEq, Nat.reduceEqDiff, Nat.reduceBEq, Nat.reduceAdd, Nat.reduceMul, Nat.reduceLeDiff, Nat.reduceSub, Int.reduceToNat, Int.reduceNeg, Nat.reduceLT, Int.reduceMul, Int.reduceSub, Int.reduceAdd, Int.reduceLT, Int.reduceLE, Int.reduceGE, Int.reduceGT, Int.reduceDiv, Int.reduceMod, Int.reduceEq, Int.reducePow, Nat.reducePow, Nat.reduceDiv, Nat.reduceMod]
  (repeat (refine ⟨by (first | exact True.intro | omega | rfl | (simp; done) | (simp; omega)), ?_⟩)); try (refine hKr _ ?_; clear hKr Kr)
  refine T.sregD 162 [0, 1, 2, 4, 5, 6, 7, 8, 9, 10, 11, 12, 13, 14, 15, 16, 17, 18, 19, 20, 21, 22, 23, 24, 25, 26, 33, 118, 130, 160] fun Kr hKr => ?_
  simp only [go_sem, reduceCtorEq, Nat.reduceEqDiff, Nat.reduceBEq, Nat.reduceAdd, Nat.reduceMul, Nat.reduceLeDiff, Nat.reduceSub, Int.reduceToNat, Int.reduceNeg, Nat.reduceLT, Int.reduceMul, Int.reduceSub, Int.reduceAdd, Int.reduceLT, Int.reduceLE, Int.reduceGE, Int.reduceGT, Int.reduceDiv, Int.reduceMod, Int.reduceEq, Int.reducePow, Nat.reducePow, Nat.reduceDiv, Nat.reduceMod]
  (repeat (refine ⟨by (first | exact True.intro | omega | rfl | (simp; done) | (simp; omega)), ?_⟩)); try (refine hKr _ ?_; clear hKr Kr)
  refine CallK.data (fun _ => Spec.args (sanity_spec) (by (first | exact ArgsLe.refl | (repeat (first | exact True.intro | refine And.intro (by first | exact AvLe.refl | exact AvLe.loose | exact AvLe.nil | exact AvLe.nilT | exact AvLe.slk | (refine AvLe.agg ?_; exact ArgsLe.refl) | (refine AvLe.agg ?_; (repeat (first | exact True.intro | refine And.intro (by first | exact AvLe.refl | exact AvLe.loose | exact AvLe.nil | exact AvLe.nilT | exact AvLe.slk) ?_)))) ?_))))) rfl ?_
  simp only [go_sem, reduceCtorEq, Nat.reduceEqDiff, Nat.reduceBEq, Nat.reduceAdd, Nat.reduceMul, Nat.reduceLeDiff, Nat.reduceSub, Int.reduceToNat, Int.reduceNeg, Nat.reduceLT, Int.reduceMul, Int.reduceSub, Int.reduceAdd, Int.reduceLT, Int.reduceLE, Int.reduceGE, Int.reduceGT, Int.reduceDiv, Int.reduceMod, Int.reduceEq, Int.reducePow, Nat.reducePow, Nat.reduceDiv, Nat.reduceMod]
  (repeat (refine ⟨by (first | exact True.intro | omega | rfl | (simp; done) | (simp; omega)), ?_⟩)); try (refine hKr _ ?_; clear hKr Kr)
  refine T.sregD 162 [0, 1, 2, 4, 5, 6, 7, 8, 9, 10, 11, 12, 13, 14, 15, 16, 17, 18, 19, 20, 21, 22, 23, 24, 25, 26, 33, 118, 130, 160] fun Kr hKr => ?_
  simp only [go_sem, reduceCtorEq, Nat.reduceEqDiff, Nat.reduceBEq, Nat.reduceAdd, Nat.reduceMul, Nat.reduceLeDiff, Nat.reduceSub, Int.reduceToNat, Int.reduceNeg, Nat.reduceLT, Int.reduceMul, Int.reduceSub, Int.reduceAdd, Int.reduceLT, Int.reduceLE, Int.reduceGE, Int.reduceGT, Int.reduceDiv, Int.reduceMod, Int.reduceEq, Int.reducePow, Nat.reducePow, Nat.reduceDiv, Nat.reduceMod]
  (repeat (refine ⟨by (first | exact True.intro | omega | rfl | (simp; done) | (simp; omega)), ?_⟩)); try (refine hKr _ ?_; clear hKr Kr)
  refine CallK.data (fun _ => Spec.args (sm) (by (first | exact ArgsLe.refl | (repeat (first | exact True.intro | refine And.intro (by first | exact AvLe.refl | exact AvLe.loose | exact AvLe.nil | exact AvLe.nilT | exact AvLe.slk | (refine AvLe.agg ?_; exact ArgsLe.refl) | (refine AvLe.agg ?_; (repeat (first | exact True.intro | refine And.intro (by first | exact AvLe.refl | exact AvLe.loose | exact AvLe.nil | exact AvLe.nilT | exact AvLe.slk) ?_)))) ?_))))) rfl ?_
  simp only [go_sem, reduceCtorEq, Nat.reduceEqDiff, Nat.reduceBEq, Nat.reduceAdd, Nat.reduceMul, Nat.reduceLeDiff, Nat.reduceSub, Int.reduceToNat, Int.reduceNeg, Nat.reduceLT, Int.reduceMul, Int.reduceSub, Int.reduceAdd, Int.reduceLT, Int.reduceLE, Int.reduceGE, Int.reduceGT, Int.reduceDiv, Int.reduceMod, Int.reduceEq, Int.reducePow, Nat.reducePow, Nat.reduceDiv, Nat.reduceMod]
  (repeat (refine ⟨by (first | exact True.intro | omega | rfl | (simp; done) | (simp; omega)), ?_⟩)); try (refine hKr _ ?_; clear hKr Kr)
  refine T.seqK fun K1 hK1 => ?_
  refine T.sregD 162 [0, 1, 2, 4, 5, 6, 7, 8, 9, 10, 11, 12, 13, 14, 15, 16, 17, 18, 19, 20, 21, 22, 23, 24, 25, 26, 33, 118, 130, 160] fun Kr hKr => ?_
  simp only [go_sem, reduceCtorEq, Nat.reduceEqDiff, Nat.reduceBEq, Nat.reduceAdd, Nat.reduceMul, Nat.reduceLeDiff, Nat.reduceSub, Int.reduceToNat, Int.reduceNeg, Nat.reduceLT, Int.reduceMul, Int.reduceSub, Int.reduceAdd, Int.reduceLT, Int.reduceLE, Int.reduceGE, Int.reduceGT, Int.reduceDiv, Int.reduceMod, Int.reduceEq, Int.reducePow, Nat.reducePow, Nat.reduceDiv, Nat.reduceMod]
  (repeat (refine ⟨by (first | exact True.intro | omega | rfl | (simp; done) | (simp; omega)), ?_⟩)); try (refine hKr _ ?_; clear hKr Kr)
  refine T.condTD rfl rfl (fun hx => ?_) (fun hx => ?_) <;> simp only [decide_eq_true_eq, decide_eq_false_iff_not] at hx
  · refine T.sregD 162 [0, 1, 2, 4, 5, 6, 7, 8, 9, 10, 11, 12, 13, 14, 15, 16, 17, 18, 19, 20, 21, 22, 23, 24, 25, 26, 33, 118, 130, 160] fun Kr hKr => ?_
    simp only [go_sem, reduceCtorEq, Nat.reduceEqDiff, Nat.reduceBEq, Nat.reduceAdd, Nat.reduceMul, Nat.reduceLeDiff, Nat.reduceSub, Int.reduceToNat, Int.reduceNeg, Nat.reduceLT, Int.reduceMul, Int.reduceSub, Int.reduceAdd, Int.reduceLT, Int.reduceLE, Int.reduceGE, Int.reduceGT, Int.reduceDiv, Int.reduceMod, Int.reduceEq, Int.reducePow, Nat.reducePow, Nat.reduceDiv, Nat.reduceMod]
    (repeat (refine ⟨by (first | exact True.intro | omega | rfl | (simp; done) | (simp; omega)), ?_⟩)); try (refine hKr _ ?_; clear hKr Kr)
    refine T.ret (Fin.dataD rfl rfl rfl)
  have hel : e.s.length ≤ 60 := by omega
  have s1 := Do_spec d e hok (by omega)
  have s2 := DoR_spec d e hok (by omega)
  have s3 := Put_spec d a b e.s hok (by omega)
  have s4 := PutR_spec d a b e.s hok (by omega)
  have s5 := Text_spec d c (by omega) (by omega)
  have s6 := TextR_spec d c hok
  have l1 : (doF d e).1.s.length ≤ 100000 ∧ (doF d e).1.m.length ≤ 100000 := by
    by_cases h0 : (doF d e).2 = 0
    · have := (doF_ok hok h0).1
      exact ⟨by have := this.len; omega, by have := this.cnt; omega⟩
    · rw [doF_no d e h0]; exact ⟨by decide, by decide⟩
  have l2 : (putF d a b e.s).1.s.length ≤ 100000 ∧ (putF d a b e.s).1.m.length ≤ 100000 := by
    by_cases h0 : (putF d a b e.s).2 = 0
    · have := (putF_ok hok h0).1
      exact ⟨by have := this.len; omega, by have := this.cnt; omega⟩
    · rw [putF_no d a b e.s h0]; exact ⟨by decide, by decide⟩
  have s7 := Same_spec (doF d e).1 (doF d e).1 l1.2 l1.2 l1.1 l1.1
  have s8 := Same_spec (putF d a b e.s).1 (putF d a b e.s).1 l2.2 l2.2 l2.1 l2.1
  rw [decide_eq_true rfl] at s7 s8
  generalize doF d e = rd at *
  generalize putF d a b e.s = rp at *
  generalize txtF d c = rt at *
  have sp := Possible_spec e d.s.length ⟨by omega, by omega⟩ (by omega)
  refine T.skip ?_
  refine hK1 _ ?_
  refine T.sregD 162 [0, 1, 2, 4, 5, 6, 7, 8, 9, 10, 11, 12, 13, 14, 15, 16, 17, 18, 19, 20, 21, 22, 23, 24, 25, 26, 33, 118, 130, 160] fun Kr hKr => ?_
  simp only [go_sem, reduceCtorEq, Nat.reduceEqDiff, Nat.reduceBEq, Nat.reduceAdd, Nat.reduceMul, Nat.reduceLeDiff, Nat.reduceSub, Int.reduceToNat, Int.reduceNeg, Nat.reduceLT, Int.reduceMul, Int.reduceSub, Int.reduceAdd, Int.reduceLT, Int.reduceLE, Int.reduceGE, Int.reduceGT, Int.reduceDiv, Int.reduceMod, Int.reduceEq, Int.reducePow, Nat.reducePow, Nat.reduceDiv, Nat.reduceMod]
  (repeat (refine ⟨by (first | exact True.intro | omega | rfl | (simp; done) | (simp; omega)), ?_⟩)); try (refine hKr _ ?_; clear hKr Kr)
  refine CallK.tup (fun _ => Spec.args (s1) (by (first | exact ArgsLe.refl | (repeat (first | exact True.intro | refine And.intro (by first | exact AvLe.refl | exact AvLe.loose | exact AvLe.nil | exact AvLe.nilT | exact AvLe.slk | (refine AvLe.agg ?_; exact ArgsLe.refl) | (refine AvLe.agg ?_; (repeat (first | exact True.intro | refine And.intro (by first | exact AvLe.refl | exact AvLe.loose | exact AvLe.nil | exact AvLe.nilT | exact AvLe.slk) ?_)))) ?_))))) ?_
  simp only [go_sem, reduceCtorEq, Nat.reduceEqDiff, Nat.reduceBEq, Nat.reduceAdd, Nat.reduceMul, Nat.reduceLeDiff, Nat.reduceSub, Int.reduceToNat, Int.reduceNeg, Nat.reduceLT, Int.reduceMul, Int.reduceSub, Int.reduceAdd, Int.reduceLT, Int.reduceLE, Int.reduceGE, Int.reduceGT, Int.reduceDiv, Int.reduceMod, Int.reduceEq, Int.reducePow, Nat.reducePow, Nat.reduceDiv, Nat.reduceMod]
  (repeat (refine ⟨by (first | exact True.intro | omega | rfl | (simp; done) | (simp; omega)), ?_⟩)); try (refine hKr _ ?_; clear hKr Kr)
  refine T.sregD 162 [0, 1, 2, 4, 5, 6, 7, 8, 9, 10, 11, 12, 13, 14, 15, 16, 17, 18, 19, 20, 21, 22, 23, 24, 25, 26, 33, 118, 130, 160] fun Kr hKr => ?_
  simp only [go_sem, reduceCtorEq, Nat.reduceEqDiff, Nat.reduceBEq, Nat.reduceAdd, Nat.reduceMul, Nat.reduceLeDiff, Nat.reduceSub, Int.reduceToNat, Int.reduceNeg, Nat.reduceLT, Int.reduceMul, Int.reduceSub, Int.reduceAdd, Int.reduceLT, Int.reduceLE, Int.reduceGE, Int.reduceGT, Int.reduceDiv, Int.reduceMod, Int.reduceEq, Int.reducePow, Nat.reducePow, Nat.reduceDiv, Nat.reduceMod]
  (repeat (refine ⟨by (first | exact True.intro | omega | rfl | (simp; done) | (simp; omega)), ?_⟩)); try (refine hKr _ ?_; clear hKr Kr)
  refine CallK.tup (fun _ => Spec.args (s2) (by (first | exact ArgsLe.refl | (repeat (first | exact True.intro | refine And.intro (by first | exact AvLe.refl | exact AvLe.loose | exact AvLe.nil | exact AvLe.nilT | exact AvLe.slk | (refine AvLe.agg ?_; exact ArgsLe.refl) | (refine AvLe.agg ?_; (repeat (first | exact True.intro | refine And.intro (by first | exact AvLe.refl | exact AvLe.loose | exact AvLe.nil | exact AvLe.nilT | exact AvLe.slk) ?_)))) ?_))))) ?_
  simp only [go_sem, reduceCtorEq, Nat.reduceEqDiff, Nat.reduceBEq, Nat.reduceAdd, Nat.reduceMul, Nat.reduceLeDiff, Nat.reduceSub, Int.reduceToNat, Int.reduceNeg, Nat.reduceLT, Int.reduceMul, Int.reduceSub, Int.reduceAdd, Int.reduceLT, Int.reduceLE, Int.reduceGE, Int.reduceGT, Int.reduceDiv, Int.reduceMod, Int.reduceEq, Int.reducePow, Nat.reducePow, Nat.reduceDiv, Nat.reduceMod]
  (repeat (refine ⟨by (first | exact True.intro | omega | rfl | (simp; done) | (simp; omega)), ?_⟩)); try (refine hKr _ ?_; clear hKr Kr)
  refine T.sregD 162 [0, 1, 2, 4, 5, 6, 7, 8, 9, 10, 11, 12, 13, 14, 15, 16, 17, 18, 19, 20, 21, 22, 23, 24, 25, 26, 33, 118, 130, 160] fun Kr hKr => ?_
  simp only [go_sem, reduceCtorEq, Nat.reduceEqDiff, Nat.reduceBEq, Nat.reduceAdd, Nat.reduceMul, Nat.reduceLeDiff, Nat.reduceSub, Int.reduceToNat, Int.reduceNeg, Nat.reduceLT, Int.reduceMul, Int.reduceSub, Int.reduceAdd, Int.reduceLT, Int.reduceLE, Int.reduceGE, Int.reduceGT, Int.reduceDiv, Int.reduceMod, Int.reduceEq, Int.reducePow, Nat.reducePow, Nat.reduceDiv, Nat.reduceMod]
  (repeat (refine ⟨by (first | exact True.intro | omega | rfl | (simp; done) | (simp; omega)), ?_⟩)); try (refine hKr _ ?_; clear hKr Kr)
  refine T.sregD 162 [0, 1, 2, 4, 5, 6, 7, 8, 9, 10, 11, 12, 13, 14, 15, 16, 17, 18, 19, 20, 21, 22, 23, 24, 25, 26, 33, 118, 130, 160] fun Kr hKr => ?_
  simp only [go_sem, reduceCtorEq, Nat.reduceEqDiff, Nat.reduceBEq, Nat.reduceAdd, Nat.reduceMul, Nat.reduceLeDiff, Nat.reduceSub, Int.reduceToNat, Int.reduceNeg, Nat.reduceLT, Int.reduceMul, Int.reduceSub, Int.reduceAdd, Int.reduceLT, Int.reduceLE, Int.reduceGE, Int.reduceGT, Int.reduceDiv, Int.reduceMod, Int.reduceEq, Int.reducePow, Nat.reducePow, Nat.reduceDiv, Nat.reduceMod]
  (repeat (refine ⟨by (first | exact True.intro | omega | rfl | (simp; done) | (simp; omega)), ?_⟩)); try (refine hKr _ ?_; clear hKr Kr)
  refine CallK.tup (fun _ => Spec.args (s3) (by (first | exact ArgsLe.refl | (repeat (first | exact True.intro | refine And.intro (by first | exact AvLe.refl | exact AvLe.loose | exact AvLe.nil | exact AvLe.nilT | exact AvLe.slk | (refine AvLe.agg ?_; exact ArgsLe.refl) | (refine AvLe.agg ?_; (repeat (first | exact True.intro | refine And.intro (by first | exact AvLe.refl | exact AvLe.loose | exact AvLe.nil | exact AvLe.nilT | exact AvLe.slk) ?_)))) ?_))))) ?_
  simp only [go_sem, reduceCtorEq, Nat.reduceEqDiff, Nat.reduceBEq, Nat.reduceAdd, Nat.reduceMul, Nat.reduceLeDiff, Nat.reduceSub, Int.reduceToNat, Int.reduceNeg, Nat.reduceLT, Int.reduceMul, Int.reduceSub, Int.reduceAdd, Int.reduceLT, Int.reduceLE, Int.reduceGE, Int.reduceGT, Int.reduceDiv, Int.reduceMod, Int.reduceEq, Int.reducePow, Nat.reducePow, Nat.reduceDiv, Nat.reduceMod]
  (repeat (refine ⟨by (first | exact True.intro | omega | rfl | (simp; done) | (simp; omega)), ?_⟩)); try (refine hKr _ ?_; clear hKr Kr)
  refine T.sregD 162 [0, 1, 2, 4, 5, 6, 7, 8, 9, 10, 11, 12, 13, 14, 15, 16, 17, 18, 19, 20, 21, 22, 23, 24, 25, 26, 33, 118, 130, 160] fun Kr hKr => ?_
  simp only [go_sem, reduceCtorEq, Nat.reduceEqDiff, Nat.reduceBEq, Nat.reduceAdd, Nat.reduceMul, Nat.reduceLeDiff, Nat.reduceSub, Int.reduceToNat, Int.reduceNeg, Nat.reduceLT, Int.reduceMul, Int.reduceSub, Int.reduceAdd, Int.reduceLT, Int.reduceLE, Int.reduceGE, Int.reduceGT, Int.reduceDiv, Int.reduceMod, Int.reduceEq, Int.reducePow, Nat.reducePow, Nat.reduceDiv, Nat.reduceMod]
  (repeat (refine ⟨by (first | exact True.intro | omega | rfl | (simp; done) | (simp; omega)), ?_⟩)); try (refine hKr _ ?_; clear hKr Kr)
  refine CallK.tup (fun _ => Spec.args (s4) (by (first | exact ArgsLe.refl | (repeat (first | exact True.intro | refine And.intro (by first | exact AvLe.refl | exact AvLe.loose | exact AvLe.nil | exact AvLe.nilT | exact AvLe.slk | (refine AvLe.agg ?_; exact ArgsLe.refl) | (refine AvLe.agg ?_; (repeat (first | exact True.intro | refine And.intro (by first | exact AvLe.refl | exact AvLe.loose | exact AvLe.nil | exact AvLe.nilT | exact AvLe.slk) ?_)))) ?_))))) ?_
  simp only [go_sem, reduceCtorEq, Nat.reduceEqDiff, Nat.reduceBEq, Nat.reduceAdd, Nat.reduceMul, Nat.reduceLeDiff, Nat.reduceSub, Int.reduceToNat, Int.reduceNeg, Nat.reduceLT, Int.reduceMul, Int.reduceSub, Int.reduceAdd, Int.reduceLT, Int.reduceLE, Int.reduceGE, Int.reduceGT, Int.reduceDiv, Int.reduceMod, Int.reduceEq, Int.reducePow, Nat.reducePow, Nat.reduceDiv, Nat.reduceMod]
  (repeat (refine ⟨by (first | exact True.intro | omega | rfl | (simp; done) | (simp; omega)), ?_⟩)); try (refine hKr _ ?_; clear hKr Kr)
  refine T.sregD 162 [0, 1, 2, 4, 5, 6, 7, 8, 9, 10, 11, 12, 13, 14, 15, 16, 17, 18, 19, 20, 21, 22, 23, 24, 25, 26, 33, 118, 130, 160] fun Kr hKr => ?_
  simp only [go_sem, reduceCtorEq, Nat.reduceEqDiff, Nat.reduceBEq, Nat.reduceAdd, Nat.reduceMul, Nat.reduceLeDiff, Nat.reduceSub, Int.reduceToNat, Int.reduceNeg, Nat.reduceLT, Int.reduceMul, Int.reduceSub, Int.reduceAdd, Int.reduceLT, Int.reduceLE, Int.reduceGE, Int.reduceGT, Int.reduceDiv, Int.reduceMod, Int.reduceEq, Int.reducePow, Nat.reducePow, Nat.reduceDiv, Nat.reduceMod]
  (repeat (refine ⟨by (first | exact True.intro | omega | rfl | (simp; done) | (simp; omega)), ?_⟩)); try (refine hKr _ ?_; clear hKr Kr)
  refine CallK.tup (fun _ => Spec.args (s5) (by (first | exact ArgsLe.refl | (repeat (first | exact True.intro | refine And.intro (by first | exact AvLe.refl | exact AvLe.loose | exact AvLe.nil | exact AvLe.nilT | exact AvLe.slk | (refine AvLe.agg ?_; exact ArgsLe.refl) | (refine AvLe.agg ?_; (repeat (first | exact True.intro | refine And.intro (by first | exact AvLe.refl | exact AvLe.loose | exact AvLe.nil | exact AvLe.nilT | exact AvLe.slk) ?_)))) ?_))))) ?_
  simp only [go_sem, reduceCtorEq, Nat.reduceEqDiff, Nat.reduceBEq, Nat.reduceAdd, Nat.reduceMul, Nat.reduceLeDiff, Nat.reduceSub, Int.reduceToNat, Int.reduceNeg, Nat.reduceLT, Int.reduceMul, Int.reduceSub, Int.reduceAdd, Int.reduceLT, Int.reduceLE, Int.reduceGE, Int.reduceGT, Int.reduceDiv, Int.reduceMod, Int.reduceEq, Int.reducePow, Nat.reducePow, Nat.reduceDiv, Nat.reduceMod]
  (repeat (refine ⟨by (first | exact True.intro | omega | rfl | (simp; done) | (simp; omega)), ?_⟩)); try (refine hKr _ ?_; clear hKr Kr)
  refine T.sregD 162 [0, 1, 2, 4, 5, 6, 7, 8, 9, 10, 11, 12, 13, 14, 15, 16, 17, 18, 19, 20, 21, 22, 23, 24, 25, 26, 33, 118, 130, 160] fun Kr hKr => ?_
  simp only [go_sem, reduceCtorEq, Nat.reduceEqDiff, Nat.reduceBEq, Nat.reduceAdd, Nat.reduceMul, Nat.reduceLeDiff, Nat.reduceSub, Int.reduceToNat, Int.reduceNeg, Nat.reduceLT, Int.reduceMul, Int.reduceSub, Int.reduceAdd, Int.reduceLT, Int.reduceLE, Int.reduceGE, Int.reduceGT, Int.reduceDiv, Int.reduceMod, Int.reduceEq, Int.reducePow, Nat.reducePow, Nat.reduceDiv, Nat.reduceMod]
  (repeat (refine ⟨by (first | exact True.intro | omega | rfl | (simp; done) | (simp; omega)), ?_⟩)); try (refine hKr _ ?_; clear hKr Kr)
  refine CallK.tup (fun _ => Spec.args (s6) (by (first | exact ArgsLe.refl | (repeat (first | exact True.intro | refine And.intro (by first | exact AvLe.refl | exact AvLe.loose | exact AvLe.nil | exact AvLe.nilT | exact AvLe.slk | (refine AvLe.agg ?_; exact ArgsLe.refl) | (refine AvLe.agg ?_; (repeat (first | exact True.intro | refine And.intro (by first | exact AvLe.refl | exact AvLe.loose | exact AvLe.nil | exact AvLe.nilT | exact AvLe.slk) ?_)))) ?_))))) ?_
  simp only [go_sem, reduceCtorEq, Nat.reduceEqDiff, Nat.reduceBEq, Nat.reduceAdd, Nat.reduceMul, Nat.reduceLeDiff, Nat.reduceSub, Int.reduceToNat, Int.reduceNeg, Nat.reduceLT, Int.reduceMul, Int.reduceSub, Int.reduceAdd, Int.reduceLT, Int.reduceLE, Int.reduceGE, Int.reduceGT, Int.reduceDiv, Int.reduceMod, Int.reduceEq, Int.reducePow, Nat.reducePow, Nat.reduceDiv, Nat.reduceMod]
  (repeat (refine ⟨by (first | exact True.intro | omega | rfl | (simp; done) | (simp; omega)), ?_⟩)); try (refine hKr _ ?_; clear hKr Kr)
  refine T.seqK fun K2 hK2 => ?_
  refine T.sregD 162 [0, 1, 2, 4, 5, 6, 7, 8, 9, 10, 11, 12, 13, 14, 15, 16, 17, 18, 19, 20, 21, 22, 23, 24, 25, 26, 33, 118, 130, 160] fun Kr hKr => ?_
  simp only [go_sem, reduceCtorEq, Nat.reduceEqDiff, Nat.reduceBEq, Nat.reduceAdd, Nat.reduceMul, Nat.reduceLeDiff, Nat.reduceSub, Int.reduceToNat, Int.reduceNeg, Nat.reduceLT, Int.reduceMul, Int.reduceSub, Int.reduceAdd, Int.reduceLT, Int.reduceLE, Int.reduceGE, Int.reduceGT, Int.reduceDiv, Int.reduceMod, Int.reduceEq, Int.reducePow, Nat.reducePow, Nat.reduceDiv, Nat.reduceMod]
  (repeat (refine ⟨by (first | exact True.intro | omega | rfl | (simp; done) | (simp; omega)), ?_⟩)); try (refine hKr _ ?_; clear hKr Kr)
  refine CallK.data (fun _ => Spec.args (s7) (by (first | exact ArgsLe.refl | (repeat (first | exact True.intro | refine And.intro (by first | exact AvLe.refl | exact AvLe.loose | exact AvLe.nil | exact AvLe.nilT | exact AvLe.slk | (refine AvLe.agg ?_; exact ArgsLe.refl) | (refine AvLe.agg ?_; (repeat (first | exact True.intro | refine And.intro (by first | exact AvLe.refl | exact AvLe.loose | exact AvLe.nil | exact AvLe.nilT | exact AvLe.slk) ?_)))) ?_))))) rfl ?_
  simp only [go_sem, reduceCtorEq, Nat.reduceEqDiff, Nat.reduceBEq, Nat.reduceAdd, Nat.reduceMul, Nat.reduceLeDiff, Nat.reduceSub, Int.reduceToNat, Int.reduceNeg, Nat.reduceLT, Int.reduceMul, Int.reduceSub, Int.reduceAdd, Int.reduceLT, Int.reduceLE, Int.reduceGE, Int.reduceGT, Int.reduceDiv, Int.reduceMod, Int.reduceEq, Int.reducePow, Nat.reducePow, Nat.reduceDiv, Nat.reduceMod]
  (repeat (refine ⟨by (first | exact True.intro | omega | rfl | (simp; done) | (simp; omega)), ?_⟩)); try (refine hKr _ ?_; clear hKr Kr)
  refine CallK.data (fun _ => Spec.args (s8) (by (first | exact ArgsLe.refl | (repeat (first | exact True.intro | refine And.intro (by first | exact AvLe.refl | exact AvLe.loose | exact AvLe.nil | exact AvLe.nilT | exact AvLe.slk | (refine AvLe.agg ?_; exact ArgsLe.refl) | (refine AvLe.agg ?_; (repeat (first | exact True.intro | refine And.intro (by first | exact AvLe.refl | exact AvLe.loose | exact AvLe.nil | exact AvLe.nilT | exact AvLe.slk) ?_)))) ?_))))) rfl ?_
  simp only [go_sem, reduceCtorEq, Nat.reduceEqDiff, Nat.reduceBEq, Nat.reduceAdd, Nat.reduceMul, Nat.reduceLeDiff, Nat.reduceSub, Int.reduceToNat, Int.reduceNeg, Nat.reduceLT, Int.reduceMul, Int.reduceSub, Int.reduceAdd, Int.reduceLT, Int.reduceLE, Int.reduceGE, Int.reduceGT, Int.reduceDiv, Int.reduceMod, Int.reduceEq, Int.reducePow, Nat.reducePow, Nat.reduceDiv, Nat.reduceMod, cond_or]
  (repeat (refine ⟨by (first | exact True.intro | omega | rfl | (simp; done) | (simp; omega)), ?_⟩)); try (refine hKr _ ?_; clear hKr Kr)
  refine T.condTD rfl rfl (fun hy => ?_) (fun hy => ?_) <;> try simp at hy
  refine T.skip ?_
  refine hK2 _ ?_
  refine T.seqK fun K3 hK3 => ?_
  refine T.sregD 162 [0, 1, 2, 4, 5, 6, 7, 8, 9, 10, 11, 12, 13, 14, 15, 16, 17, 18, 19, 20, 21, 22, 23, 24, 25, 26, 33, 118, 130, 160] fun Kr hKr => ?_
  simp only [go_sem, reduceCtorEq, Nat.reduceEqDiff, Nat.reduceBEq, Nat.reduceAdd, Nat.reduceMul, Nat.reduceLeDiff, Nat.reduceSub, Int.reduceToNat, Int.reduceNeg, Nat.reduceLT, Int.reduceMul, Int.reduceSub, Int.reduceAdd, Int.reduceLT, Int.reduceLE, Int.reduceGE, Int.reduceGT, Int.reduceDiv, Int.reduceMod, Int.reduceEq, Int.reducePow, Nat.reducePow, Nat.reduceDiv, Nat.reduceMod]
  (repeat (refine ⟨by (first | exact True.intro | omega | rfl | (simp; done) | (simp; omega)), ?_⟩)); try (refine hKr _ ?_; clear hKr Kr)
  refine T.bloop (fun i : Nat => ⟨dense 162 [(4, .op 4 0 0), (7, .bool true), (8, .op 8 0 0), (22, .int .i64 i)], [(8, ⟨2, 28, true, [docA d]⟩), (4, ⟨5, 39, true, [editA e]⟩)]⟩) (fun i => i ≤ d.m.length) (fun i => d.m.length - i) 0 (by simp) ?_ fun i hi => ?_
  · refine Le.fitS (by (repeat (first | exact DFit.nil | refine DFit.cons (by first | rfl | (simp [slook]; done) | (simp [slook]; omega)) ?_))) (by (repeat (first | exact True.intro | refine And.intro (by first | rfl | (simp [look]; done)) ?_)))
  refine T.seqK fun K4 hK4 => ?_
  by_cases hil : i < d.m.length
  rotate_left
  · have hil' : ((i : Int) < (d.m.length : Int)) = False := eq_false (by omega)
    refine T.sregD 162 [0, 1, 2, 4, 5, 6, 7, 8, 9, 10, 11, 12, 13, 14, 15, 16, 17, 18, 19, 20, 21, 22, 23, 24, 25, 26, 33, 118, 130, 160] fun Kr hKr => ?_
    simp only [go_sem, reduceCtorEq, Nat.reduceEqDiff, Nat.reduceBEq, Nat.reduceAdd, Nat.reduceMul, Nat.reduceLeDiff, Nat.reduceSub, Int.reduceToNat, Int.reduceNeg, Nat.reduceLT, Int.reduceMul, Int.reduceSub, Int.reduceAdd, Int.reduceLT, Int.reduceLE, Int.reduceGE, Int.reduceGT, Int.reduceDiv, Int.reduceMod, Int.reduceEq, Int.reducePow, Nat.reducePow, Nat.reduceDiv, Nat.reduceMod, hil']
    (repeat (refine ⟨by (first | exact True.intro | omega | rfl | (simp; done) | (simp; omega)), ?_⟩)); try (refine hKr _ ?_; clear hKr Kr)
    refine CallK.data (r := .bool true) (fun h => by cases h) rfl ?_
    simp only [go_sem, reduceCtorEq, Nat.reduceEqDiff, Nat.reduceBEq, Nat.reduceAdd, Nat.reduceMul, Nat.reduceLeDiff, Nat.reduceSub, Int.reduceToNat, Int.reduceNeg, Nat.reduceLT, Int.reduceMul, Int.reduceSub, Int.reduceAdd, Int.reduceLT, Int.reduceLE, Int.reduceGE, Int.reduceGT, Int.reduceDiv, Int.reduceMod, Int.reduceEq, Int.reducePow, Nat.reducePow, Nat.reduceDiv, Nat.reduceMod]
    (repeat (refine ⟨by (first | exact True.intro | omega | rfl | (simp; done) | (simp; omega)), ?_⟩)); try (refine hKr _ ?_; clear hKr Kr)
    refine T.condFD rfl rfl (fun hz => ?_) (fun hz => ?_) <;> try simp at hz
    refine T.exit ?_
    simp only [if_true]
    refine hK3 _ ?_
    refine T.sregD 162 [0, 1, 2, 4, 5, 6, 7, 8, 9, 10, 11, 12, 13, 14, 15, 16, 17, 18, 19, 20, 21, 22, 23, 24, 25, 26, 33, 118, 130, 160] fun Kr hKr => ?_
    simp only [go_sem, reduceCtorEq, Nat.reduceEqDiff, Nat.reduceBEq, Nat.reduceAdd, Nat.reduceMul, Nat.reduceLeDiff, Nat.reduceSub, Int.reduceToNat, Int.reduceNeg, Nat.reduceLT, Int.reduceMul, Int.reduceSub, Int.reduceAdd, Int.reduceLT, Int.reduceLE, Int.reduceGE, Int.reduceGT, Int.reduceDiv, Int.reduceMod, Int.reduceEq, Int.reducePow, Nat.reducePow, Nat.reduceDiv, Nat.reduceMod]
    (repeat (refine ⟨by (first | exact True.intro | omega | rfl | (simp; done) | (simp; omega)), ?_⟩)); try (refine hKr _ ?_; clear hKr Kr)
    refine T.ret (Fin.dataD rfl rfl rfl)
  have hil' : ((i : Int) < (d.m.length : Int)) = True := eq_true (by omega)
  refine T.sregD 162 [0, 1, 2, 4, 5, 6, 7, 8, 9, 10, 11, 12, 13, 14, 15, 16, 17, 18, 19, 20, 21, 22, 23, 24, 25, 26, 33, 118, 130, 160] fun Kr hKr => ?_
  simp only [go_sem, reduceCtorEq, Nat.reduceEqDiff, Nat.reduceBEq, Nat.reduceAdd, Nat.reduceMul, Nat.reduceLeDiff, Nat.reduceSub, Int.reduceToNat, Int.reduceNeg, Nat.reduceLT, Int.reduceMul, Int.reduceSub, Int.reduceAdd, Int.reduceLT, Int.reduceLE, Int.reduceGE, Int.reduceGT, Int.reduceDiv, Int.reduceMod, Int.reduceEq, Int.reducePow, Nat.reducePow, Nat.reduceDiv, Nat.reduceMod, hil']
  (repeat (refine ⟨by (first | exact True.intro | omega | rfl | (simp; done) | (simp; omega)), ?_⟩)); try (refine hKr _ ?_; clear hKr Kr)
  refine CallK.data (fun _ => Spec.args (sp) (by (first | exact ArgsLe.refl | (repeat (first | exact True.intro | refine And.intro (by first | exact AvLe.refl | exact AvLe.loose | exact AvLe.nil | exact AvLe.nilT | exact AvLe.slk | (refine AvLe.agg ?_; exact ArgsLe.refl) | (refine AvLe.agg ?_; (repeat (first | exact True.intro | refine And.intro (by first | exact AvLe.refl | exact AvLe.loose | exact AvLe.nil | exact AvLe.nilT | exact AvLe.slk) ?_)))) ?_))))) rfl ?_
  simp only [go_sem, reduceCtorEq, Nat.reduceEqDiff, Nat.reduceBEq, Nat.reduceAdd, Nat.reduceMul, Nat.reduceLeDiff, Nat.reduceSub, Int.reduceToNat, Int.reduceNeg, Nat.reduceLT, Int.reduceMul, Int.reduceSub, Int.reduceAdd, Int.reduceLT, Int.reduceLE, Int.reduceGE, Int.reduceGT, Int.reduceDiv, Int.reduceMod, Int.reduceEq, Int.reducePow, Nat.reducePow, Nat.reduceDiv, Nat.reduceMod]
  (repeat (refine ⟨by (first | exact True.intro | omega | rfl | (simp; done) | (simp; omega)), ?_⟩)); try (refine hKr _ ?_; clear hKr Kr)
  refine T.condFD rfl rfl (fun hz => ?_) (fun hz => ?_)
  · refine T.exit ?_
    simp only [if_true]
    refine hK3 _ ?_
    refine T.sregD 162 [0, 1, 2, 4, 5, 6, 7, 8, 9, 10, 11, 12, 13, 14, 15, 16, 17, 18, 19, 20, 21, 22, 23, 24, 25, 26, 33, 118, 130, 160] fun Kr hKr => ?_
    simp only [go_sem, reduceCtorEq, Nat.reduceEqDiff, Nat.reduceBEq, Nat.reduceAdd, Nat.reduceMul, Nat.reduceLeDiff, Nat.reduceSub, Int.reduceToNat, Int.reduceNeg, Nat.reduceLT, Int.reduceMul, Int.reduceSub, Int.reduceAdd, Int.reduceLT, Int.reduceLE, Int.reduceGE, Int.reduceGT, Int.reduceDiv, Int.reduceMod, Int.reduceEq, Int.reducePow, Nat.reducePow, Nat.reduceDiv, Nat.reduceMod]
    (repeat (refine ⟨by (first | exact True.intro | omega | rfl | (simp; done) | (simp; omega)), ?_⟩)); try (refine hKr _ ?_; clear hKr Kr)
    refine T.ret (Fin.dataD rfl rfl rfl)
  have hp : possB e d.s.length = true := hz
  have hm : d.m.getD i default ∈ d.m := by simp [List.getD, hil]
  have hW := SmW_of hlen hp (by omega : e.s.length ≤ 100000)
  have sc := Carry_spec e (d.m.getD i default) (hok.sm _ hm) hW
  have sr := CarryR_spec e (d.m.getD i default) (hok.sm _ hm) hW
  obtain ⟨q1, q2, q3, q4, q5, q6, q7⟩ := possB_smE hp
  obtain ⟨_, g1, g2, g3⟩ := hok.mks _ hm
  have hceq : carR e (d.m.getD i default) = carM e (d.m.getD i default) := by
    by_cases h : e.k = 1
    · simp only [carR, carM]; rw [if_pos h, if_pos h]
    · exact carR_eq ⟨q1, q2⟩ (q6 h).1 g2
  rw [hceq] at sr
  generalize carM e (d.m.getD i default) = r at *
  refine T.skip ?_
  refine hK4 _ ?_
  refine T.seqK fun K5 hK5 => ?_
  refine T.block ?_
  refine T.sdraw2D 162 [0, 1, 2, 4, 5, 6, 7, 8, 9, 10, 11, 12, 13, 14, 15, 16, 17, 18, 19, 20, 21, 22, 23, 24, 25, 26, 33, 118, 130, 160] (.take 0 (.take 1 (.take 2 (.take 3 (.take 4 (.take 5 (.two 6 (.take 7 (.take 8 (.take 9 (.one 10 (.one 11 (.take 12 .done)))))) 10 (.one 6 (.take 7 (.take 8 (.take 9 (.one 11 (.take 12 .done))))))))))))) [4, 8] rfl (by decide +kernel) (by decide +kernel) ?x1 ?h1 (fun Kr hKr => ?all1) ?rest1
  case all1 =>
    simp only [go_sem, reduceCtorEq, Nat.reduceEqDiff, Nat.reduceBEq, Nat.reduceAdd, Nat.reduceMul, Nat.reduceLeDiff, Nat.reduceSub, Int.reduceToNat, Int.reduceNeg, Nat.reduceLT, Int.reduceMul, Int.reduceSub, Int.reduceAdd, Int.reduceLT, Int.reduceLE, Int.reduceGE, Int.reduceGT, Int.reduceDiv, Int.reduceMod, Int.reduceEq, Int.reducePow, Nat.reducePow, Nat.reduceDiv, Nat.reduceMod, hil]
    (repeat (any_goals (first | exact hKr _ (.inl rfl) | exact hKr _ (.inr (by (repeat (first | exact True.intro | refine And.intro (by first | rfl | (simp [look]; done)) ?_)))) | (refine CallK.dataA (sc) ?_ rfl ?_; (focus ((first | exact ArgsLe.refl | (repeat (first | exact True.intro | refine And.intro (by first | exact AvLe.refl | exact AvLe.loose | exact AvLe.nil | exact AvLe.nilT | exact AvLe.slk | (refine AvLe.agg ?_; exact ArgsLe.refl) | (refine AvLe.agg ?_; (repeat (first | exact True.intro | refine And.intro (by first | exact AvLe.refl | exact AvLe.loose | exact AvLe.nil | exact AvLe.nilT | exact AvLe.slk) ?_)))) ?_))); done)); simp only [go_sem, reduceCtorEq, Nat.reduceEqDiff, Nat.reduceBEq, Nat.reduceAdd, Nat.reduceMul, Nat.reduceLeDiff, Nat.reduceSub, Int.reduceToNat, Int.reduceNeg, Nat.reduceLT, Int.reduceMul, Int.reduceSub, Int.reduceAdd, Int.reduceLT, Int.reduceLE, Int.reduceGE, Int.reduceGT, Int.reduceDiv, Int.reduceMod, Int.reduceEq, Int.reducePow, Nat.reducePow, Nat.reduceDiv, Nat.reduceMod, hil]) | (refine CallK.tupA (sc) ?_ ?_; (focus ((first | exact ArgsLe.refl | (repeat (first | exact True.intro | refine And.intro (by first | exact AvLe.refl | exact AvLe.loose | exact AvLe.nil | exact AvLe.nilT | exact AvLe.slk | (refine AvLe.agg ?_; exact ArgsLe.refl) | (refine AvLe.agg ?_; (repeat (first | exact True.intro | refine And.intro (by first | exact AvLe.refl | exact AvLe.loose | exact AvLe.nil | exact AvLe.nilT | exact AvLe.slk) ?_)))) ?_))); done)); simp only [go_sem, reduceCtorEq, Nat.reduceEqDiff, Nat.reduceBEq, Nat.reduceAdd, Nat.reduceMul, Nat.reduceLeDiff, Nat.reduceSub, Int.reduceToNat, Int.reduceNeg, Nat.reduceLT, Int.reduceMul, Int.reduceSub, Int.reduceAdd, Int.reduceLT, Int.reduceLE, Int.reduceGE, Int.reduceGT, Int.reduceDiv, Int.reduceMod, Int.reduceEq, Int.reducePow, Nat.reducePow, Nat.reduceDiv, Nat.reduceMod, hil]) | (refine And.intro ?_ ?_) | (first | exact True.intro | omega | rfl | (simp; done) | (simp; omega)))))
    all_goals (first | exact hKr _ (.inl rfl) | exact hKr _ (.inr (by (repeat (first | exact True.intro | refine And.intro (by first | rfl | (simp [look]; done)) ?_)))))
  case rest1 =>
  refine T.sdraw2D 162 [0, 1, 2, 4, 5, 6, 7, 8, 9, 10, 11, 12, 13, 14, 15, 16, 17, 18, 19, 20, 21, 22, 23, 24, 25, 26, 33, 118, 130, 160] (.take 0 (.take 1 (.take 2 (.take 3 (.take 4 (.take 5 (.two 6 (.take 7 (.take 8 (.take 9 (.one 10 (.one 11 (.take 12 .done)))))) 10 (.one 6 (.take 7 (.take 8 (.take 9 (.one 11 (.take 12 .done))))))))))))) [4, 8] rfl (by decide +kernel) (by decide +kernel) ?x2 ?h2 (fun Kr hKr => ?all2) ?rest2
  case all2 =>
    simp only [go_sem, reduceCtorEq, Nat.reduceEqDiff, Nat.reduceBEq, Nat.reduceAdd, Nat.reduceMul, Nat.reduceLeDiff, Nat.reduceSub, Int.reduceToNat, Int.reduceNeg, Nat.reduceLT, Int.reduceMul, Int.reduceSub, Int.reduceAdd, Int.reduceLT, Int.reduceLE, Int.reduceGE, Int.reduceGT, Int.reduceDiv, Int.reduceMod, Int.reduceEq, Int.reducePow, Nat.reducePow, Nat.reduceDiv, Nat.reduceMod, hil]
    (repeat (any_goals (first | exact hKr _ (.inl rfl) | exact hKr _ (.inr (by (repeat (first | exact True.intro | refine And.intro (by first | rfl | (simp [look]; done)) ?_)))) | (refine CallK.dataA (sr) ?_ rfl ?_; (focus ((first | exact ArgsLe.refl | (repeat (first | exact True.intro | refine And.intro (by first | exact AvLe.refl | exact AvLe.loose | exact AvLe.nil | exact AvLe.nilT | exact AvLe.slk | (refine AvLe.agg ?_; exact ArgsLe.refl) | (refine AvLe.agg ?_; (repeat (first | exact True.intro | refine And.intro (by first | exact AvLe.refl | exact AvLe.loose | exact AvLe.nil | exact AvLe.nilT | exact AvLe.slk) ?_)))) ?_))); done)); simp only [go_sem, reduceCtorEq, Nat.reduceEqDiff, Nat.reduceBEq, Nat.reduceAdd, Nat.reduceMul, Nat.reduceLeDiff, Nat.reduceSub, Int.reduceToNat, Int.reduceNeg, Nat.reduceLT, Int.reduceMul, Int.reduceSub, Int.reduceAdd, Int.reduceLT, Int.reduceLE, Int.reduceGE, Int.reduceGT, Int.reduceDiv, Int.reduceMod, Int.reduceEq, Int.reducePow, Nat.reducePow, Nat.reduceDiv, Nat.reduceMod, hil]) | (refine CallK.tupA (sr) ?_ ?_; (focus ((first | exact ArgsLe.refl | (repeat (first | exact True.intro | refine And.intro (by first | exact AvLe.refl | exact AvLe.loose | exact AvLe.nil | exact AvLe.nilT | exact AvLe.slk | (refine AvLe.agg ?_; exact ArgsLe.refl) | (refine AvLe.agg ?_; (repeat (first | exact True.intro | refine And.intro (by first | exact AvLe.refl | exact AvLe.loose | exact AvLe.nil | exact AvLe.nilT | exact AvLe.slk) ?_)))) ?_))); done)); simp only [go_sem, reduceCtorEq, Nat.reduceEqDiff, Nat.reduceBEq, Nat.reduceAdd, Nat.reduceMul, Nat.reduceLeDiff, Nat.reduceSub, Int.reduceToNat, Int.reduceNeg, Nat.reduceLT, Int.reduceMul, Int.reduceSub, Int.reduceAdd, Int.reduceLT, Int.reduceLE, Int.reduceGE, Int.reduceGT, Int.reduceDiv, Int.reduceMod, Int.reduceEq, Int.reducePow, Nat.reducePow, Nat.reduceDiv, Nat.reduceMod, hil]) | (refine And.intro ?_ ?_) | (first | exact True.intro | omega | rfl | (simp; done) | (simp; omega)))))
    all_goals (first | exact hKr _ (.inl rfl) | exact hKr _ (.inr (by (repeat (first | exact True.intro | refine And.intro (by first | rfl | (simp [look]; done)) ?_)))))
  case rest2 =>
  refine T.sregD 162 [0, 1, 2, 4, 5, 6, 7, 8, 9, 10, 11, 12, 13, 14, 15, 16, 17, 18, 19, 20, 21, 22, 23, 24, 25, 26, 33, 118, 130, 160] fun Kr hKr => ?_
  simp only [go_sem, reduceCtorEq, Nat.reduceEqDiff, Nat.reduceBEq, Nat.reduceAdd, Nat.reduceMul, Nat.reduceLeDiff, Nat.reduceSub, Int.reduceToNat, Int.reduceNeg, Nat.reduceLT, Int.reduceMul, Int.reduceSub, Int.reduceAdd, Int.reduceLT, Int.reduceLE, Int.reduceGE, Int.reduceGT, Int.reduceDiv, Int.reduceMod, Int.reduceEq, Int.reducePow, Nat.reducePow, Nat.reduceDiv, Nat.reduceMod, cond_or, beq_self_eq_true]
  (repeat (refine ⟨by (first | exact True.intro | omega | rfl | (simp; done) | (simp; omega)), ?_⟩)); try (refine hKr _ ?_; clear hKr Kr)
  refine T.condTD rfl rfl (fun hx => ?_) (fun hx => ?_) <;> try simp at hx
  refine T.skip ?_
  refine hK5 _ ?_
  refine T.regD 162 [0, 1, 2, 4, 5, 6, 7, 8, 9, 10, 11, 12, 13, 14, 15, 16, 17, 18, 19, 20, 21, 22, 23, 24, 25, 26, 33, 118, 130, 160] fun Kr hKr => ?_
  simp only [go_sem, reduceCtorEq, Nat.reduceEqDiff, Nat.reduceBEq, Nat.reduceAdd, Nat.reduceMul, Nat.reduceLeDiff, Nat.reduceSub, Int.reduceToNat, Int.reduceNeg, Nat.reduceLT, Int.reduceMul, Int.reduceSub, Int.reduceAdd, Int.reduceLT, Int.reduceLE, Int.reduceGE, Int.reduceGT, Int.reduceDiv, Int.reduceMod, Int.reduceEq, Int.reducePow, Nat.reducePow, Nat.reduceDiv, Nat.reduceMod]
  (repeat (refine ⟨by (first | exact True.intro | omega | rfl | (simp; done) | (simp; omega)), ?_⟩)); try (refine hKr _ ?_; clear hKr Kr)
  refine ⟨i + 1, ?_, ?_, Le.fitS (by (repeat (first | exact DFit.nil | refine DFit.cons (by first | rfl | (simp [slook]; done) | (simp [slook]; omega)) ?_))) ?_⟩
  · omega
  · omega
  · (repeat (first | exact True.intro | refine And.intro (by first | rfl | (simp [look]; done)) ?_))
end Go.Proofs
