/- Messages: each commit is in its document at most once. BIGSTEPS -/
import Derived.Test.YtomdfdppfhkbjaaMB
set_option linter.unusedVariables false
set_option linter.unusedSimpArgs false
namespace Go.Proofs
open Go Go.Ideal
set_option maxRecDepth 8000
set_option maxHeartbeats 4000000

/-- What the first n commits of the list have in a document. -/
def lenA (l : List Sent) (c : List Client) (a : Nat) (n : Nat) : Nat := sumL a (c.getD a default).has (coreL (l.take n))
theorem lenA_step {l : List Sent} {c : List Client} {a n : Nat} (h : n < l.length) : lenA l c a (n + 1) = lenA l c a n + (if (l.getD n default).app = (a : Int) ∧ (l.getD n default).id ∈ (c.getD a default).has then (l.getD n default).s.length else 0) := by
  unfold lenA
  rw [take_succ_d h, coreL_app, sumL_app]
  simp [coreL, sumL]
def len2 (l : List Sent) (c : List Client) (n : Nat) : List AV := [.int .i64 (lenA l c 0 n), .int .i64 (lenA l c 1 n)]
theorem core_uniq {i : Nat} {s : MSt} (h : MInv i s) {x : Sent} (hx : x ∈ s.l) {k : Cmt} (k1 : k ∈ coreL s.l) (k2 : k.id = x.id) : k = ⟨x.id, x.app, x.s⟩ := by
  have hxk : (⟨x.id, x.app, x.s⟩ : Cmt) ∈ coreL s.l := mem_core.2 ⟨x, hx, rfl⟩
  by_cases e : k = ⟨x.id, x.app, x.s⟩
  · exact e
  · obtain ⟨p, hp⟩ := List.getElem?_of_mem k1
    obtain ⟨q, hq⟩ := List.getElem?_of_mem hxk
    obtain ⟨hp1, hp2⟩ := List.getElem?_eq_some_iff.1 hp
    obtain ⟨hq1, hq2⟩ := List.getElem?_eq_some_iff.1 hq
    rcases Nat.lt_trichotomy p q with r | r | r
    · have := List.pairwise_iff_getElem.1 h.k.ids p q hp1 hq1 r
      rw [hp2, hq2] at this; exact absurd k2 this
    · subst r; rw [hp2] at hq2; exact absurd hq2 e
    · have := List.pairwise_iff_getElem.1 h.k.ids q p hq1 hp1 r
      rw [hp2, hq2] at this; exact absurd k2.symm this
theorem other_no {i : Nat} {s : MSt} (h : MInv i s) {x : Sent} (hx : x ∈ s.l) {a b : Nat} (ha : x.app = a) (hb : b < 2) (hab : a ≠ b) : x.id ∉ (s.c.getD b default).has := by
  intro g
  obtain ⟨k, k1, k2, k3, _⟩ := (h.cl b hb).src _ g
  rw [core_uniq h hx k1 k2] at k3
  simp only at k3
  omega
theorem getD_memD {l : List Mark} {k : Nat} (h : k < l.length) : l.getD k default ∈ l := by
  rw [List.getD_eq_getElem?_getD, List.getElem?_eq_getElem h]; exact List.getElem_mem _
theorem noteB_len {s : List UInt8} (h : noteB s = true) : s.length ≤ 40 := by
  unfold noteB at h
  simp only [Bool.and_eq_true, Bool.not_eq_true', Bool.or_eq_false_iff, decide_eq_false_iff_not] at h
  omega
theorem cntT_step {l : List Mark} {id : Int} {k : Nat} (h : k < l.length) : cntT (l.take (k + 1)) id = cntT (l.take k) id + (if (l.getD k default).id = id then 1 else 0) := by
  unfold cntT
  rw [take_succ_d h, List.filter_append, List.length_append]
  congr 1
  by_cases hc : (l.getD k default).id = id <;> simp only [List.filter_cons, List.filter_nil, hc, decide_true, decide_false, if_true, if_false, Bool.false_eq_true, List.length_cons, List.length_nil]
/-- The sum over the first k marks. -/
def accL (n0 : Nat) (l : List Mark) (id : Int) (n : Nat) : Nat → Nat
  | 0 => n0
  | k + 1 => accL n0 l id n k + (if (l.getD k default).id = id then n else 0)
theorem accL_eq {n0 : Nat} {l : List Mark} {id : Int} {n : Nat} : ∀ {k : Nat}, k ≤ l.length → accL n0 l id n k = n0 + cntT (l.take k) id * n
  | 0, _ => by simp [accL, cntT]
  | k + 1, h => by
    rw [accL, accL_eq (k := k) (by omega), cntT_step (by omega), Nat.add_mul, Nat.add_assoc]
    congr 2
    by_cases hc : (l.getD k default).id = id
    · rw [if_pos hc, if_pos hc, Nat.one_mul]
    · rw [if_neg hc, if_neg hc, Nat.zero_mul]
theorem accL_le {n0 : Nat} {l : List Mark} {id : Int} {n k : Nat} : ∀ {m : Nat}, k ≤ m → accL n0 l id n k ≤ accL n0 l id n m
  | 0, h => by have : k = 0 := by omega
               subst this; exact Nat.le_refl _
  | m + 1, h => by
    by_cases hk : k = m + 1
    · subst hk; exact Nat.le_refl _
    · have := accL_le (n0 := n0) (l := l) (id := id) (n := n) (k := k) (m := m) (by omega)
      rw [accL]; omega
theorem lenA_le {l : List Sent} {c : List Client} {a n : Nat} : lenA l c a n ≤ sumL a (c.getD a default).has (coreL l) := by
  unfold lenA
  conv => rhs; rw [← List.take_append_drop n l, coreL_app, sumL_app]
  omega
theorem mark_text {i : Nat} {s : MSt} (h : MInv i s) {x : Sent} (hx : x ∈ s.l) {a : Nat} (ha : a < 2) : ∀ m ∈ (s.c.getD a default).d.m, m.id = x.id → sub (s.c.getD a default).d.s m.f m.t = x.s := by
  intro m hm he
  obtain ⟨k, k1, k2, k3, m', hm', he', hs⟩ := (h.cl a ha).src _ ((h.cl a ha).mrk m hm)
  have hk := core_uniq h hx k1 (by rw [k2, he])
  have hmm : m' = m := by
    obtain ⟨p, hp⟩ := List.getElem?_of_mem hm'
    obtain ⟨q, hq⟩ := List.getElem?_of_mem hm
    obtain ⟨hp1, hp2⟩ := List.getElem?_eq_some_iff.1 hp
    obtain ⟨hq1, hq2⟩ := List.getElem?_eq_some_iff.1 hq
    rcases Nat.lt_trichotomy p q with r | r | r
    · have := List.pairwise_iff_getElem.1 (h.cl a ha).okd.srt p q hp1 hq1 r
      rw [hp2, hq2] at this; omega
    · subst r; rw [hp2] at hq2; exact hq2
    · have := List.pairwise_iff_getElem.1 (h.cl a ha).okd.srt q p hq1 hp1 r
      rw [hp2, hq2] at this; omega
  rw [← hmm, hs, hk]
theorem once_law (l : List MRaw) : Ideal.Spec Try.prog 3 [.sl false 4 (mrawsOf l)] (.bool true) none := by
  have s0 := sanityM_spec
  have sB := Begin_spec
  refine Ideal.Spec.of_TD (n := 179) (fn := Try.f3) rfl rfl rfl rfl rfl rfl rfl fun w ok => ?_
  refine T.sregD 179 [0, 2, 3, 4, 5, 6, 7, 8, 9, 10, 20, 32, 38, 78, 89, 107, 149] fun Kr hKr => ?_
  simp (maxSteps := 1000000) only [go_sem, reduceCtorEq, Nat.reduceEqDiff, Nat.reduceBEq, Nat.reduceAdd, Nat.reduceMul, Nat.reduceLeDiff, Nat.reduceSub, Int.reduceToNat, Int.reduceNeg, Nat.reduceLT, Int.reduceMul, Int.reduceSub, Int.reduceAdd, Int.reduceLT, Int.reduceLE, Int.reduceGE, Int.reduceGT, Int.reduceDiv, Int.reduceMod, Int.reduceEq, Int.reducePow, Nat.reducePow, Nat.reduceDiv, Nat.reduceMod]
  (repeat (refine ⟨by (first | exact True.intro | omega | rfl | (simp; done) | (simp; omega)), ?_⟩)); try (refine hKr _ ?_; clear hKr Kr)
  refine T.sregD 179 [0, 2, 3, 4, 5, 6, 7, 8, 9, 10, 20, 32, 38, 78, 89, 107, 149] fun Kr hKr => ?_
  simp (maxSteps := 1000000) only [go_sem, reduceCtorEq, Nat.reduceEqDiff, Nat.reduceBEq, Nat.reduceAdd, Nat.reduceMul, Nat.reduceLeDiff, Nat.reduceSub, Int.reduceToNat, Int.reduceNeg, Nat.reduceLT, Int.reduceMul, Int.reduceSub, Int.reduceAdd, Int.reduceLT, Int.reduceLE, Int.reduceGE, Int.reduceGT, Int.reduceDiv, Int.reduceMod, Int.reduceEq, Int.reducePow, Nat.reducePow, Nat.reduceDiv, Nat.reduceMod]
  (repeat (refine ⟨by (first | exact True.intro | omega | rfl | (simp; done) | (simp; omega)), ?_⟩)); try (refine hKr _ ?_; clear hKr Kr)
  refine CallK.data (fun _ => Spec.args (s0) (by (first | exact ArgsLe.refl | (repeat (first | exact True.intro | refine And.intro (by first | exact AvLe.refl | exact AvLe.loose | exact AvLe.nil | exact AvLe.nilT | exact AvLe.slk | (refine AvLe.agg ?_; exact ArgsLe.refl) | (refine AvLe.agg ?_; (repeat (first | exact True.intro | refine And.intro (by first | exact AvLe.refl | exact AvLe.loose | exact AvLe.nil | exact AvLe.nilT | exact AvLe.slk) ?_)))) ?_))))) rfl ?_
  simp (maxSteps := 1000000) only [go_sem, reduceCtorEq, Nat.reduceEqDiff, Nat.reduceBEq, Nat.reduceAdd, Nat.reduceMul, Nat.reduceLeDiff, Nat.reduceSub, Int.reduceToNat, Int.reduceNeg, Nat.reduceLT, Int.reduceMul, Int.reduceSub, Int.reduceAdd, Int.reduceLT, Int.reduceLE, Int.reduceGE, Int.reduceGT, Int.reduceDiv, Int.reduceMod, Int.reduceEq, Int.reducePow, Nat.reducePow, Nat.reduceDiv, Nat.reduceMod]
  (repeat (refine ⟨by (first | exact True.intro | omega | rfl | (simp; done) | (simp; omega)), ?_⟩)); try (refine hKr _ ?_; clear hKr Kr)
  refine T.sregD 179 [0, 2, 3, 4, 5, 6, 7, 8, 9, 10, 20, 32, 38, 78, 89, 107, 149] fun Kr hKr => ?_
  simp (maxSteps := 1000000) only [go_sem, reduceCtorEq, Nat.reduceEqDiff, Nat.reduceBEq, Nat.reduceAdd, Nat.reduceMul, Nat.reduceLeDiff, Nat.reduceSub, Int.reduceToNat, Int.reduceNeg, Nat.reduceLT, Int.reduceMul, Int.reduceSub, Int.reduceAdd, Int.reduceLT, Int.reduceLE, Int.reduceGE, Int.reduceGT, Int.reduceDiv, Int.reduceMod, Int.reduceEq, Int.reducePow, Nat.reducePow, Nat.reduceDiv, Nat.reduceMod]
  (repeat (refine ⟨by (first | exact True.intro | omega | rfl | (simp; done) | (simp; omega)), ?_⟩)); try (refine hKr _ ?_; clear hKr Kr)
  refine CallK.data (fun _ => Spec.args (sB) (by (first | exact ArgsLe.refl | (repeat (first | exact True.intro | refine And.intro (by first | exact AvLe.refl | exact AvLe.loose | exact AvLe.nil | exact AvLe.nilT | exact AvLe.slk | (refine AvLe.agg ?_; exact ArgsLe.refl) | (refine AvLe.agg ?_; (repeat (first | exact True.intro | refine And.intro (by first | exact AvLe.refl | exact AvLe.loose | exact AvLe.nil | exact AvLe.nilT | exact AvLe.slk) ?_)))) ?_))))) rfl ?_
  simp (maxSteps := 1000000) only [go_sem, reduceCtorEq, Nat.reduceEqDiff, Nat.reduceBEq, Nat.reduceAdd, Nat.reduceMul, Nat.reduceLeDiff, Nat.reduceSub, Int.reduceToNat, Int.reduceNeg, Nat.reduceLT, Int.reduceMul, Int.reduceSub, Int.reduceAdd, Int.reduceLT, Int.reduceLE, Int.reduceGE, Int.reduceGT, Int.reduceDiv, Int.reduceMod, Int.reduceEq, Int.reducePow, Nat.reducePow, Nat.reduceDiv, Nat.reduceMod]
  (repeat (refine ⟨by (first | exact True.intro | omega | rfl | (simp; done) | (simp; omega)), ?_⟩)); try (refine hKr _ ?_; clear hKr Kr)
  refine T.seqK fun K1 hK1 => ?_
  refine T.sregD 179 [0, 2, 3, 4, 5, 6, 7, 8, 9, 10, 20, 32, 38, 78, 89, 107, 149] fun Kr hKr => ?_
  simp (maxSteps := 1000000) only [go_sem, reduceCtorEq, Nat.reduceEqDiff, Nat.reduceBEq, Nat.reduceAdd, Nat.reduceMul, Nat.reduceLeDiff, Nat.reduceSub, Int.reduceToNat, Int.reduceNeg, Nat.reduceLT, Int.reduceMul, Int.reduceSub, Int.reduceAdd, Int.reduceLT, Int.reduceLE, Int.reduceGE, Int.reduceGT, Int.reduceDiv, Int.reduceMod, Int.reduceEq, Int.reducePow, Nat.reducePow, Nat.reduceDiv, Nat.reduceMod]
  (repeat (refine ⟨by (first | exact True.intro | omega | rfl | (simp; done) | (simp; omega)), ?_⟩)); try (refine hKr _ ?_; clear hKr Kr)
  refine T.bloop (fun i : Nat => ⟨dense 179 [(0, .sl false 4 (mrawsOf l)), (3, .bool true), (4, .op 4 0 0), (5, .int .i64 i)], [(4, ⟨3, 28, true, [mstA (runM l i)]⟩)]⟩)
    (fun i => i ≤ l.length ∧ i ≤ 16) (fun i => l.length - i) 0 ⟨by omega, by omega⟩ ?_ fun i hi => ?_
  · refine Le.fitS (by (repeat (first | exact DFit.nil | refine DFit.cons (by first | rfl | (simp [slook]; done) | (simp [slook]; omega)) ?_))) (by (repeat (first | exact True.intro | refine And.intro (by first | rfl | (simp [look]; done)) ?_)))
  obtain ⟨hi1, hi2⟩ := hi
  have hinv := runM_inv l i (by omega)
  refine T.seqK fun K2 hK2 => ?_
  refine T.sregD 179 [0, 2, 3, 4, 5, 6, 7, 8, 9, 10, 20, 32, 38, 78, 89, 107, 149] fun Kr hKr => ?_
  simp (maxSteps := 1000000) only [go_sem, reduceCtorEq, Nat.reduceEqDiff, Nat.reduceBEq, Nat.reduceAdd, Nat.reduceMul, Nat.reduceLeDiff, Nat.reduceSub, Int.reduceToNat, Int.reduceNeg, Nat.reduceLT, Int.reduceMul, Int.reduceSub, Int.reduceAdd, Int.reduceLT, Int.reduceLE, Int.reduceGE, Int.reduceGT, Int.reduceDiv, Int.reduceMod, Int.reduceEq, Int.reducePow, Nat.reducePow, Nat.reduceDiv, Nat.reduceMod, cond_and]
  (repeat (refine ⟨by (first | exact True.intro | omega | rfl | (simp; done) | (simp; omega)), ?_⟩)); try (refine hKr _ ?_; clear hKr Kr)
  refine T.condFD rfl rfl (fun hb => ?_) (fun hb => ?_) <;> simp only [Bool.and_eq_true, Bool.and_eq_false_iff, decide_eq_true_eq, decide_eq_false_iff_not] at hb
  · -- no: exit
    refine T.exit ?_
    simp only [if_true]
    refine hK1 _ ?_
    clear hb
    generalize runM l i = s at *
    have hok := hinv.okM (by omega)
    have hl := hok.l
    have hc := hok.c
    have hwl := hinv.wl
    refine T.sregD 179 [0, 2, 3, 4, 5, 6, 7, 8, 9, 10, 20, 32, 38, 78, 89, 107, 149] fun Kr hKr => ?_
    simp (maxSteps := 1000000) only [go_sem, reduceCtorEq, Nat.reduceEqDiff, Nat.reduceBEq, Nat.reduceAdd, Nat.reduceMul, Nat.reduceLeDiff, Nat.reduceSub, Int.reduceToNat, Int.reduceNeg, Nat.reduceLT, Int.reduceMul, Int.reduceSub, Int.reduceAdd, Int.reduceLT, Int.reduceLE, Int.reduceGE, Int.reduceGT, Int.reduceDiv, Int.reduceMod, Int.reduceEq, Int.reducePow, Nat.reducePow, Nat.reduceDiv, Nat.reduceMod]
    (repeat (refine ⟨by (first | exact True.intro | omega | rfl | (simp; done) | (simp; omega)), ?_⟩)); try (refine hKr _ ?_; clear hKr Kr)
    refine T.seqK fun K3 hK3 => ?_
    refine T.sregD 179 [0, 2, 3, 4, 5, 6, 7, 8, 9, 10, 20, 32, 38, 78, 89, 107, 149] fun Kr hKr => ?_
    simp (maxSteps := 1000000) only [go_sem, reduceCtorEq, Nat.reduceEqDiff, Nat.reduceBEq, Nat.reduceAdd, Nat.reduceMul, Nat.reduceLeDiff, Nat.reduceSub, Int.reduceToNat, Int.reduceNeg, Nat.reduceLT, Int.reduceMul, Int.reduceSub, Int.reduceAdd, Int.reduceLT, Int.reduceLE, Int.reduceGE, Int.reduceGT, Int.reduceDiv, Int.reduceMod, Int.reduceEq, Int.reducePow, Nat.reducePow, Nat.reduceDiv, Nat.reduceMod]
    (repeat (refine ⟨by (first | exact True.intro | omega | rfl | (simp; done) | (simp; omega)), ?_⟩)); try (refine hKr _ ?_; clear hKr Kr)
    refine T.bloop (fun j : Nat => ⟨dense 179 [(3, .bool true), (4, .op 4 0 0), (6, .op 6 0 0), (7, .int .i64 j)], [(6, ⟨2, 33, true, [.agg (len2 s.l s.c j)]⟩), (4, ⟨3, 28, true, [mstA s]⟩)]⟩) (fun j => j ≤ s.l.length) (fun j => s.l.length - j) 0 (by omega) ?_ fun j hj => ?_
    · refine Le.fitS (by (repeat (first | exact DFit.nil | refine DFit.cons (by first | rfl | (simp [slook]; done) | (simp [slook]; omega)) ?_))) (by (repeat (first | exact True.intro | refine And.intro (by first | rfl | (simp [look]; done)) ?_)))
    refine T.seqK fun K4 hK4 => ?_
    refine T.sregD 179 [0, 2, 3, 4, 5, 6, 7, 8, 9, 10, 20, 32, 38, 78, 89, 107, 149] fun Kr hKr => ?_
    simp (maxSteps := 1000000) only [go_sem, reduceCtorEq, Nat.reduceEqDiff, Nat.reduceBEq, Nat.reduceAdd, Nat.reduceMul, Nat.reduceLeDiff, Nat.reduceSub, Int.reduceToNat, Int.reduceNeg, Nat.reduceLT, Int.reduceMul, Int.reduceSub, Int.reduceAdd, Int.reduceLT, Int.reduceLE, Int.reduceGE, Int.reduceGT, Int.reduceDiv, Int.reduceMod, Int.reduceEq, Int.reducePow, Nat.reducePow, Nat.reduceDiv, Nat.reduceMod]
    (repeat (refine ⟨by (first | exact True.intro | omega | rfl | (simp; done) | (simp; omega)), ?_⟩)); try (refine hKr _ ?_; clear hKr Kr)
    refine T.condFD rfl rfl (fun hb => ?_) (fun hb => ?_) <;> simp at hb
    · -- no: exit
      refine T.exit ?_
      simp only [if_true]
      refine hK3 _ ?_
      have : j = s.l.length := by omega
      subst this
      have e0 : lenA s.l s.c 0 s.l.length = (s.c.getD 0 default).d.s.length := by unfold lenA; rw [List.take_length]; exact ((hinv.cl 0 (by omega)).len).symm
      have e1 : lenA s.l s.c 1 s.l.length = (s.c.getD 1 default).d.s.length := by unfold lenA; rw [List.take_length]; exact ((hinv.cl 1 (by omega)).len).symm
      have h0 : 0 < s.c.length := by omega
      have h1 : 1 < s.c.length := by omega
      have el : len2 s.l s.c s.l.length = [.int .i64 (s.c.getD 0 default).d.s.length, .int .i64 (s.c.getD 1 default).d.s.length] := by unfold len2; rw [e0, e1]
      rw [el]
      refine T.sdrawD 179 [0, 2, 3, 4, 5, 6, 7, 8, 9, 10, 20, 32, 38, 78, 89, 107, 149] (.take 0 (.take 1 (.take 2 (.take 3 (.take 4 (.take 5 (.take 6 (.take 7 (.take 8 (.take 9 (.take 10 (.take 11 (.take 12 (.take 13 (.take 14 (.take 15 (.take 16 (.take 17 (.take 18 (.take 19 (.take 20 .done))))))))))))))))))))) [4, 6] rfl (by decide +kernel) (by decide +kernel) fun Kr hKr => ?_
      simp (maxSteps := 1000000) only [go_sem, reduceCtorEq, Nat.reduceEqDiff, Nat.reduceBEq, Nat.reduceAdd, Nat.reduceMul, Nat.reduceLeDiff, Nat.reduceSub, Int.reduceToNat, Int.reduceNeg, Nat.reduceLT, Int.reduceMul, Int.reduceSub, Int.reduceAdd, Int.reduceLT, Int.reduceLE, Int.reduceGE, Int.reduceGT, Int.reduceDiv, Int.reduceMod, Int.reduceEq, Int.reducePow, Nat.reducePow, Nat.reduceDiv, Nat.reduceMod, hc]
      (repeat (refine ⟨by (first | exact True.intro | omega | rfl | (simp; done) | (simp; omega)), ?_⟩)); try (refine hKr _ ?_; clear hKr Kr)
      refine T.ret (Fin.dataD rfl rfl rfl)
    have hm : s.l.getD j default ∈ s.l := by simp [List.getD, hb]
    have hel := hinv.k.el _ (mem_core.2 ⟨_, hm, rfl⟩)
    simp only at hel
    have ls0 := lenA_step (c := s.c) (a := 0) hb
    have ls1 := lenA_step (c := s.c) (a := 1) hb
    refine T.skip ?_
    refine hK4 _ ?_
    refine T.seqK fun K5 hK5 => ?_
    refine T.block ?_
    refine T.sregD 179 [0, 2, 3, 4, 5, 6, 7, 8, 9, 10, 20, 32, 38, 78, 89, 107, 149] fun Kr hKr => ?_
    simp (maxSteps := 1000000) only [go_sem, reduceCtorEq, Nat.reduceEqDiff, Nat.reduceBEq, Nat.reduceAdd, Nat.reduceMul, Nat.reduceLeDiff, Nat.reduceSub, Int.reduceToNat, Int.reduceNeg, Nat.reduceLT, Int.reduceMul, Int.reduceSub, Int.reduceAdd, Int.reduceLT, Int.reduceLE, Int.reduceGE, Int.reduceGT, Int.reduceDiv, Int.reduceMod, Int.reduceEq, Int.reducePow, Nat.reducePow, Nat.reduceDiv, Nat.reduceMod, hb]
    (repeat (refine ⟨by (first | exact True.intro | omega | rfl | (simp; done) | (simp; omega)), ?_⟩)); try (refine hKr _ ?_; clear hKr Kr)
    generalize s.l.getD j default = x at *
    rcases hel.2.2.1 with hxa | hxa
    · have hcl := hinv.cl 0 (by omega)
      have hcnt := hcl.cnt x.id
      have hno := other_no hinv hm (a := 0) (b := 1) (by rw [hxa]; rfl) (by omega) (by omega)
      have hco := ((hinv.cl 1 (by omega)).cnt x.id).2 hno
      have hmd := mark_text hinv hm (a := 0) (by omega)
      have hw1 : (s.c.getD 0 default).d.m.length ≤ 100 := hcl.okd.cnt
      have hw2 : (s.c.getD 1 default).d.m.length ≤ 100 := (hinv.cl 1 (by omega)).okd.cnt
      have hws := hcl.okd.len
      have sM := marks_spec (s.c.getD 0 default) x.id (by omega)
      have sO := marks_spec (s.c.getD 1 default) x.id (by omega)
      rw [hco] at sO
      have hxl : x.s.length ≤ 400 := by
        have := noteB_len hel.2.2.2
        omega
      have hls : lenA s.l s.c 0 (j + 1) = accL (lenA s.l s.c 0 j) (s.c.getD 0 default).d.m x.id x.s.length (s.c.getD 0 default).d.m.length := by
        rw [accL_eq (Nat.le_refl _), List.take_length, ls0]
        have hMe : cntT (s.c.getD 0 default).d.m x.id = cntM (s.c.getD 0 default).d x.id := rfl
        rw [hMe]
        by_cases q : x.id ∈ (s.c.getD 0 default).has
        · rw [if_pos ⟨by rw [hxa]; rfl, q⟩, hcnt.1 q, Nat.one_mul]
        · rw [if_neg (fun g => q g.2), hcnt.2 q, Nat.zero_mul]
      have hlo : lenA s.l s.c 1 (j + 1) = lenA s.l s.c 1 j := by
        rw [ls1, if_neg (fun g => absurd (hxa.symm.trans g.1) (by decide))]
        rfl
      have hM : cntM (s.c.getD 0 default).d x.id ≤ 1 := by
        by_cases q : x.id ∈ (s.c.getD 0 default).has
        · rw [hcnt.1 q]; omega
        · rw [hcnt.2 q]; omega
      have hnn : lenA s.l s.c 0 (j + 1) ≤ 400 := by
        have := lenA_le (l := s.l) (c := s.c) (a := 0) (n := j + 1)
        have := hcl.len
        omega
      rw [hls] at hnn
      clear hcnt hno hco ls0 ls1
      generalize cntM (s.c.getD 0 default).d x.id = M at *
      have hn0 : len2 s.l s.c j = [.int .i64 (lenA s.l s.c 0 j), .int .i64 (lenA s.l s.c 1 j)] := rfl
      have hn1 : len2 s.l s.c (j + 1) = [.int .i64 (lenA s.l s.c 0 (j + 1)), .int .i64 (lenA s.l s.c 1 (j + 1))] := rfl
      rw [hls, hlo] at hn1
      rw [hn0]
      clear hls hlo hn0
      generalize lenA s.l s.c 0 j = n0 at *
      generalize lenA s.l s.c 1 j = n1 at *
      refine T.seqK fun K6 hK6 => ?_
      have hM1 : ((M : Int) > 1) = False := eq_false (by omega)
      refine T.sdrawD 179 [0, 2, 3, 4, 5, 6, 7, 8, 9, 10, 20, 32, 38, 78, 89, 107, 149] (.take 0 (.take 1 (.take 2 (.take 3 (.take 4 (.take 5 (.take 6 (.take 7 (.take 8 (.take 9 (.take 10 (.take 11 (.take 12 (.take 13 (.take 14 (.take 15 (.take 16 (.one 17 (.take 18 (.take 19 (.take 20 (.take 21 (.take 22 (.take 23 (.take 24 (.take 25 (.take 26 (.take 27 (.take 28 (.take 29 (.one 30 (.take 31 (.take 32 .done))))))))))))))))))))))))))))))))) [4, 8] rfl (by decide +kernel) (by decide +kernel) fun Kr hKr => ?_
      simp (maxSteps := 1000000) only [go_sem, reduceCtorEq, Nat.reduceEqDiff, Nat.reduceBEq, Nat.reduceAdd, Nat.reduceMul, Nat.reduceLeDiff, Nat.reduceSub, Int.reduceToNat, Int.reduceNeg, Nat.reduceLT, Int.reduceMul, Int.reduceSub, Int.reduceAdd, Int.reduceLT, Int.reduceLE, Int.reduceGE, Int.reduceGT, Int.reduceDiv, Int.reduceMod, Int.reduceEq, Int.reducePow, Nat.reducePow, Nat.reduceDiv, Nat.reduceMod, hxa, hc]
      (repeat (refine ⟨by (first | exact True.intro | omega | rfl | (simp; done) | (simp; omega)), ?_⟩)); try (refine hKr _ ?_; clear hKr Kr)
      refine CallK.data (fun _ => Spec.args (sM) (by (first | exact ArgsLe.refl | (repeat (first | exact True.intro | refine And.intro (by first | exact AvLe.refl | exact AvLe.loose | exact AvLe.nil | exact AvLe.nilT | exact AvLe.slk | (refine AvLe.agg ?_; exact ArgsLe.refl) | (refine AvLe.agg ?_; (repeat (first | exact True.intro | refine And.intro (by first | exact AvLe.refl | exact AvLe.loose | exact AvLe.nil | exact AvLe.nilT | exact AvLe.slk) ?_)))) ?_))))) rfl ?_
      simp (maxSteps := 1000000) only [go_sem, reduceCtorEq, Nat.reduceEqDiff, Nat.reduceBEq, Nat.reduceAdd, Nat.reduceMul, Nat.reduceLeDiff, Nat.reduceSub, Int.reduceToNat, Int.reduceNeg, Nat.reduceLT, Int.reduceMul, Int.reduceSub, Int.reduceAdd, Int.reduceLT, Int.reduceLE, Int.reduceGE, Int.reduceGT, Int.reduceDiv, Int.reduceMod, Int.reduceEq, Int.reducePow, Nat.reducePow, Nat.reduceDiv, Nat.reduceMod, hxa, hc, hM1]
      (repeat (refine ⟨by (first | exact True.intro | omega | rfl | (simp; done) | (simp; omega)), ?_⟩)); try (refine hKr _ ?_; clear hKr Kr)
      refine CallK.data (fun _ => Spec.args (sO) (by (first | exact ArgsLe.refl | (repeat (first | exact True.intro | refine And.intro (by first | exact AvLe.refl | exact AvLe.loose | exact AvLe.nil | exact AvLe.nilT | exact AvLe.slk | (refine AvLe.agg ?_; exact ArgsLe.refl) | (refine AvLe.agg ?_; (repeat (first | exact True.intro | refine And.intro (by first | exact AvLe.refl | exact AvLe.loose | exact AvLe.nil | exact AvLe.nilT | exact AvLe.slk) ?_)))) ?_))))) rfl ?_
      simp (maxSteps := 1000000) only [go_sem, reduceCtorEq, Nat.reduceEqDiff, Nat.reduceBEq, Nat.reduceAdd, Nat.reduceMul, Nat.reduceLeDiff, Nat.reduceSub, Int.reduceToNat, Int.reduceNeg, Nat.reduceLT, Int.reduceMul, Int.reduceSub, Int.reduceAdd, Int.reduceLT, Int.reduceLE, Int.reduceGE, Int.reduceGT, Int.reduceDiv, Int.reduceMod, Int.reduceEq, Int.reducePow, Nat.reducePow, Nat.reduceDiv, Nat.reduceMod, hxa, hc]
      (repeat (refine ⟨by (first | exact True.intro | omega | rfl | (simp; done) | (simp; omega)), ?_⟩)); try (refine hKr _ ?_; clear hKr Kr)
      refine T.condTD rfl rfl (fun hx => ?_) (fun hx => ?_) <;> try simp at hx
      refine T.skip ?_
      refine hK6 _ ?_
      refine T.sregD 179 [0, 2, 3, 4, 5, 6, 7, 8, 9, 10, 20, 32, 38, 78, 89, 107, 149] fun Kr hKr => ?_
      simp (maxSteps := 1000000) only [go_sem, reduceCtorEq, Nat.reduceEqDiff, Nat.reduceBEq, Nat.reduceAdd, Nat.reduceMul, Nat.reduceLeDiff, Nat.reduceSub, Int.reduceToNat, Int.reduceNeg, Nat.reduceLT, Int.reduceMul, Int.reduceSub, Int.reduceAdd, Int.reduceLT, Int.reduceLE, Int.reduceGE, Int.reduceGT, Int.reduceDiv, Int.reduceMod, Int.reduceEq, Int.reducePow, Nat.reducePow, Nat.reduceDiv, Nat.reduceMod]
      (repeat (refine ⟨by (first | exact True.intro | omega | rfl | (simp; done) | (simp; omega)), ?_⟩)); try (refine hKr _ ?_; clear hKr Kr)
      refine T.bloop (fun k : Nat => ⟨dense 179 [(3, .bool true), (4, .op 4 0 0), (6, .op 6 0 0), (7, .int .i64 j), (8, .op 8 0 0), (9, .int .i64 k)], [(8, ⟨4, 35, true, [.agg [.int .i64 x.id, .int .i64 0, .int .i64 x.st, .str x.s]]⟩), (6, ⟨2, 33, true, [.agg [.int .i64 (accL n0 (s.c.getD 0 default).d.m x.id x.s.length k), .int .i64 n1]]⟩), (4, ⟨3, 28, true, [mstA s]⟩)]⟩)
        (fun k => k ≤ (s.c.getD 0 default).d.m.length) (fun k => (s.c.getD 0 default).d.m.length - k) 0 (by omega) ?_ fun k hk => ?_
      · refine Le.fitS (by (repeat (first | exact DFit.nil | refine DFit.cons (by first | rfl | (simp [slook]; done) | (simp [slook]; omega)) ?_))) (by (repeat (first | exact True.intro | refine And.intro (by first | rfl | (simp [look]; done)) ?_)))
      refine T.seqK fun K7 hK7 => ?_
      refine T.sregD 179 [0, 2, 3, 4, 5, 6, 7, 8, 9, 10, 20, 32, 38, 78, 89, 107, 149] fun Kr hKr => ?_
      simp (maxSteps := 1000000) only [go_sem, reduceCtorEq, Nat.reduceEqDiff, Nat.reduceBEq, Nat.reduceAdd, Nat.reduceMul, Nat.reduceLeDiff, Nat.reduceSub, Int.reduceToNat, Int.reduceNeg, Nat.reduceLT, Int.reduceMul, Int.reduceSub, Int.reduceAdd, Int.reduceLT, Int.reduceLE, Int.reduceGE, Int.reduceGT, Int.reduceDiv, Int.reduceMod, Int.reduceEq, Int.reducePow, Nat.reducePow, Nat.reduceDiv, Nat.reduceMod, hxa, hc]
      (repeat (refine ⟨by (first | exact True.intro | omega | rfl | (simp; done) | (simp; omega)), ?_⟩)); try (refine hKr _ ?_; clear hKr Kr)
      refine T.condFD rfl rfl (fun hd => ?_) (fun hd => ?_) <;> simp only [decide_eq_true_eq, decide_eq_false_iff_not] at hd
      · -- no: exit
        have : k = (s.c.getD 0 default).d.m.length := by omega
        subst this
        refine T.exit ?_
        simp only [if_true]
        refine hK5 _ ?_
        refine T.regD 179 [0, 2, 3, 4, 5, 6, 7, 8, 9, 10, 20, 32, 38, 78, 89, 107, 149] fun Kr hKr => ?_
        simp (maxSteps := 1000000) only [go_sem, reduceCtorEq, Nat.reduceEqDiff, Nat.reduceBEq, Nat.reduceAdd, Nat.reduceMul, Nat.reduceLeDiff, Nat.reduceSub, Int.reduceToNat, Int.reduceNeg, Nat.reduceLT, Int.reduceMul, Int.reduceSub, Int.reduceAdd, Int.reduceLT, Int.reduceLE, Int.reduceGE, Int.reduceGT, Int.reduceDiv, Int.reduceMod, Int.reduceEq, Int.reducePow, Nat.reducePow, Nat.reduceDiv, Nat.reduceMod]
        (repeat (refine ⟨by (first | exact True.intro | omega | rfl | (simp; done) | (simp; omega)), ?_⟩)); try (refine hKr _ ?_; clear hKr Kr)
        refine ⟨j + 1, ?_, ?_, Le.fitS (by (repeat (first | exact DFit.nil | refine DFit.cons (by first | rfl | (simp [slook]; done) | (simp [slook]; omega)) ?_))) ?_⟩
        · omega
        · omega
        · rw [hn1]; (repeat (first | exact True.intro | refine And.intro (by first | rfl | (simp [look]; done)) ?_))
      have hd : k < (s.c.getD 0 default).d.m.length := by omega
      have hcs : accL n0 (s.c.getD 0 default).d.m x.id x.s.length (k + 1) = accL n0 (s.c.getD 0 default).d.m x.id x.s.length k + (if ((s.c.getD 0 default).d.m.getD k default).id = x.id then x.s.length else 0) := rfl
      have hkm : (s.c.getD 0 default).d.m.getD k default ∈ (s.c.getD 0 default).d.m := getD_memD hd
      have hkt := hmd _ hkm
      have hko := hcl.okd.mks _ hkm
      have hle := accL_le (n0 := n0) (l := (s.c.getD 0 default).d.m) (id := x.id) (n := x.s.length) hk
      refine T.skip ?_
      refine hK7 _ ?_
      refine T.seqK fun K8 hK8 => ?_
      refine T.block ?_
      refine T.sregD 179 [0, 2, 3, 4, 5, 6, 7, 8, 9, 10, 20, 32, 38, 78, 89, 107, 149] fun Kr hKr => ?_
      simp (maxSteps := 1000000) only [go_sem, reduceCtorEq, Nat.reduceEqDiff, Nat.reduceBEq, Nat.reduceAdd, Nat.reduceMul, Nat.reduceLeDiff, Nat.reduceSub, Int.reduceToNat, Int.reduceNeg, Nat.reduceLT, Int.reduceMul, Int.reduceSub, Int.reduceAdd, Int.reduceLT, Int.reduceLE, Int.reduceGE, Int.reduceGT, Int.reduceDiv, Int.reduceMod, Int.reduceEq, Int.reducePow, Nat.reducePow, Nat.reduceDiv, Nat.reduceMod, hxa, hc, hd]
      (repeat (refine ⟨by (first | exact True.intro | omega | rfl | (simp; done) | (simp; omega)), ?_⟩)); try (refine hKr _ ?_; clear hKr Kr)
      refine T.seqK fun K9 hK9 => ?_
      refine T.sregD 179 [0, 2, 3, 4, 5, 6, 7, 8, 9, 10, 20, 32, 38, 78, 89, 107, 149] fun Kr hKr => ?_
      simp (maxSteps := 1000000) only [go_sem, reduceCtorEq, Nat.reduceEqDiff, Nat.reduceBEq, Nat.reduceAdd, Nat.reduceMul, Nat.reduceLeDiff, Nat.reduceSub, Int.reduceToNat, Int.reduceNeg, Nat.reduceLT, Int.reduceMul, Int.reduceSub, Int.reduceAdd, Int.reduceLT, Int.reduceLE, Int.reduceGE, Int.reduceGT, Int.reduceDiv, Int.reduceMod, Int.reduceEq, Int.reducePow, Nat.reducePow, Nat.reduceDiv, Nat.reduceMod]
      (repeat (refine ⟨by (first | exact True.intro | omega | rfl | (simp; done) | (simp; omega)), ?_⟩)); try (refine hKr _ ?_; clear hKr Kr)
      refine T.condTD rfl rfl (fun he => ?_) (fun he => ?_) <;> simp only [Bool.not_eq_true', Bool.not_eq_false', Bool.not_eq_eq_eq_not, Bool.not_true, Bool.not_false, decide_eq_true_eq, decide_eq_false_iff_not] at he
      · -- another
        rw [if_neg he, Nat.add_zero] at hcs
        refine T.exit ?_
        simp only [if_true]
        refine hK8 _ ?_
        refine T.regD 179 [0, 2, 3, 4, 5, 6, 7, 8, 9, 10, 20, 32, 38, 78, 89, 107, 149] fun Kr hKr => ?_
        simp (maxSteps := 1000000) only [go_sem, reduceCtorEq, Nat.reduceEqDiff, Nat.reduceBEq, Nat.reduceAdd, Nat.reduceMul, Nat.reduceLeDiff, Nat.reduceSub, Int.reduceToNat, Int.reduceNeg, Nat.reduceLT, Int.reduceMul, Int.reduceSub, Int.reduceAdd, Int.reduceLT, Int.reduceLE, Int.reduceGE, Int.reduceGT, Int.reduceDiv, Int.reduceMod, Int.reduceEq, Int.reducePow, Nat.reducePow, Nat.reduceDiv, Nat.reduceMod]
        (repeat (refine ⟨by (first | exact True.intro | omega | rfl | (simp; done) | (simp; omega)), ?_⟩)); try (refine hKr _ ?_; clear hKr Kr)
        refine ⟨k + 1, ?_, ?_, Le.fitS (by (repeat (first | exact DFit.nil | refine DFit.cons (by first | rfl | (simp [slook]; done) | (simp [slook]; omega)) ?_))) ?_⟩
        · omega
        · omega
        · rw [hcs]; (repeat (first | exact True.intro | refine And.intro (by first | rfl | (simp [look]; done)) ?_))
      rw [if_pos he] at hcs
      have hst' : ((accL n0 (s.c.getD 0 default).d.m x.id x.s.length (k + 1) : Nat) : Int) = ((accL n0 (s.c.getD 0 default).d.m x.id x.s.length k : Nat) : Int) + (x.s.length : Int) := by rw [hcs, Int.natCast_add]
      clear hcs
      generalize (s.c.getD 0 default).d.m.getD k default = m at *
      generalize accL n0 (s.c.getD 0 default).d.m x.id x.s.length k = Q at *
      obtain ⟨k1, k2, k3, k4⟩ := hko
      have b1 : (m.f < 0) = False := eq_false (by omega)
      have b2 : (m.t > ((s.c.getD 0 default).d.s.length : Int)) = False := eq_false (by omega)
      have b3 : (m.f > m.t) = False := eq_false (by omega)
      have b4 : (((s.c.getD 0 default).d.s.take m.t.toNat).drop m.f.toNat == x.s) = true := beq_iff_eq.2 (hkt he)
      have b5 : m.f ≤ m.t := by omega
      refine T.skip ?_
      refine hK9 _ ?_
      refine T.seqK fun K10 hK10 => ?_
      refine T.sdrawD 179 [0, 2, 3, 4, 5, 6, 7, 8, 9, 10, 20, 32, 38, 78, 89, 107, 149] (.take 0 (.take 1 (.take 2 (.take 3 (.take 4 (.take 5 (.take 6 (.take 7 (.take 8 (.take 9 (.take 10 (.take 11 (.take 12 (.take 13 (.take 14 (.take 15 (.take 16 (.take 17 (.take 18 (.take 19 (.take 20 (.take 21 (.take 22 (.take 23 (.take 24 (.take 25 (.take 26 (.take 27 (.take 28 (.take 29 (.take 30 (.take 31 (.take 32 (.take 33 (.take 34 (.take 35 (.take 36 (.take 37 (.take 38 (.take 39 (.take 40 (.take 41 .done)))))))))))))))))))))))))))))))))))))))))) [4, 8, 10] rfl (by decide +kernel) (by decide +kernel) fun Kr hKr => ?_
      simp (maxSteps := 1000000) only [go_sem, reduceCtorEq, Nat.reduceEqDiff, Nat.reduceBEq, Nat.reduceAdd, Nat.reduceMul, Nat.reduceLeDiff, Nat.reduceSub, Int.reduceToNat, Int.reduceNeg, Nat.reduceLT, Int.reduceMul, Int.reduceSub, Int.reduceAdd, Int.reduceLT, Int.reduceLE, Int.reduceGE, Int.reduceGT, Int.reduceDiv, Int.reduceMod, Int.reduceEq, Int.reducePow, Nat.reducePow, Nat.reduceDiv, Nat.reduceMod, hxa, hc, b1, b2, b3, b4]
      (repeat (refine ⟨by (first | exact True.intro | omega | rfl | (simp; done) | (simp; omega)), ?_⟩)); try (refine hKr _ ?_; clear hKr Kr)
      refine T.condTD rfl rfl (fun hx => ?_) (fun hx => ?_) <;> try simp at hx
      refine T.skip ?_
      refine hK10 _ ?_
      refine T.drawD 179 [0, 2, 3, 4, 5, 6, 7, 8, 9, 10, 20, 32, 38, 78, 89, 107, 149] (.take 0 (.take 1 (.take 2 (.take 4 (.take 5 (.take 6 (.one 3 (.take 7 (.take 8 (.one 9 .done)))))))))) [8] rfl (by decide +kernel) (by decide +kernel) fun Kr hKr => ?_
      simp (maxSteps := 1000000) only [go_sem, reduceCtorEq, Nat.reduceEqDiff, Nat.reduceBEq, Nat.reduceAdd, Nat.reduceMul, Nat.reduceLeDiff, Nat.reduceSub, Int.reduceToNat, Int.reduceNeg, Nat.reduceLT, Int.reduceMul, Int.reduceSub, Int.reduceAdd, Int.reduceLT, Int.reduceLE, Int.reduceGE, Int.reduceGT, Int.reduceDiv, Int.reduceMod, Int.reduceEq, Int.reducePow, Nat.reducePow, Nat.reduceDiv, Nat.reduceMod, hxa]
      (repeat (refine ⟨by (first | exact True.intro | omega | rfl | (simp; done) | (simp; omega)), ?_⟩)); try (refine hKr _ ?_; clear hKr Kr)
      refine hK8 _ ?_
      refine T.regD 179 [0, 2, 3, 4, 5, 6, 7, 8, 9, 10, 20, 32, 38, 78, 89, 107, 149] fun Kr hKr => ?_
      simp (maxSteps := 1000000) only [go_sem, reduceCtorEq, Nat.reduceEqDiff, Nat.reduceBEq, Nat.reduceAdd, Nat.reduceMul, Nat.reduceLeDiff, Nat.reduceSub, Int.reduceToNat, Int.reduceNeg, Nat.reduceLT, Int.reduceMul, Int.reduceSub, Int.reduceAdd, Int.reduceLT, Int.reduceLE, Int.reduceGE, Int.reduceGT, Int.reduceDiv, Int.reduceMod, Int.reduceEq, Int.reducePow, Nat.reducePow, Nat.reduceDiv, Nat.reduceMod]
      (repeat (refine ⟨by (first | exact True.intro | omega | rfl | (simp; done) | (simp; omega)), ?_⟩)); try (refine hKr _ ?_; clear hKr Kr)
      refine ⟨k + 1, ?_, ?_, Le.fitS (by (repeat (first | exact DFit.nil | refine DFit.cons (by first | rfl | (simp [slook]; done) | (simp [slook]; omega)) ?_))) ?_⟩
      · omega
      · omega
      · rw [hst']; (repeat (first | exact True.intro | refine And.intro (by first | rfl | (simp [look]; done)) ?_))
    · have hcl := hinv.cl 1 (by omega)
      have hcnt := hcl.cnt x.id
      have hno := other_no hinv hm (a := 1) (b := 0) (by rw [hxa]; rfl) (by omega) (by omega)
      have hco := ((hinv.cl 0 (by omega)).cnt x.id).2 hno
      have hmd := mark_text hinv hm (a := 1) (by omega)
      have hw1 : (s.c.getD 1 default).d.m.length ≤ 100 := hcl.okd.cnt
      have hw2 : (s.c.getD 0 default).d.m.length ≤ 100 := (hinv.cl 0 (by omega)).okd.cnt
      have hws := hcl.okd.len
      have sM := marks_spec (s.c.getD 1 default) x.id (by omega)
      have sO := marks_spec (s.c.getD 0 default) x.id (by omega)
      rw [hco] at sO
      have hxl : x.s.length ≤ 400 := by
        have := noteB_len hel.2.2.2
        omega
      have hls : lenA s.l s.c 1 (j + 1) = accL (lenA s.l s.c 1 j) (s.c.getD 1 default).d.m x.id x.s.length (s.c.getD 1 default).d.m.length := by
        rw [accL_eq (Nat.le_refl _), List.take_length, ls1]
        have hMe : cntT (s.c.getD 1 default).d.m x.id = cntM (s.c.getD 1 default).d x.id := rfl
        rw [hMe]
        by_cases q : x.id ∈ (s.c.getD 1 default).has
        · rw [if_pos ⟨by rw [hxa]; rfl, q⟩, hcnt.1 q, Nat.one_mul]
        · rw [if_neg (fun g => q g.2), hcnt.2 q, Nat.zero_mul]
      have hlo : lenA s.l s.c 0 (j + 1) = lenA s.l s.c 0 j := by
        rw [ls0, if_neg (fun g => absurd (hxa.symm.trans g.1) (by decide))]
        rfl
      have hM : cntM (s.c.getD 1 default).d x.id ≤ 1 := by
        by_cases q : x.id ∈ (s.c.getD 1 default).has
        · rw [hcnt.1 q]; omega
        · rw [hcnt.2 q]; omega
      have hnn : lenA s.l s.c 1 (j + 1) ≤ 400 := by
        have := lenA_le (l := s.l) (c := s.c) (a := 1) (n := j + 1)
        have := hcl.len
        omega
      rw [hls] at hnn
      clear hcnt hno hco ls0 ls1
      generalize cntM (s.c.getD 1 default).d x.id = M at *
      have hn0 : len2 s.l s.c j = [.int .i64 (lenA s.l s.c 0 j), .int .i64 (lenA s.l s.c 1 j)] := rfl
      have hn1 : len2 s.l s.c (j + 1) = [.int .i64 (lenA s.l s.c 0 (j + 1)), .int .i64 (lenA s.l s.c 1 (j + 1))] := rfl
      rw [hls, hlo] at hn1
      rw [hn0]
      clear hls hlo hn0
      generalize lenA s.l s.c 0 j = n0 at *
      generalize lenA s.l s.c 1 j = n1 at *
      refine T.seqK fun K6 hK6 => ?_
      have hM1 : ((M : Int) > 1) = False := eq_false (by omega)
      refine T.sdrawD 179 [0, 2, 3, 4, 5, 6, 7, 8, 9, 10, 20, 32, 38, 78, 89, 107, 149] (.take 0 (.take 1 (.take 2 (.take 3 (.take 4 (.take 5 (.take 6 (.take 7 (.take 8 (.take 9 (.take 10 (.take 11 (.take 12 (.take 13 (.take 14 (.take 15 (.take 16 (.one 17 (.take 18 (.take 19 (.take 20 (.take 21 (.take 22 (.take 23 (.take 24 (.take 25 (.take 26 (.take 27 (.take 28 (.take 29 (.one 30 (.take 31 (.take 32 .done))))))))))))))))))))))))))))))))) [4, 8] rfl (by decide +kernel) (by decide +kernel) fun Kr hKr => ?_
      simp (maxSteps := 1000000) only [go_sem, reduceCtorEq, Nat.reduceEqDiff, Nat.reduceBEq, Nat.reduceAdd, Nat.reduceMul, Nat.reduceLeDiff, Nat.reduceSub, Int.reduceToNat, Int.reduceNeg, Nat.reduceLT, Int.reduceMul, Int.reduceSub, Int.reduceAdd, Int.reduceLT, Int.reduceLE, Int.reduceGE, Int.reduceGT, Int.reduceDiv, Int.reduceMod, Int.reduceEq, Int.reducePow, Nat.reducePow, Nat.reduceDiv, Nat.reduceMod, hxa, hc]
      (repeat (refine ⟨by (first | exact True.intro | omega | rfl | (simp; done) | (simp; omega)), ?_⟩)); try (refine hKr _ ?_; clear hKr Kr)
      refine CallK.data (fun _ => Spec.args (sM) (by (first | exact ArgsLe.refl | (repeat (first | exact True.intro | refine And.intro (by first | exact AvLe.refl | exact AvLe.loose | exact AvLe.nil | exact AvLe.nilT | exact AvLe.slk | (refine AvLe.agg ?_; exact ArgsLe.refl) | (refine AvLe.agg ?_; (repeat (first | exact True.intro | refine And.intro (by first | exact AvLe.refl | exact AvLe.loose | exact AvLe.nil | exact AvLe.nilT | exact AvLe.slk) ?_)))) ?_))))) rfl ?_
      simp (maxSteps := 1000000) only [go_sem, reduceCtorEq, Nat.reduceEqDiff, Nat.reduceBEq, Nat.reduceAdd, Nat.reduceMul, Nat.reduceLeDiff, Nat.reduceSub, Int.reduceToNat, Int.reduceNeg, Nat.reduceLT, Int.reduceMul, Int.reduceSub, Int.reduceAdd, Int.reduceLT, Int.reduceLE, Int.reduceGE, Int.reduceGT, Int.reduceDiv, Int.reduceMod, Int.reduceEq, Int.reducePow, Nat.reducePow, Nat.reduceDiv, Nat.reduceMod, hxa, hc, hM1]
      (repeat (refine ⟨by (first | exact True.intro | omega | rfl | (simp; done) | (simp; omega)), ?_⟩)); try (refine hKr _ ?_; clear hKr Kr)
      refine CallK.data (fun _ => Spec.args (sO) (by (first | exact ArgsLe.refl | (repeat (first | exact True.intro | refine And.intro (by first | exact AvLe.refl | exact AvLe.loose | exact AvLe.nil | exact AvLe.nilT | exact AvLe.slk | (refine AvLe.agg ?_; exact ArgsLe.refl) | (refine AvLe.agg ?_; (repeat (first | exact True.intro | refine And.intro (by first | exact AvLe.refl | exact AvLe.loose | exact AvLe.nil | exact AvLe.nilT | exact AvLe.slk) ?_)))) ?_))))) rfl ?_
      simp (maxSteps := 1000000) only [go_sem, reduceCtorEq, Nat.reduceEqDiff, Nat.reduceBEq, Nat.reduceAdd, Nat.reduceMul, Nat.reduceLeDiff, Nat.reduceSub, Int.reduceToNat, Int.reduceNeg, Nat.reduceLT, Int.reduceMul, Int.reduceSub, Int.reduceAdd, Int.reduceLT, Int.reduceLE, Int.reduceGE, Int.reduceGT, Int.reduceDiv, Int.reduceMod, Int.reduceEq, Int.reducePow, Nat.reducePow, Nat.reduceDiv, Nat.reduceMod, hxa, hc]
      (repeat (refine ⟨by (first | exact True.intro | omega | rfl | (simp; done) | (simp; omega)), ?_⟩)); try (refine hKr _ ?_; clear hKr Kr)
      refine T.condTD rfl rfl (fun hx => ?_) (fun hx => ?_) <;> try simp at hx
      refine T.skip ?_
      refine hK6 _ ?_
      refine T.sregD 179 [0, 2, 3, 4, 5, 6, 7, 8, 9, 10, 20, 32, 38, 78, 89, 107, 149] fun Kr hKr => ?_
      simp (maxSteps := 1000000) only [go_sem, reduceCtorEq, Nat.reduceEqDiff, Nat.reduceBEq, Nat.reduceAdd, Nat.reduceMul, Nat.reduceLeDiff, Nat.reduceSub, Int.reduceToNat, Int.reduceNeg, Nat.reduceLT, Int.reduceMul, Int.reduceSub, Int.reduceAdd, Int.reduceLT, Int.reduceLE, Int.reduceGE, Int.reduceGT, Int.reduceDiv, Int.reduceMod, Int.reduceEq, Int.reducePow, Nat.reducePow, Nat.reduceDiv, Nat.reduceMod]
      (repeat (refine ⟨by (first | exact True.intro | omega | rfl | (simp; done) | (simp; omega)), ?_⟩)); try (refine hKr _ ?_; clear hKr Kr)
      refine T.bloop (fun k : Nat => ⟨dense 179 [(3, .bool true), (4, .op 4 0 0), (6, .op 6 0 0), (7, .int .i64 j), (8, .op 8 0 0), (9, .int .i64 k)], [(8, ⟨4, 35, true, [.agg [.int .i64 x.id, .int .i64 1, .int .i64 x.st, .str x.s]]⟩), (6, ⟨2, 33, true, [.agg [.int .i64 n0, .int .i64 (accL n1 (s.c.getD 1 default).d.m x.id x.s.length k)]]⟩), (4, ⟨3, 28, true, [mstA s]⟩)]⟩)
        (fun k => k ≤ (s.c.getD 1 default).d.m.length) (fun k => (s.c.getD 1 default).d.m.length - k) 0 (by omega) ?_ fun k hk => ?_
      · refine Le.fitS (by (repeat (first | exact DFit.nil | refine DFit.cons (by first | rfl | (simp [slook]; done) | (simp [slook]; omega)) ?_))) (by (repeat (first | exact True.intro | refine And.intro (by first | rfl | (simp [look]; done)) ?_)))
      refine T.seqK fun K7 hK7 => ?_
      refine T.sregD 179 [0, 2, 3, 4, 5, 6, 7, 8, 9, 10, 20, 32, 38, 78, 89, 107, 149] fun Kr hKr => ?_
      simp (maxSteps := 1000000) only [go_sem, reduceCtorEq, Nat.reduceEqDiff, Nat.reduceBEq, Nat.reduceAdd, Nat.reduceMul, Nat.reduceLeDiff, Nat.reduceSub, Int.reduceToNat, Int.reduceNeg, Nat.reduceLT, Int.reduceMul, Int.reduceSub, Int.reduceAdd, Int.reduceLT, Int.reduceLE, Int.reduceGE, Int.reduceGT, Int.reduceDiv, Int.reduceMod, Int.reduceEq, Int.reducePow, Nat.reducePow, Nat.reduceDiv, Nat.reduceMod, hxa, hc]
      (repeat (refine ⟨by (first | exact True.intro | omega | rfl | (simp; done) | (simp; omega)), ?_⟩)); try (refine hKr _ ?_; clear hKr Kr)
      refine T.condFD rfl rfl (fun hd => ?_) (fun hd => ?_) <;> simp only [decide_eq_true_eq, decide_eq_false_iff_not] at hd
      · -- no: exit
        have : k = (s.c.getD 1 default).d.m.length := by omega
        subst this
        refine T.exit ?_
        simp only [if_true]
        refine hK5 _ ?_
        refine T.regD 179 [0, 2, 3, 4, 5, 6, 7, 8, 9, 10, 20, 32, 38, 78, 89, 107, 149] fun Kr hKr => ?_
        simp (maxSteps := 1000000) only [go_sem, reduceCtorEq, Nat.reduceEqDiff, Nat.reduceBEq, Nat.reduceAdd, Nat.reduceMul, Nat.reduceLeDiff, Nat.reduceSub, Int.reduceToNat, Int.reduceNeg, Nat.reduceLT, Int.reduceMul, Int.reduceSub, Int.reduceAdd, Int.reduceLT, Int.reduceLE, Int.reduceGE, Int.reduceGT, Int.reduceDiv, Int.reduceMod, Int.reduceEq, Int.reducePow, Nat.reducePow, Nat.reduceDiv, Nat.reduceMod]
        (repeat (refine ⟨by (first | exact True.intro | omega | rfl | (simp; done) | (simp; omega)), ?_⟩)); try (refine hKr _ ?_; clear hKr Kr)
        refine ⟨j + 1, ?_, ?_, Le.fitS (by (repeat (first | exact DFit.nil | refine DFit.cons (by first | rfl | (simp [slook]; done) | (simp [slook]; omega)) ?_))) ?_⟩
        · omega
        · omega
        · rw [hn1]; (repeat (first | exact True.intro | refine And.intro (by first | rfl | (simp [look]; done)) ?_))
      have hd : k < (s.c.getD 1 default).d.m.length := by omega
      have hcs : accL n1 (s.c.getD 1 default).d.m x.id x.s.length (k + 1) = accL n1 (s.c.getD 1 default).d.m x.id x.s.length k + (if ((s.c.getD 1 default).d.m.getD k default).id = x.id then x.s.length else 0) := rfl
      have hkm : (s.c.getD 1 default).d.m.getD k default ∈ (s.c.getD 1 default).d.m := getD_memD hd
      have hkt := hmd _ hkm
      have hko := hcl.okd.mks _ hkm
      have hle := accL_le (n0 := n1) (l := (s.c.getD 1 default).d.m) (id := x.id) (n := x.s.length) hk
      refine T.skip ?_
      refine hK7 _ ?_
      refine T.seqK fun K8 hK8 => ?_
      refine T.block ?_
      refine T.sregD 179 [0, 2, 3, 4, 5, 6, 7, 8, 9, 10, 20, 32, 38, 78, 89, 107, 149] fun Kr hKr => ?_
      simp (maxSteps := 1000000) only [go_sem, reduceCtorEq, Nat.reduceEqDiff, Nat.reduceBEq, Nat.reduceAdd, Nat.reduceMul, Nat.reduceLeDiff, Nat.reduceSub, Int.reduceToNat, Int.reduceNeg, Nat.reduceLT, Int.reduceMul, Int.reduceSub, Int.reduceAdd, Int.reduceLT, Int.reduceLE, Int.reduceGE, Int.reduceGT, Int.reduceDiv, Int.reduceMod, Int.reduceEq, Int.reducePow, Nat.reducePow, Nat.reduceDiv, Nat.reduceMod, hxa, hc, hd]
      (repeat (refine ⟨by (first | exact True.intro | omega | rfl | (simp; done) | (simp; omega)), ?_⟩)); try (refine hKr _ ?_; clear hKr Kr)
      refine T.seqK fun K9 hK9 => ?_
      refine T.sregD 179 [0, 2, 3, 4, 5, 6, 7, 8, 9, 10, 20, 32, 38, 78, 89, 107, 149] fun Kr hKr => ?_
      simp (maxSteps := 1000000) only [go_sem, reduceCtorEq, Nat.reduceEqDiff, Nat.reduceBEq, Nat.reduceAdd, Nat.reduceMul, Nat.reduceLeDiff, Nat.reduceSub, Int.reduceToNat, Int.reduceNeg, Nat.reduceLT, Int.reduceMul, Int.reduceSub, Int.reduceAdd, Int.reduceLT, Int.reduceLE, Int.reduceGE, Int.reduceGT, Int.reduceDiv, Int.reduceMod, Int.reduceEq, Int.reducePow, Nat.reducePow, Nat.reduceDiv, Nat.reduceMod]
      (repeat (refine ⟨by (first | exact True.intro | omega | rfl | (simp; done) | (simp; omega)), ?_⟩)); try (refine hKr _ ?_; clear hKr Kr)
      refine T.condTD rfl rfl (fun he => ?_) (fun he => ?_) <;> simp only [Bool.not_eq_true', Bool.not_eq_false', Bool.not_eq_eq_eq_not, Bool.not_true, Bool.not_false, decide_eq_true_eq, decide_eq_false_iff_not] at he
      · -- another
        rw [if_neg he, Nat.add_zero] at hcs
        refine T.exit ?_
        simp only [if_true]
        refine hK8 _ ?_
        refine T.regD 179 [0, 2, 3, 4, 5, 6, 7, 8, 9, 10, 20, 32, 38, 78, 89, 107, 149] fun Kr hKr => ?_
        simp (maxSteps := 1000000) only [go_sem, reduceCtorEq, Nat.reduceEqDiff, Nat.reduceBEq, Nat.reduceAdd, Nat.reduceMul, Nat.reduceLeDiff, Nat.reduceSub, Int.reduceToNat, Int.reduceNeg, Nat.reduceLT, Int.reduceMul, Int.reduceSub, Int.reduceAdd, Int.reduceLT, Int.reduceLE, Int.reduceGE, Int.reduceGT, Int.reduceDiv, Int.reduceMod, Int.reduceEq, Int.reducePow, Nat.reducePow, Nat.reduceDiv, Nat.reduceMod]
        (repeat (refine ⟨by (first | exact True.intro | omega | rfl | (simp; done) | (simp; omega)), ?_⟩)); try (refine hKr _ ?_; clear hKr Kr)
        refine ⟨k + 1, ?_, ?_, Le.fitS (by (repeat (first | exact DFit.nil | refine DFit.cons (by first | rfl | (simp [slook]; done) | (simp [slook]; omega)) ?_))) ?_⟩
        · omega
        · omega
        · rw [hcs]; (repeat (first | exact True.intro | refine And.intro (by first | rfl | (simp [look]; done)) ?_))
      rw [if_pos he] at hcs
      have hst' : ((accL n1 (s.c.getD 1 default).d.m x.id x.s.length (k + 1) : Nat) : Int) = ((accL n1 (s.c.getD 1 default).d.m x.id x.s.length k : Nat) : Int) + (x.s.length : Int) := by rw [hcs, Int.natCast_add]
      clear hcs
      generalize (s.c.getD 1 default).d.m.getD k default = m at *
      generalize accL n1 (s.c.getD 1 default).d.m x.id x.s.length k = Q at *
      obtain ⟨k1, k2, k3, k4⟩ := hko
      have b1 : (m.f < 0) = False := eq_false (by omega)
      have b2 : (m.t > ((s.c.getD 1 default).d.s.length : Int)) = False := eq_false (by omega)
      have b3 : (m.f > m.t) = False := eq_false (by omega)
      have b4 : (((s.c.getD 1 default).d.s.take m.t.toNat).drop m.f.toNat == x.s) = true := beq_iff_eq.2 (hkt he)
      have b5 : m.f ≤ m.t := by omega
      refine T.skip ?_
      refine hK9 _ ?_
      refine T.seqK fun K10 hK10 => ?_
      refine T.sdrawD 179 [0, 2, 3, 4, 5, 6, 7, 8, 9, 10, 20, 32, 38, 78, 89, 107, 149] (.take 0 (.take 1 (.take 2 (.take 3 (.take 4 (.take 5 (.take 6 (.take 7 (.take 8 (.take 9 (.take 10 (.take 11 (.take 12 (.take 13 (.take 14 (.take 15 (.take 16 (.take 17 (.take 18 (.take 19 (.take 20 (.take 21 (.take 22 (.take 23 (.take 24 (.take 25 (.take 26 (.take 27 (.take 28 (.take 29 (.take 30 (.take 31 (.take 32 (.take 33 (.take 34 (.take 35 (.take 36 (.take 37 (.take 38 (.take 39 (.take 40 (.take 41 .done)))))))))))))))))))))))))))))))))))))))))) [4, 8, 10] rfl (by decide +kernel) (by decide +kernel) fun Kr hKr => ?_
      simp (maxSteps := 1000000) only [go_sem, reduceCtorEq, Nat.reduceEqDiff, Nat.reduceBEq, Nat.reduceAdd, Nat.reduceMul, Nat.reduceLeDiff, Nat.reduceSub, Int.reduceToNat, Int.reduceNeg, Nat.reduceLT, Int.reduceMul, Int.reduceSub, Int.reduceAdd, Int.reduceLT, Int.reduceLE, Int.reduceGE, Int.reduceGT, Int.reduceDiv, Int.reduceMod, Int.reduceEq, Int.reducePow, Nat.reducePow, Nat.reduceDiv, Nat.reduceMod, hxa, hc, b1, b2, b3, b4]
      (repeat (refine ⟨by (first | exact True.intro | omega | rfl | (simp; done) | (simp; omega)), ?_⟩)); try (refine hKr _ ?_; clear hKr Kr)
      refine T.condTD rfl rfl (fun hx => ?_) (fun hx => ?_) <;> try simp at hx
      refine T.skip ?_
      refine hK10 _ ?_
      refine T.drawD 179 [0, 2, 3, 4, 5, 6, 7, 8, 9, 10, 20, 32, 38, 78, 89, 107, 149] (.take 0 (.take 1 (.take 2 (.take 4 (.take 5 (.take 6 (.one 3 (.take 7 (.take 8 (.one 9 .done)))))))))) [8] rfl (by decide +kernel) (by decide +kernel) fun Kr hKr => ?_
      simp (maxSteps := 1000000) only [go_sem, reduceCtorEq, Nat.reduceEqDiff, Nat.reduceBEq, Nat.reduceAdd, Nat.reduceMul, Nat.reduceLeDiff, Nat.reduceSub, Int.reduceToNat, Int.reduceNeg, Nat.reduceLT, Int.reduceMul, Int.reduceSub, Int.reduceAdd, Int.reduceLT, Int.reduceLE, Int.reduceGE, Int.reduceGT, Int.reduceDiv, Int.reduceMod, Int.reduceEq, Int.reducePow, Nat.reducePow, Nat.reduceDiv, Nat.reduceMod, hxa]
      (repeat (refine ⟨by (first | exact True.intro | omega | rfl | (simp; done) | (simp; omega)), ?_⟩)); try (refine hKr _ ?_; clear hKr Kr)
      refine hK8 _ ?_
      refine T.regD 179 [0, 2, 3, 4, 5, 6, 7, 8, 9, 10, 20, 32, 38, 78, 89, 107, 149] fun Kr hKr => ?_
      simp (maxSteps := 1000000) only [go_sem, reduceCtorEq, Nat.reduceEqDiff, Nat.reduceBEq, Nat.reduceAdd, Nat.reduceMul, Nat.reduceLeDiff, Nat.reduceSub, Int.reduceToNat, Int.reduceNeg, Nat.reduceLT, Int.reduceMul, Int.reduceSub, Int.reduceAdd, Int.reduceLT, Int.reduceLE, Int.reduceGE, Int.reduceGT, Int.reduceDiv, Int.reduceMod, Int.reduceEq, Int.reducePow, Nat.reducePow, Nat.reduceDiv, Nat.reduceMod]
      (repeat (refine ⟨by (first | exact True.intro | omega | rfl | (simp; done) | (simp; omega)), ?_⟩)); try (refine hKr _ ?_; clear hKr Kr)
      refine ⟨k + 1, ?_, ?_, Le.fitS (by (repeat (first | exact DFit.nil | refine DFit.cons (by first | rfl | (simp [slook]; done) | (simp [slook]; omega)) ?_))) ?_⟩
      · omega
      · omega
      · rw [hst']; (repeat (first | exact True.intro | refine And.intro (by first | rfl | (simp [look]; done)) ?_))
  obtain ⟨hb1, hb2⟩ : i < l.length ∧ i < 16 := ⟨by omega, by omega⟩
  have sN := step_spec (runM l i) (l.getD i default) (hinv.okM (by omega))
  have hst : stepG hearF (runM l i) (l.getD i default) = runM l (i + 1) := rfl
  rw [hst] at sN
  have hinv2 := runM_inv l (i + 1) (by omega)
  have hw2 := hinv2.wl
  refine T.skip ?_
  refine hK2 _ ?_
  refine T.seqK fun K25 hK25 => ?_
  refine T.block ?_
  refine T.sdrawD 179 [0, 2, 3, 4, 5, 6, 7, 8, 9, 10, 20, 32, 38, 78, 89, 107, 149] (.take 1 (.take 2 (.take 3 (.take 4 (.one 0 (.one 5 (.one 6 .done))))))) [] rfl (by decide +kernel) (by decide +kernel) fun Kr hKr => ?_
  simp (maxSteps := 1000000) only [go_sem, reduceCtorEq, Nat.reduceEqDiff, Nat.reduceBEq, Nat.reduceAdd, Nat.reduceMul, Nat.reduceLeDiff, Nat.reduceSub, Int.reduceToNat, Int.reduceNeg, Nat.reduceLT, Int.reduceMul, Int.reduceSub, Int.reduceAdd, Int.reduceLT, Int.reduceLE, Int.reduceGE, Int.reduceGT, Int.reduceDiv, Int.reduceMod, Int.reduceEq, Int.reducePow, Nat.reducePow, Nat.reduceDiv, Nat.reduceMod, hb1]
  (repeat (refine ⟨by (first | exact True.intro | omega | rfl | (simp; done) | (simp; omega)), ?_⟩)); try (refine hKr _ ?_; clear hKr Kr)
  refine CallK.data (fun _ => Spec.args (sN) (by (first | exact ArgsLe.refl | (repeat (first | exact True.intro | refine And.intro (by first | exact AvLe.refl | exact AvLe.loose | exact AvLe.nil | exact AvLe.nilT | exact AvLe.slk | (refine AvLe.agg ?_; exact ArgsLe.refl) | (refine AvLe.agg ?_; (repeat (first | exact True.intro | refine And.intro (by first | exact AvLe.refl | exact AvLe.loose | exact AvLe.nil | exact AvLe.nilT | exact AvLe.slk) ?_)))) ?_))))) rfl ?_
  simp (maxSteps := 1000000) only [go_sem, reduceCtorEq, Nat.reduceEqDiff, Nat.reduceBEq, Nat.reduceAdd, Nat.reduceMul, Nat.reduceLeDiff, Nat.reduceSub, Int.reduceToNat, Int.reduceNeg, Nat.reduceLT, Int.reduceMul, Int.reduceSub, Int.reduceAdd, Int.reduceLT, Int.reduceLE, Int.reduceGE, Int.reduceGT, Int.reduceDiv, Int.reduceMod, Int.reduceEq, Int.reducePow, Nat.reducePow, Nat.reduceDiv, Nat.reduceMod]
  (repeat (refine ⟨by (first | exact True.intro | omega | rfl | (simp; done) | (simp; omega)), ?_⟩)); try (refine hKr _ ?_; clear hKr Kr)
  refine T.sregD 179 [0, 2, 3, 4, 5, 6, 7, 8, 9, 10, 20, 32, 38, 78, 89, 107, 149] fun Kr hKr => ?_
  simp (maxSteps := 1000000) only [go_sem, reduceCtorEq, Nat.reduceEqDiff, Nat.reduceBEq, Nat.reduceAdd, Nat.reduceMul, Nat.reduceLeDiff, Nat.reduceSub, Int.reduceToNat, Int.reduceNeg, Nat.reduceLT, Int.reduceMul, Int.reduceSub, Int.reduceAdd, Int.reduceLT, Int.reduceLE, Int.reduceGE, Int.reduceGT, Int.reduceDiv, Int.reduceMod, Int.reduceEq, Int.reducePow, Nat.reducePow, Nat.reduceDiv, Nat.reduceMod]
  (repeat (refine ⟨by (first | exact True.intro | omega | rfl | (simp; done) | (simp; omega)), ?_⟩)); try (refine hKr _ ?_; clear hKr Kr)
  refine T.condTD rfl rfl (fun hd => ?_) (fun hd => ?_) <;> simp at hd
  · omega
  refine T.skip ?_
  refine hK25 _ ?_
  refine T.regD 179 [0, 2, 3, 4, 5, 6, 7, 8, 9, 10, 20, 32, 38, 78, 89, 107, 149] fun Kr hKr => ?_
  simp (maxSteps := 1000000) only [go_sem, reduceCtorEq, Nat.reduceEqDiff, Nat.reduceBEq, Nat.reduceAdd, Nat.reduceMul, Nat.reduceLeDiff, Nat.reduceSub, Int.reduceToNat, Int.reduceNeg, Nat.reduceLT, Int.reduceMul, Int.reduceSub, Int.reduceAdd, Int.reduceLT, Int.reduceLE, Int.reduceGE, Int.reduceGT, Int.reduceDiv, Int.reduceMod, Int.reduceEq, Int.reducePow, Nat.reducePow, Nat.reduceDiv, Nat.reduceMod]
  (repeat (refine ⟨by (first | exact True.intro | omega | rfl | (simp; done) | (simp; omega)), ?_⟩)); try (refine hKr _ ?_; clear hKr Kr)
  refine ⟨i + 1, ?_, ?_, Le.fitS (by (repeat (first | exact DFit.nil | refine DFit.cons (by first | rfl | (simp [slook]; done) | (simp [slook]; omega)) ?_))) ?_⟩
  · exact ⟨by omega, by omega⟩
  · omega
  · (repeat (first | exact True.intro | refine And.intro (by first | rfl | (simp [look]; done)) ?_))
end Go.Proofs
