/- The reference's lattices. -/
import Derived.Test.YtbpkimjblhbbeaaP8
set_option linter.unusedVariables false
set_option linter.unusedSimpArgs false
namespace Go.Proofs
open Go Go.Ideal
set_option maxRecDepth 8000
set_option maxHeartbeats 8000000

def isE (n f t w : Nat) (x : U3) : Bool := (bif (bif decide ((x.pin n).f = f) then decide ((x.pin n).t = t) else false) then decide (((x.c.toNat % 3 : Nat) : Int) = w) else false)
def hasE (l : List U3) (n f t w : Nat) : Bool := (l.take 14).any (isE n f t w)
def e0 (l : List U3) (n f t w : Nat) : List Edge := if hasE l n f t w then [⟨f, t, w, f + w⟩] else []
def e1 (l : List U3) (n f t k : Nat) : List Edge := (List.range k).flatMap fun w => e0 l n f t w
def e2 (l : List U3) (n f j : Nat) : List Edge := (List.range j).flatMap fun i => e1 l n f (f + 1 + i) 3
def e3 (l : List U3) (n i : Nat) : List Edge := (List.range i).flatMap fun f => e2 l n f (n - f)
def latt (l : List U3) (n : Nat) : List Edge := e3 l n n
theorem flatMap_le {α β : Type} {f : α → List β} {c : Nat} : ∀ (l : List α), (∀ x ∈ l, (f x).length ≤ c) → (l.flatMap f).length ≤ l.length * c
  | [], _ => by simp
  | x :: l, h => by
    have h1 := h x (by simp)
    have h2 := flatMap_le l (fun y hy => h y (by simp [hy]))
    rw [List.flatMap_cons, List.length_append, List.length_cons, Nat.add_mul]
    omega
theorem e1_len (l : List U3) (n f t k : Nat) : (e1 l n f t k).length ≤ k := by
  have := flatMap_le (f := fun w => e0 l n f t w) (c := 1) (List.range k) (fun w _ => by unfold e0; split <;> simp)
  simpa [e1] using this
theorem e2_len (l : List U3) (n f j : Nat) : (e2 l n f j).length ≤ j * 3 := by
  have := flatMap_le (f := fun i => e1 l n f (f + 1 + i) 3) (c := 3) (List.range j) (fun w _ => e1_len _ _ _ _ _)
  simpa [e2] using this
theorem e3_len (l : List U3) (n i : Nat) : (e3 l n i).length ≤ i * (n * 3) := by
  have := flatMap_le (f := fun f => e2 l n f (n - f)) (c := n * 3) (List.range i) (fun w _ => Nat.le_trans (e2_len _ _ _ _) (Nat.mul_le_mul_right _ (Nat.sub_le _ _)))
  simpa [e3] using this
theorem latt_len (l : List U3) (n : Nat) (hn : n ≤ 9) : (latt l n).length ≤ 243 := by
  have h := e3_len l n n
  have h2 : n * (n * 3) ≤ 9 * (9 * 3) := Nat.mul_le_mul hn (Nat.mul_le_mul_right _ hn)
  exact Nat.le_trans h h2
theorem e1_succ (l : List U3) (n f t k : Nat) : e1 l n f t (k + 1) = e1 l n f t k ++ e0 l n f t k := by simp [e1, List.range_succ]
theorem e2_succ (l : List U3) (n f j : Nat) : e2 l n f (j + 1) = e2 l n f j ++ e1 l n f (f + 1 + j) 3 := by simp [e2, List.range_succ]
theorem e3_succ (l : List U3) (n i : Nat) : e3 l n (i + 1) = e3 l n i ++ e2 l n i (n - i) := by simp [e3, List.range_succ]
def hK (l : List U3) (n f t w k : Nat) : Bool := (l.take k).any (isE n f t w)
theorem hK_succ {l : List U3} {k : Nat} (h : k < l.length) (n f t w : Nat) : hK l n f t w (k + 1) = (bif hK l n f t w k then true else isE n f t w (l.getD k default)) := by
  rw [hK, take_succ_pin h, List.any_append]
  unfold hK
  cases (l.take k).any (isE n f t w) <;> simp

def l2 (l : List U3) (n i j : Nat) : List Edge := e3 l n i ++ e2 l n i j
def l3 (l : List U3) (n i j t k : Nat) : List Edge := l2 l n i j ++ e1 l n i t k
theorem l2_zero (l : List U3) (n i : Nat) : l2 l n i 0 = e3 l n i := by simp [l2, e2]
theorem l2_full (l : List U3) (n i : Nat) : l2 l n i (n - i) = e3 l n (i + 1) := (e3_succ l n i).symm
theorem l3_zero (l : List U3) (n i j t : Nat) : l3 l n i j t 0 = l2 l n i j := by simp [l3, e1]
theorem l3_full (l : List U3) (n i j : Nat) : l3 l n i j (i + 1 + j) 3 = l2 l n i (j + 1) := by simp only [l3, l2, e2_succ, List.append_assoc]
theorem l3_step (l : List U3) (n i j t k : Nat) : l3 l n i j t (k + 1) = l3 l n i j t k ++ e0 l n i t k := by simp only [l3, e1_succ, List.append_assoc]
theorem l3_len (l : List U3) (n i j t k : Nat) (hn : n ≤ 9) (hi : i ≤ n) (hj : j ≤ n) (hk : k ≤ 3) : (l3 l n i j t k).length ≤ 300 := by
  have h1 : (e3 l n i).length ≤ 243 := Nat.le_trans (e3_len l n i) (Nat.mul_le_mul (show i ≤ 9 by omega) (Nat.mul_le_mul_right 3 hn))
  have h2 := e2_len l n i j
  have h3 := e1_len l n i t k
  simp only [l3, l2, List.length_append]; omega

theorem latt_spec (l : List U3) (n : Nat) (hn0 : 0 < n) (hn : n ≤ 9) : Ideal.Spec Try.prog 11 [.sl false 3 (u3sOf l), .int .i64 n] (latA n (latt l n)) none := by
  refine Ideal.Spec.of_CD (n := 84) (fn := Try.f11) rfl rfl rfl rfl rfl rfl rfl fun w ok => ?_
  refine T.post [.tmp 4] ?_
  refine T.sregD 84 [0, 1, 4, 5, 6, 7, 8, 9, 10, 11, 16, 23, 27, 37, 70] fun Kr hKr => ?_
  simp only [go_sem, reduceCtorEq, Nat.reduceEqDiff, Nat.reduceBEq, Nat.reduceAdd, Nat.reduceMul, Nat.reduceLeDiff, Nat.reduceSub, Int.reduceToNat, Int.reduceNeg, Nat.reduceLT, Int.reduceMul, Int.reduceSub, Int.reduceAdd, Int.reduceLT, Int.reduceLE, Int.reduceGE, Int.reduceGT, Int.reduceDiv, Int.reduceMod, Int.reduceEq, Int.reducePow, Nat.reducePow, Nat.reduceDiv, Nat.reduceMod]
  (repeat (refine ⟨by (first | exact True.intro | omega | rfl | (simp; done) | (simp; omega)), ?_⟩)); try (refine hKr _ ?_; clear hKr Kr)
  refine T.sregD 84 [0, 1, 4, 5, 6, 7, 8, 9, 10, 11, 16, 23, 27, 37, 70] fun Kr hKr => ?_
  simp only [go_sem, reduceCtorEq, Nat.reduceEqDiff, Nat.reduceBEq, Nat.reduceAdd, Nat.reduceMul, Nat.reduceLeDiff, Nat.reduceSub, Int.reduceToNat, Int.reduceNeg, Nat.reduceLT, Int.reduceMul, Int.reduceSub, Int.reduceAdd, Int.reduceLT, Int.reduceLE, Int.reduceGE, Int.reduceGT, Int.reduceDiv, Int.reduceMod, Int.reduceEq, Int.reducePow, Nat.reducePow, Nat.reduceDiv, Nat.reduceMod]
  (repeat (refine ⟨by (first | exact True.intro | omega | rfl | (simp; done) | (simp; omega)), ?_⟩)); try (refine hKr _ ?_; clear hKr Kr)
  refine T.seqK fun K39 hK39 => ?_
  refine T.sregD 84 [0, 1, 4, 5, 6, 7, 8, 9, 10, 11, 16, 23, 27, 37, 70] fun Kr hKr => ?_
  simp only [go_sem, reduceCtorEq, Nat.reduceEqDiff, Nat.reduceBEq, Nat.reduceAdd, Nat.reduceMul, Nat.reduceLeDiff, Nat.reduceSub, Int.reduceToNat, Int.reduceNeg, Nat.reduceLT, Int.reduceMul, Int.reduceSub, Int.reduceAdd, Int.reduceLT, Int.reduceLE, Int.reduceGE, Int.reduceGT, Int.reduceDiv, Int.reduceMod, Int.reduceEq, Int.reducePow, Nat.reducePow, Nat.reduceDiv, Nat.reduceMod]
  (repeat (refine ⟨by (first | exact True.intro | omega | rfl | (simp; done) | (simp; omega)), ?_⟩)); try (refine hKr _ ?_; clear hKr Kr)
  refine T.bloop (fun i : Nat => ⟨dense 84 [(0, .sl false 3 (u3sOf l)), (1, .int .i64 n), (4, .op 4 0 0), (5, .op 5 0 0), (6, .int .i64 i)], [(4, ⟨2, 30, true, [.agg [.int .i64 0, .sl true 1 []]]⟩), (5, ⟨2, 30, true, [.agg [.int .i64 n, .osl 81 0 (e3 l n i).length]]⟩), (81, ⟨4, 49, false, edgesOf (e3 l n i)⟩)]⟩) (fun i => i ≤ n) (fun i => n - i) 0 (by simp) ?_ fun i hi => ?_
  · refine (Le.ownC 5 1 81 4 49).trans ?_
    simp only [go_sem, reduceCtorEq, Nat.reduceEqDiff, Nat.reduceBEq, Nat.reduceAdd, Nat.reduceMul, Nat.reduceLeDiff, Nat.reduceSub, Int.reduceToNat, Int.reduceNeg, Nat.reduceLT, Int.reduceMul, Int.reduceSub, Int.reduceAdd, Int.reduceLT, Int.reduceLE, Int.reduceGE, Int.reduceGT, Int.reduceDiv, Int.reduceMod, Int.reduceEq, Int.reducePow, Nat.reducePow, Nat.reduceDiv, Nat.reduceMod, ownO_some]
    refine Le.fitS (by (repeat (first | exact DFit.nil | refine DFit.cons (by first | rfl | (simp [slook]; done) | (simp [slook]; omega)) ?_))) (by (repeat (first | exact True.intro | refine And.intro (by first | rfl | (simp [look]; done)) ?_)))
  have hl3 : (e3 l n i).length ≤ 243 := Nat.le_trans (e3_len l n i) (Nat.mul_le_mul (show i ≤ 9 by omega) (Nat.mul_le_mul_right 3 hn))
  refine T.seqK fun K40 hK40 => ?_
  refine T.sregD 84 [0, 1, 4, 5, 6, 7, 8, 9, 10, 11, 16, 23, 27, 37, 70] fun Kr hKr => ?_
  simp only [go_sem, reduceCtorEq, Nat.reduceEqDiff, Nat.reduceBEq, Nat.reduceAdd, Nat.reduceMul, Nat.reduceLeDiff, Nat.reduceSub, Int.reduceToNat, Int.reduceNeg, Nat.reduceLT, Int.reduceMul, Int.reduceSub, Int.reduceAdd, Int.reduceLT, Int.reduceLE, Int.reduceGE, Int.reduceGT, Int.reduceDiv, Int.reduceMod, Int.reduceEq, Int.reducePow, Nat.reducePow, Nat.reduceDiv, Nat.reduceMod]
  (repeat (refine ⟨by (first | exact True.intro | omega | rfl | (simp; done) | (simp; omega)), ?_⟩)); try (refine hKr _ ?_; clear hKr Kr)
  refine T.condFD rfl rfl (fun hb => ?_) (fun hb => ?_) <;> simp at hb
  · -- no: exit
    refine T.exit ?_
    simp only [if_true]
    refine hK39 _ ?_
    have : i = n := by omega
    subst this
    refine T.sregD 84 [0, 1, 4, 5, 6, 7, 8, 9, 10, 11, 16, 23, 27, 37, 70] fun Kr hKr => ?_
    simp only [go_sem, reduceCtorEq, Nat.reduceEqDiff, Nat.reduceBEq, Nat.reduceAdd, Nat.reduceMul, Nat.reduceLeDiff, Nat.reduceSub, Int.reduceToNat, Int.reduceNeg, Nat.reduceLT, Int.reduceMul, Int.reduceSub, Int.reduceAdd, Int.reduceLT, Int.reduceLE, Int.reduceGE, Int.reduceGT, Int.reduceDiv, Int.reduceMod, Int.reduceEq, Int.reducePow, Nat.reducePow, Nat.reduceDiv, Nat.reduceMod]
    (repeat (refine ⟨by (first | exact True.intro | omega | rfl | (simp; done) | (simp; omega)), ?_⟩)); try (refine hKr _ ?_; clear hKr Kr)
    refine T.ret ?_
    simp only [go_sem, reduceCtorEq, Nat.reduceEqDiff, Nat.reduceBEq, Nat.reduceAdd, Nat.reduceMul, Nat.reduceLeDiff, Nat.reduceSub, Int.reduceToNat, Int.reduceNeg, Nat.reduceLT, Int.reduceMul, Int.reduceSub, Int.reduceAdd, Int.reduceLT, Int.reduceLE, Int.reduceGE, Int.reduceGT, Int.reduceDiv, Int.reduceMod, Int.reduceEq, Int.reducePow, Nat.reducePow, Nat.reduceDiv, Nat.reduceMod, Nat.le_refl]
    exact ⟨ResCellD rfl rfl rfl rfl (by simp only [go_sem, reduceCtorEq, Nat.reduceEqDiff, Nat.reduceBEq, Nat.reduceAdd, Nat.reduceMul, Nat.reduceLeDiff, Nat.reduceSub, Int.reduceToNat, Int.reduceNeg, Nat.reduceLT, Int.reduceMul, Int.reduceSub, Int.reduceAdd, Int.reduceLT, Int.reduceLE, Int.reduceGE, Int.reduceGT, Int.reduceDiv, Int.reduceMod, Int.reduceEq, Int.reducePow, Nat.reducePow, Nat.reduceDiv, Nat.reduceMod]) (by simp only [go_sem, reduceCtorEq, Nat.reduceEqDiff, Nat.reduceBEq, Nat.reduceAdd, Nat.reduceMul, Nat.reduceLeDiff, Nat.reduceSub, Int.reduceToNat, Int.reduceNeg, Nat.reduceLT, Int.reduceMul, Int.reduceSub, Int.reduceAdd, Int.reduceLT, Int.reduceLE, Int.reduceGE, Int.reduceGT, Int.reduceDiv, Int.reduceMod, Int.reduceEq, Int.reducePow, Nat.reducePow, Nat.reduceDiv, Nat.reduceMod, latt]) rfl, trivial⟩
  refine T.skip ?_
  refine hK40 _ ?_
  refine T.seqK fun K41 hK41 => ?_
  refine T.block ?_
  refine T.sregD 84 [0, 1, 4, 5, 6, 7, 8, 9, 10, 11, 16, 23, 27, 37, 70] fun Kr hKr => ?_
  simp only [go_sem, reduceCtorEq, Nat.reduceEqDiff, Nat.reduceBEq, Nat.reduceAdd, Nat.reduceMul, Nat.reduceLeDiff, Nat.reduceSub, Int.reduceToNat, Int.reduceNeg, Nat.reduceLT, Int.reduceMul, Int.reduceSub, Int.reduceAdd, Int.reduceLT, Int.reduceLE, Int.reduceGE, Int.reduceGT, Int.reduceDiv, Int.reduceMod, Int.reduceEq, Int.reducePow, Nat.reducePow, Nat.reduceDiv, Nat.reduceMod]
  (repeat (refine ⟨by (first | exact True.intro | omega | rfl | (simp; done) | (simp; omega)), ?_⟩)); try (refine hKr _ ?_; clear hKr Kr)
  refine T.bloop (fun j : Nat => ⟨dense 84 [(0, .sl false 3 (u3sOf l)), (1, .int .i64 n), (4, .op 4 0 0), (5, .op 5 0 0), (6, .int .i64 i), (7, .int .i64 (i + 1 + j : Nat))], [(4, ⟨2, 30, true, [.agg [.int .i64 0, .sl true 1 []]]⟩), (5, ⟨2, 30, true, [.agg [.int .i64 n, .osl 81 0 (l2 l n i j).length]]⟩), (81, ⟨4, 49, false, edgesOf (l2 l n i j)⟩)]⟩) (fun j => j ≤ n - i) (fun j => n - j) 0 (by simp) ?_ fun j hj => ?_
  · refine Le.fitS (by (repeat (first | exact DFit.nil | refine DFit.cons (by first | rfl | (simp [slook]; done) | (simp [slook]; omega)) ?_))) (by rw [l2_zero]; (repeat (first | exact True.intro | refine And.intro (by first | rfl | (simp [look]; done)) ?_)))
  refine T.seqK fun K42 hK42 => ?_
  refine T.sregD 84 [0, 1, 4, 5, 6, 7, 8, 9, 10, 11, 16, 23, 27, 37, 70] fun Kr hKr => ?_
  simp only [go_sem, reduceCtorEq, Nat.reduceEqDiff, Nat.reduceBEq, Nat.reduceAdd, Nat.reduceMul, Nat.reduceLeDiff, Nat.reduceSub, Int.reduceToNat, Int.reduceNeg, Nat.reduceLT, Int.reduceMul, Int.reduceSub, Int.reduceAdd, Int.reduceLT, Int.reduceLE, Int.reduceGE, Int.reduceGT, Int.reduceDiv, Int.reduceMod, Int.reduceEq, Int.reducePow, Nat.reducePow, Nat.reduceDiv, Nat.reduceMod]
  (repeat (refine ⟨by (first | exact True.intro | omega | rfl | (simp; done) | (simp; omega)), ?_⟩)); try (refine hKr _ ?_; clear hKr Kr)
  refine T.condFD rfl rfl (fun hc => ?_) (fun hc => ?_) <;> simp at hc
  · -- no: exit
    refine T.exit ?_
    simp only [if_true]
    refine hK41 _ ?_
    have : j = n - i := by omega
    subst this
    refine T.regD 84 [0, 1, 4, 5, 6, 7, 8, 9, 10, 11, 16, 23, 27, 37, 70] fun Kr hKr => ?_
    simp only [go_sem, reduceCtorEq, Nat.reduceEqDiff, Nat.reduceBEq, Nat.reduceAdd, Nat.reduceMul, Nat.reduceLeDiff, Nat.reduceSub, Int.reduceToNat, Int.reduceNeg, Nat.reduceLT, Int.reduceMul, Int.reduceSub, Int.reduceAdd, Int.reduceLT, Int.reduceLE, Int.reduceGE, Int.reduceGT, Int.reduceDiv, Int.reduceMod, Int.reduceEq, Int.reducePow, Nat.reducePow, Nat.reduceDiv, Nat.reduceMod]
    (repeat (refine ⟨by (first | exact True.intro | omega | rfl | (simp; done) | (simp; omega)), ?_⟩)); try (refine hKr _ ?_; clear hKr Kr)
    refine ⟨i + 1, ?_, ?_, Le.fitS (by (repeat (first | exact DFit.nil | refine DFit.cons (by first | rfl | (simp [slook]; done) | (simp [slook]; omega)) ?_))) ?_⟩
    · omega
    · omega
    · rw [l2_full]; (repeat (first | exact True.intro | refine And.intro (by first | rfl | (simp [look]; done)) ?_))
  refine T.skip ?_
  refine hK42 _ ?_
  refine T.seqK fun K43 hK43 => ?_
  refine T.block ?_
  obtain ⟨t, ht⟩ : ∃ t, i + 1 + j = t := ⟨_, rfl⟩
  rw [ht]
  refine T.sregD 84 [0, 1, 4, 5, 6, 7, 8, 9, 10, 11, 16, 23, 27, 37, 70] fun Kr hKr => ?_
  simp only [go_sem, reduceCtorEq, Nat.reduceEqDiff, Nat.reduceBEq, Nat.reduceAdd, Nat.reduceMul, Nat.reduceLeDiff, Nat.reduceSub, Int.reduceToNat, Int.reduceNeg, Nat.reduceLT, Int.reduceMul, Int.reduceSub, Int.reduceAdd, Int.reduceLT, Int.reduceLE, Int.reduceGE, Int.reduceGT, Int.reduceDiv, Int.reduceMod, Int.reduceEq, Int.reducePow, Nat.reducePow, Nat.reduceDiv, Nat.reduceMod]
  (repeat (refine ⟨by (first | exact True.intro | omega | rfl | (simp; done) | (simp; omega)), ?_⟩)); try (refine hKr _ ?_; clear hKr Kr)
  refine T.bloop (fun k : Nat => ⟨dense 84 [(0, .sl false 3 (u3sOf l)), (1, .int .i64 n), (4, .op 4 0 0), (5, .op 5 0 0), (6, .int .i64 i), (7, .int .i64 t), (8, .int .i64 k)], [(4, ⟨2, 30, true, [.agg [.int .i64 0, .sl true 1 []]]⟩), (5, ⟨2, 30, true, [.agg [.int .i64 n, .osl 81 0 (l3 l n i j t k).length]]⟩), (81, ⟨4, 49, false, edgesOf (l3 l n i j t k)⟩)]⟩) (fun k => k ≤ 3) (fun k => 3 - k) 0 (by simp) ?_ fun k hk => ?_
  · refine Le.fitS (by (repeat (first | exact DFit.nil | refine DFit.cons (by first | rfl | (simp [slook]; done) | (simp [slook]; omega)) ?_))) (by rw [l3_zero]; (repeat (first | exact True.intro | refine And.intro (by first | rfl | (simp [look]; done)) ?_)))
  have hMl := l3_len l n i j t k hn hi (by omega) hk
  refine T.seqK fun K44 hK44 => ?_
  refine T.sregD 84 [0, 1, 4, 5, 6, 7, 8, 9, 10, 11, 16, 23, 27, 37, 70] fun Kr hKr => ?_
  simp only [go_sem, reduceCtorEq, Nat.reduceEqDiff, Nat.reduceBEq, Nat.reduceAdd, Nat.reduceMul, Nat.reduceLeDiff, Nat.reduceSub, Int.reduceToNat, Int.reduceNeg, Nat.reduceLT, Int.reduceMul, Int.reduceSub, Int.reduceAdd, Int.reduceLT, Int.reduceLE, Int.reduceGE, Int.reduceGT, Int.reduceDiv, Int.reduceMod, Int.reduceEq, Int.reducePow, Nat.reducePow, Nat.reduceDiv, Nat.reduceMod]
  (repeat (refine ⟨by (first | exact True.intro | omega | rfl | (simp; done) | (simp; omega)), ?_⟩)); try (refine hKr _ ?_; clear hKr Kr)
  refine T.condFD rfl rfl (fun hd => ?_) (fun hd => ?_) <;> simp only [decide_eq_true_eq, decide_eq_false_iff_not] at hd
  · -- no: exit
    refine T.exit ?_
    simp only [if_true]
    refine hK43 _ ?_
    have : k = 3 := by omega
    subst this
    refine T.regD 84 [0, 1, 4, 5, 6, 7, 8, 9, 10, 11, 16, 23, 27, 37, 70] fun Kr hKr => ?_
    simp only [go_sem, reduceCtorEq, Nat.reduceEqDiff, Nat.reduceBEq, Nat.reduceAdd, Nat.reduceMul, Nat.reduceLeDiff, Nat.reduceSub, Int.reduceToNat, Int.reduceNeg, Nat.reduceLT, Int.reduceMul, Int.reduceSub, Int.reduceAdd, Int.reduceLT, Int.reduceLE, Int.reduceGE, Int.reduceGT, Int.reduceDiv, Int.reduceMod, Int.reduceEq, Int.reducePow, Nat.reducePow, Nat.reduceDiv, Nat.reduceMod]
    (repeat (refine ⟨by (first | exact True.intro | omega | rfl | (simp; done) | (simp; omega)), ?_⟩)); try (refine hKr _ ?_; clear hKr Kr)
    refine ⟨j + 1, ?_, ?_, Le.fitS (by (repeat (first | exact DFit.nil | refine DFit.cons (by first | rfl | (simp [slook]; done) | (simp [slook]; omega)) ?_))) ?_⟩
    · omega
    · omega
    · rw [← ht, l3_full]; (repeat (first | exact True.intro | refine And.intro (by first | rfl | (simp [look]; done)) ?_))
  refine T.skip ?_
  refine hK44 _ ?_
  refine T.seqK fun K45 hK45 => ?_
  refine T.block ?_
  refine T.sregD 84 [0, 1, 4, 5, 6, 7, 8, 9, 10, 11, 16, 23, 27, 37, 70] fun Kr hKr => ?_
  simp only [go_sem, reduceCtorEq, Nat.reduceEqDiff, Nat.reduceBEq, Nat.reduceAdd, Nat.reduceMul, Nat.reduceLeDiff, Nat.reduceSub, Int.reduceToNat, Int.reduceNeg, Nat.reduceLT, Int.reduceMul, Int.reduceSub, Int.reduceAdd, Int.reduceLT, Int.reduceLE, Int.reduceGE, Int.reduceGT, Int.reduceDiv, Int.reduceMod, Int.reduceEq, Int.reducePow, Nat.reducePow, Nat.reduceDiv, Nat.reduceMod]
  (repeat (refine ⟨by (first | exact True.intro | omega | rfl | (simp; done) | (simp; omega)), ?_⟩)); try (refine hKr _ ?_; clear hKr Kr)
  refine T.seqK fun K46 hK46 => ?_
  refine T.sregD 84 [0, 1, 4, 5, 6, 7, 8, 9, 10, 11, 16, 23, 27, 37, 70] fun Kr hKr => ?_
  simp only [go_sem, reduceCtorEq, Nat.reduceEqDiff, Nat.reduceBEq, Nat.reduceAdd, Nat.reduceMul, Nat.reduceLeDiff, Nat.reduceSub, Int.reduceToNat, Int.reduceNeg, Nat.reduceLT, Int.reduceMul, Int.reduceSub, Int.reduceAdd, Int.reduceLT, Int.reduceLE, Int.reduceGE, Int.reduceGT, Int.reduceDiv, Int.reduceMod, Int.reduceEq, Int.reducePow, Nat.reducePow, Nat.reduceDiv, Nat.reduceMod]
  (repeat (refine ⟨by (first | exact True.intro | omega | rfl | (simp; done) | (simp; omega)), ?_⟩)); try (refine hKr _ ?_; clear hKr Kr)
  have hs3 := l3_step l n i j t k
  generalize l3 l n i j t k = M at *
  refine T.bloop (fun q : Nat => ⟨dense 84 [(0, .sl false 3 (u3sOf l)), (1, .int .i64 n), (4, .op 4 0 0), (5, .op 5 0 0), (6, .int .i64 i), (7, .int .i64 t), (8, .int .i64 k), (9, .bool (hK l n i t k q)), (10, .int .i64 q)], [(4, ⟨2, 30, true, [.agg [.int .i64 0, .sl true 1 []]]⟩), (5, ⟨2, 30, true, [.agg [.int .i64 n, .osl 81 0 M.length]]⟩), (81, ⟨4, 49, false, edgesOf M⟩)]⟩) (fun q => q ≤ l.length ∧ q ≤ 14) (fun q => 14 - q) 0 (by simp) ?_ fun q hq => ?_
  · refine Le.fitS (by (repeat (first | exact DFit.nil | refine DFit.cons (by first | rfl | (simp [slook, hK]; done) | (simp [slook, hK]; omega)) ?_))) (by (repeat (first | exact True.intro | refine And.intro (by first | rfl | (simp [look]; done)) ?_)))
  obtain ⟨hq, hq14⟩ := hq
  refine T.seqK fun K47 hK47 => ?_
  refine T.sregD 84 [0, 1, 4, 5, 6, 7, 8, 9, 10, 11, 16, 23, 27, 37, 70] fun Kr hKr => ?_
  simp only [go_sem, reduceCtorEq, Nat.reduceEqDiff, Nat.reduceBEq, Nat.reduceAdd, Nat.reduceMul, Nat.reduceLeDiff, Nat.reduceSub, Int.reduceToNat, Int.reduceNeg, Nat.reduceLT, Int.reduceMul, Int.reduceSub, Int.reduceAdd, Int.reduceLT, Int.reduceLE, Int.reduceGE, Int.reduceGT, Int.reduceDiv, Int.reduceMod, Int.reduceEq, Int.reducePow, Nat.reducePow, Nat.reduceDiv, Nat.reduceMod]
  (repeat (refine ⟨by (first | exact True.intro | omega | rfl | (simp; done) | (simp; omega)), ?_⟩)); try (refine hKr _ ?_; clear hKr Kr)
  refine T.condFD rfl rfl (fun he => ?_) (fun he => ?_)
  · -- no: exit
    have he' : ¬ (q < l.length ∧ q < 14) := fun ⟨h1, h2⟩ => by
      have a1 : decide ((q : Int) < (l.length : Int)) = true := by simp; omega
      have a2 : decide ((q : Int) < 14) = true := by simp; omega
      rw [a1, a2] at he; simp at he
    have hfin : hK l n i t k q = hasE l n i t k := by
      unfold hK hasE
      by_cases h : q = 14
      · rw [h]
      · rw [show q = l.length by omega, List.take_length, List.take_of_length_le (show l.length ≤ 14 by omega)]
    refine T.exit ?_
    simp only [if_true]
    refine hK46 _ ?_
    rw [hfin]
    refine T.sregD 84 [0, 1, 4, 5, 6, 7, 8, 9, 10, 11, 16, 23, 27, 37, 70] fun Kr hKr => ?_
    simp only [go_sem, reduceCtorEq, Nat.reduceEqDiff, Nat.reduceBEq, Nat.reduceAdd, Nat.reduceMul, Nat.reduceLeDiff, Nat.reduceSub, Int.reduceToNat, Int.reduceNeg, Nat.reduceLT, Int.reduceMul, Int.reduceSub, Int.reduceAdd, Int.reduceLT, Int.reduceLE, Int.reduceGE, Int.reduceGT, Int.reduceDiv, Int.reduceMod, Int.reduceEq, Int.reducePow, Nat.reducePow, Nat.reduceDiv, Nat.reduceMod]
    (repeat (refine ⟨by (first | exact True.intro | omega | rfl | (simp; done) | (simp; omega)), ?_⟩)); try (refine hKr _ ?_; clear hKr Kr)
    refine T.condTD rfl rfl (fun hf => ?_) (fun hf => ?_)
    · -- yes
      have hstep : l3 l n i j t (k + 1) = M ++ [⟨i, t, k, i + k⟩] := by rw [hs3, e0, if_pos hf]
      refine T.regD 84 [0, 1, 4, 5, 6, 7, 8, 9, 10, 11, 16, 23, 27, 37, 70] fun Kr hKr => ?_
      simp only [go_sem, reduceCtorEq, Nat.reduceEqDiff, Nat.reduceBEq, Nat.reduceAdd, Nat.reduceMul, Nat.reduceLeDiff, Nat.reduceSub, Int.reduceToNat, Int.reduceNeg, Nat.reduceLT, Int.reduceMul, Int.reduceSub, Int.reduceAdd, Int.reduceLT, Int.reduceLE, Int.reduceGE, Int.reduceGT, Int.reduceDiv, Int.reduceMod, Int.reduceEq, Int.reducePow, Nat.reducePow, Nat.reduceDiv, Nat.reduceMod]
      (repeat (refine ⟨by (first | exact True.intro | omega | rfl | (simp; done) | (simp; omega)), ?_⟩)); try (refine hKr _ ?_; clear hKr Kr)
      refine hK45 _ ?_
      refine T.regD 84 [0, 1, 4, 5, 6, 7, 8, 9, 10, 11, 16, 23, 27, 37, 70] fun Kr hKr => ?_
      simp only [go_sem, reduceCtorEq, Nat.reduceEqDiff, Nat.reduceBEq, Nat.reduceAdd, Nat.reduceMul, Nat.reduceLeDiff, Nat.reduceSub, Int.reduceToNat, Int.reduceNeg, Nat.reduceLT, Int.reduceMul, Int.reduceSub, Int.reduceAdd, Int.reduceLT, Int.reduceLE, Int.reduceGE, Int.reduceGT, Int.reduceDiv, Int.reduceMod, Int.reduceEq, Int.reducePow, Nat.reducePow, Nat.reduceDiv, Nat.reduceMod]
      (repeat (refine ⟨by (first | exact True.intro | omega | rfl | (simp; done) | (simp; omega)), ?_⟩)); try (refine hKr _ ?_; clear hKr Kr)
      refine ⟨k + 1, ?_, ?_, Le.fitS (by (repeat (first | exact DFit.nil | refine DFit.cons (by first | rfl | (simp [slook]; done) | (simp [slook]; omega)) ?_))) ?_⟩
      · omega
      · omega
      · simp only [hstep, edgesOf_app, List.length_append, List.length_singleton]; (repeat (first | exact True.intro | refine And.intro (by first | rfl | (simp [look]; done)) ?_))
    have hstep : l3 l n i j t (k + 1) = M := by rw [hs3, e0, if_neg (by simp [hf]), List.append_nil]
    refine T.skip ?_
    refine hK45 _ ?_
    refine T.regD 84 [0, 1, 4, 5, 6, 7, 8, 9, 10, 11, 16, 23, 27, 37, 70] fun Kr hKr => ?_
    simp only [go_sem, reduceCtorEq, Nat.reduceEqDiff, Nat.reduceBEq, Nat.reduceAdd, Nat.reduceMul, Nat.reduceLeDiff, Nat.reduceSub, Int.reduceToNat, Int.reduceNeg, Nat.reduceLT, Int.reduceMul, Int.reduceSub, Int.reduceAdd, Int.reduceLT, Int.reduceLE, Int.reduceGE, Int.reduceGT, Int.reduceDiv, Int.reduceMod, Int.reduceEq, Int.reducePow, Nat.reducePow, Nat.reduceDiv, Nat.reduceMod]
    (repeat (refine ⟨by (first | exact True.intro | omega | rfl | (simp; done) | (simp; omega)), ?_⟩)); try (refine hKr _ ?_; clear hKr Kr)
    refine ⟨k + 1, ?_, ?_, Le.fitS (by (repeat (first | exact DFit.nil | refine DFit.cons (by first | rfl | (simp [slook]; done) | (simp [slook]; omega)) ?_))) ?_⟩
    · omega
    · omega
    · simp only [hstep]; (repeat (first | exact True.intro | refine And.intro (by first | rfl | (simp [look]; done)) ?_))
  have he' : q < l.length ∧ q < 14 := by
    by_cases h1 : q < l.length
    · by_cases h2 : q < 14
      · exact ⟨h1, h2⟩
      · have a1 : decide ((q : Int) < (l.length : Int)) = true := by simp; omega
        have a2 : decide ((q : Int) < 14) = false := by simp; omega
        rw [a1, a2] at he; simp at he
    · have a1 : decide ((q : Int) < (l.length : Int)) = false := by simp; omega
      rw [a1] at he; simp at he
  obtain ⟨hq1, hq5⟩ := he'
  refine T.skip ?_
  refine hK47 _ ?_
  refine T.seqK fun K48 hK48 => ?_
  refine T.block ?_
  have hst := hK_succ hq1 n i t k
  generalize hxe : l.getD q default = x at *
  have hxc := x.c.toNat_lt
  have hc3 : ((x.c.toNat : Int) % 3) = ((x.c.toNat % 3 : Nat) : Int) := by simp
  generalize hK l n i t k q = hh at *
  refine T.sregD 84 [0, 1, 4, 5, 6, 7, 8, 9, 10, 11, 16, 23, 27, 37, 70] fun Kr hKr => ?_
  simp only [go_sem, reduceCtorEq, Nat.reduceEqDiff, Nat.reduceBEq, Nat.reduceAdd, Nat.reduceMul, Nat.reduceLeDiff, Nat.reduceSub, Int.reduceToNat, Int.reduceNeg, Nat.reduceLT, Int.reduceMul, Int.reduceSub, Int.reduceAdd, Int.reduceLT, Int.reduceLE, Int.reduceGE, Int.reduceGT, Int.reduceDiv, Int.reduceMod, Int.reduceEq, Int.reducePow, Nat.reducePow, Nat.reduceDiv, Nat.reduceMod, hq1, hxe]
  (repeat (refine ⟨by (first | exact True.intro | omega | rfl | (simp; done) | (simp; omega)), ?_⟩)); try (refine hKr _ ?_; clear hKr Kr)
  refine CallK.data (fun _ => Spec.args (mkPin_spec x.a x.b x.c n hn0 (by omega)) (by (first | exact ArgsLe.refl | (repeat (first | exact True.intro | refine And.intro (by first | exact AvLe.refl | exact AvLe.loose | exact AvLe.nil | exact AvLe.nilT | (refine AvLe.agg ?_; exact ArgsLe.refl) | (refine AvLe.agg ?_; (repeat (first | exact True.intro | refine And.intro (by first | exact AvLe.refl | exact AvLe.loose | exact AvLe.nil | exact AvLe.nilT) ?_)))) ?_))))) rfl ?_
  simp only [go_sem, reduceCtorEq, Nat.reduceEqDiff, Nat.reduceBEq, Nat.reduceAdd, Nat.reduceMul, Nat.reduceLeDiff, Nat.reduceSub, Int.reduceToNat, Int.reduceNeg, Nat.reduceLT, Int.reduceMul, Int.reduceSub, Int.reduceAdd, Int.reduceLT, Int.reduceLE, Int.reduceGE, Int.reduceGT, Int.reduceDiv, Int.reduceMod, Int.reduceEq, Int.reducePow, Nat.reducePow, Nat.reduceDiv, Nat.reduceMod]
  (repeat (refine ⟨by (first | exact True.intro | omega | rfl | (simp; done) | (simp; omega)), ?_⟩)); try (refine hKr _ ?_; clear hKr Kr)
  refine T.regD 84 [0, 1, 4, 5, 6, 7, 8, 9, 10, 11, 16, 23, 27, 37, 70] fun Kr hKr => ?_
  simp only [go_sem, reduceCtorEq, Nat.reduceEqDiff, Nat.reduceBEq, Nat.reduceAdd, Nat.reduceMul, Nat.reduceLeDiff, Nat.reduceSub, Int.reduceToNat, Int.reduceNeg, Nat.reduceLT, Int.reduceMul, Int.reduceSub, Int.reduceAdd, Int.reduceLT, Int.reduceLE, Int.reduceGE, Int.reduceGT, Int.reduceDiv, Int.reduceMod, Int.reduceEq, Int.reducePow, Nat.reducePow, Nat.reduceDiv, Nat.reduceMod, hq1, hxe, hc3]
  (repeat (refine ⟨by (first | exact True.intro | omega | rfl | (simp; done) | (simp; omega)), ?_⟩)); try (refine hKr _ ?_; clear hKr Kr)
  refine hK48 _ ?_
  refine T.regD 84 [0, 1, 4, 5, 6, 7, 8, 9, 10, 11, 16, 23, 27, 37, 70] fun Kr hKr => ?_
  simp only [go_sem, reduceCtorEq, Nat.reduceEqDiff, Nat.reduceBEq, Nat.reduceAdd, Nat.reduceMul, Nat.reduceLeDiff, Nat.reduceSub, Int.reduceToNat, Int.reduceNeg, Nat.reduceLT, Int.reduceMul, Int.reduceSub, Int.reduceAdd, Int.reduceLT, Int.reduceLE, Int.reduceGE, Int.reduceGT, Int.reduceDiv, Int.reduceMod, Int.reduceEq, Int.reducePow, Nat.reducePow, Nat.reduceDiv, Nat.reduceMod]
  (repeat (refine ⟨by (first | exact True.intro | omega | rfl | (simp; done) | (simp; omega)), ?_⟩)); try (refine hKr _ ?_; clear hKr Kr)
  have hst2 : hK l n i t k (q + 1) = (bif hh then true else bif (bif decide ((mkPin x.a x.b x.c n).f = (i : Int)) then decide ((mkPin x.a x.b x.c n).t = (t : Int)) else false) then decide (((x.c.toNat % 3 : Nat) : Int) = (k : Int)) else false) := hst
  refine ⟨q + 1, ?_, ?_, Le.fitS (by (repeat (first | exact DFit.nil | refine DFit.cons (by first | rfl | (simp [slook, hst2]; done) | (simp [slook, hst2]; omega)) ?_))) ?_⟩
  · omega
  · omega
  · (repeat (first | exact True.intro | refine And.intro (by first | rfl | (simp [look]; done)) ?_))
end Go.Proofs
