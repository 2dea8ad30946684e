/- Devices: the reference's agree. -/
import Derived.Test.YtdhkkdhooobdhaaGreatDoorGG
set_option linter.unusedVariables false
set_option linter.unusedSimpArgs false
namespace Go.Proofs
open Go Go.Ideal
set_option maxRecDepth 8000
set_option maxHeartbeats 4000000

def badR (r q : Rec) : Bool := decide (q.d = r.d) && decide (q.s = r.s) && decide (q ≠ r)
def badX (r : Rec) (q : Ord) : Bool := decide (q.d = r.d) && decide (q.s = r.s)
def badO (r q : Ord) : Bool := decide (q.d = r.d) && decide (q.s = r.s) && decide (q ≠ r)
def bad1 (b : Usr) (r : Rec) : Bool := b.r.any (badR r) || b.o.any (badX r)
def bad2 (b : Usr) (o : Ord) : Bool := b.o.any (badO o)
theorem agree_def (a b : Usr) : agreeB a b = !(a.r.any (bad1 b) || a.o.any (bad2 b)) := by
  unfold agreeB bad1 bad2
  simp only [Bool.not_or, List.not_any_eq_all_not]
  rfl
theorem any_next {α : Type} [Inhabited α] {q : α → Bool} {l : List α} {i : Nat} (hi : i < l.length) (hn : (l.take i).any q = false) (h : q (l.getD i default) = false) : (l.take (i + 1)).any q = false := by
  rw [take_succ_d hi, List.any_append, hn, List.any_cons, h]; rfl
theorem any_here {α : Type} [Inhabited α] {q : α → Bool} {l : List α} {i : Nat} (hi : i < l.length) (h : q (l.getD i default) = true) : l.any q = true := by
  rw [List.any_eq_true]; exact ⟨_, by simp [List.getD, hi], h⟩
theorem agree_spec (a b : Usr) (ha : a.l.length = 8) (hB : b.l.length = 8) (l1 : a.r.length ≤ 100000) (l2 : a.o.length ≤ 100000) (l3 : b.r.length ≤ 100000) (l4 : b.o.length ≤ 100000) : Ideal.Spec Tryz.prog 71 [usrA a, usrA b] (.bool (agreeB a b)) none := by
  have hd := agree_def a b
  refine Ideal.Spec.of_TD (n := 123) (fn := Tryz.f71) rfl rfl rfl rfl rfl rfl rfl fun w ok => ?_
  refine T.sregD 123 [0, 1, 2, 3, 4, 5, 6, 7, 8, 9, 10, 11, 12, 13, 18, 30, 54, 59, 81, 86, 98, 122] fun Kr hKr => ?_
  simp only [go_sem, ha, hB]
  (repeat (refine ⟨by (first | exact True.intro | omega | rfl | (simp; done) | (simp; omega)), ?_⟩)); try (refine hKr _ ?_; clear hKr Kr)
  refine T.seqK fun K112 hK112 => ?_
  refine T.sregD 123 [0, 1, 2, 3, 4, 5, 6, 7, 8, 9, 10, 11, 12, 13, 18, 30, 54, 59, 81, 86, 98, 122] fun Kr hKr => ?_
  simp only [go_sem]
  (repeat (refine ⟨by (first | exact True.intro | omega | rfl | (simp; done) | (simp; omega)), ?_⟩)); try (refine hKr _ ?_; clear hKr Kr)
  refine T.bloop (fun i : Nat => ⟨dense 123 [(2, .op 2 0 0), (3, .op 3 0 0), (5, .int .i64 i)], [(3, ⟨10, 29, true, [usrA b]⟩), (2, ⟨10, 29, true, [usrA a]⟩)]⟩) (fun i => i ≤ a.r.length ∧ (a.r.take i).any (bad1 b) = false) (fun i => a.r.length - i) 0 (by simp) ?_ fun i hi => ?_
  · refine Le.fitS (by (repeat (first | exact DFit.nil | refine DFit.cons (by first | rfl | (simp [slook]; done) | (simp [slook]; omega)) ?_))) (by (repeat (first | exact True.intro | refine And.intro (by first | rfl | (simp [look]; done)) ?_)))
  obtain ⟨hi, hni⟩ := hi
  refine T.seqK fun K113 hK113 => ?_
  refine T.sregD 123 [0, 1, 2, 3, 4, 5, 6, 7, 8, 9, 10, 11, 12, 13, 18, 30, 54, 59, 81, 86, 98, 122] fun Kr hKr => ?_
  simp only [go_sem]
  (repeat (refine ⟨by (first | exact True.intro | omega | rfl | (simp; done) | (simp; omega)), ?_⟩)); try (refine hKr _ ?_; clear hKr Kr)
  refine T.condFD rfl rfl (fun hb => ?_) (fun hb => ?_) <;> simp at hb
  · -- no: exit
    refine T.exit ?_
    simp only [if_true]
    refine hK112 _ ?_
    have hie : i = a.r.length := by omega
    subst hie
    rw [List.take_length] at hni
    rw [hni, Bool.false_or] at hd
    refine T.seqK fun K114 hK114 => ?_
    refine T.sregD 123 [0, 1, 2, 3, 4, 5, 6, 7, 8, 9, 10, 11, 12, 13, 18, 30, 54, 59, 81, 86, 98, 122] fun Kr hKr => ?_
    simp only [go_sem]
    (repeat (refine ⟨by (first | exact True.intro | omega | rfl | (simp; done) | (simp; omega)), ?_⟩)); try (refine hKr _ ?_; clear hKr Kr)
    refine T.bloop (fun i : Nat => ⟨dense 123 [(2, .op 2 0 0), (3, .op 3 0 0), (10, .int .i64 i)], [(3, ⟨10, 29, true, [usrA b]⟩), (2, ⟨10, 29, true, [usrA a]⟩)]⟩) (fun i => i ≤ a.o.length ∧ (a.o.take i).any (bad2 b) = false) (fun i => a.o.length - i) 0 (by simp) ?_ fun i hi => ?_
    · refine Le.fitS (by (repeat (first | exact DFit.nil | refine DFit.cons (by first | rfl | (simp [slook]; done) | (simp [slook]; omega)) ?_))) (by (repeat (first | exact True.intro | refine And.intro (by first | rfl | (simp [look]; done)) ?_)))
    obtain ⟨hi, hni⟩ := hi
    refine T.seqK fun K115 hK115 => ?_
    refine T.sregD 123 [0, 1, 2, 3, 4, 5, 6, 7, 8, 9, 10, 11, 12, 13, 18, 30, 54, 59, 81, 86, 98, 122] fun Kr hKr => ?_
    simp only [go_sem]
    (repeat (refine ⟨by (first | exact True.intro | omega | rfl | (simp; done) | (simp; omega)), ?_⟩)); try (refine hKr _ ?_; clear hKr Kr)
    refine T.condFD rfl rfl (fun hb => ?_) (fun hb => ?_) <;> simp at hb
    · -- no: exit
      refine T.exit ?_
      simp only [if_true]
      refine hK114 _ ?_
      have hie : i = a.o.length := by omega
      subst hie
      rw [List.take_length] at hni
      rw [hni] at hd
      refine T.sregD 123 [0, 1, 2, 3, 4, 5, 6, 7, 8, 9, 10, 11, 12, 13, 18, 30, 54, 59, 81, 86, 98, 122] fun Kr hKr => ?_
      simp only [go_sem]
      (repeat (refine ⟨by (first | exact True.intro | omega | rfl | (simp; done) | (simp; omega)), ?_⟩)); try (refine hKr _ ?_; clear hKr Kr)
      refine T.ret (Fin.dataD (by rw [hd]; rfl) rfl rfl)
    refine T.skip ?_
    refine hK115 _ ?_
    refine T.seqK fun K116 hK116 => ?_
    refine T.block ?_
    refine T.sregD 123 [0, 1, 2, 3, 4, 5, 6, 7, 8, 9, 10, 11, 12, 13, 18, 30, 54, 59, 81, 86, 98, 122] fun Kr hKr => ?_
    simp only [go_sem, hb]
    (repeat (refine ⟨by (first | exact True.intro | omega | rfl | (simp; done) | (simp; omega)), ?_⟩)); try (refine hKr _ ?_; clear hKr Kr)
    refine T.sregD 123 [0, 1, 2, 3, 4, 5, 6, 7, 8, 9, 10, 11, 12, 13, 18, 30, 54, 59, 81, 86, 98, 122] fun Kr hKr => ?_
    simp only [go_sem]
    (repeat (refine ⟨by (first | exact True.intro | omega | rfl | (simp; done) | (simp; omega)), ?_⟩)); try (refine hKr _ ?_; clear hKr Kr)
    refine T.bloop (fun j : Nat => ⟨dense 123 [(2, .op 2 0 0), (3, .op 3 0 0), (10, .int .i64 i), (11, .op 11 0 0), (12, .int .i64 j)], [(11, ⟨7, 70, true, [ordA (a.o.getD i default)]⟩), (3, ⟨10, 29, true, [usrA b]⟩), (2, ⟨10, 29, true, [usrA a]⟩)]⟩) (fun j => j ≤ b.o.length ∧ (b.o.take j).any (badO (a.o.getD i default)) = false) (fun j => b.o.length - j) 0 (by simp) ?_ fun j hj => ?_
    · refine Le.fitS (by (repeat (first | exact DFit.nil | refine DFit.cons (by first | rfl | (simp [slook]; done) | (simp [slook]; omega)) ?_))) (by (repeat (first | exact True.intro | refine And.intro (by first | rfl | (simp [look]; done)) ?_)))
    obtain ⟨hj, hnj⟩ := hj
    refine T.seqK fun K117 hK117 => ?_
    refine T.sregD 123 [0, 1, 2, 3, 4, 5, 6, 7, 8, 9, 10, 11, 12, 13, 18, 30, 54, 59, 81, 86, 98, 122] fun Kr hKr => ?_
    simp only [go_sem]
    (repeat (refine ⟨by (first | exact True.intro | omega | rfl | (simp; done) | (simp; omega)), ?_⟩)); try (refine hKr _ ?_; clear hKr Kr)
    refine T.condFD rfl rfl (fun hc => ?_) (fun hc => ?_) <;> simp at hc
    · -- no: exit
      refine T.exit ?_
      simp only [if_true]
      refine hK116 _ ?_
      have hje : j = b.o.length := by omega
      subst hje
      rw [List.take_length] at hnj
      refine T.regD 123 [0, 1, 2, 3, 4, 5, 6, 7, 8, 9, 10, 11, 12, 13, 18, 30, 54, 59, 81, 86, 98, 122] fun Kr hKr => ?_
      simp only [go_sem]
      (repeat (refine ⟨by (first | exact True.intro | omega | rfl | (simp; done) | (simp; omega)), ?_⟩)); try (refine hKr _ ?_; clear hKr Kr)
      refine ⟨i + 1, ?_, ?_, Le.fitS (by (repeat (first | exact DFit.nil | refine DFit.cons (by first | rfl | (simp [slook]; done) | (simp [slook]; omega)) ?_))) ?_⟩
      · exact ⟨by omega, any_next hb hni hnj⟩
      · omega
      · (repeat (first | exact True.intro | refine And.intro (by first | rfl | (simp [look]; done)) ?_))
    refine T.skip ?_
    refine hK117 _ ?_
    refine T.seqK fun K118 hK118 => ?_
    refine T.block ?_
    have hq : badO (a.o.getD i default) (b.o.getD j default) = (bif (bif decide ((b.o.getD j default).d = (a.o.getD i default).d) then decide ((b.o.getD j default).s = (a.o.getD i default).s) else false) then !decide (b.o.getD j default = a.o.getD i default) else false) := by
      unfold badO; rw [cond_and, cond_and]; simp
    have hq1 := any_next hc hnj
    have hq2 := any_here (q := badO (a.o.getD i default)) hc
    have hq3 := any_here (q := bad2 b) hb
    refine T.sregD 123 [0, 1, 2, 3, 4, 5, 6, 7, 8, 9, 10, 11, 12, 13, 18, 30, 54, 59, 81, 86, 98, 122] fun Kr hKr => ?_
    simp only [go_sem, hc]
    (repeat (refine ⟨by (first | exact True.intro | omega | rfl | (simp; done) | (simp; omega)), ?_⟩)); try (refine hKr _ ?_; clear hKr Kr)
    generalize a.o.getD i default = x at *
    generalize b.o.getD j default = y at *
    refine T.sregD 123 [0, 1, 2, 3, 4, 5, 6, 7, 8, 9, 10, 11, 12, 13, 18, 30, 54, 59, 81, 86, 98, 122] fun Kr hKr => ?_
    simp only [go_sem]
    (repeat (refine ⟨by (first | exact True.intro | omega | rfl | (simp; done) | (simp; omega)), ?_⟩)); try (refine hKr _ ?_; clear hKr Kr)
    rw [eqO_eq, ← hq]
    cases hbad : badO x y with
    | true =>
      refine T.condTD rfl rfl (fun hz => ?_) (fun hz => ?_) <;> try simp at hz
      rw [hq3 (by unfold bad2; exact hq2 hbad)] at hd
      refine T.sregD 123 [0, 1, 2, 3, 4, 5, 6, 7, 8, 9, 10, 11, 12, 13, 18, 30, 54, 59, 81, 86, 98, 122] fun Kr hKr => ?_
      simp only [go_sem]
      (repeat (refine ⟨by (first | exact True.intro | omega | rfl | (simp; done) | (simp; omega)), ?_⟩)); try (refine hKr _ ?_; clear hKr Kr)
      refine T.ret (Fin.dataD (by rw [hd]; rfl) rfl rfl)
    | false =>
      refine T.condTD rfl rfl (fun hz => ?_) (fun hz => ?_) <;> try simp at hz
      refine T.skip ?_
      refine hK118 _ ?_
      refine T.regD 123 [0, 1, 2, 3, 4, 5, 6, 7, 8, 9, 10, 11, 12, 13, 18, 30, 54, 59, 81, 86, 98, 122] fun Kr hKr => ?_
      simp only [go_sem]
      (repeat (refine ⟨by (first | exact True.intro | omega | rfl | (simp; done) | (simp; omega)), ?_⟩)); try (refine hKr _ ?_; clear hKr Kr)
      refine ⟨j + 1, ?_, ?_, Le.fitS (by (repeat (first | exact DFit.nil | refine DFit.cons (by first | rfl | (simp [slook]; done) | (simp [slook]; omega)) ?_))) ?_⟩
      · exact ⟨by omega, hq1 hbad⟩
      · omega
      · (repeat (first | exact True.intro | refine And.intro (by first | rfl | (simp [look]; done)) ?_))
  refine T.skip ?_
  refine hK113 _ ?_
  refine T.seqK fun K119 hK119 => ?_
  refine T.block ?_
  refine T.sregD 123 [0, 1, 2, 3, 4, 5, 6, 7, 8, 9, 10, 11, 12, 13, 18, 30, 54, 59, 81, 86, 98, 122] fun Kr hKr => ?_
  simp only [go_sem, hb]
  (repeat (refine ⟨by (first | exact True.intro | omega | rfl | (simp; done) | (simp; omega)), ?_⟩)); try (refine hKr _ ?_; clear hKr Kr)
  refine T.seqK fun K120 hK120 => ?_
  refine T.sregD 123 [0, 1, 2, 3, 4, 5, 6, 7, 8, 9, 10, 11, 12, 13, 18, 30, 54, 59, 81, 86, 98, 122] fun Kr hKr => ?_
  simp only [go_sem]
  (repeat (refine ⟨by (first | exact True.intro | omega | rfl | (simp; done) | (simp; omega)), ?_⟩)); try (refine hKr _ ?_; clear hKr Kr)
  have hb3 := any_here (q := bad1 b) hb
  have hb1 := any_next hb hni
  refine T.bloop (fun j : Nat => ⟨dense 123 [(2, .op 2 0 0), (3, .op 3 0 0), (5, .int .i64 i), (6, .op 6 0 0), (7, .int .i64 j)], [(6, ⟨6, 39, true, [recA (a.r.getD i default)]⟩), (3, ⟨10, 29, true, [usrA b]⟩), (2, ⟨10, 29, true, [usrA a]⟩)]⟩) (fun j => j ≤ b.r.length ∧ (b.r.take j).any (badR (a.r.getD i default)) = false) (fun j => b.r.length - j) 0 (by simp) ?_ fun j hj => ?_
  · refine Le.fitS (by (repeat (first | exact DFit.nil | refine DFit.cons (by first | rfl | (simp [slook]; done) | (simp [slook]; omega)) ?_))) (by (repeat (first | exact True.intro | refine And.intro (by first | rfl | (simp [look]; done)) ?_)))
  generalize a.r.getD i default = x at *
  obtain ⟨hj, hnj⟩ := hj
  refine T.seqK fun K121 hK121 => ?_
  refine T.sregD 123 [0, 1, 2, 3, 4, 5, 6, 7, 8, 9, 10, 11, 12, 13, 18, 30, 54, 59, 81, 86, 98, 122] fun Kr hKr => ?_
  simp only [go_sem]
  (repeat (refine ⟨by (first | exact True.intro | omega | rfl | (simp; done) | (simp; omega)), ?_⟩)); try (refine hKr _ ?_; clear hKr Kr)
  refine T.condFD rfl rfl (fun hc => ?_) (fun hc => ?_) <;> simp at hc
  · -- no: exit
    refine T.exit ?_
    simp only [if_true]
    refine hK120 _ ?_
    have hje : j = b.r.length := by omega
    subst hje
    rw [List.take_length] at hnj
    refine T.sregD 123 [0, 1, 2, 3, 4, 5, 6, 7, 8, 9, 10, 11, 12, 13, 18, 30, 54, 59, 81, 86, 98, 122] fun Kr hKr => ?_
    simp only [go_sem]
    (repeat (refine ⟨by (first | exact True.intro | omega | rfl | (simp; done) | (simp; omega)), ?_⟩)); try (refine hKr _ ?_; clear hKr Kr)
    refine T.bloop (fun j : Nat => ⟨dense 123 [(2, .op 2 0 0), (3, .op 3 0 0), (5, .int .i64 i), (6, .op 6 0 0), (9, .int .i64 j)], [(6, ⟨6, 39, true, [recA x]⟩), (3, ⟨10, 29, true, [usrA b]⟩), (2, ⟨10, 29, true, [usrA a]⟩)]⟩) (fun j => j ≤ b.o.length ∧ (b.o.take j).any (badX x) = false) (fun j => b.o.length - j) 0 (by simp) ?_ fun p hp => ?_
    · refine Le.fitS (by (repeat (first | exact DFit.nil | refine DFit.cons (by first | rfl | (simp [slook]; done) | (simp [slook]; omega)) ?_))) (by (repeat (first | exact True.intro | refine And.intro (by first | rfl | (simp [look]; done)) ?_)))
    obtain ⟨hp, hnp⟩ := hp
    refine T.seqK fun K122 hK122 => ?_
    refine T.sregD 123 [0, 1, 2, 3, 4, 5, 6, 7, 8, 9, 10, 11, 12, 13, 18, 30, 54, 59, 81, 86, 98, 122] fun Kr hKr => ?_
    simp only [go_sem]
    (repeat (refine ⟨by (first | exact True.intro | omega | rfl | (simp; done) | (simp; omega)), ?_⟩)); try (refine hKr _ ?_; clear hKr Kr)
    refine T.condFD rfl rfl (fun hc => ?_) (fun hc => ?_) <;> simp at hc
    · -- no: exit
      refine T.exit ?_
      simp only [if_true]
      refine hK119 _ ?_
      have hpe : p = b.o.length := by omega
      subst hpe
      rw [List.take_length] at hnp
      refine T.regD 123 [0, 1, 2, 3, 4, 5, 6, 7, 8, 9, 10, 11, 12, 13, 18, 30, 54, 59, 81, 86, 98, 122] fun Kr hKr => ?_
      simp only [go_sem]
      (repeat (refine ⟨by (first | exact True.intro | omega | rfl | (simp; done) | (simp; omega)), ?_⟩)); try (refine hKr _ ?_; clear hKr Kr)
      refine ⟨i + 1, ?_, ?_, Le.fitS (by (repeat (first | exact DFit.nil | refine DFit.cons (by first | rfl | (simp [slook]; done) | (simp [slook]; omega)) ?_))) ?_⟩
      · exact ⟨by omega, hb1 (by unfold bad1; rw [hnj, hnp]; rfl)⟩
      · omega
      · (repeat (first | exact True.intro | refine And.intro (by first | rfl | (simp [look]; done)) ?_))
    refine T.skip ?_
    refine hK122 _ ?_
    refine T.seqK fun K123 hK123 => ?_
    refine T.block ?_
    have hq : badX x (b.o.getD p default) = (bif decide ((b.o.getD p default).d = x.d) then decide ((b.o.getD p default).s = x.s) else false) := by
      unfold badX; rw [cond_and]
    have hq1 := any_next hc hnp
    have hq2 := any_here (q := badX x) hc
    refine T.sdrawD 123 [0, 1, 2, 3, 4, 5, 6, 7, 8, 9, 10, 11, 12, 13, 18, 30, 54, 59, 81, 86, 98, 122] (.take 0 (.take 1 (.take 2 (.take 3 (.take 4 (.take 5 (.take 6 (.take 7 (.take 8 (.take 9 (.take 10 (.take 11 (.take 12 (.take 13 (.take 14 (.take 15 (.take 16 (.take 17 (.take 18 (.take 19 .done)))))))))))))))))))) [3, 6] rfl (by decide +kernel) (by decide +kernel) fun Kr hKr => ?_
    simp only [go_sem, hc]
    (repeat (refine ⟨by (first | exact True.intro | omega | rfl | (simp; done) | (simp; omega)), ?_⟩)); try (refine hKr _ ?_; clear hKr Kr)
    rw [← hq]
    cases hbad : badX x (b.o.getD p default) with
    | true =>
      refine T.condTD rfl rfl (fun hz => ?_) (fun hz => ?_) <;> try simp at hz
      rw [hb3 (by unfold bad1; rw [hq2 hbad, Bool.or_true])] at hd
      refine T.sregD 123 [0, 1, 2, 3, 4, 5, 6, 7, 8, 9, 10, 11, 12, 13, 18, 30, 54, 59, 81, 86, 98, 122] fun Kr hKr => ?_
      simp only [go_sem]
      (repeat (refine ⟨by (first | exact True.intro | omega | rfl | (simp; done) | (simp; omega)), ?_⟩)); try (refine hKr _ ?_; clear hKr Kr)
      refine T.ret (Fin.dataD (by rw [hd]; rfl) rfl rfl)
    | false =>
      refine T.condTD rfl rfl (fun hz => ?_) (fun hz => ?_) <;> try simp at hz
      refine T.skip ?_
      refine hK123 _ ?_
      refine T.regD 123 [0, 1, 2, 3, 4, 5, 6, 7, 8, 9, 10, 11, 12, 13, 18, 30, 54, 59, 81, 86, 98, 122] fun Kr hKr => ?_
      simp only [go_sem]
      (repeat (refine ⟨by (first | exact True.intro | omega | rfl | (simp; done) | (simp; omega)), ?_⟩)); try (refine hKr _ ?_; clear hKr Kr)
      refine ⟨p + 1, ?_, ?_, Le.fitS (by (repeat (first | exact DFit.nil | refine DFit.cons (by first | rfl | (simp [slook]; done) | (simp [slook]; omega)) ?_))) ?_⟩
      · exact ⟨by omega, hq1 hbad⟩
      · omega
      · (repeat (first | exact True.intro | refine And.intro (by first | rfl | (simp [look]; done)) ?_))
  refine T.skip ?_
  refine hK121 _ ?_
  refine T.seqK fun K124 hK124 => ?_
  refine T.block ?_
  have hq : badR x (b.r.getD j default) = (bif (bif decide ((b.r.getD j default).d = x.d) then decide ((b.r.getD j default).s = x.s) else false) then !decide (b.r.getD j default = x) else false) := by
    unfold badR; rw [cond_and, cond_and]; simp
  have hq1 := any_next hc hnj
  have hq2 := any_here (q := badR x) hc
  refine T.sregD 123 [0, 1, 2, 3, 4, 5, 6, 7, 8, 9, 10, 11, 12, 13, 18, 30, 54, 59, 81, 86, 98, 122] fun Kr hKr => ?_
  simp only [go_sem, hc]
  (repeat (refine ⟨by (first | exact True.intro | omega | rfl | (simp; done) | (simp; omega)), ?_⟩)); try (refine hKr _ ?_; clear hKr Kr)
  generalize b.r.getD j default = y at *
  refine T.sregD 123 [0, 1, 2, 3, 4, 5, 6, 7, 8, 9, 10, 11, 12, 13, 18, 30, 54, 59, 81, 86, 98, 122] fun Kr hKr => ?_
  simp only [go_sem]
  (repeat (refine ⟨by (first | exact True.intro | omega | rfl | (simp; done) | (simp; omega)), ?_⟩)); try (refine hKr _ ?_; clear hKr Kr)
  rw [eqR_eq, ← hq]
  cases hbad : badR x y with
  | true =>
    refine T.condTD rfl rfl (fun hz => ?_) (fun hz => ?_) <;> try simp at hz
    rw [hb3 (by unfold bad1; rw [hq2 hbad, Bool.true_or])] at hd
    refine T.sregD 123 [0, 1, 2, 3, 4, 5, 6, 7, 8, 9, 10, 11, 12, 13, 18, 30, 54, 59, 81, 86, 98, 122] fun Kr hKr => ?_
    simp only [go_sem]
    (repeat (refine ⟨by (first | exact True.intro | omega | rfl | (simp; done) | (simp; omega)), ?_⟩)); try (refine hKr _ ?_; clear hKr Kr)
    refine T.ret (Fin.dataD (by rw [hd]; rfl) rfl rfl)
  | false =>
    refine T.condTD rfl rfl (fun hz => ?_) (fun hz => ?_) <;> try simp at hz
    refine T.skip ?_
    refine hK124 _ ?_
    refine T.regD 123 [0, 1, 2, 3, 4, 5, 6, 7, 8, 9, 10, 11, 12, 13, 18, 30, 54, 59, 81, 86, 98, 122] fun Kr hKr => ?_
    simp only [go_sem]
    (repeat (refine ⟨by (first | exact True.intro | omega | rfl | (simp; done) | (simp; omega)), ?_⟩)); try (refine hKr _ ?_; clear hKr Kr)
    refine ⟨j + 1, ?_, ?_, Le.fitS (by (repeat (first | exact DFit.nil | refine DFit.cons (by first | rfl | (simp [slook]; done) | (simp [slook]; omega)) ?_))) ?_⟩
    · exact ⟨by omega, hq1 hbad⟩
    · omega
    · (repeat (first | exact True.intro | refine And.intro (by first | rfl | (simp [look]; done)) ?_))
end Go.Proofs
