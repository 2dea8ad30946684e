/- Devices: the reference's own lists: hasRecord, hasOrder, Kept, Insert. -/
import Derived.Test.YtdhkkdhooobdhaaGreatDoorG6
import Derived.Test.YtdhkkdhooobdhaaGreatDoorG2
set_option linter.unusedVariables false
set_option linter.unusedSimpArgs false
namespace Go.Proofs
open Go Go.Ideal
set_option maxRecDepth 8000
set_option maxHeartbeats 4000000

theorem eqR_eq (x r : Rec) : (decide (x.d = r.d) && (decide (x.s = r.s) && (decide (x.e = r.e) && (x.w == r.w && (decide (x.a = r.a) && decide (x.n = r.n)))))) = decide (x = r) := by
  obtain ⟨x1, x2, x3, x4, x5, x6⟩ := x
  obtain ⟨y1, y2, y3, y4, y5, y6⟩ := r
  rw [Bool.eq_iff_iff]; simp
theorem eqO_eq (x r : Ord) : (decide (x.d = r.d) && (decide (x.s = r.s) && (decide (x.e = r.e) && (decide (x.k = r.k) && (x.w == r.w && (decide (x.n = r.n) && decide (x.f = r.f))))))) = decide (x = r) := by
  obtain ⟨x1, x2, x3, x4, x5, x6, x7⟩ := x
  obtain ⟨y1, y2, y3, y4, y5, y6, y7⟩ := r
  rw [Bool.eq_iff_iff]; simp
theorem hasR_spec (l : List Rec) (r : Rec) (hl : l.length ≤ 100000) : Ideal.Spec Tryz.prog 74 [.sl false 6 (recsOf l), recA r] (.bool (decide (r ∈ l))) none := by
  refine Ideal.Spec.of_TD (n := 18) (fn := Tryz.f74) rfl rfl rfl rfl rfl rfl rfl fun w ok => ?_
  refine T.sregD 18 [0, 1, 3, 4, 5, 9, 17] fun Kr hKr => ?_
  simp only [go_sem]
  (repeat (refine ⟨by (first | exact True.intro | omega | rfl | (simp; done) | (simp; omega)), ?_⟩)); try (refine hKr _ ?_; clear hKr Kr)
  refine T.seqK fun K1 hK1 => ?_
  refine T.sregD 18 [0, 1, 3, 4, 5, 9, 17] fun Kr hKr => ?_
  simp only [go_sem]
  (repeat (refine ⟨by (first | exact True.intro | omega | rfl | (simp; done) | (simp; omega)), ?_⟩)); try (refine hKr _ ?_; clear hKr Kr)
  refine T.bloop (fun i : Nat => ⟨dense 18 [(0, .sl false 6 (recsOf l)), (3, .op 3 0 0), (5, .int .i64 i)], [(3, ⟨6, 39, true, [recA r]⟩)]⟩) (fun i => i ≤ l.length ∧ ¬ r ∈ l.take i) (fun i => l.length - i) 0 ⟨by simp, by simp⟩ ?_ fun i hi => ?_
  · refine Le.fitS (by (repeat (first | exact DFit.nil | refine DFit.cons (by first | rfl | (simp [slook]; done) | (simp [slook]; omega)) ?_))) (by (repeat (first | exact True.intro | refine And.intro (by first | rfl | (simp [look]; done)) ?_)))
  obtain ⟨hi, hn⟩ := hi
  refine T.seqK fun K2 hK2 => ?_
  refine T.sregD 18 [0, 1, 3, 4, 5, 9, 17] fun Kr hKr => ?_
  simp only [go_sem]
  (repeat (refine ⟨by (first | exact True.intro | omega | rfl | (simp; done) | (simp; omega)), ?_⟩)); try (refine hKr _ ?_; clear hKr Kr)
  refine T.condFD rfl rfl (fun hb => ?_) (fun hb => ?_) <;> simp at hb
  · -- no: exit
    refine T.exit ?_
    simp only [if_true]
    refine hK1 _ ?_
    have : i = l.length := by omega
    subst this
    rw [List.take_length] at hn
    refine T.sregD 18 [0, 1, 3, 4, 5, 9, 17] fun Kr hKr => ?_
    simp only [go_sem]
    (repeat (refine ⟨by (first | exact True.intro | omega | rfl | (simp; done) | (simp; omega)), ?_⟩)); try (refine hKr _ ?_; clear hKr Kr)
    refine T.ret (Fin.dataD (by rw [decide_eq_false hn]; rfl) rfl rfl)
  have hstep : r ∈ l.take (i + 1) ↔ r ∈ l.take i ∨ r = l.getD i default := by
    rw [take_succ_d hb]; simp
  have hm : l.getD i default ∈ l := by simp [List.getD, hb]
  refine T.skip ?_
  refine hK2 _ ?_
  refine T.seqK fun K3 hK3 => ?_
  refine T.block ?_
  refine T.sdrawD 18 [0, 1, 3, 4, 5, 9, 17] (.take 0 (.take 1 (.take 2 (.take 3 (.take 4 (.take 5 .done)))))) [3] rfl (by decide +kernel) (by decide +kernel) fun Kr hKr => ?_
  simp only [go_sem, hb]
  (repeat (refine ⟨by (first | exact True.intro | omega | rfl | (simp; done) | (simp; omega)), ?_⟩)); try (refine hKr _ ?_; clear hKr Kr)
  rw [eqR_eq]
  by_cases he : l.getD i default = r
  · rw [decide_eq_true he]
    refine T.condTD rfl rfl (fun hc => ?_) (fun hc => ?_) <;> try simp at hc
    have e : decide (r ∈ l) = true := decide_eq_true (he ▸ hm)
    refine T.sregD 18 [0, 1, 3, 4, 5, 9, 17] fun Kr hKr => ?_
    simp only [go_sem]
    (repeat (refine ⟨by (first | exact True.intro | omega | rfl | (simp; done) | (simp; omega)), ?_⟩)); try (refine hKr _ ?_; clear hKr Kr)
    refine T.ret (Fin.dataD (by rw [e]; rfl) rfl rfl)
  rw [decide_eq_false he]
  refine T.condTD rfl rfl (fun hc => ?_) (fun hc => ?_) <;> try simp at hc
  refine T.skip ?_
  refine hK3 _ ?_
  refine T.regD 18 [0, 1, 3, 4, 5, 9, 17] fun Kr hKr => ?_
  simp only [go_sem]
  (repeat (refine ⟨by (first | exact True.intro | omega | rfl | (simp; done) | (simp; omega)), ?_⟩)); try (refine hKr _ ?_; clear hKr Kr)
  refine ⟨i + 1, ?_, ?_, Le.fitS (by (repeat (first | exact DFit.nil | refine DFit.cons (by first | rfl | (simp [slook]; done) | (simp [slook]; omega)) ?_))) ?_⟩
  · exact ⟨by omega, fun h => (hstep.1 h).elim hn (fun h => he h.symm)⟩
  · omega
  · (repeat (first | exact True.intro | refine And.intro (by first | rfl | (simp [look]; done)) ?_))
theorem hasO_spec (l : List Ord) (r : Ord) (hl : l.length ≤ 100000) : Ideal.Spec Tryz.prog 72 [.sl false 7 (ordsOf l), ordA r] (.bool (decide (r ∈ l))) none := by
  refine Ideal.Spec.of_TD (n := 18) (fn := Tryz.f72) rfl rfl rfl rfl rfl rfl rfl fun w ok => ?_
  refine T.sregD 18 [0, 1, 3, 4, 5, 9, 17] fun Kr hKr => ?_
  simp only [go_sem]
  (repeat (refine ⟨by (first | exact True.intro | omega | rfl | (simp; done) | (simp; omega)), ?_⟩)); try (refine hKr _ ?_; clear hKr Kr)
  refine T.seqK fun K1 hK1 => ?_
  refine T.sregD 18 [0, 1, 3, 4, 5, 9, 17] fun Kr hKr => ?_
  simp only [go_sem]
  (repeat (refine ⟨by (first | exact True.intro | omega | rfl | (simp; done) | (simp; omega)), ?_⟩)); try (refine hKr _ ?_; clear hKr Kr)
  refine T.bloop (fun i : Nat => ⟨dense 18 [(0, .sl false 7 (ordsOf l)), (3, .op 3 0 0), (5, .int .i64 i)], [(3, ⟨7, 70, true, [ordA r]⟩)]⟩) (fun i => i ≤ l.length ∧ ¬ r ∈ l.take i) (fun i => l.length - i) 0 ⟨by simp, by simp⟩ ?_ fun i hi => ?_
  · refine Le.fitS (by (repeat (first | exact DFit.nil | refine DFit.cons (by first | rfl | (simp [slook]; done) | (simp [slook]; omega)) ?_))) (by (repeat (first | exact True.intro | refine And.intro (by first | rfl | (simp [look]; done)) ?_)))
  obtain ⟨hi, hn⟩ := hi
  refine T.seqK fun K2 hK2 => ?_
  refine T.sregD 18 [0, 1, 3, 4, 5, 9, 17] fun Kr hKr => ?_
  simp only [go_sem]
  (repeat (refine ⟨by (first | exact True.intro | omega | rfl | (simp; done) | (simp; omega)), ?_⟩)); try (refine hKr _ ?_; clear hKr Kr)
  refine T.condFD rfl rfl (fun hb => ?_) (fun hb => ?_) <;> simp at hb
  · -- no: exit
    refine T.exit ?_
    simp only [if_true]
    refine hK1 _ ?_
    have : i = l.length := by omega
    subst this
    rw [List.take_length] at hn
    refine T.sregD 18 [0, 1, 3, 4, 5, 9, 17] fun Kr hKr => ?_
    simp only [go_sem]
    (repeat (refine ⟨by (first | exact True.intro | omega | rfl | (simp; done) | (simp; omega)), ?_⟩)); try (refine hKr _ ?_; clear hKr Kr)
    refine T.ret (Fin.dataD (by rw [decide_eq_false hn]; rfl) rfl rfl)
  have hstep : r ∈ l.take (i + 1) ↔ r ∈ l.take i ∨ r = l.getD i default := by
    rw [take_succ_d hb]; simp
  have hm : l.getD i default ∈ l := by simp [List.getD, hb]
  refine T.skip ?_
  refine hK2 _ ?_
  refine T.seqK fun K3 hK3 => ?_
  refine T.block ?_
  refine T.sdrawD 18 [0, 1, 3, 4, 5, 9, 17] (.take 0 (.take 1 (.take 2 (.take 3 (.take 4 (.take 5 .done)))))) [3] rfl (by decide +kernel) (by decide +kernel) fun Kr hKr => ?_
  simp only [go_sem, hb]
  (repeat (refine ⟨by (first | exact True.intro | omega | rfl | (simp; done) | (simp; omega)), ?_⟩)); try (refine hKr _ ?_; clear hKr Kr)
  rw [eqO_eq]
  by_cases he : l.getD i default = r
  · rw [decide_eq_true he]
    refine T.condTD rfl rfl (fun hc => ?_) (fun hc => ?_) <;> try simp at hc
    have e : decide (r ∈ l) = true := decide_eq_true (he ▸ hm)
    refine T.sregD 18 [0, 1, 3, 4, 5, 9, 17] fun Kr hKr => ?_
    simp only [go_sem]
    (repeat (refine ⟨by (first | exact True.intro | omega | rfl | (simp; done) | (simp; omega)), ?_⟩)); try (refine hKr _ ?_; clear hKr Kr)
    refine T.ret (Fin.dataD (by rw [e]; rfl) rfl rfl)
  rw [decide_eq_false he]
  refine T.condTD rfl rfl (fun hc => ?_) (fun hc => ?_) <;> try simp at hc
  refine T.skip ?_
  refine hK3 _ ?_
  refine T.regD 18 [0, 1, 3, 4, 5, 9, 17] fun Kr hKr => ?_
  simp only [go_sem]
  (repeat (refine ⟨by (first | exact True.intro | omega | rfl | (simp; done) | (simp; omega)), ?_⟩)); try (refine hKr _ ?_; clear hKr Kr)
  refine ⟨i + 1, ?_, ?_, Le.fitS (by (repeat (first | exact DFit.nil | refine DFit.cons (by first | rfl | (simp [slook]; done) | (simp [slook]; omega)) ?_))) ?_⟩
  · exact ⟨by omega, fun h => (hstep.1 h).elim hn (fun h => he h.symm)⟩
  · omega
  · (repeat (first | exact True.intro | refine And.intro (by first | rfl | (simp [look]; done)) ?_))
def keptF (o : List Ord) (l : List Rec) : List Rec := l.filter fun r => !meantB o r
theorem KeptR_spec (l : List Rec) (o : List Ord) (hl : l.length ≤ 100000) (hol : o.length ≤ 100000) (hr : ∀ x ∈ l, RightR x) (ho : ∀ x ∈ o, RightO x) : Ideal.Spec Tryz.prog 76 [.sl false 6 (recsOf l), .sl false 7 (ordsOf o)] (.sl false 6 (recsOf (keptF o l))) none := by
  refine Ideal.Spec.of_TD (n := 29) (fn := Tryz.f76) rfl rfl rfl rfl rfl rfl rfl fun w ok => ?_
  refine T.post [.tmp 4] ?_
  refine T.sregD 29 [0, 1, 4, 5, 6, 11, 20] fun Kr hKr => ?_
  simp only [go_sem]
  (repeat (refine ⟨by (first | exact True.intro | omega | rfl | (simp; done) | (simp; omega)), ?_⟩)); try (refine hKr _ ?_; clear hKr Kr)
  refine T.sregD 29 [0, 1, 4, 5, 6, 11, 20] fun Kr hKr => ?_
  simp only [go_sem]
  (repeat (refine ⟨by (first | exact True.intro | omega | rfl | (simp; done) | (simp; omega)), ?_⟩)); try (refine hKr _ ?_; clear hKr Kr)
  refine T.seqK fun K1 hK1 => ?_
  refine T.sregD 29 [0, 1, 4, 5, 6, 11, 20] fun Kr hKr => ?_
  simp only [go_sem]
  (repeat (refine ⟨by (first | exact True.intro | omega | rfl | (simp; done) | (simp; omega)), ?_⟩)); try (refine hKr _ ?_; clear hKr Kr)
  refine T.bloop (fun i : Nat => ⟨dense 29 [(0, .sl false 6 (recsOf l)), (1, .sl false 7 (ordsOf o)), (5, .osl 7 0 (keptF o (l.take i)).length), (6, .int .i64 i)], [(7, ⟨6, 39, false, recsOf (keptF o (l.take i))⟩)]⟩) (fun i => i ≤ l.length) (fun i => l.length - i) 0 (by simp) ?_ fun i hi => ?_
  · refine Le.fitS (by (repeat (first | exact DFit.nil | refine DFit.cons (by first | rfl | (simp [slook]; done) | (simp [slook]; omega)) ?_))) (by (repeat (first | exact True.intro | refine And.intro (by first | rfl | (simp [look]; done)) ?_)))
  have hfl : (keptF o (l.take i)).length ≤ i := Nat.le_trans (List.length_filter_le _ _) (by simp; omega)
  refine T.seqK fun K2 hK2 => ?_
  refine T.sregD 29 [0, 1, 4, 5, 6, 11, 20] fun Kr hKr => ?_
  simp only [go_sem]
  (repeat (refine ⟨by (first | exact True.intro | omega | rfl | (simp; done) | (simp; omega)), ?_⟩)); try (refine hKr _ ?_; clear hKr Kr)
  refine T.condFD rfl rfl (fun hb => ?_) (fun hb => ?_) <;> simp at hb
  · -- no: exit
    refine T.exit ?_
    simp only [if_true]
    refine hK1 _ ?_
    have : i = l.length := by omega
    subst this
    rw [List.take_length]
    have ht : (keptF o l).take (keptF o l).length = keptF o l := List.take_length
    refine T.sregD 29 [0, 1, 4, 5, 6, 11, 20] fun Kr hKr => ?_
    simp only [go_sem]
    (repeat (refine ⟨by (first | exact True.intro | omega | rfl | (simp; done) | (simp; omega)), ?_⟩)); try (refine hKr _ ?_; clear hKr Kr)
    refine T.ret ?_
    simp only [go_sem, Nat.le_refl, ht]
    exact Fin.dataD rfl rfl rfl
  refine T.skip ?_
  refine hK2 _ ?_
  refine T.seqK fun K3 hK3 => ?_
  refine T.block ?_
  have h1 := Meant_spec o (l.getD i default) ho (hr _ (by simp [List.getD, hb])) hol
  have hstep : keptF o (l.take (i + 1)) = keptF o (l.take i) ++ (if (!meantB o (l.getD i default)) = true then [l.getD i default] else []) := by
    unfold keptF
    rw [take_succ_d hb, List.filter_append]; congr 1; cases hq : meantB o (l.getD i default) <;> simp [-List.getD_eq_getElem?_getD, hq]
  refine T.sregD 29 [0, 1, 4, 5, 6, 11, 20] fun Kr hKr => ?_
  simp only [go_sem, hb]
  (repeat (refine ⟨by (first | exact True.intro | omega | rfl | (simp; done) | (simp; omega)), ?_⟩)); try (refine hKr _ ?_; clear hKr Kr)
  refine CallK.data (fun _ => Spec.args (h1) (by (first | exact ArgsLe.refl | (repeat (first | exact True.intro | refine And.intro (by first | exact AvLe.refl | exact AvLe.loose | exact AvLe.nil | exact AvLe.nilT | exact AvLe.slk | (refine AvLe.agg ?_; exact ArgsLe.refl) | (refine AvLe.agg ?_; (repeat (first | exact True.intro | refine And.intro (by first | exact AvLe.refl | exact AvLe.loose | exact AvLe.nil | exact AvLe.nilT | exact AvLe.slk) ?_)))) ?_))))) rfl ?_
  simp only [go_sem]
  (repeat (refine ⟨by (first | exact True.intro | omega | rfl | (simp; done) | (simp; omega)), ?_⟩)); try (refine hKr _ ?_; clear hKr Kr)
  refine T.condTD rfl rfl (fun hd => ?_) (fun hd => ?_)
  · -- yes
    rw [if_pos hd] at hstep
    have happ : recsOf (keptF o (l.take i)) ++ [recA (l.getD i default)] = recsOf (keptF o (l.take (i + 1))) := by rw [hstep]; simp [recsOf]
    rw [recA] at happ
    refine T.regD 29 [0, 1, 4, 5, 6, 11, 20] fun Kr hKr => ?_
    simp only [go_sem, hb, happ]
    (repeat (refine ⟨by (first | exact True.intro | omega | rfl | (simp; done) | (simp; omega)), ?_⟩)); try (refine hKr _ ?_; clear hKr Kr)
    refine hK3 _ ?_
    refine T.regD 29 [0, 1, 4, 5, 6, 11, 20] fun Kr hKr => ?_
    simp only [go_sem]
    (repeat (refine ⟨by (first | exact True.intro | omega | rfl | (simp; done) | (simp; omega)), ?_⟩)); try (refine hKr _ ?_; clear hKr Kr)
    refine ⟨i + 1, ?_, ?_, Le.fitS (by (repeat (first | exact DFit.nil | refine DFit.cons (by first | rfl | (simp [slook, hstep]; done) | (simp [slook, hstep]; omega)) ?_))) ?_⟩
    · omega
    · omega
    · (repeat (first | exact True.intro | refine And.intro (by first | rfl | (simp [look]; done)) ?_))
  rw [if_neg (by rw [hd]; decide), List.append_nil] at hstep
  refine T.skip ?_
  refine hK3 _ ?_
  refine T.regD 29 [0, 1, 4, 5, 6, 11, 20] fun Kr hKr => ?_
  simp only [go_sem]
  (repeat (refine ⟨by (first | exact True.intro | omega | rfl | (simp; done) | (simp; omega)), ?_⟩)); try (refine hKr _ ?_; clear hKr Kr)
  refine ⟨i + 1, ?_, ?_, Le.fitS (by (repeat (first | exact DFit.nil | refine DFit.cons (by first | rfl | (simp [slook, hstep]; done) | (simp [slook, hstep]; omega)) ?_))) ?_⟩
  · omega
  · omega
  · rw [hstep]; (repeat (first | exact True.intro | refine And.intro (by first | rfl | (simp [look]; done)) ?_))
end Go.Proofs
