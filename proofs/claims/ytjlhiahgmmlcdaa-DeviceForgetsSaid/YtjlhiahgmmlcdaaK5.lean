/- Devices: the law DeviceForgets. -/
import Derived.Test.YtjlhiahgmmlcdaaK2
set_option linter.unusedVariables false
set_option linter.unusedSimpArgs false
namespace Go.Proofs
open Go Go.Ideal
set_option maxRecDepth 8000
set_option maxHeartbeats 4000000

theorem mem_next {α : Type} [DecidableEq α] [Inhabited α] {l : List α} {j : Nat} (h : j < l.length) (r : α) : (bif decide (r ∈ l.take j) then true else decide (l.getD j default = r)) = decide (r ∈ l.take (j + 1)) := by
  rw [cond_or, Bool.eq_iff_iff, Bool.or_eq_true, decide_eq_true_eq, decide_eq_true_eq, decide_eq_true_eq, take_succ_d h, List.mem_append, List.mem_singleton]
  constructor
  · rintro (h | h)
    · exact .inl h
    · exact .inr h.symm
  · rintro (h | h)
    · exact .inl h
    · exact .inr h.symm
theorem dforgets_law (l : List RawT) (hl : ∀ r ∈ l, OkRawT r) : Ideal.Spec Try.prog 7 [.sl false 8 (rawTs l)] (.bool true) none := by
  have q0 := sanity_spec
  have q1 := Made26_spec l hl
  obtain ⟨k, hk, ht⟩ := TInv.made' false l (by simp) 20 (by omega)
  have hT := ht.teamOk (by omega)
  obtain ⟨u, g1, vu, hM, g2, g3⟩ := forgets_plain ht (by omega)
  clear ht
  generalize madeN l 20 = t at *
  have v0 := hT.val 0 (by omega)
  have v1 := hT.val 1 (by omega)
  have m1 := Merge_spec _ _ v0.ok v1.ok
  rw [g1] at m1
  have w1 := Valid_spec _ vu
  have b1 := v0.rl
  have b2 := v0.ol
  have b3 := v1.rl
  have b4 := v1.ol
  have b5 := hM.rl
  have b6 := hM.ol
  have hR : ∀ r ∈ (t.getD 0 default).r ++ (t.getD 1 default).r, RightR r := fun r hr => (List.mem_append.1 hr).elim (fun h => (v0.rr r h).1) (fun h => (v1.rr r h).1)
  have hO : ∀ r ∈ (t.getD 0 default).o ++ (t.getD 1 default).o, RightO r := fun r hr => (List.mem_append.1 hr).elim (fun h => (v0.oo r h).1) (fun h => (v1.oo r h).1)
  obtain ⟨mr, mo, m0, m1', m2, m3, m4, m5, m6, m7, rfl⟩ := usr_lit vu.l
  obtain ⟨ar, ao, a0, a1, a2, a3, a4, a5, a6, a7, br, bo, b0, b1', b2', b3', b4', b5', b6', b7, cr, co, c0, c1, c2, c3, c4, c5, c6, c7, rfl⟩ := team_lit hT
  clear hT v0 v1 vu g1 hM
  simp only [teamA, usrL, usrA, List.flatMap_cons, List.flatMap_nil, intsOf_cons, intsOf_nil, List.cons_append, List.nil_append, List.append_nil, List.getD_cons_zero, List.getD_cons_succ] at q1 m1 w1 hR hO g2 g3 b1 b2 b3 b4 b5 b6
  have x1 : recsOf ar ++ recsOf br = recsOf (ar ++ br) := (recsOf_app ar br).symm
  have x2 : ordsOf ao ++ ordsOf bo = ordsOf (ao ++ bo) := (ordsOf_app ao bo).symm
  have y1 : ar.length + br.length = (ar ++ br).length := by rw [List.length_append]
  have y2 : ao.length + bo.length = (ao ++ bo).length := by rw [List.length_append]
  have hRl : (ar ++ br).length ≤ 400 := by rw [List.length_append]; omega
  have hOl : (ao ++ bo).length ≤ 400 := by rw [List.length_append]; omega
  have hml : mr.length ≤ (ar ++ br).length := by rw [List.length_append]; exact b5
  have hol : mo.length ≤ (ao ++ bo).length := by rw [List.length_append]; exact b6
  refine Ideal.Spec.of_TD (n := 130) (fn := Try.f7) rfl rfl rfl rfl rfl rfl rfl fun w ok => ?_
  refine T.sregD 130 [0, 2, 3, 4, 5, 6, 7, 8, 9, 10, 11, 12, 13, 14, 32, 54, 61, 84, 88, 95, 112] fun Kr hKr => ?_
  simp only [go_sem]
  (repeat (refine ⟨by (first | exact True.intro | omega | rfl | (simp; done) | (simp; omega)), ?_⟩)); try (refine hKr _ ?_; clear hKr Kr)
  refine T.sregD 130 [0, 2, 3, 4, 5, 6, 7, 8, 9, 10, 11, 12, 13, 14, 32, 54, 61, 84, 88, 95, 112] fun Kr hKr => ?_
  simp only [go_sem]
  (repeat (refine ⟨by (first | exact True.intro | omega | rfl | (simp; done) | (simp; omega)), ?_⟩)); try (refine hKr _ ?_; clear hKr Kr)
  refine CallK.data (fun _ => Spec.args (q0) (by (first | exact ArgsLe.refl | (repeat (first | exact True.intro | refine And.intro (by first | exact AvLe.refl | exact AvLe.loose | exact AvLe.nil | exact AvLe.nilT | exact AvLe.slk | (refine AvLe.agg ?_; exact ArgsLe.refl) | (refine AvLe.agg ?_; (repeat (first | exact True.intro | refine And.intro (by first | exact AvLe.refl | exact AvLe.loose | exact AvLe.nil | exact AvLe.nilT | exact AvLe.slk) ?_)))) ?_))))) rfl ?_
  simp only [go_sem]
  (repeat (refine ⟨by (first | exact True.intro | omega | rfl | (simp; done) | (simp; omega)), ?_⟩)); try (refine hKr _ ?_; clear hKr Kr)
  refine T.sregD 130 [0, 2, 3, 4, 5, 6, 7, 8, 9, 10, 11, 12, 13, 14, 32, 54, 61, 84, 88, 95, 112] fun Kr hKr => ?_
  simp only [go_sem]
  (repeat (refine ⟨by (first | exact True.intro | omega | rfl | (simp; done) | (simp; omega)), ?_⟩)); try (refine hKr _ ?_; clear hKr Kr)
  refine CallK.data (fun _ => Spec.args (q1) (by (first | exact ArgsLe.refl | (repeat (first | exact True.intro | refine And.intro (by first | exact AvLe.refl | exact AvLe.loose | exact AvLe.nil | exact AvLe.nilT | exact AvLe.slk | (refine AvLe.agg ?_; exact ArgsLe.refl) | (refine AvLe.agg ?_; (repeat (first | exact True.intro | refine And.intro (by first | exact AvLe.refl | exact AvLe.loose | exact AvLe.nil | exact AvLe.nilT | exact AvLe.slk) ?_)))) ?_))))) rfl ?_
  simp only [go_sem]
  (repeat (refine ⟨by (first | exact True.intro | omega | rfl | (simp; done) | (simp; omega)), ?_⟩)); try (refine hKr _ ?_; clear hKr Kr)
  refine T.sregD 130 [0, 2, 3, 4, 5, 6, 7, 8, 9, 10, 11, 12, 13, 14, 32, 54, 61, 84, 88, 95, 112] fun Kr hKr => ?_
  simp only [go_sem]
  (repeat (refine ⟨by (first | exact True.intro | omega | rfl | (simp; done) | (simp; omega)), ?_⟩)); try (refine hKr _ ?_; clear hKr Kr)
  refine CallK.tup (fun _ => Spec.args (m1) (by (first | exact ArgsLe.refl | (repeat (first | exact True.intro | refine And.intro (by first | exact AvLe.refl | exact AvLe.loose | exact AvLe.nil | exact AvLe.nilT | exact AvLe.slk | (refine AvLe.agg ?_; exact ArgsLe.refl) | (refine AvLe.agg ?_; (repeat (first | exact True.intro | refine And.intro (by first | exact AvLe.refl | exact AvLe.loose | exact AvLe.nil | exact AvLe.nilT | exact AvLe.slk) ?_)))) ?_))))) ?_
  simp only [go_sem]
  (repeat (refine ⟨by (first | exact True.intro | omega | rfl | (simp; done) | (simp; omega)), ?_⟩)); try (refine hKr _ ?_; clear hKr Kr)
  refine T.seqK fun K8 hK8 => ?_
  refine T.sregD 130 [0, 2, 3, 4, 5, 6, 7, 8, 9, 10, 11, 12, 13, 14, 32, 54, 61, 84, 88, 95, 112] fun Kr hKr => ?_
  simp only [go_sem]
  (repeat (refine ⟨by (first | exact True.intro | omega | rfl | (simp; done) | (simp; omega)), ?_⟩)); try (refine hKr _ ?_; clear hKr Kr)
  refine CallK.data (fun _ => Spec.args (w1) (by (first | exact ArgsLe.refl | (repeat (first | exact True.intro | refine And.intro (by first | exact AvLe.refl | exact AvLe.loose | exact AvLe.nil | exact AvLe.nilT | exact AvLe.slk | (refine AvLe.agg ?_; exact ArgsLe.refl) | (refine AvLe.agg ?_; (repeat (first | exact True.intro | refine And.intro (by first | exact AvLe.refl | exact AvLe.loose | exact AvLe.nil | exact AvLe.nilT | exact AvLe.slk) ?_)))) ?_))))) rfl ?_
  simp only [go_sem]
  (repeat (refine ⟨by (first | exact True.intro | omega | rfl | (simp; done) | (simp; omega)), ?_⟩)); try (refine hKr _ ?_; clear hKr Kr)
  refine T.condTD rfl rfl (fun hz => ?_) (fun hz => ?_) <;> try simp at hz
  refine T.skip ?_
  refine hK8 _ ?_
  refine T.sdrawD 130 [0, 2, 3, 4, 5, 6, 7, 8, 9, 10, 11, 12, 13, 14, 32, 54, 61, 84, 88, 95, 112] (.take 1 (.take 2 (.take 3 (.take 5 (.take 6 (.take 7 (.one 0 (.one 4 (.one 8 (.take 9 .done)))))))))) [4] rfl (by decide +kernel) (by decide +kernel) fun Kr hKr => ?_
  simp only [go_sem, ordsOf_nil, List.nil_append]
  (repeat (refine ⟨by (first | exact True.intro | omega | rfl | (simp; done) | (simp; omega)), ?_⟩)); try (refine hKr _ ?_; clear hKr Kr)
  refine T.sdrawD 130 [0, 2, 3, 4, 5, 6, 7, 8, 9, 10, 11, 12, 13, 14, 32, 54, 61, 84, 88, 95, 112] (.take 1 (.take 2 (.take 3 (.take 5 (.take 6 (.take 7 (.one 0 (.one 4 (.one 8 (.take 9 .done)))))))))) [4] rfl (by decide +kernel) (by decide +kernel) fun Kr hKr => ?_
  simp only [go_sem, recsOf_nil, List.nil_append]
  (repeat (refine ⟨by (first | exact True.intro | omega | rfl | (simp; done) | (simp; omega)), ?_⟩)); try (refine hKr _ ?_; clear hKr Kr)
  rw [x1, x2, y1, y2]
  generalize hRP : ar ++ br = RP at *
  generalize hOP : ao ++ bo = OP at *
  refine T.weaken (Le.frz 42) ?_
  simp only [go_sem]
  refine T.weaken (Le.frz 33) ?_
  simp only [go_sem]
  have tR : RP.take RP.length = RP := List.take_length
  have tO : OP.take OP.length = OP := List.take_length
  refine T.seqK fun K9 hK9 => ?_
  refine T.sregD 130 [0, 2, 3, 4, 5, 6, 7, 8, 9, 10, 11, 12, 13, 14, 32, 54, 61, 84, 88, 95, 112] fun Kr hKr => ?_
  simp only [go_sem, tR, tO]
  (repeat (refine ⟨by (first | exact True.intro | omega | rfl | (simp; done) | (simp; omega)), ?_⟩)); try (refine hKr _ ?_; clear hKr Kr)
  refine T.bloop (fun i : Nat => ⟨dense 130 [(3, .bool true), (5, .op 5 0 0), (7, .sl false 7 (ordsOf OP)), (8, .sl false 6 (recsOf RP)), (9, .int .i64 i)], [(5, ⟨10, 29, true, [.agg [.sl false 6 (recsOf mr), .sl false 7 (ordsOf mo), .int .i64 m0, .int .i64 m1', .int .i64 m2, .int .i64 m3, .int .i64 m4, .int .i64 m5, .int .i64 m6, .int .i64 m7]]⟩)]⟩) (fun i => i ≤ RP.length) (fun i => RP.length - i) 0 (by simp) ?_ fun i hi => ?_
  · refine Le.fitS (by (repeat (first | exact DFit.nil | refine DFit.cons (by first | rfl | (simp [slook]; done) | (simp [slook]; omega)) ?_))) (by (repeat (first | exact True.intro | refine And.intro (by first | rfl | (simp [look]; done)) ?_)))
  refine T.seqK fun K10 hK10 => ?_
  refine T.sregD 130 [0, 2, 3, 4, 5, 6, 7, 8, 9, 10, 11, 12, 13, 14, 32, 54, 61, 84, 88, 95, 112] fun Kr hKr => ?_
  simp only [go_sem]
  (repeat (refine ⟨by (first | exact True.intro | omega | rfl | (simp; done) | (simp; omega)), ?_⟩)); try (refine hKr _ ?_; clear hKr Kr)
  refine T.condFD rfl rfl (fun hb => ?_) (fun hb => ?_) <;> simp at hb
  · -- no: exit
    refine T.exit ?_
    simp only [if_true]
    refine hK9 _ ?_
    refine T.seqK fun K11 hK11 => ?_
    refine T.sregD 130 [0, 2, 3, 4, 5, 6, 7, 8, 9, 10, 11, 12, 13, 14, 32, 54, 61, 84, 88, 95, 112] fun Kr hKr => ?_
    simp only [go_sem]
    (repeat (refine ⟨by (first | exact True.intro | omega | rfl | (simp; done) | (simp; omega)), ?_⟩)); try (refine hKr _ ?_; clear hKr Kr)
    refine T.bloop (fun i : Nat => ⟨dense 130 [(3, .bool true), (5, .op 5 0 0), (7, .sl false 7 (ordsOf OP)), (8, .sl false 6 (recsOf RP)), (12, .int .i64 i)], [(5, ⟨10, 29, true, [.agg [.sl false 6 (recsOf mr), .sl false 7 (ordsOf mo), .int .i64 m0, .int .i64 m1', .int .i64 m2, .int .i64 m3, .int .i64 m4, .int .i64 m5, .int .i64 m6, .int .i64 m7]]⟩)]⟩) (fun i => i ≤ OP.length) (fun i => OP.length - i) 0 (by simp) ?_ fun i hi => ?_
    · refine Le.fitS (by (repeat (first | exact DFit.nil | refine DFit.cons (by first | rfl | (simp [slook]; done) | (simp [slook]; omega)) ?_))) (by (repeat (first | exact True.intro | refine And.intro (by first | rfl | (simp [look]; done)) ?_)))
    refine T.seqK fun K12 hK12 => ?_
    refine T.sregD 130 [0, 2, 3, 4, 5, 6, 7, 8, 9, 10, 11, 12, 13, 14, 32, 54, 61, 84, 88, 95, 112] fun Kr hKr => ?_
    simp only [go_sem]
    (repeat (refine ⟨by (first | exact True.intro | omega | rfl | (simp; done) | (simp; omega)), ?_⟩)); try (refine hKr _ ?_; clear hKr Kr)
    refine T.condFD rfl rfl (fun hc => ?_) (fun hc => ?_) <;> simp at hc
    · -- no: exit
      refine T.exit ?_
      simp only [if_true]
      refine hK11 _ ?_
      have c1 : ((mr.length : Int) ≤ RP.length) = True := eq_true (by omega)
      have c2 : ((mo.length : Int) ≤ OP.length) = True := eq_true (by omega)
      refine T.sregD 130 [0, 2, 3, 4, 5, 6, 7, 8, 9, 10, 11, 12, 13, 14, 32, 54, 61, 84, 88, 95, 112] fun Kr hKr => ?_
      simp only [go_sem, c1, c2]
      (repeat (refine ⟨by (first | exact True.intro | omega | rfl | (simp; done) | (simp; omega)), ?_⟩)); try (refine hKr _ ?_; clear hKr Kr)
      refine T.ret (Fin.dataD rfl rfl rfl)
    refine T.skip ?_
    refine hK12 _ ?_
    refine T.seqK fun K13 hK13 => ?_
    refine T.block ?_
    have hin := g3 _ (by simp [List.getD, hc] : OP.getD i default ∈ OP)
    refine T.sregD 130 [0, 2, 3, 4, 5, 6, 7, 8, 9, 10, 11, 12, 13, 14, 32, 54, 61, 84, 88, 95, 112] fun Kr hKr => ?_
    simp only [go_sem]
    (repeat (refine ⟨by (first | exact True.intro | omega | rfl | (simp; done) | (simp; omega)), ?_⟩)); try (refine hKr _ ?_; clear hKr Kr)
    refine T.seqK fun K14 hK14 => ?_
    refine T.sregD 130 [0, 2, 3, 4, 5, 6, 7, 8, 9, 10, 11, 12, 13, 14, 32, 54, 61, 84, 88, 95, 112] fun Kr hKr => ?_
    simp only [go_sem]
    (repeat (refine ⟨by (first | exact True.intro | omega | rfl | (simp; done) | (simp; omega)), ?_⟩)); try (refine hKr _ ?_; clear hKr Kr)
    refine T.bloop (fun j : Nat => ⟨dense 130 [(3, .bool true), (5, .op 5 0 0), (7, .sl false 7 (ordsOf OP)), (8, .sl false 6 (recsOf RP)), (12, .int .i64 i), (13, .bool (decide (OP.getD i default ∈ mo.take j))), (14, .int .i64 j)], [(5, ⟨10, 29, true, [.agg [.sl false 6 (recsOf mr), .sl false 7 (ordsOf mo), .int .i64 m0, .int .i64 m1', .int .i64 m2, .int .i64 m3, .int .i64 m4, .int .i64 m5, .int .i64 m6, .int .i64 m7]]⟩)]⟩) (fun j => j ≤ mo.length) (fun j => mo.length - j) 0 (by simp) ?_ fun j hj => ?_
    · refine Le.fitS (by (repeat (first | exact DFit.nil | refine DFit.cons (by first | rfl | (simp [slook, List.take_zero, List.not_mem_nil, decide_false]; done) | (simp [slook, List.take_zero, List.not_mem_nil, decide_false]; omega)) ?_))) (by (repeat (first | exact True.intro | refine And.intro (by first | rfl | (simp [look]; done)) ?_)))
    refine T.seqK fun K15 hK15 => ?_
    refine T.sregD 130 [0, 2, 3, 4, 5, 6, 7, 8, 9, 10, 11, 12, 13, 14, 32, 54, 61, 84, 88, 95, 112] fun Kr hKr => ?_
    simp only [go_sem]
    (repeat (refine ⟨by (first | exact True.intro | omega | rfl | (simp; done) | (simp; omega)), ?_⟩)); try (refine hKr _ ?_; clear hKr Kr)
    refine T.condFD rfl rfl (fun hd => ?_) (fun hd => ?_) <;> simp at hd
    · -- no: exit
      refine T.exit ?_
      simp only [if_true]
      refine hK14 _ ?_
      have hje : j = mo.length := by omega
      subst hje
      rw [List.take_length, decide_eq_true hin]
      refine T.sregD 130 [0, 2, 3, 4, 5, 6, 7, 8, 9, 10, 11, 12, 13, 14, 32, 54, 61, 84, 88, 95, 112] fun Kr hKr => ?_
      simp only [go_sem]
      (repeat (refine ⟨by (first | exact True.intro | omega | rfl | (simp; done) | (simp; omega)), ?_⟩)); try (refine hKr _ ?_; clear hKr Kr)
      refine T.condTD rfl rfl (fun hz => ?_) (fun hz => ?_) <;> try simp at hz
      refine T.skip ?_
      refine hK13 _ ?_
      refine T.regD 130 [0, 2, 3, 4, 5, 6, 7, 8, 9, 10, 11, 12, 13, 14, 32, 54, 61, 84, 88, 95, 112] fun Kr hKr => ?_
      simp only [go_sem]
      (repeat (refine ⟨by (first | exact True.intro | omega | rfl | (simp; done) | (simp; omega)), ?_⟩)); try (refine hKr _ ?_; clear hKr Kr)
      refine ⟨i + 1, ?_, ?_, Le.fitS (by (repeat (first | exact DFit.nil | refine DFit.cons (by first | rfl | (simp [slook]; done) | (simp [slook]; omega)) ?_))) ?_⟩
      · omega
      · omega
      · (repeat (first | exact True.intro | refine And.intro (by first | rfl | (simp [look]; done)) ?_))
    refine T.skip ?_
    refine hK15 _ ?_
    refine T.seqK fun K16 hK16 => ?_
    refine T.block ?_
    have hnx := mem_next hd (OP.getD i default)
    generalize decide (OP.getD i default ∈ mo.take j) = bf at *
    refine T.drawD 130 [0, 2, 3, 4, 5, 6, 7, 8, 9, 10, 11, 12, 13, 14, 32, 54, 61, 84, 88, 95, 112] (.take 0 (.take 1 (.take 2 (.take 3 (.take 4 (.take 5 (.take 6 (.take 7 (.take 8 (.take 9 (.take 10 (.take 11 (.take 12 (.take 13 .done)))))))))))))) [5] rfl (by decide +kernel) (by decide +kernel) fun Kr hKr => ?_
    simp only [go_sem, hc, hd]
    (repeat (refine ⟨by (first | exact True.intro | omega | rfl | (simp; done) | (simp; omega)), ?_⟩)); try (refine hKr _ ?_; clear hKr Kr)
    rw [eqO_eq, hnx]
    refine hK16 _ ?_
    refine T.regD 130 [0, 2, 3, 4, 5, 6, 7, 8, 9, 10, 11, 12, 13, 14, 32, 54, 61, 84, 88, 95, 112] fun Kr hKr => ?_
    simp only [go_sem]
    (repeat (refine ⟨by (first | exact True.intro | omega | rfl | (simp; done) | (simp; omega)), ?_⟩)); try (refine hKr _ ?_; clear hKr Kr)
    refine ⟨j + 1, ?_, ?_, Le.fitS (by (repeat (first | exact DFit.nil | refine DFit.cons (by first | rfl | (simp [slook]; done) | (simp [slook]; omega)) ?_))) ?_⟩
    · omega
    · omega
    · (repeat (first | exact True.intro | refine And.intro (by first | rfl | (simp [look]; done)) ?_))
  refine T.skip ?_
  refine hK10 _ ?_
  refine T.seqK fun K17 hK17 => ?_
  refine T.block ?_
  have hin := g2 _ (by simp [List.getD, hb] : RP.getD i default ∈ RP)
  have s1 := Meant_spec OP (RP.getD i default) hO (hR _ (by simp [List.getD, hb])) (by omega)
  refine T.sregD 130 [0, 2, 3, 4, 5, 6, 7, 8, 9, 10, 11, 12, 13, 14, 32, 54, 61, 84, 88, 95, 112] fun Kr hKr => ?_
  simp only [go_sem]
  (repeat (refine ⟨by (first | exact True.intro | omega | rfl | (simp; done) | (simp; omega)), ?_⟩)); try (refine hKr _ ?_; clear hKr Kr)
  refine T.seqK fun K18 hK18 => ?_
  refine T.sregD 130 [0, 2, 3, 4, 5, 6, 7, 8, 9, 10, 11, 12, 13, 14, 32, 54, 61, 84, 88, 95, 112] fun Kr hKr => ?_
  simp only [go_sem]
  (repeat (refine ⟨by (first | exact True.intro | omega | rfl | (simp; done) | (simp; omega)), ?_⟩)); try (refine hKr _ ?_; clear hKr Kr)
  refine T.bloop (fun j : Nat => ⟨dense 130 [(3, .bool true), (5, .op 5 0 0), (7, .sl false 7 (ordsOf OP)), (8, .sl false 6 (recsOf RP)), (9, .int .i64 i), (10, .bool (decide (RP.getD i default ∈ mr.take j))), (11, .int .i64 j)], [(5, ⟨10, 29, true, [.agg [.sl false 6 (recsOf mr), .sl false 7 (ordsOf mo), .int .i64 m0, .int .i64 m1', .int .i64 m2, .int .i64 m3, .int .i64 m4, .int .i64 m5, .int .i64 m6, .int .i64 m7]]⟩)]⟩) (fun j => j ≤ mr.length) (fun j => mr.length - j) 0 (by simp) ?_ fun j hj => ?_
  · refine Le.fitS (by (repeat (first | exact DFit.nil | refine DFit.cons (by first | rfl | (simp [slook, List.take_zero, List.not_mem_nil, decide_false]; done) | (simp [slook, List.take_zero, List.not_mem_nil, decide_false]; omega)) ?_))) (by (repeat (first | exact True.intro | refine And.intro (by first | rfl | (simp [look]; done)) ?_)))
  refine T.seqK fun K19 hK19 => ?_
  refine T.sregD 130 [0, 2, 3, 4, 5, 6, 7, 8, 9, 10, 11, 12, 13, 14, 32, 54, 61, 84, 88, 95, 112] fun Kr hKr => ?_
  simp only [go_sem]
  (repeat (refine ⟨by (first | exact True.intro | omega | rfl | (simp; done) | (simp; omega)), ?_⟩)); try (refine hKr _ ?_; clear hKr Kr)
  refine T.condFD rfl rfl (fun hd => ?_) (fun hd => ?_) <;> simp at hd
  · -- no: exit
    refine T.exit ?_
    simp only [if_true]
    refine hK18 _ ?_
    have hje : j = mr.length := by omega
    subst hje
    rw [List.take_length, hin]
    generalize meantB OP (RP.getD i default) = mb at *
    refine T.sregD 130 [0, 2, 3, 4, 5, 6, 7, 8, 9, 10, 11, 12, 13, 14, 32, 54, 61, 84, 88, 95, 112] fun Kr hKr => ?_
    simp only [go_sem, hb]
    (repeat (refine ⟨by (first | exact True.intro | omega | rfl | (simp; done) | (simp; omega)), ?_⟩)); try (refine hKr _ ?_; clear hKr Kr)
    refine CallK.data (fun _ => Spec.args (s1) (by (first | exact ArgsLe.refl | (repeat (first | exact True.intro | refine And.intro (by first | exact AvLe.refl | exact AvLe.loose | exact AvLe.nil | exact AvLe.nilT | exact AvLe.slk | (refine AvLe.agg ?_; exact ArgsLe.refl) | (refine AvLe.agg ?_; (repeat (first | exact True.intro | refine And.intro (by first | exact AvLe.refl | exact AvLe.loose | exact AvLe.nil | exact AvLe.nilT | exact AvLe.slk) ?_)))) ?_))))) rfl ?_
    simp only [go_sem, hb]
    (repeat (refine ⟨by (first | exact True.intro | omega | rfl | (simp; done) | (simp; omega)), ?_⟩)); try (refine hKr _ ?_; clear hKr Kr)
    cases mb <;>
    · refine T.condTD rfl rfl (fun hz => ?_) (fun hz => ?_) <;> try simp at hz
      refine T.skip ?_
      refine hK17 _ ?_
      refine T.regD 130 [0, 2, 3, 4, 5, 6, 7, 8, 9, 10, 11, 12, 13, 14, 32, 54, 61, 84, 88, 95, 112] fun Kr hKr => ?_
      simp only [go_sem]
      (repeat (refine ⟨by (first | exact True.intro | omega | rfl | (simp; done) | (simp; omega)), ?_⟩)); try (refine hKr _ ?_; clear hKr Kr)
      refine ⟨i + 1, ?_, ?_, Le.fitS (by (repeat (first | exact DFit.nil | refine DFit.cons (by first | rfl | (simp [slook]; done) | (simp [slook]; omega)) ?_))) ?_⟩
      · omega
      · omega
      · (repeat (first | exact True.intro | refine And.intro (by first | rfl | (simp [look]; done)) ?_))
  refine T.skip ?_
  refine hK19 _ ?_
  refine T.seqK fun K20 hK20 => ?_
  refine T.block ?_
  have hnx := mem_next hd (RP.getD i default)
  generalize decide (RP.getD i default ∈ mr.take j) = bf at *
  refine T.drawD 130 [0, 2, 3, 4, 5, 6, 7, 8, 9, 10, 11, 12, 13, 14, 32, 54, 61, 84, 88, 95, 112] (.take 0 (.take 1 (.take 2 (.take 3 (.take 4 (.take 5 (.take 6 (.take 7 (.take 8 (.take 9 (.take 10 (.take 11 (.take 12 (.take 13 .done)))))))))))))) [5] rfl (by decide +kernel) (by decide +kernel) fun Kr hKr => ?_
  simp only [go_sem, hb, hd]
  (repeat (refine ⟨by (first | exact True.intro | omega | rfl | (simp; done) | (simp; omega)), ?_⟩)); try (refine hKr _ ?_; clear hKr Kr)
  rw [eqR_eq, hnx]
  refine hK20 _ ?_
  refine T.regD 130 [0, 2, 3, 4, 5, 6, 7, 8, 9, 10, 11, 12, 13, 14, 32, 54, 61, 84, 88, 95, 112] fun Kr hKr => ?_
  simp only [go_sem]
  (repeat (refine ⟨by (first | exact True.intro | omega | rfl | (simp; done) | (simp; omega)), ?_⟩)); try (refine hKr _ ?_; clear hKr Kr)
  refine ⟨j + 1, ?_, ?_, Le.fitS (by (repeat (first | exact DFit.nil | refine DFit.cons (by first | rfl | (simp [slook]; done) | (simp [slook]; omega)) ?_))) ?_⟩
  · omega
  · omega
  · (repeat (first | exact True.intro | refine And.intro (by first | rfl | (simp [look]; done)) ?_))
end Go.Proofs
