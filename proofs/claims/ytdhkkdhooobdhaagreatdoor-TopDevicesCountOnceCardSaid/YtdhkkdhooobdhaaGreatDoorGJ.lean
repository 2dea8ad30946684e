/- Devices: the reference's Merge. -/
import Derived.Test.YtdhkkdhooobdhaaGreatDoorGI
set_option linter.unusedVariables false
set_option linter.unusedSimpArgs false
namespace Go.Proofs
open Go Go.Ideal
set_option maxRecDepth 8000
set_option maxHeartbeats 4000000

theorem addO_len : ∀ (m l : List Ord), (m.foldl addO l).length ≤ l.length + m.length
  | [], l => by simp
  | y :: m, l => by
    have h4 : (addO l y).length ≤ l.length + 1 := by
      unfold addO; split
      · omega
      · have e : (l.takeWhile (befOO y)).length + (l.dropWhile (befOO y)).length = l.length := by rw [← List.length_append, List.takeWhile_append_dropWhile]
        unfold insO; simp only [List.length_append, List.length_cons]; omega
    have := addO_len m (addO l y)
    simp only [List.foldl_cons, List.length_cons]; omega
theorem addR_len : ∀ (m l : List Rec), (m.foldl addR l).length ≤ l.length + m.length
  | [], l => by simp
  | y :: m, l => by
    have h4 : (addR l y).length ≤ l.length + 1 := by
      unfold addR; split
      · omega
      · have e : (l.takeWhile (befRR y)).length + (l.dropWhile (befRR y)).length = l.length := by rw [← List.length_append, List.takeWhile_append_dropWhile]
        unfold insR; simp only [List.length_append, List.length_cons]; omega
    have := addR_len m (addR l y)
    simp only [List.foldl_cons, List.length_cons]; omega
theorem addO_sub : ∀ (m l : List Ord) (x : Ord), x ∈ m.foldl addO l → x ∈ l ∨ x ∈ m
  | [], l, x, h => .inl h
  | y :: m, l, x, h => by
    rcases addO_sub m (addO l y) x h with h | h
    · unfold addO at h
      split at h
      · exact .inl h
      · exact ((insO_mem y l x).1 h).elim (fun e => .inr (by simp [e])) .inl
    · exact .inr (by simp [h])
theorem addR_sub : ∀ (m l : List Rec) (x : Rec), x ∈ m.foldl addR l → x ∈ l ∨ x ∈ m
  | [], l, x, h => .inl h
  | y :: m, l, x, h => by
    rcases addR_sub m (addR l y) x h with h | h
    · unfold addR at h
      split at h
      · exact .inl h
      · exact ((insR_mem y l x).1 h).elim (fun e => .inr (by simp [e])) .inl
    · exact .inr (by simp [h])
theorem MergeR_spec (a b : Usr) (ha : ValU a) (hB : ValU b) : Ideal.Spec Tryz.prog 42 [usrA a, usrA b] (.tup [usrA (mergeF a b).1, .int .i64 (mergeF a b).2]) none := by
  have al := ha.l
  have bl := hB.l
  have aT : a.l.take 8 = a.l := List.take_of_length_le (by omega)
  have bT : b.l.take 8 = b.l := List.take_of_length_le (by omega)
  have l1 := ha.rl
  have l2 := ha.ol
  have l3 := hB.rl
  have l4 := hB.ol
  have s1 := agree_spec a b al bl (by omega) (by omega) (by omega) (by omega)
  have s2 := agree_spec b a bl al (by omega) (by omega) (by omega) (by omega)
  refine Spec.weakT (rs := [mergeX (mergeF a b), .int .i64 (mergeF a b).2]) ?_ (by simp [mergeX_fin]; rfl) rfl ⟨mergeX_le _ (merge_no a b), AvLe.refl, trivial⟩
  rw [← mergeRF_eq ha hB]
  refine Ideal.Spec.of_MD (n := 114) (fn := Tryz.f42) rfl rfl rfl rfl (by simp [mergeX_fin]; rfl) rfl rfl fun w ok => ?_
  refine T.post [.tmp 4] ?_
  refine T.sregD 114 [0, 1, 2, 3, 4, 5, 6, 7, 8, 9, 19, 34, 45, 59, 70, 87, 111] fun Kr hKr => ?_
  simp only [go_sem, al, bl]
  (repeat (refine ⟨by (first | exact True.intro | omega | rfl | (simp; done) | (simp; omega)), ?_⟩)); try (refine hKr _ ?_; clear hKr Kr)
  refine T.seqK fun K1 hK1 => ?_
  have hbad : ∀ r : Usr × Int, r = (noUsr, 260) → mergeX r = .agg [.sl true 1 [], .sl true 1 [], .int .i64 0, .int .i64 0, .int .i64 0, .int .i64 0, .int .i64 0, .int .i64 0, .int .i64 0, .int .i64 0] := fun r h => by rw [h]; rfl
  by_cases hag : agreeB a b = true ∧ agreeB b a = true
  rotate_left
  · have ee : mergeRF a b = (noUsr, 260) := by unfold mergeRF; rw [if_neg hag]
    have e2 := hbad _ ee
    cases hx : agreeB a b with
    | false =>
      rw [hx] at s1
      refine T.sregD 114 [0, 1, 2, 3, 4, 5, 6, 7, 8, 9, 19, 34, 45, 59, 70, 87, 111] fun Kr hKr => ?_
      simp only [go_sem, al, bl, aT, bT]
      (repeat (refine ⟨by (first | exact True.intro | omega | rfl | (simp; done) | (simp; omega)), ?_⟩)); try (refine hKr _ ?_; clear hKr Kr)
      refine CallK.data (fun _ => Spec.args (s1) (by (first | exact ArgsLe.refl | (repeat (first | exact True.intro | refine And.intro (by first | exact AvLe.refl | exact AvLe.loose | exact AvLe.nil | exact AvLe.nilT | exact AvLe.slk | (refine AvLe.agg ?_; exact ArgsLe.refl) | (refine AvLe.agg ?_; (repeat (first | exact True.intro | refine And.intro (by first | exact AvLe.refl | exact AvLe.loose | exact AvLe.nil | exact AvLe.nilT | exact AvLe.slk) ?_)))) ?_))))) rfl ?_
      simp only [go_sem, al, bl, aT, bT]
      (repeat (refine ⟨by (first | exact True.intro | omega | rfl | (simp; done) | (simp; omega)), ?_⟩)); try (refine hKr _ ?_; clear hKr Kr)
      refine CallK.data (r := .bool true) (fun h => by cases h) rfl ?_
      simp only [go_sem]
      (repeat (refine ⟨by (first | exact True.intro | omega | rfl | (simp; done) | (simp; omega)), ?_⟩)); try (refine hKr _ ?_; clear hKr Kr)
      refine T.condTD rfl rfl (fun hb => ?_) (fun hb => ?_) <;> try simp at hb
      refine T.sregD 114 [0, 1, 2, 3, 4, 5, 6, 7, 8, 9, 19, 34, 45, 59, 70, 87, 111] fun Kr hKr => ?_
      simp only [go_sem]
      (repeat (refine ⟨by (first | exact True.intro | omega | rfl | (simp; done) | (simp; omega)), ?_⟩)); try (refine hKr _ ?_; clear hKr Kr)
      refine T.ret ?_
      simp only [go_sem]
      exact ⟨ResCellD rfl rfl rfl rfl (by simp only [go_sem]) (by rw [e2]; simp only [go_sem]) (by rw [e2]; rfl), ResAtD (by rw [ee]; rfl) rfl rfl, trivial⟩
    | true =>
      have hy : agreeB b a = false := by cases hy : agreeB b a with | false => rfl | true => exact absurd ⟨hx, hy⟩ hag
      rw [hx] at s1
      rw [hy] at s2
      refine T.sregD 114 [0, 1, 2, 3, 4, 5, 6, 7, 8, 9, 19, 34, 45, 59, 70, 87, 111] fun Kr hKr => ?_
      simp only [go_sem, al, bl, aT, bT]
      (repeat (refine ⟨by (first | exact True.intro | omega | rfl | (simp; done) | (simp; omega)), ?_⟩)); try (refine hKr _ ?_; clear hKr Kr)
      refine CallK.data (fun _ => Spec.args (s1) (by (first | exact ArgsLe.refl | (repeat (first | exact True.intro | refine And.intro (by first | exact AvLe.refl | exact AvLe.loose | exact AvLe.nil | exact AvLe.nilT | exact AvLe.slk | (refine AvLe.agg ?_; exact ArgsLe.refl) | (refine AvLe.agg ?_; (repeat (first | exact True.intro | refine And.intro (by first | exact AvLe.refl | exact AvLe.loose | exact AvLe.nil | exact AvLe.nilT | exact AvLe.slk) ?_)))) ?_))))) rfl ?_
      simp only [go_sem, al, bl, aT, bT]
      (repeat (refine ⟨by (first | exact True.intro | omega | rfl | (simp; done) | (simp; omega)), ?_⟩)); try (refine hKr _ ?_; clear hKr Kr)
      refine CallK.data (fun _ => Spec.args (s2) (by (first | exact ArgsLe.refl | (repeat (first | exact True.intro | refine And.intro (by first | exact AvLe.refl | exact AvLe.loose | exact AvLe.nil | exact AvLe.nilT | exact AvLe.slk | (refine AvLe.agg ?_; exact ArgsLe.refl) | (refine AvLe.agg ?_; (repeat (first | exact True.intro | refine And.intro (by first | exact AvLe.refl | exact AvLe.loose | exact AvLe.nil | exact AvLe.nilT | exact AvLe.slk) ?_)))) ?_))))) rfl ?_
      simp only [go_sem, al, bl, aT, bT]
      (repeat (refine ⟨by (first | exact True.intro | omega | rfl | (simp; done) | (simp; omega)), ?_⟩)); try (refine hKr _ ?_; clear hKr Kr)
      refine T.condTD rfl rfl (fun hb => ?_) (fun hb => ?_) <;> try simp at hb
      refine T.sregD 114 [0, 1, 2, 3, 4, 5, 6, 7, 8, 9, 19, 34, 45, 59, 70, 87, 111] fun Kr hKr => ?_
      simp only [go_sem]
      (repeat (refine ⟨by (first | exact True.intro | omega | rfl | (simp; done) | (simp; omega)), ?_⟩)); try (refine hKr _ ?_; clear hKr Kr)
      refine T.ret ?_
      simp only [go_sem]
      exact ⟨ResCellD rfl rfl rfl rfl (by simp only [go_sem]) (by rw [e2]; simp only [go_sem]) (by rw [e2]; rfl), ResAtD (by rw [ee]; rfl) rfl rfl, trivial⟩
  have ee : mergeRF a b = if (keptF (b.o.foldl addO a.o) (b.r.foldl addR a.r)).length > 400 ∨ (b.o.foldl addO a.o).length > 400 then (noUsr, 260) else (⟨keptF (b.o.foldl addO a.o) (b.r.foldl addR a.r), b.o.foldl addO a.o, maxL a.l b.l⟩, 0) := by unfold mergeRF; rw [if_pos hag]
  rw [hag.1] at s1
  rw [hag.2] at s2
  refine T.sregD 114 [0, 1, 2, 3, 4, 5, 6, 7, 8, 9, 19, 34, 45, 59, 70, 87, 111] fun Kr hKr => ?_
  simp only [go_sem, al, bl, aT, bT]
  (repeat (refine ⟨by (first | exact True.intro | omega | rfl | (simp; done) | (simp; omega)), ?_⟩)); try (refine hKr _ ?_; clear hKr Kr)
  refine CallK.data (fun _ => Spec.args (s1) (by (first | exact ArgsLe.refl | (repeat (first | exact True.intro | refine And.intro (by first | exact AvLe.refl | exact AvLe.loose | exact AvLe.nil | exact AvLe.nilT | exact AvLe.slk | (refine AvLe.agg ?_; exact ArgsLe.refl) | (refine AvLe.agg ?_; (repeat (first | exact True.intro | refine And.intro (by first | exact AvLe.refl | exact AvLe.loose | exact AvLe.nil | exact AvLe.nilT | exact AvLe.slk) ?_)))) ?_))))) rfl ?_
  simp only [go_sem, al, bl, aT, bT]
  (repeat (refine ⟨by (first | exact True.intro | omega | rfl | (simp; done) | (simp; omega)), ?_⟩)); try (refine hKr _ ?_; clear hKr Kr)
  refine CallK.data (fun _ => Spec.args (s2) (by (first | exact ArgsLe.refl | (repeat (first | exact True.intro | refine And.intro (by first | exact AvLe.refl | exact AvLe.loose | exact AvLe.nil | exact AvLe.nilT | exact AvLe.slk | (refine AvLe.agg ?_; exact ArgsLe.refl) | (refine AvLe.agg ?_; (repeat (first | exact True.intro | refine And.intro (by first | exact AvLe.refl | exact AvLe.loose | exact AvLe.nil | exact AvLe.nilT | exact AvLe.slk) ?_)))) ?_))))) rfl ?_
  simp only [go_sem, al, bl, aT, bT]
  (repeat (refine ⟨by (first | exact True.intro | omega | rfl | (simp; done) | (simp; omega)), ?_⟩)); try (refine hKr _ ?_; clear hKr Kr)
  refine T.condTD rfl rfl (fun hb => ?_) (fun hb => ?_) <;> try simp at hb
  refine T.skip ?_
  refine hK1 _ ?_
  refine T.sdraw2D 114 [0, 1, 2, 3, 4, 5, 6, 7, 8, 9, 19, 34, 45, 59, 70, 87, 111] (.take 1 (.take 2 (.take 5 (.take 6 (.three 0 (.three 3 (.two 4 (.two 7 (.take 8 (.one 9 (.one 10 .done))) 9 (.one 7 (.take 8 (.one 10 .done)))) 9 (.one 4 (.one 7 (.take 8 (.one 10 .done))))) 4 (.two 3 (.two 7 (.take 8 (.one 9 (.one 10 .done))) 9 (.one 7 (.take 8 (.one 10 .done)))) 9 (.one 3 (.one 7 (.take 8 (.one 10 .done))))) 9 (.two 3 (.one 4 (.one 7 (.take 8 (.one 10 .done)))) 4 (.one 3 (.one 7 (.take 8 (.one 10 .done)))))) 4 (.two 0 (.two 3 (.two 7 (.take 8 (.one 9 (.one 10 .done))) 9 (.one 7 (.take 8 (.one 10 .done)))) 9 (.one 3 (.one 7 (.take 8 (.one 10 .done))))) 9 (.one 0 (.one 3 (.one 7 (.take 8 (.one 10 .done)))))) 9 (.two 0 (.two 3 (.one 4 (.one 7 (.take 8 (.one 10 .done)))) 4 (.one 3 (.one 7 (.take 8 (.one 10 .done))))) 4 (.one 0 (.one 3 (.one 7 (.take 8 (.one 10 .done))))))))))) [2] rfl (by decide +kernel) (by decide +kernel) ?x1 ?h1 (fun Kr hKr => ?all1) ?rest1
  case all1 =>
    simp only [go_sem, al, bl, aT, bT, recsOf_nil, List.nil_append]
    (repeat (any_goals (first | exact hKr _ (.inl rfl) | exact hKr _ (.inr (by (repeat (first | exact True.intro | refine And.intro (by first | rfl | (simp [look]; done)) ?_)))) | (refine And.intro ?_ ?_) | (first | exact True.intro | omega | rfl | (simp; done) | (simp; omega)))))
    all_goals (first | exact hKr _ (.inl rfl) | exact hKr _ (.inr (by (repeat (first | exact True.intro | refine And.intro (by first | rfl | (simp [look]; done)) ?_)))))
  case rest1 =>
  refine T.weaken (Le.frz 21) ?_
  simp only [go_sem]
  refine T.weaken (Le.frz 25) ?_
  simp only [go_sem]
  have aTr : a.r.take a.r.length = a.r := List.take_length
  have aTo : a.o.take a.o.length = a.o := List.take_length
  refine T.seqK fun K2 hK2 => ?_
  refine T.sregD 114 [0, 1, 2, 3, 4, 5, 6, 7, 8, 9, 19, 34, 45, 59, 70, 87, 111] fun Kr hKr => ?_
  simp only [go_sem]
  (repeat (refine ⟨by (first | exact True.intro | omega | rfl | (simp; done) | (simp; omega)), ?_⟩)); try (refine hKr _ ?_; clear hKr Kr)
  refine T.bloop (fun i : Nat => ⟨dense 114 [(2, .op 2 0 0), (3, .op 3 0 0), (4, .op 4 0 0), (5, .int .i64 0), (6, .op 6 0 0), (7, .int .i64 i)], [(6, ⟨10, 29, true, [.agg [.sl false 6 (recsOf a.r), .sl false 7 (ordsOf ((b.o.take i).foldl addO a.o)), .int .i64 0, .int .i64 0, .int .i64 0, .int .i64 0, .int .i64 0, .int .i64 0, .int .i64 0, .int .i64 0]]⟩), (4, ⟨10, 29, true, [.agg [.sl true 1 [], .sl true 1 [], .int .i64 0, .int .i64 0, .int .i64 0, .int .i64 0, .int .i64 0, .int .i64 0, .int .i64 0, .int .i64 0]]⟩), (3, ⟨10, 29, true, [usrA b]⟩), (2, ⟨10, 29, true, [usrA a]⟩)]⟩) (fun i => i ≤ b.o.length) (fun i => b.o.length - i) 0 (by simp) ?_ fun i hi => ?_
  · refine Le.fitS (by (repeat (first | exact DFit.nil | refine DFit.cons (by first | rfl | (simp [slook]; done) | (simp [slook]; omega)) ?_))) (by (repeat (first | exact True.intro | refine And.intro (by first | rfl | (simp [look]; done)) ?_)))
  have hAl := addO_len (b.o.take i) a.o
  rw [List.length_take] at hAl
  refine T.seqK fun K3 hK3 => ?_
  refine T.sregD 114 [0, 1, 2, 3, 4, 5, 6, 7, 8, 9, 19, 34, 45, 59, 70, 87, 111] fun Kr hKr => ?_
  simp only [go_sem]
  (repeat (refine ⟨by (first | exact True.intro | omega | rfl | (simp; done) | (simp; omega)), ?_⟩)); try (refine hKr _ ?_; clear hKr Kr)
  refine T.condFD rfl rfl (fun hb => ?_) (fun hb => ?_) <;> simp at hb
  rotate_left
  · refine T.skip ?_
    refine hK3 _ ?_
    have hst : (b.o.take (i + 1)).foldl addO a.o = addO ((b.o.take i).foldl addO a.o) (b.o.getD i default) := by
      rw [take_succ_d hb, List.foldl_append]; rfl
    have q1 := hasO_spec ((b.o.take i).foldl addO a.o) (b.o.getD i default) (by omega)
    have q2 := InsertO_spec ((b.o.take i).foldl addO a.o) (b.o.getD i default) (by omega)
    have hadd : addO ((b.o.take i).foldl addO a.o) (b.o.getD i default) = if b.o.getD i default ∈ (b.o.take i).foldl addO a.o then (b.o.take i).foldl addO a.o else insO (b.o.getD i default) ((b.o.take i).foldl addO a.o) := rfl
    refine T.seqK fun K4 hK4 => ?_
    refine T.block ?_
    refine T.sdrawD 114 [0, 1, 2, 3, 4, 5, 6, 7, 8, 9, 19, 34, 45, 59, 70, 87, 111] (.take 0 (.take 1 (.take 2 (.take 3 (.take 4 (.take 5 (.take 6 (.one 7 (.take 8 .done))))))))) [3, 6] rfl (by decide +kernel) (by decide +kernel) fun Kr hKr => ?_
    simp only [go_sem, hb]
    (repeat (refine ⟨by (first | exact True.intro | omega | rfl | (simp; done) | (simp; omega)), ?_⟩)); try (refine hKr _ ?_; clear hKr Kr)
    refine CallK.data (fun _ => Spec.args (q1) (by (first | exact ArgsLe.refl | (repeat (first | exact True.intro | refine And.intro (by first | exact AvLe.refl | exact AvLe.loose | exact AvLe.nil | exact AvLe.nilT | exact AvLe.slk | (refine AvLe.agg ?_; exact ArgsLe.refl) | (refine AvLe.agg ?_; (repeat (first | exact True.intro | refine And.intro (by first | exact AvLe.refl | exact AvLe.loose | exact AvLe.nil | exact AvLe.nilT | exact AvLe.slk) ?_)))) ?_))))) rfl ?_
    simp only [go_sem]
    (repeat (refine ⟨by (first | exact True.intro | omega | rfl | (simp; done) | (simp; omega)), ?_⟩)); try (refine hKr _ ?_; clear hKr Kr)
    by_cases hin : b.o.getD i default ∈ (b.o.take i).foldl addO a.o
    · rw [if_pos hin] at hadd
      rw [decide_eq_true hin]
      refine T.condTD rfl rfl (fun hc => ?_) (fun hc => ?_) <;> try simp at hc
      refine T.skip ?_
      refine hK4 _ ?_
      refine T.regD 114 [0, 1, 2, 3, 4, 5, 6, 7, 8, 9, 19, 34, 45, 59, 70, 87, 111] fun Kr hKr => ?_
      simp only [go_sem]
      (repeat (refine ⟨by (first | exact True.intro | omega | rfl | (simp; done) | (simp; omega)), ?_⟩)); try (refine hKr _ ?_; clear hKr Kr)
      refine ⟨i + 1, ?_, ?_, Le.fitS (by (repeat (first | exact DFit.nil | refine DFit.cons (by first | rfl | (simp [slook, hst, hadd]; done) | (simp [slook, hst, hadd]; omega)) ?_))) ?_⟩
      · omega
      · omega
      · rw [hst, hadd]; (repeat (first | exact True.intro | refine And.intro (by first | rfl | (simp [look]; done)) ?_))
    · rw [if_neg hin] at hadd
      rw [decide_eq_false hin]
      refine T.condTD rfl rfl (fun hc => ?_) (fun hc => ?_) <;> try simp at hc
      refine T.drawD 114 [0, 1, 2, 3, 4, 5, 6, 7, 8, 9, 19, 34, 45, 59, 70, 87, 111] (.take 0 (.take 2 (.take 3 (.take 4 (.take 5 (.take 6 (.one 1 (.one 7 (.take 8 (.one 9 .done)))))))))) [3] rfl (by decide +kernel) (by decide +kernel) fun Kr hKr => ?_
      simp only [go_sem, hb]
      (repeat (refine ⟨by (first | exact True.intro | omega | rfl | (simp; done) | (simp; omega)), ?_⟩)); try (refine hKr _ ?_; clear hKr Kr)
      refine CallK.data (fun _ => Spec.args (q2) (by (first | exact ArgsLe.refl | (repeat (first | exact True.intro | refine And.intro (by first | exact AvLe.refl | exact AvLe.loose | exact AvLe.nil | exact AvLe.nilT | exact AvLe.slk | (refine AvLe.agg ?_; exact ArgsLe.refl) | (refine AvLe.agg ?_; (repeat (first | exact True.intro | refine And.intro (by first | exact AvLe.refl | exact AvLe.loose | exact AvLe.nil | exact AvLe.nilT | exact AvLe.slk) ?_)))) ?_))))) rfl ?_
      simp only [go_sem]
      (repeat (refine ⟨by (first | exact True.intro | omega | rfl | (simp; done) | (simp; omega)), ?_⟩)); try (refine hKr _ ?_; clear hKr Kr)
      refine hK4 _ ?_
      refine T.regD 114 [0, 1, 2, 3, 4, 5, 6, 7, 8, 9, 19, 34, 45, 59, 70, 87, 111] fun Kr hKr => ?_
      simp only [go_sem]
      (repeat (refine ⟨by (first | exact True.intro | omega | rfl | (simp; done) | (simp; omega)), ?_⟩)); try (refine hKr _ ?_; clear hKr Kr)
      refine ⟨i + 1, ?_, ?_, Le.fitS (by (repeat (first | exact DFit.nil | refine DFit.cons (by first | rfl | (simp [slook, hst, hadd]; done) | (simp [slook, hst, hadd]; omega)) ?_))) ?_⟩
      · omega
      · omega
      · rw [hst, hadd]; (repeat (first | exact True.intro | refine And.intro (by first | rfl | (simp [look]; done)) ?_))
  refine T.exit ?_
  simp only [if_true]
  refine hK2 _ ?_
  have hie : i = b.o.length := by omega
  subst hie
  rw [List.take_length] at hAl ⊢
  have hOm : ∀ x ∈ b.o.foldl addO a.o, RightO x := fun x hx => (addO_sub b.o a.o x hx).elim (fun h => (ha.oo x h).1) (fun h => (hB.oo x h).1)
  generalize b.o.foldl addO a.o = O at *
  refine T.seqK fun K3 hK3 => ?_
  refine T.sregD 114 [0, 1, 2, 3, 4, 5, 6, 7, 8, 9, 19, 34, 45, 59, 70, 87, 111] fun Kr hKr => ?_
  simp only [go_sem]
  (repeat (refine ⟨by (first | exact True.intro | omega | rfl | (simp; done) | (simp; omega)), ?_⟩)); try (refine hKr _ ?_; clear hKr Kr)
  refine T.bloop (fun i : Nat => ⟨dense 114 [(2, .op 2 0 0), (3, .op 3 0 0), (4, .op 4 0 0), (5, .int .i64 0), (6, .op 6 0 0), (8, .int .i64 i)], [(6, ⟨10, 29, true, [.agg [.sl false 6 (recsOf ((b.r.take i).foldl addR a.r)), .sl false 7 (ordsOf O), .int .i64 0, .int .i64 0, .int .i64 0, .int .i64 0, .int .i64 0, .int .i64 0, .int .i64 0, .int .i64 0]]⟩), (4, ⟨10, 29, true, [.agg [.sl true 1 [], .sl true 1 [], .int .i64 0, .int .i64 0, .int .i64 0, .int .i64 0, .int .i64 0, .int .i64 0, .int .i64 0, .int .i64 0]]⟩), (3, ⟨10, 29, true, [usrA b]⟩), (2, ⟨10, 29, true, [usrA a]⟩)]⟩) (fun i => i ≤ b.r.length) (fun i => b.r.length - i) 0 (by simp) ?_ fun i hi => ?_
  · refine Le.fitS (by (repeat (first | exact DFit.nil | refine DFit.cons (by first | rfl | (simp [slook]; done) | (simp [slook]; omega)) ?_))) (by (repeat (first | exact True.intro | refine And.intro (by first | rfl | (simp [look]; done)) ?_)))
  have hAr := addR_len (b.r.take i) a.r
  rw [List.length_take] at hAr
  refine T.seqK fun K4 hK4 => ?_
  refine T.sregD 114 [0, 1, 2, 3, 4, 5, 6, 7, 8, 9, 19, 34, 45, 59, 70, 87, 111] fun Kr hKr => ?_
  simp only [go_sem]
  (repeat (refine ⟨by (first | exact True.intro | omega | rfl | (simp; done) | (simp; omega)), ?_⟩)); try (refine hKr _ ?_; clear hKr Kr)
  refine T.condFD rfl rfl (fun hb => ?_) (fun hb => ?_) <;> simp at hb
  rotate_left
  · refine T.skip ?_
    refine hK4 _ ?_
    have hst : (b.r.take (i + 1)).foldl addR a.r = addR ((b.r.take i).foldl addR a.r) (b.r.getD i default) := by
      rw [take_succ_d hb, List.foldl_append]; rfl
    have q1 := hasR_spec ((b.r.take i).foldl addR a.r) (b.r.getD i default) (by omega)
    have q2 := InsertR_spec ((b.r.take i).foldl addR a.r) (b.r.getD i default) (by omega)
    have hadd : addR ((b.r.take i).foldl addR a.r) (b.r.getD i default) = if b.r.getD i default ∈ (b.r.take i).foldl addR a.r then (b.r.take i).foldl addR a.r else insR (b.r.getD i default) ((b.r.take i).foldl addR a.r) := rfl
    refine T.seqK fun K5 hK5 => ?_
    refine T.block ?_
    refine T.sdrawD 114 [0, 1, 2, 3, 4, 5, 6, 7, 8, 9, 19, 34, 45, 59, 70, 87, 111] (.take 0 (.take 1 (.take 2 (.take 3 (.take 4 (.take 5 (.take 6 (.one 7 (.take 8 .done))))))))) [3, 6] rfl (by decide +kernel) (by decide +kernel) fun Kr hKr => ?_
    simp only [go_sem, hb]
    (repeat (refine ⟨by (first | exact True.intro | omega | rfl | (simp; done) | (simp; omega)), ?_⟩)); try (refine hKr _ ?_; clear hKr Kr)
    refine CallK.data (fun _ => Spec.args (q1) (by (first | exact ArgsLe.refl | (repeat (first | exact True.intro | refine And.intro (by first | exact AvLe.refl | exact AvLe.loose | exact AvLe.nil | exact AvLe.nilT | exact AvLe.slk | (refine AvLe.agg ?_; exact ArgsLe.refl) | (refine AvLe.agg ?_; (repeat (first | exact True.intro | refine And.intro (by first | exact AvLe.refl | exact AvLe.loose | exact AvLe.nil | exact AvLe.nilT | exact AvLe.slk) ?_)))) ?_))))) rfl ?_
    simp only [go_sem]
    (repeat (refine ⟨by (first | exact True.intro | omega | rfl | (simp; done) | (simp; omega)), ?_⟩)); try (refine hKr _ ?_; clear hKr Kr)
    by_cases hin : b.r.getD i default ∈ (b.r.take i).foldl addR a.r
    · rw [if_pos hin] at hadd
      rw [decide_eq_true hin]
      refine T.condTD rfl rfl (fun hc => ?_) (fun hc => ?_) <;> try simp at hc
      refine T.skip ?_
      refine hK5 _ ?_
      refine T.regD 114 [0, 1, 2, 3, 4, 5, 6, 7, 8, 9, 19, 34, 45, 59, 70, 87, 111] fun Kr hKr => ?_
      simp only [go_sem]
      (repeat (refine ⟨by (first | exact True.intro | omega | rfl | (simp; done) | (simp; omega)), ?_⟩)); try (refine hKr _ ?_; clear hKr Kr)
      refine ⟨i + 1, ?_, ?_, Le.fitS (by (repeat (first | exact DFit.nil | refine DFit.cons (by first | rfl | (simp [slook, hst, hadd]; done) | (simp [slook, hst, hadd]; omega)) ?_))) ?_⟩
      · omega
      · omega
      · rw [hst, hadd]; (repeat (first | exact True.intro | refine And.intro (by first | rfl | (simp [look]; done)) ?_))
    · rw [if_neg hin] at hadd
      rw [decide_eq_false hin]
      refine T.condTD rfl rfl (fun hc => ?_) (fun hc => ?_) <;> try simp at hc
      refine T.drawD 114 [0, 1, 2, 3, 4, 5, 6, 7, 8, 9, 19, 34, 45, 59, 70, 87, 111] (.take 0 (.take 2 (.take 3 (.take 4 (.take 5 (.take 6 (.one 1 (.one 7 (.take 8 (.one 9 .done)))))))))) [3] rfl (by decide +kernel) (by decide +kernel) fun Kr hKr => ?_
      simp only [go_sem, hb]
      (repeat (refine ⟨by (first | exact True.intro | omega | rfl | (simp; done) | (simp; omega)), ?_⟩)); try (refine hKr _ ?_; clear hKr Kr)
      refine CallK.data (fun _ => Spec.args (q2) (by (first | exact ArgsLe.refl | (repeat (first | exact True.intro | refine And.intro (by first | exact AvLe.refl | exact AvLe.loose | exact AvLe.nil | exact AvLe.nilT | exact AvLe.slk | (refine AvLe.agg ?_; exact ArgsLe.refl) | (refine AvLe.agg ?_; (repeat (first | exact True.intro | refine And.intro (by first | exact AvLe.refl | exact AvLe.loose | exact AvLe.nil | exact AvLe.nilT | exact AvLe.slk) ?_)))) ?_))))) rfl ?_
      simp only [go_sem]
      (repeat (refine ⟨by (first | exact True.intro | omega | rfl | (simp; done) | (simp; omega)), ?_⟩)); try (refine hKr _ ?_; clear hKr Kr)
      refine hK5 _ ?_
      refine T.regD 114 [0, 1, 2, 3, 4, 5, 6, 7, 8, 9, 19, 34, 45, 59, 70, 87, 111] fun Kr hKr => ?_
      simp only [go_sem]
      (repeat (refine ⟨by (first | exact True.intro | omega | rfl | (simp; done) | (simp; omega)), ?_⟩)); try (refine hKr _ ?_; clear hKr Kr)
      refine ⟨i + 1, ?_, ?_, Le.fitS (by (repeat (first | exact DFit.nil | refine DFit.cons (by first | rfl | (simp [slook, hst, hadd]; done) | (simp [slook, hst, hadd]; omega)) ?_))) ?_⟩
      · omega
      · omega
      · rw [hst, hadd]; (repeat (first | exact True.intro | refine And.intro (by first | rfl | (simp [look]; done)) ?_))
  refine T.exit ?_
  simp only [if_true]
  refine hK3 _ ?_
  have hie : i = b.r.length := by omega
  subst hie
  rw [List.take_length] at hAr ⊢
  have hRm : ∀ x ∈ b.r.foldl addR a.r, RightR x := fun x hx => (addR_sub b.r a.r x hx).elim (fun h => (ha.rr x h).1) (fun h => (hB.rr x h).1)
  generalize b.r.foldl addR a.r = R at *
  have q3 := KeptR_spec R O (by omega) (by omega) hRm hOm
  have hKl : (keptF O R).length ≤ R.length := List.length_filter_le _ _
  generalize keptF O R = K at *
  have hno : ¬ (K.length > 400 ∨ O.length > 400) := by omega
  rw [if_neg hno] at ee
  refine T.sregD 114 [0, 1, 2, 3, 4, 5, 6, 7, 8, 9, 19, 34, 45, 59, 70, 87, 111] fun Kr hKr => ?_
  simp only [go_sem]
  (repeat (refine ⟨by (first | exact True.intro | omega | rfl | (simp; done) | (simp; omega)), ?_⟩)); try (refine hKr _ ?_; clear hKr Kr)
  refine CallK.data (fun _ => Spec.args (q3) (by (first | exact ArgsLe.refl | (repeat (first | exact True.intro | refine And.intro (by first | exact AvLe.refl | exact AvLe.loose | exact AvLe.nil | exact AvLe.nilT | exact AvLe.slk | (refine AvLe.agg ?_; exact ArgsLe.refl) | (refine AvLe.agg ?_; (repeat (first | exact True.intro | refine And.intro (by first | exact AvLe.refl | exact AvLe.loose | exact AvLe.nil | exact AvLe.nilT | exact AvLe.slk) ?_)))) ?_))))) rfl ?_
  simp only [go_sem]
  (repeat (refine ⟨by (first | exact True.intro | omega | rfl | (simp; done) | (simp; omega)), ?_⟩)); try (refine hKr _ ?_; clear hKr Kr)
  refine T.seqK fun K4 hK4 => ?_
  refine T.sregD 114 [0, 1, 2, 3, 4, 5, 6, 7, 8, 9, 19, 34, 45, 59, 70, 87, 111] fun Kr hKr => ?_
  simp only [go_sem]
  (repeat (refine ⟨by (first | exact True.intro | omega | rfl | (simp; done) | (simp; omega)), ?_⟩)); try (refine hKr _ ?_; clear hKr Kr)
  refine T.bloop (fun d : Nat => ⟨dense 114 [(2, .op 2 0 0), (3, .op 3 0 0), (4, .op 4 0 0), (5, .int .i64 0), (6, .op 6 0 0), (9, .int .i64 d)], [(6, ⟨10, 29, true, [.agg (.sl false 6 (recsOf K) :: .sl false 7 (ordsOf O) :: intsOf (partL a.l b.l d))]⟩), (4, ⟨10, 29, true, [.agg [.sl true 1 [], .sl true 1 [], .int .i64 0, .int .i64 0, .int .i64 0, .int .i64 0, .int .i64 0, .int .i64 0, .int .i64 0, .int .i64 0]]⟩), (3, ⟨10, 29, true, [usrA b]⟩), (2, ⟨10, 29, true, [usrA a]⟩)]⟩) (fun d => d ≤ 8) (fun d => 8 - d) 0 (by simp) ?_ fun d hd => ?_
  · refine Le.fitS (by (repeat (first | exact DFit.nil | refine DFit.cons (by first | rfl | (simp [slook]; done) | (simp [slook]; omega)) ?_))) (by (repeat (first | exact True.intro | refine And.intro (by first | rfl | (simp [look]; done)) ?_)))
  refine T.seqK fun K5 hK5 => ?_
  refine T.sregD 114 [0, 1, 2, 3, 4, 5, 6, 7, 8, 9, 19, 34, 45, 59, 70, 87, 111] fun Kr hKr => ?_
  simp only [go_sem]
  (repeat (refine ⟨by (first | exact True.intro | omega | rfl | (simp; done) | (simp; omega)), ?_⟩)); try (refine hKr _ ?_; clear hKr Kr)
  refine T.condFD rfl rfl (fun hb => ?_) (fun hb => ?_) <;> simp only [decide_eq_true_eq, decide_eq_false_iff_not] at hb
  · -- no: exit
    refine T.exit ?_
    simp only [if_true]
    refine hK4 _ ?_
    have hd8 : d = 8 := by omega
    subst hd8
    have e2 : mergeX (mergeRF a b) = .agg (.sl false 6 (recsOf K) :: .sl false 7 (ordsOf O) :: intsOf (partL a.l b.l 8)) := by rw [ee, partL_end]; rfl
    have hp8 : (partL a.l b.l 8).length = 8 := partL_len _ _ (by omega)
    have ht8 : (partL a.l b.l 8).take 8 = partL a.l b.l 8 := List.take_of_length_le (by omega)
    generalize partL a.l b.l 8 = P at *
    refine T.seqK fun K6 hK6 => ?_
    have g1 : ((K.length : Int) > 400) = False := eq_false (by omega)
    have g2 : ((O.length : Int) > 400) = False := eq_false (by omega)
    refine T.sregD 114 [0, 1, 2, 3, 4, 5, 6, 7, 8, 9, 19, 34, 45, 59, 70, 87, 111] fun Kr hKr => ?_
    simp only [go_sem, g1, g2]
    (repeat (refine ⟨by (first | exact True.intro | omega | rfl | (simp; done) | (simp; omega)), ?_⟩)); try (refine hKr _ ?_; clear hKr Kr)
    refine T.condTD rfl rfl (fun hc => ?_) (fun hc => ?_) <;> try simp at hc
    refine T.skip ?_
    refine hK6 _ ?_
    refine T.sregD 114 [0, 1, 2, 3, 4, 5, 6, 7, 8, 9, 19, 34, 45, 59, 70, 87, 111] fun Kr hKr => ?_
    simp only [go_sem, hp8, ht8, List.take_succ_cons]
    (repeat (refine ⟨by (first | exact True.intro | omega | rfl | (simp; done) | (simp; omega)), ?_⟩)); try (refine hKr _ ?_; clear hKr Kr)
    refine T.ret ?_
    simp only [go_sem, hp8, ht8, List.take_succ_cons]
    exact ⟨ResCellD rfl rfl rfl rfl (by simp only [go_sem, hp8]) (by rw [e2]; simp only [go_sem, hp8, ht8, List.take_succ_cons]) (by rw [e2]; rfl), ResAtD (by rw [ee]; simp only [go_sem]) rfl rfl, trivial⟩
  have hd8 : d < 8 := by omega
  have hpl : (partL a.l b.l d).length = 8 := partL_len _ _ (by omega)
  have hda : d < a.l.length := by omega
  have hdb : d < b.l.length := by omega
  refine T.skip ?_
  refine hK5 _ ?_
  refine T.seqK fun K6 hK6 => ?_
  refine T.block ?_
  have hpb := fun x y => partL_box x y a.l b.l hd8
  refine T.drawD 114 [0, 1, 2, 3, 4, 5, 6, 7, 8, 9, 19, 34, 45, 59, 70, 87, 111] (.take 0 (.take 1 (.take 2 (.take 3 (.take 4 (.take 5 (.take 6 (.take 7 (.take 8 (.take 9 (.take 10 (.take 11 (.one 12 .done))))))))))))) [2, 3] rfl (by decide +kernel) (by decide +kernel) fun Kr hKr => ?_
  simp only [go_sem, hda, hdb, hpl, hpb]
  (repeat (refine ⟨by (first | exact True.intro | omega | rfl | (simp; done) | (simp; omega)), ?_⟩)); try (refine hKr _ ?_; clear hKr Kr)
  refine hK6 _ ?_
  refine T.regD 114 [0, 1, 2, 3, 4, 5, 6, 7, 8, 9, 19, 34, 45, 59, 70, 87, 111] fun Kr hKr => ?_
  simp only [go_sem]
  (repeat (refine ⟨by (first | exact True.intro | omega | rfl | (simp; done) | (simp; omega)), ?_⟩)); try (refine hKr _ ?_; clear hKr Kr)
  refine ⟨d + 1, ?_, ?_, Le.fitS (by (repeat (first | exact DFit.nil | refine DFit.cons (by first | rfl | (simp [slook]; done) | (simp [slook]; omega)) ?_))) ?_⟩
  all_goals first | omega | skip
  exact ⟨rfl, rfl, rfl, rfl, trivial⟩
end Go.Proofs
