/- Learning a first record (package learn): slices.Grow, slices.Concat, add, Learn. -/
import Derived.Test.YtdhkkdhooobdhaaGreatDoorT9
import Derived.Test.YtdhkkdhooobdhaaGreatDoorT8
import Derived.Test.YtdhkkdhooobdhaaGreatDoorCoreY
set_option linter.unusedVariables false
set_option linter.unusedSimpArgs false
namespace Go.Proofs
open Go Go.Ideal
set_option maxRecDepth 8000
set_option maxHeartbeats 4000000

theorem nil_slk (n : Nat) : AvLe (.sl true 1 []) (.slk 0 n []) := by
  intro ok w v h
  cases h with
  | slNil _ _ a cap hc =>
    have := hc rfl
    subst this
    exact .slk 0 n 0 [] a (.slNil false n a 0 (fun h => by cases h))
  | sl _ b o cap _ _ vs hb hne => exact absurd rfl hne
theorem grow_spec : Ideal.Spec Tryz.prog 89 [.slk 0 6 [], .int .i64 1] (.osl 0 0 0) (some ⟨6, 39, false, []⟩) := by
  refine Ideal.Spec.of_TD (n := 27) (fn := Tryz.f89) rfl rfl rfl rfl rfl rfl rfl fun w ok => ?_
  refine T.sregD 27 [0, 1, 4, 6, 16] fun Kr hKr => ?_
  simp only [go_sem]
  (repeat (refine ⟨by (first | exact True.intro | omega | rfl | (simp; done) | (simp; omega)), ?_⟩)); try (refine hKr _ ?_; clear hKr Kr)
  refine T.seqK fun K162 hK162 => ?_
  refine T.sregD 27 [0, 1, 4, 6, 16] fun Kr hKr => ?_
  simp only [go_sem]
  (repeat (refine ⟨by (first | exact True.intro | omega | rfl | (simp; done) | (simp; omega)), ?_⟩)); try (refine hKr _ ?_; clear hKr Kr)
  refine T.condTD rfl rfl (fun hb => ?_) (fun hb => ?_) <;> try simp at hb
  refine T.skip ?_
  refine hK162 _ ?_
  refine T.seqK fun K164 hK164 => ?_
  refine T.sregD 27 [0, 1, 4, 6, 16] fun Kr hKr => ?_
  simp only [go_sem]
  (repeat (refine ⟨by (first | exact True.intro | omega | rfl | (simp; done) | (simp; omega)), ?_⟩)); try (refine hKr _ ?_; clear hKr Kr)
  refine T.sregD 27 [0, 1, 4, 6, 16] fun Kr hKr => ?_
  simp only [go_sem]
  (repeat (refine ⟨by (first | exact True.intro | omega | rfl | (simp; done) | (simp; omega)), ?_⟩)); try (refine hKr _ ?_; clear hKr Kr)
  refine T.condTD rfl rfl (fun hb => ?_) (fun hb => ?_) <;> try simp at hb
  refine T.regD 27 [0, 1, 4, 6, 16] fun Kr hKr => ?_
  simp only [go_sem]
  (repeat (refine ⟨by (first | exact True.intro | omega | rfl | (simp; done) | (simp; omega)), ?_⟩)); try (refine hKr _ ?_; clear hKr Kr)
  refine hK164 _ ?_
  refine T.weaken (Le.shrink 22 0 6 39 _ rfl) ?_
  simp only [go_sem, List.take_zero]
  refine T.sregD 27 [0, 1, 4, 6, 16] fun Kr hKr => ?_
  simp only [go_sem]
  (repeat (refine ⟨by (first | exact True.intro | omega | rfl | (simp; done) | (simp; omega)), ?_⟩)); try (refine hKr _ ?_; clear hKr Kr)
  refine T.ret (Fin.oslD rfl rfl rfl)
theorem bsf_spec (p : AV) (f : Nat) (caps : List AV) (hp : p = plA 0 1) (hc : ∀ x ∈ caps, ∃ cs, x = .cp cs) : Ideal.Spec Tryz.prog 86 [.sl true 6 [], p, .fn f caps] (.tup [.int .i64 0, .bool false]) none := by
  subst hp
  have a1 := car_all hc
  have a2 := car_any hc
  have a3 := car_nm hc
  have a4 := car_frz hc
  refine Ideal.Spec.of_TD2 (n := 49) (fn := Tryz.f86) rfl rfl rfl rfl rfl rfl rfl fun w ok => ?_
  refine T.sregD 49 [0, 1, 2, 4, 6, 7, 8, 9, 10, 11, 17, 31] fun Kr hKr => ?_
  simp only [go_sem, a1, a2, a3, a4]
  (repeat (refine ⟨by (first | exact True.intro | omega | rfl | (simp; done) | (simp; omega)), ?_⟩)); try (refine hKr _ ?_; clear hKr Kr)
  refine T.sregD 49 [0, 1, 2, 4, 6, 7, 8, 9, 10, 11, 17, 31] fun Kr hKr => ?_
  simp only [go_sem, a1, a2, a3, a4]
  (repeat (refine ⟨by (first | exact True.intro | omega | rfl | (simp; done) | (simp; omega)), ?_⟩)); try (refine hKr _ ?_; clear hKr Kr)
  refine T.sregD 49 [0, 1, 2, 4, 6, 7, 8, 9, 10, 11, 17, 31] fun Kr hKr => ?_
  simp only [go_sem, a1, a2, a3, a4]
  (repeat (refine ⟨by (first | exact True.intro | omega | rfl | (simp; done) | (simp; omega)), ?_⟩)); try (refine hKr _ ?_; clear hKr Kr)
  refine T.seqK fun K160 hK160 => ?_
  refine T.bloop (fun i : Nat => ⟨dense 49 [(0, .sl true 6 []), (2, .fn f caps), (4, .op 4 0 0), (8, .int .i64 0), (9, .int .i64 0), (10, .int .i64 0)], [(4, ⟨2, 104, true, [plA 0 1]⟩)]⟩) (fun i => True) (fun i => 0) 0 trivial ?_ fun i hi => ?_
  · refine Le.fitS (by (repeat (first | exact DFit.nil | refine DFit.cons (by first | rfl | (simp [slook]; done) | (simp [slook]; omega)) ?_))) (by (repeat (first | exact True.intro | refine And.intro (by first | rfl | (simp [look]; done)) ?_)))
  refine T.seqK fun K161 hK161 => ?_
  refine T.sregD 49 [0, 1, 2, 4, 6, 7, 8, 9, 10, 11, 17, 31] fun Kr hKr => ?_
  simp only [go_sem, a1, a2, a3, a4]
  (repeat (refine ⟨by (first | exact True.intro | omega | rfl | (simp; done) | (simp; omega)), ?_⟩)); try (refine hKr _ ?_; clear hKr Kr)
  refine T.condFD rfl rfl (fun hb => ?_) (fun hb => ?_) <;> try simp at hb
  refine T.exit ?_
  simp only [if_true]
  refine hK160 _ ?_
  refine T.sdrawD 49 [0, 1, 2, 4, 6, 7, 8, 9, 10, 11, 17, 31] (.take 0 (.take 1 (.take 2 (.take 3 (.take 4 (.take 5 (.take 6 (.take 7 (.take 8 (.take 9 (.take 10 (.one 11 (.take 12 (.take 13 (.take 14 (.take 15 .done)))))))))))))))) [4] rfl (by decide +kernel) (by decide +kernel) fun Kr hKr => ?_
  simp only [go_sem, a1, a2, a3, a4]
  (repeat (refine ⟨by (first | exact True.intro | omega | rfl | (simp; done) | (simp; omega)), ?_⟩)); try (refine hKr _ ?_; clear hKr Kr)
  refine CallK.data (r := .int .i64 0) (fun h => by cases h) rfl ?_
  simp only [go_sem, a1, a2, a3, a4]
  (repeat (refine ⟨by (first | exact True.intro | omega | rfl | (simp; done) | (simp; omega)), ?_⟩)); try (refine hKr _ ?_; clear hKr Kr)
  refine T.ret ⟨⟨rfl, rfl, rfl⟩, ⟨rfl, rfl, rfl⟩⟩
theorem find_spec : Ideal.Spec Tryz.prog 63 [.sl true 6 [], .fn 36 [], plA 0 1] (.tup [.int .i64 0, .bool false]) none := by
  have s1 := bsf_spec (plA 0 1) 87 [.cp [.fn 36 []]] rfl (by simp)
  refine Ideal.Spec.of_TD2 (n := 14) (fn := Tryz.f63) rfl rfl rfl rfl rfl rfl rfl fun w ok => ?_
  refine T.sregD 14 [0, 1, 2, 4, 5, 6, 7] fun Kr hKr => ?_
  simp only [go_sem]
  (repeat (refine ⟨by (first | exact True.intro | omega | rfl | (simp; done) | (simp; omega)), ?_⟩)); try (refine hKr _ ?_; clear hKr Kr)
  refine T.sregD 14 [0, 1, 2, 4, 5, 6, 7] fun Kr hKr => ?_
  simp only [go_sem]
  (repeat (refine ⟨by (first | exact True.intro | omega | rfl | (simp; done) | (simp; omega)), ?_⟩)); try (refine hKr _ ?_; clear hKr Kr)
  refine CallK.tup (fun _ => Spec.args (s1) (by (first | exact ArgsLe.refl | (repeat (first | exact True.intro | refine And.intro (by first | exact AvLe.refl | exact AvLe.loose | exact AvLe.nil | exact AvLe.nilT | exact AvLe.slk | (refine AvLe.agg ?_; exact ArgsLe.refl) | (refine AvLe.agg ?_; (repeat (first | exact True.intro | refine And.intro (by first | exact AvLe.refl | exact AvLe.loose | exact AvLe.nil | exact AvLe.nilT | exact AvLe.slk) ?_)))) ?_))))) ?_
  simp only [go_sem]
  (repeat (refine ⟨by (first | exact True.intro | omega | rfl | (simp; done) | (simp; omega)), ?_⟩)); try (refine hKr _ ?_; clear hKr Kr)
  refine T.ret ⟨⟨rfl, rfl, rfl⟩, ⟨rfl, rfl, rfl⟩⟩
theorem concat_spec (r : Rec) : Ideal.Spec Tryz.prog 64 [.sl false 1 [.sl false 6 [], .sl false 6 [recA r], .sl true 6 []]] (.osl 0 0 1) (some ⟨6, 39, false, [recA r]⟩) := by
  have s1 := grow_spec
  refine Ideal.Spec.of_TD (n := 36) (fn := Tryz.f64) rfl rfl rfl rfl rfl rfl rfl fun w ok => ?_
  refine T.sregD 36 [0, 2, 3, 5, 6, 8, 9, 10, 11, 12, 20, 25, 26, 27, 28] fun Kr hKr => ?_
  simp only [go_sem]
  (repeat (refine ⟨by (first | exact True.intro | omega | rfl | (simp; done) | (simp; omega)), ?_⟩)); try (refine hKr _ ?_; clear hKr Kr)
  refine T.sregD 36 [0, 2, 3, 5, 6, 8, 9, 10, 11, 12, 20, 25, 26, 27, 28] fun Kr hKr => ?_
  simp only [go_sem]
  (repeat (refine ⟨by (first | exact True.intro | omega | rfl | (simp; done) | (simp; omega)), ?_⟩)); try (refine hKr _ ?_; clear hKr Kr)
  refine T.seqK fun K117 hK117 => ?_
  refine T.sregD 36 [0, 2, 3, 5, 6, 8, 9, 10, 11, 12, 20, 25, 26, 27, 28] fun Kr hKr => ?_
  simp only [go_sem]
  (repeat (refine ⟨by (first | exact True.intro | omega | rfl | (simp; done) | (simp; omega)), ?_⟩)); try (refine hKr _ ?_; clear hKr Kr)
  refine T.bloop (fun i : Nat => ⟨dense 36 [(0, .sl false 1 [.sl false 6 [], .sl false 6 [recA r], .sl true 6 []]), (3, .int .i64 (if i ≤ 1 then 0 else 1)), (9, .sl false 1 [.sl false 6 [], .sl false 6 [recA r], .sl true 6 []]), (10, .int .i64 3), (11, .int .i64 i)], []⟩) (fun i => i ≤ 3) (fun i => 3 - i) 0 (by simp) ?_ fun i hi => ?_
  · refine Le.fitS (by (repeat (first | exact DFit.nil | refine DFit.cons (by first | rfl | (simp [slook]; done) | (simp [slook]; omega)) ?_))) (by (repeat (first | exact True.intro | refine And.intro (by first | rfl | (simp [look]; done)) ?_)))
  refine T.sregD 36 [0, 2, 3, 5, 6, 8, 9, 10, 11, 12, 20, 25, 26, 27, 28] fun Kr hKr => ?_
  simp only [go_sem]
  (repeat (refine ⟨by (first | exact True.intro | omega | rfl | (simp; done) | (simp; omega)), ?_⟩)); try (refine hKr _ ?_; clear hKr Kr)
  refine T.seqK fun K118 hK118 => ?_
  by_cases h3 : i = 3
  · subst h3
    simp only [Nat.reduceLeDiff, if_false]
    refine T.condFD rfl rfl (fun hb => ?_) (fun hb => ?_) <;> try simp at hb
    refine T.exit ?_
    simp only [if_true]
    refine hK117 _ ?_
    refine T.sregD 36 [0, 2, 3, 5, 6, 8, 9, 10, 11, 12, 20, 25, 26, 27, 28] fun Kr hKr => ?_
    simp only [go_sem]
    (repeat (refine ⟨by (first | exact True.intro | omega | rfl | (simp; done) | (simp; omega)), ?_⟩)); try (refine hKr _ ?_; clear hKr Kr)
    refine CallK.own (Spec.args s1 ⟨nil_slk 6, AvLe.refl, trivial⟩) ?_
    simp only [go_sem]
    (repeat (refine ⟨by (first | exact True.intro | omega | rfl | (simp; done) | (simp; omega)), ?_⟩)); try (refine hKr _ ?_; clear hKr Kr)
    refine T.seqK fun K119 hK119 => ?_
    refine T.sregD 36 [0, 2, 3, 5, 6, 8, 9, 10, 11, 12, 20, 25, 26, 27, 28] fun Kr hKr => ?_
    simp only [go_sem]
    (repeat (refine ⟨by (first | exact True.intro | omega | rfl | (simp; done) | (simp; omega)), ?_⟩)); try (refine hKr _ ?_; clear hKr Kr)
    refine T.bloop (fun i : Nat => ⟨dense 36 [(6, .osl 24 0 (if i ≤ 1 then 0 else 1)), (25, .sl false 1 [.sl false 6 [], .sl false 6 [recA r], .sl true 6 []]), (26, .int .i64 3), (27, .int .i64 i)], [(24, ⟨6, 39, false, if i ≤ 1 then [] else [recA r]⟩)]⟩) (fun i => i ≤ 3) (fun i => 3 - i) 0 (by simp) ?_ fun i hi => ?_
    · refine Le.fitS (by (repeat (first | exact DFit.nil | refine DFit.cons (by first | rfl | (simp [slook]; done) | (simp [slook]; omega)) ?_))) (by (repeat (first | exact True.intro | refine And.intro (by first | rfl | (simp [look]; done)) ?_)))
    refine T.sregD 36 [0, 2, 3, 5, 6, 8, 9, 10, 11, 12, 20, 25, 26, 27, 28] fun Kr hKr => ?_
    simp only [go_sem]
    (repeat (refine ⟨by (first | exact True.intro | omega | rfl | (simp; done) | (simp; omega)), ?_⟩)); try (refine hKr _ ?_; clear hKr Kr)
    refine T.seqK fun K120 hK120 => ?_
    by_cases h3 : i = 3
    · subst h3
      simp only [Nat.reduceLeDiff, if_false]
      refine T.condFD rfl rfl (fun hb => ?_) (fun hb => ?_) <;> try simp at hb
      refine T.exit ?_
      simp only [if_true]
      refine hK119 _ ?_
      refine T.sregD 36 [0, 2, 3, 5, 6, 8, 9, 10, 11, 12, 20, 25, 26, 27, 28] fun Kr hKr => ?_
      simp only [go_sem]
      (repeat (refine ⟨by (first | exact True.intro | omega | rfl | (simp; done) | (simp; omega)), ?_⟩)); try (refine hKr _ ?_; clear hKr Kr)
      refine T.ret (Fin.oslD rfl rfl rfl)
    rcases (by omega : i = 0 ∨ i = 1 ∨ i = 2) with rfl | rfl | rfl
    all_goals
      simp only [Nat.reduceLeDiff, Nat.zero_le, Nat.le_refl, if_true, if_false]
      refine T.condFD rfl rfl (fun hb => ?_) (fun hb => ?_) <;> try simp at hb
      refine T.skip ?_
      refine hK120 _ ?_
      refine T.seqK fun K121 hK121 => ?_
      refine T.block ?_
      refine T.sregD 36 [0, 2, 3, 5, 6, 8, 9, 10, 11, 12, 20, 25, 26, 27, 28] fun Kr hKr => ?_
      simp only [go_sem]
      (repeat (refine ⟨by (first | exact True.intro | omega | rfl | (simp; done) | (simp; omega)), ?_⟩)); try (refine hKr _ ?_; clear hKr Kr)
      refine T.regD 36 [0, 2, 3, 5, 6, 8, 9, 10, 11, 12, 20, 25, 26, 27, 28] fun Kr hKr => ?_
      simp only [go_sem]
      (repeat (refine ⟨by (first | exact True.intro | omega | rfl | (simp; done) | (simp; omega)), ?_⟩)); try (refine hKr _ ?_; clear hKr Kr)
      refine hK121 _ ?_
      refine T.regD 36 [0, 2, 3, 5, 6, 8, 9, 10, 11, 12, 20, 25, 26, 27, 28] fun Kr hKr => ?_
      simp only [go_sem]
      (repeat (refine ⟨by (first | exact True.intro | omega | rfl | (simp; done) | (simp; omega)), ?_⟩)); try (refine hKr _ ?_; clear hKr Kr)
    · refine ⟨1, ?_, ?_, Le.fitS (by (repeat (first | exact DFit.nil | refine DFit.cons (by first | rfl | (simp [slook]; done) | (simp [slook]; omega)) ?_))) ?_⟩
      · omega
      · omega
      · (repeat (first | exact True.intro | refine And.intro (by first | rfl | (simp [look]; done)) ?_))
    · refine ⟨2, ?_, ?_, Le.fitS (by (repeat (first | exact DFit.nil | refine DFit.cons (by first | rfl | (simp [slook]; done) | (simp [slook]; omega)) ?_))) ?_⟩
      · omega
      · omega
      · (repeat (first | exact True.intro | refine And.intro (by first | rfl | (simp [look]; done)) ?_))
    · refine ⟨3, ?_, ?_, Le.fitS (by (repeat (first | exact DFit.nil | refine DFit.cons (by first | rfl | (simp [slook]; done) | (simp [slook]; omega)) ?_))) ?_⟩
      · omega
      · omega
      · (repeat (first | exact True.intro | refine And.intro (by first | rfl | (simp [look]; done)) ?_))
  rcases (by omega : i = 0 ∨ i = 1 ∨ i = 2) with rfl | rfl | rfl
  all_goals
    simp only [Nat.reduceLeDiff, Nat.zero_le, Nat.le_refl, if_true, if_false]
    refine T.condFD rfl rfl (fun hb => ?_) (fun hb => ?_) <;> try simp at hb
    refine T.skip ?_
    refine hK118 _ ?_
    refine T.seqK fun K122 hK122 => ?_
    refine T.block ?_
    refine T.sregD 36 [0, 2, 3, 5, 6, 8, 9, 10, 11, 12, 20, 25, 26, 27, 28] fun Kr hKr => ?_
    simp only [go_sem]
    (repeat (refine ⟨by (first | exact True.intro | omega | rfl | (simp; done) | (simp; omega)), ?_⟩)); try (refine hKr _ ?_; clear hKr Kr)
    refine T.sregD 36 [0, 2, 3, 5, 6, 8, 9, 10, 11, 12, 20, 25, 26, 27, 28] fun Kr hKr => ?_
    simp only [go_sem]
    (repeat (refine ⟨by (first | exact True.intro | omega | rfl | (simp; done) | (simp; omega)), ?_⟩)); try (refine hKr _ ?_; clear hKr Kr)
    refine T.sregD 36 [0, 2, 3, 5, 6, 8, 9, 10, 11, 12, 20, 25, 26, 27, 28] fun Kr hKr => ?_
    simp only [go_sem]
    (repeat (refine ⟨by (first | exact True.intro | omega | rfl | (simp; done) | (simp; omega)), ?_⟩)); try (refine hKr _ ?_; clear hKr Kr)
    refine T.condTD rfl rfl (fun hb => ?_) (fun hb => ?_) <;> try simp at hb
    refine T.skip ?_
    refine hK122 _ ?_
    refine T.regD 36 [0, 2, 3, 5, 6, 8, 9, 10, 11, 12, 20, 25, 26, 27, 28] fun Kr hKr => ?_
    simp only [go_sem]
    (repeat (refine ⟨by (first | exact True.intro | omega | rfl | (simp; done) | (simp; omega)), ?_⟩)); try (refine hKr _ ?_; clear hKr Kr)
  · refine ⟨1, ?_, ?_, Le.fitS (by (repeat (first | exact DFit.nil | refine DFit.cons (by first | rfl | (simp [slook]; done) | (simp [slook]; omega)) ?_))) ?_⟩
    · omega
    · omega
    · (repeat (first | exact True.intro | refine And.intro (by first | rfl | (simp [look]; done)) ?_))
  · refine ⟨2, ?_, ?_, Le.fitS (by (repeat (first | exact DFit.nil | refine DFit.cons (by first | rfl | (simp [slook]; done) | (simp [slook]; omega)) ?_))) ?_⟩
    · omega
    · omega
    · (repeat (first | exact True.intro | refine And.intro (by first | rfl | (simp [look]; done)) ?_))
  · refine ⟨3, ?_, ?_, Le.fitS (by (repeat (first | exact DFit.nil | refine DFit.cons (by first | rfl | (simp [slook]; done) | (simp [slook]; omega)) ?_))) ?_⟩
    · omega
    · omega
    · (repeat (first | exact True.intro | refine And.intro (by first | rfl | (simp [look]; done)) ?_))
theorem add_spec (r : Rec) (h1 : r.d = 0) (h2 : r.s = 1) : Ideal.Spec Tryz.prog 35 [.sl true 6 [], .fn 36 [], recA r] (.sl false 6 (recsOf [r])) none := by
  have s1 := ofRecordL_spec r
  rw [h1, h2] at s1
  have s2 := find_spec
  have s3 := concat_spec r
  refine Ideal.Spec.of_TD (n := 28) (fn := Tryz.f35) rfl rfl rfl rfl rfl rfl rfl fun w ok => ?_
  refine T.post [.tmp 6] ?_
  refine T.sregD 28 [0, 1, 2, 5, 6, 7] fun Kr hKr => ?_
  simp only [go_sem]
  (repeat (refine ⟨by (first | exact True.intro | omega | rfl | (simp; done) | (simp; omega)), ?_⟩)); try (refine hKr _ ?_; clear hKr Kr)
  refine T.sregD 28 [0, 1, 2, 5, 6, 7] fun Kr hKr => ?_
  simp only [go_sem]
  (repeat (refine ⟨by (first | exact True.intro | omega | rfl | (simp; done) | (simp; omega)), ?_⟩)); try (refine hKr _ ?_; clear hKr Kr)
  refine CallK.data (fun _ => Spec.args (s1) (by (first | exact ArgsLe.refl | (repeat (first | exact True.intro | refine And.intro (by first | exact AvLe.refl | exact AvLe.loose | exact AvLe.nil | exact AvLe.nilT | exact AvLe.slk | (refine AvLe.agg ?_; exact ArgsLe.refl) | (refine AvLe.agg ?_; (repeat (first | exact True.intro | refine And.intro (by first | exact AvLe.refl | exact AvLe.loose | exact AvLe.nil | exact AvLe.nilT | exact AvLe.slk) ?_)))) ?_))))) rfl ?_
  simp only [go_sem]
  (repeat (refine ⟨by (first | exact True.intro | omega | rfl | (simp; done) | (simp; omega)), ?_⟩)); try (refine hKr _ ?_; clear hKr Kr)
  refine CallK.tup (fun _ => Spec.args (s2) (by (first | exact ArgsLe.refl | (repeat (first | exact True.intro | refine And.intro (by first | exact AvLe.refl | exact AvLe.loose | exact AvLe.nil | exact AvLe.nilT | exact AvLe.slk | (refine AvLe.agg ?_; exact ArgsLe.refl) | (refine AvLe.agg ?_; (repeat (first | exact True.intro | refine And.intro (by first | exact AvLe.refl | exact AvLe.loose | exact AvLe.nil | exact AvLe.nilT | exact AvLe.slk) ?_)))) ?_))))) ?_
  simp only [go_sem]
  (repeat (refine ⟨by (first | exact True.intro | omega | rfl | (simp; done) | (simp; omega)), ?_⟩)); try (refine hKr _ ?_; clear hKr Kr)
  refine T.sdrawD 28 [0, 1, 2, 5, 6, 7] (.take 0 (.take 1 (.take 2 (.take 3 (.take 5 (.take 6 (.take 7 (.one 4 (.one 8 (.one 9 (.take 10 .done))))))))))) [5] rfl (by decide +kernel) (by decide +kernel) fun Kr hKr => ?_
  simp only [go_sem]
  (repeat (refine ⟨by (first | exact True.intro | omega | rfl | (simp; done) | (simp; omega)), ?_⟩)); try (refine hKr _ ?_; clear hKr Kr)
  refine CallK.own (Spec.args s3 ArgsLe.refl) ?_
  simp only [go_sem]
  (repeat (refine ⟨by (first | exact True.intro | omega | rfl | (simp; done) | (simp; omega)), ?_⟩)); try (refine hKr _ ?_; clear hKr Kr)
  refine T.ret ?_
  simp only [go_sem]
  exact Fin.dataD rfl rfl rfl
end Go.Proofs
