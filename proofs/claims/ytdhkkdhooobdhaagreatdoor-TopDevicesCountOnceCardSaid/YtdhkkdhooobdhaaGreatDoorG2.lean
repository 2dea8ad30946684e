/- Devices: right records and orders; what an order means (the reference). -/
import Derived.Test.YtdhkkdhooobdhaaGreatDoorG1
set_option linter.unusedVariables false
set_option linter.unusedSimpArgs false
namespace Go.Proofs
open Go Go.Ideal
set_option maxRecDepth 8000
set_option maxHeartbeats 4000000

structure RightR (r : Rec) : Prop where
  d : 0 ≤ r.d ∧ r.d ≤ 7
  s : 1 ≤ r.s ∧ r.s ≤ 1000000
  e : 0 ≤ r.e ∧ r.e ≤ 10000
  w : WordOk r.w
  a : 0 ≤ r.a ∧ r.a ≤ 7
  n : 1 ≤ r.n ∧ r.n ≤ 1000
structure RightO (o : Ord) : Prop where
  d : 0 ≤ o.d ∧ o.d ≤ 7
  s : 1 ≤ o.s ∧ o.s ≤ 1000000
  e : 0 ≤ o.e ∧ o.e ≤ 10000
  k : (o.k = 1 ∧ WordOk o.w ∧ o.n = 0 ∧ o.f = 0) ∨ (o.k = 2 ∧ o.w = [] ∧ o.f = 0 ∧ 0 ≤ o.n ∧ o.n ≤ 7) ∨ (o.k = 3 ∧ o.w = [] ∧ o.f = 0 ∧ 0 ≤ o.n ∧ o.n ≤ 7) ∨
    (o.k = 4 ∧ o.w = [] ∧ o.f = 0 ∧ 0 ≤ o.n ∧ o.n ≤ o.e) ∨ (o.k = 5 ∧ o.w = [] ∧ 1 ≤ o.n ∧ o.n ≤ 1000000 ∧ 0 ≤ o.f ∧ o.f ≤ 7)
/-- What an order means. -/
def meansB (o : Ord) (r : Rec) : Bool :=
  decide (r.e ≤ o.e) && (if o.k = 1 then r.w == o.w else if o.k = 2 then decide (r.a = o.n) else if o.k = 3 then decide (r.d = o.n) else if o.k = 4 then decide (r.e ≥ o.n) else (decide (r.d = o.f) && decide (r.s = o.n)))
def meantB (l : List Ord) (r : Rec) : Bool := l.any fun o => meansB o r
theorem in_t {n lo hi : Int} (h : lo ≤ n ∧ n ≤ hi) : Ideal.Spec Tryz.prog 83 [.int .i64 n, .int .i64 lo, .int .i64 hi] (.bool true) none := by
  have := in_spec n lo hi
  rw [decide_eq_true h.1, decide_eq_true h.2] at this
  exact this
theorem within_t {n lo hi : Int} (h : lo ≤ n ∧ n ≤ hi) : Ideal.Spec Tryz.prog 51 [.int .i64 n, .int .i64 lo, .int .i64 hi] (.bool true) none := by
  have := within_spec n lo hi
  rw [decide_eq_true h.1, decide_eq_true h.2] at this
  exact this
theorem Right_spec (r : Rec) (h : RightR r) : Ideal.Spec Tryz.prog 47 [recA r] (.bool true) none := by
  have s1 := in_t h.d
  have s2 := in_t h.s
  have s3 := in_t h.e
  have s4 := Word2_spec r.w h.w
  have s5 := in_t h.a
  have s6 := in_t h.n
  refine Ideal.Spec.of_TD (n := 31) (fn := Tryz.f47) rfl rfl rfl rfl rfl rfl rfl fun w ok => ?_
  refine T.sregD 31 [0, 1, 2] fun Kr hKr => ?_
  simp only [go_sem]
  (repeat (refine ⟨by (first | exact True.intro | omega | rfl | (simp; done) | (simp; omega)), ?_⟩)); try (refine hKr _ ?_; clear hKr Kr)
  refine T.sregD 31 [0, 1, 2] fun Kr hKr => ?_
  simp only [go_sem]
  (repeat (refine ⟨by (first | exact True.intro | omega | rfl | (simp; done) | (simp; omega)), ?_⟩)); try (refine hKr _ ?_; clear hKr Kr)
  refine CallK.data (fun _ => Spec.args (s1) (by (first | exact ArgsLe.refl | (repeat (first | exact True.intro | refine And.intro (by first | exact AvLe.refl | exact AvLe.loose | exact AvLe.nil | exact AvLe.nilT | exact AvLe.slk | (refine AvLe.agg ?_; exact ArgsLe.refl) | (refine AvLe.agg ?_; (repeat (first | exact True.intro | refine And.intro (by first | exact AvLe.refl | exact AvLe.loose | exact AvLe.nil | exact AvLe.nilT | exact AvLe.slk) ?_)))) ?_))))) rfl ?_
  simp only [go_sem]
  (repeat (refine ⟨by (first | exact True.intro | omega | rfl | (simp; done) | (simp; omega)), ?_⟩)); try (refine hKr _ ?_; clear hKr Kr)
  refine CallK.data (fun _ => Spec.args (s2) (by (first | exact ArgsLe.refl | (repeat (first | exact True.intro | refine And.intro (by first | exact AvLe.refl | exact AvLe.loose | exact AvLe.nil | exact AvLe.nilT | exact AvLe.slk | (refine AvLe.agg ?_; exact ArgsLe.refl) | (refine AvLe.agg ?_; (repeat (first | exact True.intro | refine And.intro (by first | exact AvLe.refl | exact AvLe.loose | exact AvLe.nil | exact AvLe.nilT | exact AvLe.slk) ?_)))) ?_))))) rfl ?_
  simp only [go_sem]
  (repeat (refine ⟨by (first | exact True.intro | omega | rfl | (simp; done) | (simp; omega)), ?_⟩)); try (refine hKr _ ?_; clear hKr Kr)
  refine CallK.data (fun _ => Spec.args (s3) (by (first | exact ArgsLe.refl | (repeat (first | exact True.intro | refine And.intro (by first | exact AvLe.refl | exact AvLe.loose | exact AvLe.nil | exact AvLe.nilT | exact AvLe.slk | (refine AvLe.agg ?_; exact ArgsLe.refl) | (refine AvLe.agg ?_; (repeat (first | exact True.intro | refine And.intro (by first | exact AvLe.refl | exact AvLe.loose | exact AvLe.nil | exact AvLe.nilT | exact AvLe.slk) ?_)))) ?_))))) rfl ?_
  simp only [go_sem]
  (repeat (refine ⟨by (first | exact True.intro | omega | rfl | (simp; done) | (simp; omega)), ?_⟩)); try (refine hKr _ ?_; clear hKr Kr)
  refine CallK.data (fun _ => Spec.args (s4) (by (first | exact ArgsLe.refl | (repeat (first | exact True.intro | refine And.intro (by first | exact AvLe.refl | exact AvLe.loose | exact AvLe.nil | exact AvLe.nilT | exact AvLe.slk | (refine AvLe.agg ?_; exact ArgsLe.refl) | (refine AvLe.agg ?_; (repeat (first | exact True.intro | refine And.intro (by first | exact AvLe.refl | exact AvLe.loose | exact AvLe.nil | exact AvLe.nilT | exact AvLe.slk) ?_)))) ?_))))) rfl ?_
  simp only [go_sem]
  (repeat (refine ⟨by (first | exact True.intro | omega | rfl | (simp; done) | (simp; omega)), ?_⟩)); try (refine hKr _ ?_; clear hKr Kr)
  refine CallK.data (fun _ => Spec.args (s5) (by (first | exact ArgsLe.refl | (repeat (first | exact True.intro | refine And.intro (by first | exact AvLe.refl | exact AvLe.loose | exact AvLe.nil | exact AvLe.nilT | exact AvLe.slk | (refine AvLe.agg ?_; exact ArgsLe.refl) | (refine AvLe.agg ?_; (repeat (first | exact True.intro | refine And.intro (by first | exact AvLe.refl | exact AvLe.loose | exact AvLe.nil | exact AvLe.nilT | exact AvLe.slk) ?_)))) ?_))))) rfl ?_
  simp only [go_sem]
  (repeat (refine ⟨by (first | exact True.intro | omega | rfl | (simp; done) | (simp; omega)), ?_⟩)); try (refine hKr _ ?_; clear hKr Kr)
  refine CallK.data (fun _ => Spec.args (s6) (by (first | exact ArgsLe.refl | (repeat (first | exact True.intro | refine And.intro (by first | exact AvLe.refl | exact AvLe.loose | exact AvLe.nil | exact AvLe.nilT | exact AvLe.slk | (refine AvLe.agg ?_; exact ArgsLe.refl) | (refine AvLe.agg ?_; (repeat (first | exact True.intro | refine And.intro (by first | exact AvLe.refl | exact AvLe.loose | exact AvLe.nil | exact AvLe.nilT | exact AvLe.slk) ?_)))) ?_))))) rfl ?_
  simp only [go_sem]
  (repeat (refine ⟨by (first | exact True.intro | omega | rfl | (simp; done) | (simp; omega)), ?_⟩)); try (refine hKr _ ?_; clear hKr Kr)
  refine T.ret (Fin.dataD rfl rfl rfl)
theorem RightOrder_spec (o : Ord) (h : RightO o) : Ideal.Spec Tryz.prog 46 [ordA o] (.bool true) none := by
  have s1 := in_t h.d
  have s2 := in_t h.s
  have s3 := in_t h.e
  obtain ⟨_, _, _, hk⟩ := h
  obtain ⟨d, s, e, k, wd, n, f⟩ := o
  simp only at *
  refine Ideal.Spec.of_TD (n := 79) (fn := Tryz.f46) rfl rfl rfl rfl rfl rfl rfl fun w ok => ?_
  refine T.sregD 79 [0, 1, 2, 3, 19, 29, 30, 45, 54, 64] fun Kr hKr => ?_
  simp only [go_sem]
  (repeat (refine ⟨by (first | exact True.intro | omega | rfl | (simp; done) | (simp; omega)), ?_⟩)); try (refine hKr _ ?_; clear hKr Kr)
  refine T.seqK fun K1 hK1 => ?_
  refine T.sregD 79 [0, 1, 2, 3, 19, 29, 30, 45, 54, 64] fun Kr hKr => ?_
  simp only [go_sem]
  (repeat (refine ⟨by (first | exact True.intro | omega | rfl | (simp; done) | (simp; omega)), ?_⟩)); try (refine hKr _ ?_; clear hKr Kr)
  refine CallK.data (fun _ => Spec.args (s1) (by (first | exact ArgsLe.refl | (repeat (first | exact True.intro | refine And.intro (by first | exact AvLe.refl | exact AvLe.loose | exact AvLe.nil | exact AvLe.nilT | exact AvLe.slk | (refine AvLe.agg ?_; exact ArgsLe.refl) | (refine AvLe.agg ?_; (repeat (first | exact True.intro | refine And.intro (by first | exact AvLe.refl | exact AvLe.loose | exact AvLe.nil | exact AvLe.nilT | exact AvLe.slk) ?_)))) ?_))))) rfl ?_
  simp only [go_sem]
  (repeat (refine ⟨by (first | exact True.intro | omega | rfl | (simp; done) | (simp; omega)), ?_⟩)); try (refine hKr _ ?_; clear hKr Kr)
  refine CallK.data (fun _ => Spec.args (s2) (by (first | exact ArgsLe.refl | (repeat (first | exact True.intro | refine And.intro (by first | exact AvLe.refl | exact AvLe.loose | exact AvLe.nil | exact AvLe.nilT | exact AvLe.slk | (refine AvLe.agg ?_; exact ArgsLe.refl) | (refine AvLe.agg ?_; (repeat (first | exact True.intro | refine And.intro (by first | exact AvLe.refl | exact AvLe.loose | exact AvLe.nil | exact AvLe.nilT | exact AvLe.slk) ?_)))) ?_))))) rfl ?_
  simp only [go_sem]
  (repeat (refine ⟨by (first | exact True.intro | omega | rfl | (simp; done) | (simp; omega)), ?_⟩)); try (refine hKr _ ?_; clear hKr Kr)
  refine CallK.data (fun _ => Spec.args (s3) (by (first | exact ArgsLe.refl | (repeat (first | exact True.intro | refine And.intro (by first | exact AvLe.refl | exact AvLe.loose | exact AvLe.nil | exact AvLe.nilT | exact AvLe.slk | (refine AvLe.agg ?_; exact ArgsLe.refl) | (refine AvLe.agg ?_; (repeat (first | exact True.intro | refine And.intro (by first | exact AvLe.refl | exact AvLe.loose | exact AvLe.nil | exact AvLe.nilT | exact AvLe.slk) ?_)))) ?_))))) rfl ?_
  simp only [go_sem]
  (repeat (refine ⟨by (first | exact True.intro | omega | rfl | (simp; done) | (simp; omega)), ?_⟩)); try (refine hKr _ ?_; clear hKr Kr)
  refine T.condTD rfl rfl (fun hb => ?_) (fun hb => ?_) <;> try simp at hb
  refine T.skip ?_
  refine hK1 _ ?_
  rcases hk with ⟨rfl, h1, rfl, rfl⟩ | ⟨rfl, rfl, rfl, h1⟩ | ⟨rfl, rfl, rfl, h1⟩ | ⟨rfl, rfl, rfl, h1⟩ | ⟨rfl, rfl, h1, h2, h3⟩
  · have s4 := Word2_spec wd h1
    refine T.sregD 79 [0, 1, 2, 3, 19, 29, 30, 45, 54, 64] fun Kr hKr => ?_
    simp only [go_sem]
    (repeat (refine ⟨by (first | exact True.intro | omega | rfl | (simp; done) | (simp; omega)), ?_⟩)); try (refine hKr _ ?_; clear hKr Kr)
    refine T.seqK fun K2 hK2 => ?_
    refine T.sregD 79 [0, 1, 2, 3, 19, 29, 30, 45, 54, 64] fun Kr hKr => ?_
    simp only [go_sem]
    (repeat (refine ⟨by (first | exact True.intro | omega | rfl | (simp; done) | (simp; omega)), ?_⟩)); try (refine hKr _ ?_; clear hKr Kr)
    refine T.block ?_
    refine T.sregD 79 [0, 1, 2, 3, 19, 29, 30, 45, 54, 64] fun Kr hKr => ?_
    simp only [go_sem]
    (repeat (refine ⟨by (first | exact True.intro | omega | rfl | (simp; done) | (simp; omega)), ?_⟩)); try (refine hKr _ ?_; clear hKr Kr)
    refine T.condTD rfl rfl (fun hb => ?_) (fun hb => ?_) <;> try simp at hb
    refine T.sregD 79 [0, 1, 2, 3, 19, 29, 30, 45, 54, 64] fun Kr hKr => ?_
    simp only [go_sem]
    (repeat (refine ⟨by (first | exact True.intro | omega | rfl | (simp; done) | (simp; omega)), ?_⟩)); try (refine hKr _ ?_; clear hKr Kr)
    refine CallK.data (fun _ => Spec.args (s4) (by (first | exact ArgsLe.refl | (repeat (first | exact True.intro | refine And.intro (by first | exact AvLe.refl | exact AvLe.loose | exact AvLe.nil | exact AvLe.nilT | exact AvLe.slk | (refine AvLe.agg ?_; exact ArgsLe.refl) | (refine AvLe.agg ?_; (repeat (first | exact True.intro | refine And.intro (by first | exact AvLe.refl | exact AvLe.loose | exact AvLe.nil | exact AvLe.nilT | exact AvLe.slk) ?_)))) ?_))))) rfl ?_
    simp only [go_sem]
    (repeat (refine ⟨by (first | exact True.intro | omega | rfl | (simp; done) | (simp; omega)), ?_⟩)); try (refine hKr _ ?_; clear hKr Kr)
    refine T.ret (Fin.dataD rfl rfl rfl)
  · have s4 := in_t h1
    refine T.sregD 79 [0, 1, 2, 3, 19, 29, 30, 45, 54, 64] fun Kr hKr => ?_
    simp only [go_sem, beq_self_eq_true]
    (repeat (refine ⟨by (first | exact True.intro | omega | rfl | (simp; done) | (simp; omega)), ?_⟩)); try (refine hKr _ ?_; clear hKr Kr)
    refine T.seqK fun K2 hK2 => ?_
    refine T.sregD 79 [0, 1, 2, 3, 19, 29, 30, 45, 54, 64] fun Kr hKr => ?_
    simp only [go_sem]
    (repeat (refine ⟨by (first | exact True.intro | omega | rfl | (simp; done) | (simp; omega)), ?_⟩)); try (refine hKr _ ?_; clear hKr Kr)
    refine T.block ?_
    refine T.sregD 79 [0, 1, 2, 3, 19, 29, 30, 45, 54, 64] fun Kr hKr => ?_
    simp only [go_sem]
    (repeat (refine ⟨by (first | exact True.intro | omega | rfl | (simp; done) | (simp; omega)), ?_⟩)); try (refine hKr _ ?_; clear hKr Kr)
    refine T.condTD rfl rfl (fun hb => ?_) (fun hb => ?_) <;> try simp at hb
    refine T.seqK fun K3 hK3 => ?_
    refine T.sregD 79 [0, 1, 2, 3, 19, 29, 30, 45, 54, 64] fun Kr hKr => ?_
    simp only [go_sem]
    (repeat (refine ⟨by (first | exact True.intro | omega | rfl | (simp; done) | (simp; omega)), ?_⟩)); try (refine hKr _ ?_; clear hKr Kr)
    refine T.condTD rfl rfl (fun hb => ?_) (fun hb => ?_) <;> try simp at hb
    refine T.skip ?_
    refine hK3 _ ?_
    refine T.condTD rfl rfl (fun hb => ?_) (fun hb => ?_) <;> try simp at hb
    refine T.sregD 79 [0, 1, 2, 3, 19, 29, 30, 45, 54, 64] fun Kr hKr => ?_
    simp only [go_sem]
    (repeat (refine ⟨by (first | exact True.intro | omega | rfl | (simp; done) | (simp; omega)), ?_⟩)); try (refine hKr _ ?_; clear hKr Kr)
    refine CallK.data (fun _ => Spec.args (s4) (by (first | exact ArgsLe.refl | (repeat (first | exact True.intro | refine And.intro (by first | exact AvLe.refl | exact AvLe.loose | exact AvLe.nil | exact AvLe.nilT | exact AvLe.slk | (refine AvLe.agg ?_; exact ArgsLe.refl) | (refine AvLe.agg ?_; (repeat (first | exact True.intro | refine And.intro (by first | exact AvLe.refl | exact AvLe.loose | exact AvLe.nil | exact AvLe.nilT | exact AvLe.slk) ?_)))) ?_))))) rfl ?_
    simp only [go_sem]
    (repeat (refine ⟨by (first | exact True.intro | omega | rfl | (simp; done) | (simp; omega)), ?_⟩)); try (refine hKr _ ?_; clear hKr Kr)
    refine T.ret (Fin.dataD rfl rfl rfl)
  · have s4 := in_t h1
    refine T.sregD 79 [0, 1, 2, 3, 19, 29, 30, 45, 54, 64] fun Kr hKr => ?_
    simp only [go_sem, beq_self_eq_true]
    (repeat (refine ⟨by (first | exact True.intro | omega | rfl | (simp; done) | (simp; omega)), ?_⟩)); try (refine hKr _ ?_; clear hKr Kr)
    refine T.seqK fun K2 hK2 => ?_
    refine T.sregD 79 [0, 1, 2, 3, 19, 29, 30, 45, 54, 64] fun Kr hKr => ?_
    simp only [go_sem]
    (repeat (refine ⟨by (first | exact True.intro | omega | rfl | (simp; done) | (simp; omega)), ?_⟩)); try (refine hKr _ ?_; clear hKr Kr)
    refine T.block ?_
    refine T.sregD 79 [0, 1, 2, 3, 19, 29, 30, 45, 54, 64] fun Kr hKr => ?_
    simp only [go_sem]
    (repeat (refine ⟨by (first | exact True.intro | omega | rfl | (simp; done) | (simp; omega)), ?_⟩)); try (refine hKr _ ?_; clear hKr Kr)
    refine T.condTD rfl rfl (fun hb => ?_) (fun hb => ?_) <;> try simp at hb
    refine T.seqK fun K3 hK3 => ?_
    refine T.sregD 79 [0, 1, 2, 3, 19, 29, 30, 45, 54, 64] fun Kr hKr => ?_
    simp only [go_sem]
    (repeat (refine ⟨by (first | exact True.intro | omega | rfl | (simp; done) | (simp; omega)), ?_⟩)); try (refine hKr _ ?_; clear hKr Kr)
    refine T.condTD rfl rfl (fun hb => ?_) (fun hb => ?_) <;> try simp at hb
    refine T.regD 79 [0, 1, 2, 3, 19, 29, 30, 45, 54, 64] fun Kr hKr => ?_
    simp only [go_sem]
    (repeat (refine ⟨by (first | exact True.intro | omega | rfl | (simp; done) | (simp; omega)), ?_⟩)); try (refine hKr _ ?_; clear hKr Kr)
    refine hK3 _ ?_
    refine T.condTD rfl rfl (fun hb => ?_) (fun hb => ?_) <;> try simp at hb
    refine T.sregD 79 [0, 1, 2, 3, 19, 29, 30, 45, 54, 64] fun Kr hKr => ?_
    simp only [go_sem]
    (repeat (refine ⟨by (first | exact True.intro | omega | rfl | (simp; done) | (simp; omega)), ?_⟩)); try (refine hKr _ ?_; clear hKr Kr)
    refine CallK.data (fun _ => Spec.args (s4) (by (first | exact ArgsLe.refl | (repeat (first | exact True.intro | refine And.intro (by first | exact AvLe.refl | exact AvLe.loose | exact AvLe.nil | exact AvLe.nilT | exact AvLe.slk | (refine AvLe.agg ?_; exact ArgsLe.refl) | (refine AvLe.agg ?_; (repeat (first | exact True.intro | refine And.intro (by first | exact AvLe.refl | exact AvLe.loose | exact AvLe.nil | exact AvLe.nilT | exact AvLe.slk) ?_)))) ?_))))) rfl ?_
    simp only [go_sem]
    (repeat (refine ⟨by (first | exact True.intro | omega | rfl | (simp; done) | (simp; omega)), ?_⟩)); try (refine hKr _ ?_; clear hKr Kr)
    refine T.ret (Fin.dataD rfl rfl rfl)
  · have s4 := in_t h1
    refine T.sregD 79 [0, 1, 2, 3, 19, 29, 30, 45, 54, 64] fun Kr hKr => ?_
    simp only [go_sem, beq_self_eq_true]
    (repeat (refine ⟨by (first | exact True.intro | omega | rfl | (simp; done) | (simp; omega)), ?_⟩)); try (refine hKr _ ?_; clear hKr Kr)
    refine T.seqK fun K2 hK2 => ?_
    refine T.sregD 79 [0, 1, 2, 3, 19, 29, 30, 45, 54, 64] fun Kr hKr => ?_
    simp only [go_sem]
    (repeat (refine ⟨by (first | exact True.intro | omega | rfl | (simp; done) | (simp; omega)), ?_⟩)); try (refine hKr _ ?_; clear hKr Kr)
    refine T.block ?_
    refine T.sregD 79 [0, 1, 2, 3, 19, 29, 30, 45, 54, 64] fun Kr hKr => ?_
    simp only [go_sem]
    (repeat (refine ⟨by (first | exact True.intro | omega | rfl | (simp; done) | (simp; omega)), ?_⟩)); try (refine hKr _ ?_; clear hKr Kr)
    refine T.condTD rfl rfl (fun hb => ?_) (fun hb => ?_) <;> try simp at hb
    refine T.seqK fun K3 hK3 => ?_
    refine T.sregD 79 [0, 1, 2, 3, 19, 29, 30, 45, 54, 64] fun Kr hKr => ?_
    simp only [go_sem]
    (repeat (refine ⟨by (first | exact True.intro | omega | rfl | (simp; done) | (simp; omega)), ?_⟩)); try (refine hKr _ ?_; clear hKr Kr)
    refine T.condTD rfl rfl (fun hb => ?_) (fun hb => ?_) <;> try simp at hb
    refine T.regD 79 [0, 1, 2, 3, 19, 29, 30, 45, 54, 64] fun Kr hKr => ?_
    simp only [go_sem]
    (repeat (refine ⟨by (first | exact True.intro | omega | rfl | (simp; done) | (simp; omega)), ?_⟩)); try (refine hKr _ ?_; clear hKr Kr)
    refine hK3 _ ?_
    refine T.condTD rfl rfl (fun hb => ?_) (fun hb => ?_) <;> try simp at hb
    refine T.sregD 79 [0, 1, 2, 3, 19, 29, 30, 45, 54, 64] fun Kr hKr => ?_
    simp only [go_sem]
    (repeat (refine ⟨by (first | exact True.intro | omega | rfl | (simp; done) | (simp; omega)), ?_⟩)); try (refine hKr _ ?_; clear hKr Kr)
    refine T.condTD rfl rfl (fun hb => ?_) (fun hb => ?_) <;> try simp at hb
    refine T.sregD 79 [0, 1, 2, 3, 19, 29, 30, 45, 54, 64] fun Kr hKr => ?_
    simp only [go_sem]
    (repeat (refine ⟨by (first | exact True.intro | omega | rfl | (simp; done) | (simp; omega)), ?_⟩)); try (refine hKr _ ?_; clear hKr Kr)
    refine CallK.data (fun _ => Spec.args (s4) (by (first | exact ArgsLe.refl | (repeat (first | exact True.intro | refine And.intro (by first | exact AvLe.refl | exact AvLe.loose | exact AvLe.nil | exact AvLe.nilT | exact AvLe.slk | (refine AvLe.agg ?_; exact ArgsLe.refl) | (refine AvLe.agg ?_; (repeat (first | exact True.intro | refine And.intro (by first | exact AvLe.refl | exact AvLe.loose | exact AvLe.nil | exact AvLe.nilT | exact AvLe.slk) ?_)))) ?_))))) rfl ?_
    simp only [go_sem]
    (repeat (refine ⟨by (first | exact True.intro | omega | rfl | (simp; done) | (simp; omega)), ?_⟩)); try (refine hKr _ ?_; clear hKr Kr)
    refine T.ret (Fin.dataD rfl rfl rfl)
  · have s4 := in_t (n := n) (lo := 1) (hi := 1000000) ⟨h1, h2⟩
    have s5 := in_t h3
    refine T.sregD 79 [0, 1, 2, 3, 19, 29, 30, 45, 54, 64] fun Kr hKr => ?_
    simp only [go_sem, beq_self_eq_true]
    (repeat (refine ⟨by (first | exact True.intro | omega | rfl | (simp; done) | (simp; omega)), ?_⟩)); try (refine hKr _ ?_; clear hKr Kr)
    refine T.seqK fun K2 hK2 => ?_
    refine T.sregD 79 [0, 1, 2, 3, 19, 29, 30, 45, 54, 64] fun Kr hKr => ?_
    simp only [go_sem]
    (repeat (refine ⟨by (first | exact True.intro | omega | rfl | (simp; done) | (simp; omega)), ?_⟩)); try (refine hKr _ ?_; clear hKr Kr)
    refine T.block ?_
    refine T.sregD 79 [0, 1, 2, 3, 19, 29, 30, 45, 54, 64] fun Kr hKr => ?_
    simp only [go_sem]
    (repeat (refine ⟨by (first | exact True.intro | omega | rfl | (simp; done) | (simp; omega)), ?_⟩)); try (refine hKr _ ?_; clear hKr Kr)
    refine T.condTD rfl rfl (fun hb => ?_) (fun hb => ?_) <;> try simp at hb
    refine T.seqK fun K3 hK3 => ?_
    refine T.sregD 79 [0, 1, 2, 3, 19, 29, 30, 45, 54, 64] fun Kr hKr => ?_
    simp only [go_sem]
    (repeat (refine ⟨by (first | exact True.intro | omega | rfl | (simp; done) | (simp; omega)), ?_⟩)); try (refine hKr _ ?_; clear hKr Kr)
    refine T.condTD rfl rfl (fun hb => ?_) (fun hb => ?_) <;> try simp at hb
    refine T.regD 79 [0, 1, 2, 3, 19, 29, 30, 45, 54, 64] fun Kr hKr => ?_
    simp only [go_sem]
    (repeat (refine ⟨by (first | exact True.intro | omega | rfl | (simp; done) | (simp; omega)), ?_⟩)); try (refine hKr _ ?_; clear hKr Kr)
    refine hK3 _ ?_
    refine T.condTD rfl rfl (fun hb => ?_) (fun hb => ?_) <;> try simp at hb
    refine T.sregD 79 [0, 1, 2, 3, 19, 29, 30, 45, 54, 64] fun Kr hKr => ?_
    simp only [go_sem]
    (repeat (refine ⟨by (first | exact True.intro | omega | rfl | (simp; done) | (simp; omega)), ?_⟩)); try (refine hKr _ ?_; clear hKr Kr)
    refine T.condTD rfl rfl (fun hb => ?_) (fun hb => ?_) <;> try simp at hb
    refine T.sregD 79 [0, 1, 2, 3, 19, 29, 30, 45, 54, 64] fun Kr hKr => ?_
    simp only [go_sem]
    (repeat (refine ⟨by (first | exact True.intro | omega | rfl | (simp; done) | (simp; omega)), ?_⟩)); try (refine hKr _ ?_; clear hKr Kr)
    refine T.condTD rfl rfl (fun hb => ?_) (fun hb => ?_) <;> try simp at hb
    refine T.sregD 79 [0, 1, 2, 3, 19, 29, 30, 45, 54, 64] fun Kr hKr => ?_
    simp only [go_sem, beq_self_eq_true]
    (repeat (refine ⟨by (first | exact True.intro | omega | rfl | (simp; done) | (simp; omega)), ?_⟩)); try (refine hKr _ ?_; clear hKr Kr)
    refine CallK.data (fun _ => Spec.args (s4) (by (first | exact ArgsLe.refl | (repeat (first | exact True.intro | refine And.intro (by first | exact AvLe.refl | exact AvLe.loose | exact AvLe.nil | exact AvLe.nilT | exact AvLe.slk | (refine AvLe.agg ?_; exact ArgsLe.refl) | (refine AvLe.agg ?_; (repeat (first | exact True.intro | refine And.intro (by first | exact AvLe.refl | exact AvLe.loose | exact AvLe.nil | exact AvLe.nilT | exact AvLe.slk) ?_)))) ?_))))) rfl ?_
    simp only [go_sem, beq_self_eq_true]
    (repeat (refine ⟨by (first | exact True.intro | omega | rfl | (simp; done) | (simp; omega)), ?_⟩)); try (refine hKr _ ?_; clear hKr Kr)
    refine CallK.data (fun _ => Spec.args (s5) (by (first | exact ArgsLe.refl | (repeat (first | exact True.intro | refine And.intro (by first | exact AvLe.refl | exact AvLe.loose | exact AvLe.nil | exact AvLe.nilT | exact AvLe.slk | (refine AvLe.agg ?_; exact ArgsLe.refl) | (refine AvLe.agg ?_; (repeat (first | exact True.intro | refine And.intro (by first | exact AvLe.refl | exact AvLe.loose | exact AvLe.nil | exact AvLe.nilT | exact AvLe.slk) ?_)))) ?_))))) rfl ?_
    simp only [go_sem, beq_self_eq_true]
    (repeat (refine ⟨by (first | exact True.intro | omega | rfl | (simp; done) | (simp; omega)), ?_⟩)); try (refine hKr _ ?_; clear hKr Kr)
    refine T.ret (Fin.dataD rfl rfl rfl)

theorem MeansR_spec (o : Ord) (r : Rec) (ho : RightO o) (hr : RightR r) : Ideal.Spec Tryz.prog 29 [ordA o, recA r] (.bool (meansB o r)) none := by
  have s1 := RightOrder_spec o ho
  have s2 := Right_spec r hr
  have hk := ho.k
  refine Ideal.Spec.of_TD (n := 62) (fn := Tryz.f29) rfl rfl rfl rfl rfl rfl rfl fun w ok => ?_
  refine T.sregD 62 [0, 1, 2, 3, 4, 19, 21, 22, 29, 36, 43] fun Kr hKr => ?_
  simp only [go_sem]
  (repeat (refine ⟨by (first | exact True.intro | omega | rfl | (simp; done) | (simp; omega)), ?_⟩)); try (refine hKr _ ?_; clear hKr Kr)
  refine T.seqK fun K1 hK1 => ?_
  by_cases he : r.e ≤ o.e
  rotate_left
  · have he' : (r.e > o.e) = True := eq_true (by omega)
    have ee : meansB o r = false := by unfold meansB; rw [decide_eq_false he]; rfl
    refine T.sregD 62 [0, 1, 2, 3, 4, 19, 21, 22, 29, 36, 43] fun Kr hKr => ?_
    simp only [go_sem]
    (repeat (refine ⟨by (first | exact True.intro | omega | rfl | (simp; done) | (simp; omega)), ?_⟩)); try (refine hKr _ ?_; clear hKr Kr)
    refine CallK.data (fun _ => Spec.args (s1) (by (first | exact ArgsLe.refl | (repeat (first | exact True.intro | refine And.intro (by first | exact AvLe.refl | exact AvLe.loose | exact AvLe.nil | exact AvLe.nilT | exact AvLe.slk | (refine AvLe.agg ?_; exact ArgsLe.refl) | (refine AvLe.agg ?_; (repeat (first | exact True.intro | refine And.intro (by first | exact AvLe.refl | exact AvLe.loose | exact AvLe.nil | exact AvLe.nilT | exact AvLe.slk) ?_)))) ?_))))) rfl ?_
    simp only [go_sem]
    (repeat (refine ⟨by (first | exact True.intro | omega | rfl | (simp; done) | (simp; omega)), ?_⟩)); try (refine hKr _ ?_; clear hKr Kr)
    refine CallK.data (fun _ => Spec.args (s2) (by (first | exact ArgsLe.refl | (repeat (first | exact True.intro | refine And.intro (by first | exact AvLe.refl | exact AvLe.loose | exact AvLe.nil | exact AvLe.nilT | exact AvLe.slk | (refine AvLe.agg ?_; exact ArgsLe.refl) | (refine AvLe.agg ?_; (repeat (first | exact True.intro | refine And.intro (by first | exact AvLe.refl | exact AvLe.loose | exact AvLe.nil | exact AvLe.nilT | exact AvLe.slk) ?_)))) ?_))))) rfl ?_
    simp only [go_sem, he']
    (repeat (refine ⟨by (first | exact True.intro | omega | rfl | (simp; done) | (simp; omega)), ?_⟩)); try (refine hKr _ ?_; clear hKr Kr)
    refine T.condTD rfl rfl (fun hb => ?_) (fun hb => ?_) <;> try simp at hb
    refine T.sregD 62 [0, 1, 2, 3, 4, 19, 21, 22, 29, 36, 43] fun Kr hKr => ?_
    simp only [go_sem]
    (repeat (refine ⟨by (first | exact True.intro | omega | rfl | (simp; done) | (simp; omega)), ?_⟩)); try (refine hKr _ ?_; clear hKr Kr)
    refine T.ret (Fin.dataD (by rw [ee]; rfl) rfl rfl)
  have he' : (r.e > o.e) = False := eq_false (by omega)
  refine T.sregD 62 [0, 1, 2, 3, 4, 19, 21, 22, 29, 36, 43] fun Kr hKr => ?_
  simp only [go_sem]
  (repeat (refine ⟨by (first | exact True.intro | omega | rfl | (simp; done) | (simp; omega)), ?_⟩)); try (refine hKr _ ?_; clear hKr Kr)
  refine CallK.data (fun _ => Spec.args (s1) (by (first | exact ArgsLe.refl | (repeat (first | exact True.intro | refine And.intro (by first | exact AvLe.refl | exact AvLe.loose | exact AvLe.nil | exact AvLe.nilT | exact AvLe.slk | (refine AvLe.agg ?_; exact ArgsLe.refl) | (refine AvLe.agg ?_; (repeat (first | exact True.intro | refine And.intro (by first | exact AvLe.refl | exact AvLe.loose | exact AvLe.nil | exact AvLe.nilT | exact AvLe.slk) ?_)))) ?_))))) rfl ?_
  simp only [go_sem]
  (repeat (refine ⟨by (first | exact True.intro | omega | rfl | (simp; done) | (simp; omega)), ?_⟩)); try (refine hKr _ ?_; clear hKr Kr)
  refine CallK.data (fun _ => Spec.args (s2) (by (first | exact ArgsLe.refl | (repeat (first | exact True.intro | refine And.intro (by first | exact AvLe.refl | exact AvLe.loose | exact AvLe.nil | exact AvLe.nilT | exact AvLe.slk | (refine AvLe.agg ?_; exact ArgsLe.refl) | (refine AvLe.agg ?_; (repeat (first | exact True.intro | refine And.intro (by first | exact AvLe.refl | exact AvLe.loose | exact AvLe.nil | exact AvLe.nilT | exact AvLe.slk) ?_)))) ?_))))) rfl ?_
  simp only [go_sem, he']
  (repeat (refine ⟨by (first | exact True.intro | omega | rfl | (simp; done) | (simp; omega)), ?_⟩)); try (refine hKr _ ?_; clear hKr Kr)
  refine T.condTD rfl rfl (fun hb => ?_) (fun hb => ?_) <;> try simp at hb
  refine T.skip ?_
  refine hK1 _ ?_
  clear s1 s2
  obtain ⟨d, s, e, k, wd, n, f⟩ := o
  simp only at hk he
  rcases hk with ⟨rfl, h1, rfl, rfl⟩ | ⟨rfl, rfl, rfl, h1⟩ | ⟨rfl, rfl, rfl, h1⟩ | ⟨rfl, rfl, rfl, h1⟩ | ⟨rfl, rfl, h1, h2, h3⟩
  · have ee : meansB ⟨d, s, e, 1, wd, 0, 0⟩ r = (r.w == wd) := by simp [meansB, he]
    refine T.seqK fun K2 hK2 => ?_
    refine T.sregD 62 [0, 1, 2, 3, 4, 19, 21, 22, 29, 36, 43] fun Kr hKr => ?_
    simp only [go_sem]
    (repeat (refine ⟨by (first | exact True.intro | omega | rfl | (simp; done) | (simp; omega)), ?_⟩)); try (refine hKr _ ?_; clear hKr Kr)
    refine T.block ?_
    refine T.sregD 62 [0, 1, 2, 3, 4, 19, 21, 22, 29, 36, 43] fun Kr hKr => ?_
    simp only [go_sem]
    (repeat (refine ⟨by (first | exact True.intro | omega | rfl | (simp; done) | (simp; omega)), ?_⟩)); try (refine hKr _ ?_; clear hKr Kr)
    refine T.condTD rfl rfl (fun hb => ?_) (fun hb => ?_) <;> try simp at hb
    refine T.sregD 62 [0, 1, 2, 3, 4, 19, 21, 22, 29, 36, 43] fun Kr hKr => ?_
    simp only [go_sem]
    (repeat (refine ⟨by (first | exact True.intro | omega | rfl | (simp; done) | (simp; omega)), ?_⟩)); try (refine hKr _ ?_; clear hKr Kr)
    refine T.ret (Fin.dataD (by rw [ee]; rfl) rfl rfl)
  · have ee : meansB ⟨d, s, e, 2, [], n, 0⟩ r = decide (r.a = n) := by simp [meansB, he]
    refine T.seqK fun K2 hK2 => ?_
    refine T.sregD 62 [0, 1, 2, 3, 4, 19, 21, 22, 29, 36, 43] fun Kr hKr => ?_
    simp only [go_sem]
    (repeat (refine ⟨by (first | exact True.intro | omega | rfl | (simp; done) | (simp; omega)), ?_⟩)); try (refine hKr _ ?_; clear hKr Kr)
    refine T.block ?_
    refine T.sregD 62 [0, 1, 2, 3, 4, 19, 21, 22, 29, 36, 43] fun Kr hKr => ?_
    simp only [go_sem]
    (repeat (refine ⟨by (first | exact True.intro | omega | rfl | (simp; done) | (simp; omega)), ?_⟩)); try (refine hKr _ ?_; clear hKr Kr)
    refine T.condTD rfl rfl (fun hb => ?_) (fun hb => ?_) <;> try simp at hb
    refine T.sregD 62 [0, 1, 2, 3, 4, 19, 21, 22, 29, 36, 43] fun Kr hKr => ?_
    simp only [go_sem]
    (repeat (refine ⟨by (first | exact True.intro | omega | rfl | (simp; done) | (simp; omega)), ?_⟩)); try (refine hKr _ ?_; clear hKr Kr)
    refine T.condTD rfl rfl (fun hb => ?_) (fun hb => ?_) <;> try simp at hb
    refine T.sregD 62 [0, 1, 2, 3, 4, 19, 21, 22, 29, 36, 43] fun Kr hKr => ?_
    simp only [go_sem]
    (repeat (refine ⟨by (first | exact True.intro | omega | rfl | (simp; done) | (simp; omega)), ?_⟩)); try (refine hKr _ ?_; clear hKr Kr)
    refine T.ret (Fin.dataD (by rw [ee]; rfl) rfl rfl)
  · have ee : meansB ⟨d, s, e, 3, [], n, 0⟩ r = decide (r.d = n) := by simp [meansB, he]
    refine T.seqK fun K2 hK2 => ?_
    refine T.sregD 62 [0, 1, 2, 3, 4, 19, 21, 22, 29, 36, 43] fun Kr hKr => ?_
    simp only [go_sem]
    (repeat (refine ⟨by (first | exact True.intro | omega | rfl | (simp; done) | (simp; omega)), ?_⟩)); try (refine hKr _ ?_; clear hKr Kr)
    refine T.block ?_
    refine T.sregD 62 [0, 1, 2, 3, 4, 19, 21, 22, 29, 36, 43] fun Kr hKr => ?_
    simp only [go_sem]
    (repeat (refine ⟨by (first | exact True.intro | omega | rfl | (simp; done) | (simp; omega)), ?_⟩)); try (refine hKr _ ?_; clear hKr Kr)
    refine T.condTD rfl rfl (fun hb => ?_) (fun hb => ?_) <;> try simp at hb
    refine T.sregD 62 [0, 1, 2, 3, 4, 19, 21, 22, 29, 36, 43] fun Kr hKr => ?_
    simp only [go_sem]
    (repeat (refine ⟨by (first | exact True.intro | omega | rfl | (simp; done) | (simp; omega)), ?_⟩)); try (refine hKr _ ?_; clear hKr Kr)
    refine T.condTD rfl rfl (fun hb => ?_) (fun hb => ?_) <;> try simp at hb
    refine T.sregD 62 [0, 1, 2, 3, 4, 19, 21, 22, 29, 36, 43] fun Kr hKr => ?_
    simp only [go_sem]
    (repeat (refine ⟨by (first | exact True.intro | omega | rfl | (simp; done) | (simp; omega)), ?_⟩)); try (refine hKr _ ?_; clear hKr Kr)
    refine T.condTD rfl rfl (fun hb => ?_) (fun hb => ?_) <;> try simp at hb
    refine T.sregD 62 [0, 1, 2, 3, 4, 19, 21, 22, 29, 36, 43] fun Kr hKr => ?_
    simp only [go_sem]
    (repeat (refine ⟨by (first | exact True.intro | omega | rfl | (simp; done) | (simp; omega)), ?_⟩)); try (refine hKr _ ?_; clear hKr Kr)
    refine T.ret (Fin.dataD (by rw [ee]; rfl) rfl rfl)
  · have ee : meansB ⟨d, s, e, 4, [], n, 0⟩ r = decide (r.e ≥ n) := by simp [meansB, he]
    refine T.seqK fun K2 hK2 => ?_
    refine T.sregD 62 [0, 1, 2, 3, 4, 19, 21, 22, 29, 36, 43] fun Kr hKr => ?_
    simp only [go_sem]
    (repeat (refine ⟨by (first | exact True.intro | omega | rfl | (simp; done) | (simp; omega)), ?_⟩)); try (refine hKr _ ?_; clear hKr Kr)
    refine T.block ?_
    refine T.sregD 62 [0, 1, 2, 3, 4, 19, 21, 22, 29, 36, 43] fun Kr hKr => ?_
    simp only [go_sem]
    (repeat (refine ⟨by (first | exact True.intro | omega | rfl | (simp; done) | (simp; omega)), ?_⟩)); try (refine hKr _ ?_; clear hKr Kr)
    refine T.condTD rfl rfl (fun hb => ?_) (fun hb => ?_) <;> try simp at hb
    refine T.sregD 62 [0, 1, 2, 3, 4, 19, 21, 22, 29, 36, 43] fun Kr hKr => ?_
    simp only [go_sem]
    (repeat (refine ⟨by (first | exact True.intro | omega | rfl | (simp; done) | (simp; omega)), ?_⟩)); try (refine hKr _ ?_; clear hKr Kr)
    refine T.condTD rfl rfl (fun hb => ?_) (fun hb => ?_) <;> try simp at hb
    refine T.sregD 62 [0, 1, 2, 3, 4, 19, 21, 22, 29, 36, 43] fun Kr hKr => ?_
    simp only [go_sem]
    (repeat (refine ⟨by (first | exact True.intro | omega | rfl | (simp; done) | (simp; omega)), ?_⟩)); try (refine hKr _ ?_; clear hKr Kr)
    refine T.condTD rfl rfl (fun hb => ?_) (fun hb => ?_) <;> try simp at hb
    refine T.sregD 62 [0, 1, 2, 3, 4, 19, 21, 22, 29, 36, 43] fun Kr hKr => ?_
    simp only [go_sem]
    (repeat (refine ⟨by (first | exact True.intro | omega | rfl | (simp; done) | (simp; omega)), ?_⟩)); try (refine hKr _ ?_; clear hKr Kr)
    refine T.condTD rfl rfl (fun hb => ?_) (fun hb => ?_) <;> try simp at hb
    refine T.sregD 62 [0, 1, 2, 3, 4, 19, 21, 22, 29, 36, 43] fun Kr hKr => ?_
    simp only [go_sem]
    (repeat (refine ⟨by (first | exact True.intro | omega | rfl | (simp; done) | (simp; omega)), ?_⟩)); try (refine hKr _ ?_; clear hKr Kr)
    refine T.ret (Fin.dataD (by rw [ee]; rfl) rfl rfl)
  · have ee : meansB ⟨d, s, e, 5, [], n, f⟩ r = (decide (r.d = f) && decide (r.s = n)) := by simp [meansB, he]
    refine T.seqK fun K2 hK2 => ?_
    refine T.sregD 62 [0, 1, 2, 3, 4, 19, 21, 22, 29, 36, 43] fun Kr hKr => ?_
    simp only [go_sem]
    (repeat (refine ⟨by (first | exact True.intro | omega | rfl | (simp; done) | (simp; omega)), ?_⟩)); try (refine hKr _ ?_; clear hKr Kr)
    refine T.block ?_
    refine T.sregD 62 [0, 1, 2, 3, 4, 19, 21, 22, 29, 36, 43] fun Kr hKr => ?_
    simp only [go_sem]
    (repeat (refine ⟨by (first | exact True.intro | omega | rfl | (simp; done) | (simp; omega)), ?_⟩)); try (refine hKr _ ?_; clear hKr Kr)
    refine T.condTD rfl rfl (fun hb => ?_) (fun hb => ?_) <;> try simp at hb
    refine T.sregD 62 [0, 1, 2, 3, 4, 19, 21, 22, 29, 36, 43] fun Kr hKr => ?_
    simp only [go_sem]
    (repeat (refine ⟨by (first | exact True.intro | omega | rfl | (simp; done) | (simp; omega)), ?_⟩)); try (refine hKr _ ?_; clear hKr Kr)
    refine T.condTD rfl rfl (fun hb => ?_) (fun hb => ?_) <;> try simp at hb
    refine T.sregD 62 [0, 1, 2, 3, 4, 19, 21, 22, 29, 36, 43] fun Kr hKr => ?_
    simp only [go_sem]
    (repeat (refine ⟨by (first | exact True.intro | omega | rfl | (simp; done) | (simp; omega)), ?_⟩)); try (refine hKr _ ?_; clear hKr Kr)
    refine T.condTD rfl rfl (fun hb => ?_) (fun hb => ?_) <;> try simp at hb
    refine T.sregD 62 [0, 1, 2, 3, 4, 19, 21, 22, 29, 36, 43] fun Kr hKr => ?_
    simp only [go_sem]
    (repeat (refine ⟨by (first | exact True.intro | omega | rfl | (simp; done) | (simp; omega)), ?_⟩)); try (refine hKr _ ?_; clear hKr Kr)
    refine T.condTD rfl rfl (fun hb => ?_) (fun hb => ?_) <;> try simp at hb
    refine T.skip ?_
    refine hK2 _ ?_
    refine T.sregD 62 [0, 1, 2, 3, 4, 19, 21, 22, 29, 36, 43] fun Kr hKr => ?_
    simp only [go_sem]
    (repeat (refine ⟨by (first | exact True.intro | omega | rfl | (simp; done) | (simp; omega)), ?_⟩)); try (refine hKr _ ?_; clear hKr Kr)
    refine T.ret (Fin.dataD (by rw [ee]; simp only [slook, cond_and]; rfl) rfl rfl)
theorem Meant_spec (l : List Ord) (r : Rec) (ho : ∀ o ∈ l, RightO o) (hr : RightR r) (hl : l.length ≤ 100000) : Ideal.Spec Tryz.prog 9 [.sl false 7 (ordsOf l), recA r] (.bool (meantB l r)) none := by
  refine Ideal.Spec.of_TD (n := 18) (fn := Tryz.f9) rfl rfl rfl rfl rfl rfl rfl fun w ok => ?_
  refine T.sregD 18 [0, 1, 3, 4, 5, 9, 17] fun Kr hKr => ?_
  simp only [go_sem]
  (repeat (refine ⟨by (first | exact True.intro | omega | rfl | (simp; done) | (simp; omega)), ?_⟩)); try (refine hKr _ ?_; clear hKr Kr)
  refine T.seqK fun K1 hK1 => ?_
  refine T.sregD 18 [0, 1, 3, 4, 5, 9, 17] fun Kr hKr => ?_
  simp only [go_sem]
  (repeat (refine ⟨by (first | exact True.intro | omega | rfl | (simp; done) | (simp; omega)), ?_⟩)); try (refine hKr _ ?_; clear hKr Kr)
  refine T.bloop (fun i : Nat => ⟨dense 18 [(0, .sl false 7 (ordsOf l)), (3, .op 3 0 0), (5, .int .i64 i)], [(3, ⟨6, 39, true, [recA r]⟩)]⟩) (fun i => i ≤ l.length ∧ meantB (l.take i) r = false) (fun i => l.length - i) 0 ⟨by simp, rfl⟩ ?_ fun i hi => ?_
  · refine Le.fitS (by (repeat (first | exact DFit.nil | refine DFit.cons (by first | rfl | (simp [slook]; done) | (simp [slook]; omega)) ?_))) (by (repeat (first | exact True.intro | refine And.intro (by first | rfl | (simp [look]; done)) ?_)))
  obtain ⟨hi, hn⟩ := hi
  refine T.seqK fun K2 hK2 => ?_
  refine T.sregD 18 [0, 1, 3, 4, 5, 9, 17] fun Kr hKr => ?_
  simp only [go_sem]
  (repeat (refine ⟨by (first | exact True.intro | omega | rfl | (simp; done) | (simp; omega)), ?_⟩)); try (refine hKr _ ?_; clear hKr Kr)
  refine T.condFD rfl rfl (fun hb => ?_) (fun hb => ?_) <;> simp at hb
  · -- no: exit
    refine T.exit ?_
    simp only [if_true]
    refine hK1 _ ?_
    have : i = l.length := by omega
    subst this
    rw [List.take_length] at hn
    refine T.sregD 18 [0, 1, 3, 4, 5, 9, 17] fun Kr hKr => ?_
    simp only [go_sem]
    (repeat (refine ⟨by (first | exact True.intro | omega | rfl | (simp; done) | (simp; omega)), ?_⟩)); try (refine hKr _ ?_; clear hKr Kr)
    refine T.ret (Fin.dataD (by rw [hn]; rfl) rfl rfl)
  have s1 := MeansR_spec (l.getD i default) r (ho _ (by simp [List.getD, hb])) hr
  have hstep : meantB (l.take (i + 1)) r = (meantB (l.take i) r || meansB (l.getD i default) r) := by
    unfold meantB
    rw [take_succ_d hb, List.any_append]; simp
  refine T.skip ?_
  refine hK2 _ ?_
  refine T.seqK fun K3 hK3 => ?_
  refine T.block ?_
  cases hm : meansB (l.getD i default) r with
  | true =>
    rw [hm] at s1
    refine T.sdrawD 18 [0, 1, 3, 4, 5, 9, 17] (.take 0 (.take 1 (.take 2 (.take 3 (.take 4 (.one 5 .done)))))) [3] rfl (by decide +kernel) (by decide +kernel) fun Kr hKr => ?_
    simp only [go_sem, hb]
    (repeat (refine ⟨by (first | exact True.intro | omega | rfl | (simp; done) | (simp; omega)), ?_⟩)); try (refine hKr _ ?_; clear hKr Kr)
    refine CallK.data (fun _ => Spec.args (s1) (by (first | exact ArgsLe.refl | (repeat (first | exact True.intro | refine And.intro (by first | exact AvLe.refl | exact AvLe.loose | exact AvLe.nil | exact AvLe.nilT | exact AvLe.slk | (refine AvLe.agg ?_; exact ArgsLe.refl) | (refine AvLe.agg ?_; (repeat (first | exact True.intro | refine And.intro (by first | exact AvLe.refl | exact AvLe.loose | exact AvLe.nil | exact AvLe.nilT | exact AvLe.slk) ?_)))) ?_))))) rfl ?_
    simp only [go_sem, hb]
    (repeat (refine ⟨by (first | exact True.intro | omega | rfl | (simp; done) | (simp; omega)), ?_⟩)); try (refine hKr _ ?_; clear hKr Kr)
    refine T.condTD rfl rfl (fun hc => ?_) (fun hc => ?_) <;> try simp at hc
    have e : meantB l r = true := List.any_eq_true.2 ⟨l.getD i default, by simp [List.getD, hb], hm⟩
    refine T.sregD 18 [0, 1, 3, 4, 5, 9, 17] fun Kr hKr => ?_
    simp only [go_sem]
    (repeat (refine ⟨by (first | exact True.intro | omega | rfl | (simp; done) | (simp; omega)), ?_⟩)); try (refine hKr _ ?_; clear hKr Kr)
    refine T.ret (Fin.dataD (by rw [e]; rfl) rfl rfl)
  | false =>
    rw [hm] at s1 hstep
    refine T.sdrawD 18 [0, 1, 3, 4, 5, 9, 17] (.take 0 (.take 1 (.take 2 (.take 3 (.take 4 (.one 5 .done)))))) [3] rfl (by decide +kernel) (by decide +kernel) fun Kr hKr => ?_
    simp only [go_sem, hb]
    (repeat (refine ⟨by (first | exact True.intro | omega | rfl | (simp; done) | (simp; omega)), ?_⟩)); try (refine hKr _ ?_; clear hKr Kr)
    refine CallK.data (fun _ => Spec.args (s1) (by (first | exact ArgsLe.refl | (repeat (first | exact True.intro | refine And.intro (by first | exact AvLe.refl | exact AvLe.loose | exact AvLe.nil | exact AvLe.nilT | exact AvLe.slk | (refine AvLe.agg ?_; exact ArgsLe.refl) | (refine AvLe.agg ?_; (repeat (first | exact True.intro | refine And.intro (by first | exact AvLe.refl | exact AvLe.loose | exact AvLe.nil | exact AvLe.nilT | exact AvLe.slk) ?_)))) ?_))))) rfl ?_
    simp only [go_sem, hb]
    (repeat (refine ⟨by (first | exact True.intro | omega | rfl | (simp; done) | (simp; omega)), ?_⟩)); try (refine hKr _ ?_; clear hKr Kr)
    refine T.condTD rfl rfl (fun hc => ?_) (fun hc => ?_) <;> try simp at hc
    refine T.skip ?_
    refine hK3 _ ?_
    refine T.regD 18 [0, 1, 3, 4, 5, 9, 17] fun Kr hKr => ?_
    simp only [go_sem]
    (repeat (refine ⟨by (first | exact True.intro | omega | rfl | (simp; done) | (simp; omega)), ?_⟩)); try (refine hKr _ ?_; clear hKr Kr)
    refine ⟨i + 1, ?_, ?_, Le.fitS (by (repeat (first | exact DFit.nil | refine DFit.cons (by first | rfl | (simp [slook]; done) | (simp [slook]; omega)) ?_))) ?_⟩
    · exact ⟨by omega, by rw [hstep, hn]; rfl⟩
    · omega
    · (repeat (first | exact True.intro | refine And.intro (by first | rfl | (simp [look]; done)) ?_))
end Go.Proofs
