/- Devices: what a record counts (the reference). -/
import Derived.Test.YtdhkkdhooobdhaaGreatDoorGJ
import Derived.Test.YtdhkkdhooobdhaaGreatDoorH7
set_option linter.unusedVariables false
set_option linter.unusedSimpArgs false
namespace Go.Proofs
open Go Go.Ideal
set_option maxRecDepth 8000
set_option maxHeartbeats 4000000

/-- A number that is halved n times. -/
def hlv (n : Int) : Nat → Int
  | 0 => n
  | k + 1 => hlv n k / 2
theorem hlv_range (n : Int) (h : 0 ≤ n) : ∀ k, 0 ≤ hlv n k ∧ hlv n k ≤ n
  | 0 => ⟨h, Int.le_refl _⟩
  | k + 1 => by have := hlv_range n h k; simp only [hlv]; omega
def halvedF (n t : Int) : Int := hlv n (min t.toNat 40)
theorem Halved_spec (n t : Int) (h : 0 ≤ n ∧ n ≤ 1000000) : Ideal.Spec Tryz.prog 30 [.int .i64 n, .int .i64 t] (.int .i64 (halvedF n t)) none := by
  refine Ideal.Spec.of_TD (n := 18) (fn := Tryz.f30) rfl rfl rfl rfl rfl rfl rfl fun w ok => ?_
  refine T.sregD 18 [0, 1, 4, 5, 12] fun Kr hKr => ?_
  simp only [go_sem]
  (repeat (refine ⟨by (first | exact True.intro | omega | rfl | (simp; done) | (simp; omega)), ?_⟩)); try (refine hKr _ ?_; clear hKr Kr)
  refine T.seqK fun K1 hK1 => ?_
  refine T.sregD 18 [0, 1, 4, 5, 12] fun Kr hKr => ?_
  simp only [go_sem]
  (repeat (refine ⟨by (first | exact True.intro | omega | rfl | (simp; done) | (simp; omega)), ?_⟩)); try (refine hKr _ ?_; clear hKr Kr)
  refine T.bloop (fun i : Nat => ⟨dense 18 [(0, .int .i64 (hlv n i)), (1, .int .i64 t), (5, .int .i64 i)], []⟩) (fun i => i ≤ 40 ∧ (i = 0 ∨ (i : Int) ≤ t)) (fun i => 40 - i) 0 (by simp) ?_ fun i hi => ?_
  · refine Le.fitS (by (repeat (first | exact DFit.nil | refine DFit.cons (by first | rfl | (simp [slook]; done) | (simp [slook]; omega)) ?_))) (by (repeat (first | exact True.intro | refine And.intro (by first | rfl | (simp [look]; done)) ?_)))
  obtain ⟨hi, hit⟩ := hi
  have hr := hlv_range n h.1 i
  refine T.seqK fun K2 hK2 => ?_
  by_cases hb : (i : Int) < t ∧ i < 40
  rotate_left
  · have hg : (bif decide ((i : Int) < t) then decide ((i : Int) < 40) else false) = false := by
      rw [cond_and, Bool.and_eq_false_iff, decide_eq_false_iff_not, decide_eq_false_iff_not]; omega
    have e : halvedF n t = hlv n i := by
      unfold halvedF; congr 1; omega
    rw [e]
    refine T.sregD 18 [0, 1, 4, 5, 12] fun Kr hKr => ?_
    simp only [go_sem, hg]
    (repeat (refine ⟨by (first | exact True.intro | omega | rfl | (simp; done) | (simp; omega)), ?_⟩)); try (refine hKr _ ?_; clear hKr Kr)
    refine T.condFD rfl rfl (fun hc => ?_) (fun hc => ?_) <;> try simp at hc
    refine T.exit ?_
    simp only [if_true]
    refine hK1 _ ?_
    refine T.sregD 18 [0, 1, 4, 5, 12] fun Kr hKr => ?_
    simp only [go_sem]
    (repeat (refine ⟨by (first | exact True.intro | omega | rfl | (simp; done) | (simp; omega)), ?_⟩)); try (refine hKr _ ?_; clear hKr Kr)
    refine T.ret (Fin.dataD (by rw [e]; rfl) rfl rfl)
  have h1 : ((i : Int) < t) = True := eq_true (by omega)
  have h2 : ((i : Int) < 40) = True := eq_true (by omega)
  refine T.sregD 18 [0, 1, 4, 5, 12] fun Kr hKr => ?_
  simp only [go_sem, h1, h2]
  (repeat (refine ⟨by (first | exact True.intro | omega | rfl | (simp; done) | (simp; omega)), ?_⟩)); try (refine hKr _ ?_; clear hKr Kr)
  refine T.condFD rfl rfl (fun hc => ?_) (fun hc => ?_) <;> try simp at hc
  refine T.skip ?_
  refine hK2 _ ?_
  refine T.seqK fun K3 hK3 => ?_
  refine T.block ?_
  refine T.regD 18 [0, 1, 4, 5, 12] fun Kr hKr => ?_
  simp only [go_sem]
  (repeat (refine ⟨by (first | exact True.intro | omega | rfl | (simp; done) | (simp; omega)), ?_⟩)); try (refine hKr _ ?_; clear hKr Kr)
  refine hK3 _ ?_
  refine T.regD 18 [0, 1, 4, 5, 12] fun Kr hKr => ?_
  simp only [go_sem]
  (repeat (refine ⟨by (first | exact True.intro | omega | rfl | (simp; done) | (simp; omega)), ?_⟩)); try (refine hKr _ ?_; clear hKr Kr)
  refine ⟨i + 1, ?_, ?_, Le.fitS (by (repeat (first | exact DFit.nil | refine DFit.cons (by first | rfl | (simp [slook]; done) | (simp [slook]; omega)) ?_))) ?_⟩
  · omega
  · omega
  · (repeat (first | exact True.intro | refine And.intro (by first | rfl | (simp [look]; done)) ?_))
def valF (r : Rec) (at' : Int) : Int := halvedF r.n (max 0 (at' - r.e))
theorem valF_range {r : Rec} (h : RightR r) (at' : Int) : 0 ≤ valF r at' ∧ valF r at' ≤ 1000 := by
  have := hlv_range r.n (by have := h.n; omega) (min (max 0 (at' - r.e)).toNat 40)
  have := h.n
  unfold valF halvedF; omega
theorem Value_spec (r : Rec) (at' : Int) (h : RightR r) (ha : 0 ≤ at' ∧ at' ≤ 10000) : Ideal.Spec Tryz.prog 10 [recA r, .int .i64 at'] (.int .i64 (valF r at')) none := by
  have hn := h.n
  have he := h.e
  have s1 := Halved_spec r.n (max 0 (at' - r.e)) (by omega)
  have hm : max 0 (at' - r.e) = if at' - r.e > 0 then at' - r.e else 0 := by split <;> omega
  have e : valF r at' = halvedF r.n (max 0 (at' - r.e)) := rfl
  rw [e]
  rw [hm] at s1 ⊢
  refine Ideal.Spec.of_TD (n := 13) (fn := Tryz.f10) rfl rfl rfl rfl rfl rfl rfl fun w ok => ?_
  refine T.sregD 13 [0, 1, 2, 4] fun Kr hKr => ?_
  simp only [go_sem]
  (repeat (refine ⟨by (first | exact True.intro | omega | rfl | (simp; done) | (simp; omega)), ?_⟩)); try (refine hKr _ ?_; clear hKr Kr)
  refine T.sregD 13 [0, 1, 2, 4] fun Kr hKr => ?_
  simp only [go_sem]
  (repeat (refine ⟨by (first | exact True.intro | omega | rfl | (simp; done) | (simp; omega)), ?_⟩)); try (refine hKr _ ?_; clear hKr Kr)
  refine CallK.data (fun _ => Spec.args (s1) (by (first | exact ArgsLe.refl | (repeat (first | exact True.intro | refine And.intro (by first | exact AvLe.refl | exact AvLe.loose | exact AvLe.nil | exact AvLe.nilT | exact AvLe.slk | (refine AvLe.agg ?_; exact ArgsLe.refl) | (refine AvLe.agg ?_; (repeat (first | exact True.intro | refine And.intro (by first | exact AvLe.refl | exact AvLe.loose | exact AvLe.nil | exact AvLe.nilT | exact AvLe.slk) ?_)))) ?_))))) rfl ?_
  simp only [go_sem]
  (repeat (refine ⟨by (first | exact True.intro | omega | rfl | (simp; done) | (simp; omega)), ?_⟩)); try (refine hKr _ ?_; clear hKr Kr)
  refine T.ret (Fin.dataD rfl rfl rfl)
/-- What a record counts for a word. -/
def cntF (w : List UInt8) (at' : Int) (r : Rec) : Int := if r.w = w then valF r at' else 0
theorem S_range (w : List UInt8) (at' : Int) : ∀ l : List Rec, (∀ x ∈ l, RightR x) → 0 ≤ S (cntF w at') l ∧ S (cntF w at') l ≤ 1000 * l.length
  | [], _ => by simp [S]
  | r :: l, h => by
    have h1 := S_range w at' l fun x hx => h x (by simp [hx])
    have h2 := valF_range (h r (by simp)) at'
    rw [S_cons]
    have : 0 ≤ cntF w at' r ∧ cntF w at' r ≤ 1000 := by unfold cntF; split <;> omega
    simp only [List.length_cons]; omega
theorem S_take (f : Rec → Int) {l : List Rec} {i : Nat} (h : i < l.length) : S f (l.take (i + 1)) = S f (l.take i) + f (l.getD i default) := by
  rw [take_succ_d h, S_app, S_cons]; simp [S]
end Go.Proofs
