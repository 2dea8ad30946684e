/- The journal: sums of lines. -/
import Derived.Test.YtdhkkdhooobdhaaGreatDoorGN
set_option linter.unusedVariables false
set_option linter.unusedSimpArgs false
namespace Go.Proofs
open Go Go.Ideal
set_option maxRecDepth 8000
set_option maxHeartbeats 4000000
def digs : List UInt8 := [48, 49, 50, 51, 52, 53, 54, 55, 56, 57, 97, 98, 99, 100, 101, 102]
def hexd (n : Nat) : UInt8 := digs.getD (n % 16) 0
def hexs (n : Nat) : List UInt8 := [hexd (n / 4096), hexd (n / 256), hexd (n / 16), hexd n]
def step (p : Nat × Nat) (c : UInt8) : Nat × Nat := ((p.1 + c.toNat) % 65521, (p.2 + (p.1 + c.toNat) % 65521) % 65521)
def adl (l : List UInt8) : Nat × Nat := l.foldl step (1, 0)
def sumS (l : List UInt8) : List UInt8 := hexs (adl l).2 ++ hexs (adl l).1
def entry (l : List UInt8) : List UInt8 := sumS l ++ [32] ++ l ++ [10]
def okb (c : UInt8) : Bool := 32 ≤ c && c ≤ 126
def fit (l : List UInt8) : Bool := decide (l.length ≤ 200) && l.all okb
theorem and15 (n : Nat) : n &&& 15 = n % 16 := Nat.and_two_pow_sub_one_eq_mod n 4
theorem step_lt (p : Nat × Nat) (c : UInt8) : (step p c).1 < 65521 ∧ (step p c).2 < 65521 := by
  unfold step; exact ⟨Nat.mod_lt _ (by decide), Nat.mod_lt _ (by decide)⟩
theorem adl_snoc (l : List UInt8) (c : UInt8) : adl (l ++ [c]) = step (adl l) c := by simp [adl]
theorem adl_lt (l : List UInt8) : (adl l).1 < 65521 ∧ (adl l).2 < 65521 := by
  rcases List.eq_nil_or_concat l with rfl | ⟨m, c, rfl⟩
  · exact ⟨by decide, by decide⟩
  · rw [List.concat_eq_append, adl_snoc]; exact step_lt _ _
@[go_sem] theorem hexs_len (n : Nat) : (hexs n).length = 4 := rfl
@[go_sem] theorem sumS_len (l : List UInt8) : (sumS l).length = 8 := rfl
theorem hexj_spec (n : Nat) (hn : n < 65536) : Ideal.Spec Tryz.prog 65 [.int .i64 n] (.str (hexs n)) none := by
  refine Ideal.Spec.of_TD (n := 20) (fn := Tryz.f65) rfl rfl rfl rfl rfl rfl rfl fun w ok => ?_
  refine T.sregD 20 [0, 2] fun Kr hKr => ?_
  simp only [go_sem]
  (repeat (refine ⟨by (first | exact True.intro | omega | rfl | (simp; done) | (simp; omega)), ?_⟩)); try (refine hKr _ ?_; clear hKr Kr)
  refine T.sdrawD 20 [0, 2] (.take 0 (.take 1 (.take 2 (.take 3 (.take 4 (.take 5 (.take 6 (.take 7 (.take 8 (.take 9 (.take 10 (.take 11 (.take 12 (.take 13 (.take 14 (.one 15 (.one 16 (.take 17 .done)))))))))))))))))) [] rfl (by decide +kernel) (by decide +kernel) fun Kr hKr => ?_
  simp only [go_sem, and15]
  (repeat (refine ⟨by (first | exact True.intro | omega | rfl | (simp; done) | (simp; omega)), ?_⟩)); try (refine hKr _ ?_; clear hKr Kr)
  refine T.ret (Fin.dataD rfl rfl rfl)
theorem sumj_spec (s : List UInt8) (hs : s.length < 2 ^ 62) : Ideal.Spec Tryz.prog 38 [.str s] (.str (sumS s)) none := by
  refine Ideal.Spec.of_TD (n := 28) (fn := Tryz.f38) rfl rfl rfl rfl rfl rfl rfl fun w ok => ?_
  refine T.sregD 28 [0, 2, 3, 4, 5, 7, 8, 9] fun Kr hKr => ?_
  simp only [go_sem]
  (repeat (refine ⟨by (first | exact True.intro | omega | rfl | (simp; done) | (simp; omega)), ?_⟩)); try (refine hKr _ ?_; clear hKr Kr)
  refine T.sregD 28 [0, 2, 3, 4, 5, 7, 8, 9] fun Kr hKr => ?_
  simp only [go_sem]
  (repeat (refine ⟨by (first | exact True.intro | omega | rfl | (simp; done) | (simp; omega)), ?_⟩)); try (refine hKr _ ?_; clear hKr Kr)
  refine T.seqK fun K40 hK40 => ?_
  refine T.sregD 28 [0, 2, 3, 4, 5, 7, 8, 9] fun Kr hKr => ?_
  simp only [go_sem]
  (repeat (refine ⟨by (first | exact True.intro | omega | rfl | (simp; done) | (simp; omega)), ?_⟩)); try (refine hKr _ ?_; clear hKr Kr)
  refine T.bloop (fun j : Nat => ⟨dense 28 [(0, .str s), (3, .int .i64 (adl (s.take j)).1), (4, .int .i64 (adl (s.take j)).2), (7, .int .i64 s.length), (8, .int .i64 j)], []⟩) (fun j => j ≤ s.length) (fun j => s.length - j) 0 (by simp) ?_ fun j hi => ?_
  · refine Le.fitS (by (repeat (first | exact DFit.nil | refine DFit.cons (by first | rfl | (simp [slook]; done) | (simp [slook]; omega)) ?_))) (by (repeat (first | exact True.intro | refine And.intro (by first | rfl | (simp [look]; done)) ?_)))
  refine T.sregD 28 [0, 2, 3, 4, 5, 7, 8, 9] fun Kr hKr => ?_
  simp only [go_sem]
  (repeat (refine ⟨by (first | exact True.intro | omega | rfl | (simp; done) | (simp; omega)), ?_⟩)); try (refine hKr _ ?_; clear hKr Kr)
  refine T.seqK fun K41 hK41 => ?_
  refine T.condFD rfl rfl (fun hb => ?_) (fun hb => ?_) <;> simp at hb
  · -- no: exit
    refine T.exit ?_
    simp only [if_true]
    refine hK40 _ ?_
    have e : s.take j = s := List.take_of_length_le hb
    have hl := adl_lt s
    refine T.sregD 28 [0, 2, 3, 4, 5, 7, 8, 9] fun Kr hKr => ?_
    simp only [go_sem, e]
    (repeat (refine ⟨by (first | exact True.intro | omega | rfl | (simp; done) | (simp; omega)), ?_⟩)); try (refine hKr _ ?_; clear hKr Kr)
    have q1 := hexj_spec (adl s).2 (by omega)
    have q2 := hexj_spec (adl s).1 (by omega)
    refine CallK.data (fun _ => Spec.args (q1) (by (first | exact ArgsLe.refl | (repeat (first | exact True.intro | refine And.intro (by first | exact AvLe.refl | exact AvLe.loose | exact AvLe.nil | exact AvLe.nilT | exact AvLe.slk | (refine AvLe.agg ?_; exact ArgsLe.refl) | (refine AvLe.agg ?_; (repeat (first | exact True.intro | refine And.intro (by first | exact AvLe.refl | exact AvLe.loose | exact AvLe.nil | exact AvLe.nilT | exact AvLe.slk) ?_)))) ?_))))) rfl ?_
    simp only [go_sem]
    (repeat (refine ⟨by (first | exact True.intro | omega | rfl | (simp; done) | (simp; omega)), ?_⟩)); try (refine hKr _ ?_; clear hKr Kr)
    refine CallK.data (fun _ => Spec.args (q2) (by (first | exact ArgsLe.refl | (repeat (first | exact True.intro | refine And.intro (by first | exact AvLe.refl | exact AvLe.loose | exact AvLe.nil | exact AvLe.nilT | exact AvLe.slk | (refine AvLe.agg ?_; exact ArgsLe.refl) | (refine AvLe.agg ?_; (repeat (first | exact True.intro | refine And.intro (by first | exact AvLe.refl | exact AvLe.loose | exact AvLe.nil | exact AvLe.nilT | exact AvLe.slk) ?_)))) ?_))))) rfl ?_
    simp only [go_sem]
    (repeat (refine ⟨by (first | exact True.intro | omega | rfl | (simp; done) | (simp; omega)), ?_⟩)); try (refine hKr _ ?_; clear hKr Kr)
    refine T.ret (Fin.dataD rfl rfl rfl)
  refine T.skip ?_
  refine hK41 _ ?_
  refine T.seqK fun K42 hK42 => ?_
  refine T.block ?_
  refine T.sregD 28 [0, 2, 3, 4, 5, 7, 8, 9] fun Kr hKr => ?_
  simp only [go_sem]
  (repeat (refine ⟨by (first | exact True.intro | omega | rfl | (simp; done) | (simp; omega)), ?_⟩)); try (refine hKr _ ?_; clear hKr Kr)
  have hl := adl_lt (s.take j)
  have hr := (s.getD j 0).toNat_lt
  have hrm : remv (((adl (s.take j)).2 : Int) + (((adl (s.take j)).1 : Int) + ((s.getD j 0).toNat : Int)) % 65521) 65521 = (((adl (s.take j)).2 : Int) + (((adl (s.take j)).1 : Int) + ((s.getD j 0).toNat : Int)) % 65521) % 65521 := remv_nn (by omega)
  refine T.sregD 28 [0, 2, 3, 4, 5, 7, 8, 9] fun Kr hKr => ?_
  simp only [go_sem, hrm]
  (repeat (refine ⟨by (first | exact True.intro | omega | rfl | (simp; done) | (simp; omega)), ?_⟩)); try (refine hKr _ ?_; clear hKr Kr)
  refine T.regD 28 [0, 2, 3, 4, 5, 7, 8, 9] fun Kr hKr => ?_
  simp only [go_sem, hrm]
  (repeat (refine ⟨by (first | exact True.intro | omega | rfl | (simp; done) | (simp; omega)), ?_⟩)); try (refine hKr _ ?_; clear hKr Kr)
  refine hK42 _ ?_
  refine T.regD 28 [0, 2, 3, 4, 5, 7, 8, 9] fun Kr hKr => ?_
  simp only [go_sem]
  (repeat (refine ⟨by (first | exact True.intro | omega | rfl | (simp; done) | (simp; omega)), ?_⟩)); try (refine hKr _ ?_; clear hKr Kr)
  have e : s.take (j + 1) = s.take j ++ [s.getD j 0] := by rw [List.take_add_one]; simp [hb]
  refine ⟨j + 1, ?_, ?_, Le.fitS (by (repeat (first | exact DFit.nil | refine DFit.cons (by first | rfl | (simp [slook, e, adl_snoc, step]; done) | (simp [slook, e, adl_snoc, step]; omega)) ?_))) ?_⟩
  · omega
  · omega
  · (repeat (first | exact True.intro | refine And.intro (by first | rfl | (simp [look]; done)) ?_))
theorem all_take_succ {l : List UInt8} {p : UInt8 → Bool} {j : Nat} (hj : j < l.length) (h : (l.take j).all p = true) (hp : p (l.getD j 0) = true) : (l.take (j + 1)).all p = true := by
  rw [List.take_add_one, List.all_append, h]; simp [hj] at hp ⊢; exact hp
theorem all_false {l : List UInt8} {p : UInt8 → Bool} {j : Nat} (hj : j < l.length) (hp : p (l.getD j 0) = false) : l.all p = false := by
  rw [List.all_eq_false]; exact ⟨l[j], List.getElem_mem hj, by simp [hj] at hp; simp [hp]⟩
theorem okb_iff (c : UInt8) : okb c = true ↔ 32 ≤ c.toNat ∧ c.toNat ≤ 126 := by
  simp [okb, UInt8.le_iff_toNat_le]
theorem okb_not (c : UInt8) : okb c = false ↔ c.toNat < 32 ∨ 126 < c.toNat := by
  have := okb_iff c
  cases h : okb c <;> simp [h] at this ⊢ <;> omega
end Go.Proofs
