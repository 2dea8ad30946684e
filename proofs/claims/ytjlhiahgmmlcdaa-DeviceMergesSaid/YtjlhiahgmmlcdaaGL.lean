/- Devices: the reference's Clean. -/
import Derived.Test.YtjlhiahgmmlcdaaGK
set_option linter.unusedVariables false
set_option linter.unusedSimpArgs false
namespace Go.Proofs
open Go Go.Ideal
set_option maxRecDepth 8000
set_option maxHeartbeats 4000000

def needK (l : List Ord) (i : Nat) (o : Ord) (k : Nat) : Bool := decide (k ≠ i) && (covB (l.getD k default) o && (!covB o (l.getD k default) || befB (l.getD k default).d (l.getD k default).s o.d o.s))
def needN (l : List Ord) (i : Nat) (o : Ord) (j : Nat) : Bool := (List.range j).any (needK l i o)
theorem needN_succ (l : List Ord) (i : Nat) (o : Ord) (j : Nat) : needN l i o (j + 1) = (needN l i o j || needK l i o j) := by
  unfold needN; rw [List.range_succ, List.any_append]; simp
theorem needN_all (l : List Ord) (i : Nat) (o : Ord) : needN l i o l.length = needR l i o := rfl
def cleanN (l : List Ord) (n : Nat) : List Ord := (List.range n).filterMap fun i => if needR l i (l.getD i default) = true then none else some (l.getD i default)
theorem cleanN_succ (l : List Ord) (n : Nat) : cleanN l (n + 1) = cleanN l n ++ (if needR l n (l.getD n default) = true then [] else [l.getD n default]) := by
  unfold cleanN; rw [List.range_succ, List.filterMap_append]; congr 1
  by_cases h : needR l n (l.getD n default) = true
  · rw [if_pos h, List.filterMap_cons_none (by rw [if_pos h])]; rfl
  · rw [if_neg h, List.filterMap_cons_some (by rw [if_neg h])]; rfl
theorem cleanN_len (l : List Ord) (n : Nat) : (cleanN l n).length ≤ n := by
  unfold cleanN; exact Nat.le_trans (List.length_filterMap_le _ _) (by simp)
theorem Clean26_spec (u : Usr) (h : ValU u) : Ideal.Spec Try.prog 20 [usrA u] (usrA (cleanF u)) none := by
  rw [← cleanRF_eq h]
  have ul := h.l
  have l1 := h.rl
  have l2 := h.ol
  have hT : u.l.take 8 = u.l := List.take_of_length_le (by omega)
  have ef : cleanRF u = ⟨u.r, cleanN u.o u.o.length, u.l⟩ := rfl
  refine Ideal.Spec.of_CD (n := 67) (fn := Try.f20) rfl rfl rfl rfl rfl rfl rfl fun w ok => ?_
  refine T.post [.tmp 2] ?_
  refine T.sregD 67 [0, 1, 2, 3, 4, 5, 6, 7, 8, 16, 28, 59] fun Kr hKr => ?_
  simp only [go_sem, ul]
  (repeat (refine ⟨by (first | exact True.intro | omega | rfl | (simp; done) | (simp; omega)), ?_⟩)); try (refine hKr _ ?_; clear hKr Kr)
  refine T.sregD 67 [0, 1, 2, 3, 4, 5, 6, 7, 8, 16, 28, 59] fun Kr hKr => ?_
  simp only [go_sem, ul, hT]
  (repeat (refine ⟨by (first | exact True.intro | omega | rfl | (simp; done) | (simp; omega)), ?_⟩)); try (refine hKr _ ?_; clear hKr Kr)
  refine T.sregD 67 [0, 1, 2, 3, 4, 5, 6, 7, 8, 16, 28, 59] fun Kr hKr => ?_
  simp only [go_sem, ul, hT]
  (repeat (refine ⟨by (first | exact True.intro | omega | rfl | (simp; done) | (simp; omega)), ?_⟩)); try (refine hKr _ ?_; clear hKr Kr)
  refine T.seqK fun K1 hK1 => ?_
  refine T.sregD 67 [0, 1, 2, 3, 4, 5, 6, 7, 8, 16, 28, 59] fun Kr hKr => ?_
  simp only [go_sem]
  (repeat (refine ⟨by (first | exact True.intro | omega | rfl | (simp; done) | (simp; omega)), ?_⟩)); try (refine hKr _ ?_; clear hKr Kr)
  refine T.bloop (fun i : Nat => ⟨dense 67 [(1, .op 1 0 0), (2, .op 2 0 0), (3, .op 3 0 0), (4, .int .i64 i)], [(10, ⟨7, 52, false, ordsOf (cleanN u.o i)⟩), (3, ⟨10, 29, true, [.agg (.sl false 6 (recsOf u.r) :: .osl 10 0 (cleanN u.o i).length :: intsOf u.l)]⟩), (2, ⟨10, 29, true, [.agg [.sl true 1 [], .sl true 1 [], .int .i64 0, .int .i64 0, .int .i64 0, .int .i64 0, .int .i64 0, .int .i64 0, .int .i64 0, .int .i64 0]]⟩), (1, ⟨10, 29, true, [usrA u]⟩)]⟩) (fun i => i ≤ u.o.length) (fun i => u.o.length - i) 0 (by simp) ?_ fun i hi => ?_
  · refine Le.fitS (by (repeat (first | exact DFit.nil | refine DFit.cons (by first | rfl | (simp [slook]; done) | (simp [slook]; omega)) ?_))) (by (repeat (first | exact True.intro | refine And.intro (by first | rfl | (simp [look]; done)) ?_)))
  have hcl := cleanN_len u.o i
  refine T.seqK fun K2 hK2 => ?_
  refine T.sregD 67 [0, 1, 2, 3, 4, 5, 6, 7, 8, 16, 28, 59] fun Kr hKr => ?_
  simp only [go_sem]
  (repeat (refine ⟨by (first | exact True.intro | omega | rfl | (simp; done) | (simp; omega)), ?_⟩)); try (refine hKr _ ?_; clear hKr Kr)
  refine T.condFD rfl rfl (fun hb => ?_) (fun hb => ?_) <;> simp at hb
  · -- no: exit
    refine T.exit ?_
    simp only [if_true]
    refine hK1 _ ?_
    have hie : i = u.o.length := by omega
    subst hie
    rw [ef]
    generalize cleanN u.o u.o.length = O at *
    refine T.sregD 67 [0, 1, 2, 3, 4, 5, 6, 7, 8, 16, 28, 59] fun Kr hKr => ?_
    simp only [go_sem, ul, hT]
    (repeat (refine ⟨by (first | exact True.intro | omega | rfl | (simp; done) | (simp; omega)), ?_⟩)); try (refine hKr _ ?_; clear hKr Kr)
    refine T.ret ?_
    simp only [go_sem, ul, hT]
    exact ⟨ResCellD rfl rfl rfl rfl (by simp only [go_sem, ul]) (by simp only [go_sem, hT]; try rfl) rfl, trivial⟩
  have hst := cleanN_succ u.o i
  have hall := needN_all u.o i (u.o.getD i default)
  generalize hx : u.o.getD i default = x at *
  refine T.skip ?_
  refine hK2 _ ?_
  refine T.seqK fun K3 hK3 => ?_
  refine T.block ?_
  refine T.sregD 67 [0, 1, 2, 3, 4, 5, 6, 7, 8, 16, 28, 59] fun Kr hKr => ?_
  simp only [go_sem, hb, hx]
  (repeat (refine ⟨by (first | exact True.intro | omega | rfl | (simp; done) | (simp; omega)), ?_⟩)); try (refine hKr _ ?_; clear hKr Kr)
  refine T.seqK fun K4 hK4 => ?_
  refine T.sregD 67 [0, 1, 2, 3, 4, 5, 6, 7, 8, 16, 28, 59] fun Kr hKr => ?_
  simp only [go_sem]
  (repeat (refine ⟨by (first | exact True.intro | omega | rfl | (simp; done) | (simp; omega)), ?_⟩)); try (refine hKr _ ?_; clear hKr Kr)
  generalize cleanN u.o i = C at *
  refine T.bloop (fun j : Nat => ⟨dense 67 [(1, .op 1 0 0), (2, .op 2 0 0), (3, .op 3 0 0), (4, .int .i64 i), (5, .op 5 0 0), (6, .bool (needN u.o i x j)), (7, .int .i64 j)], [(5, ⟨7, 52, true, [ordA x]⟩), (10, ⟨7, 52, false, ordsOf C⟩), (3, ⟨10, 29, true, [.agg (.sl false 6 (recsOf u.r) :: .osl 10 0 C.length :: intsOf u.l)]⟩), (2, ⟨10, 29, true, [.agg [.sl true 1 [], .sl true 1 [], .int .i64 0, .int .i64 0, .int .i64 0, .int .i64 0, .int .i64 0, .int .i64 0, .int .i64 0, .int .i64 0]]⟩), (1, ⟨10, 29, true, [usrA u]⟩)]⟩) (fun i => i ≤ u.o.length) (fun i => u.o.length - i) 0 (by simp) ?_ fun j hj => ?_
  · refine Le.fitS (by (repeat (first | exact DFit.nil | refine DFit.cons (by first | rfl | (simp [slook]; done) | (simp [slook]; omega)) ?_))) (by (repeat (first | exact True.intro | refine And.intro (by first | rfl | (simp [look]; done)) ?_)))
  refine T.seqK fun K5 hK5 => ?_
  refine T.sregD 67 [0, 1, 2, 3, 4, 5, 6, 7, 8, 16, 28, 59] fun Kr hKr => ?_
  simp only [go_sem]
  (repeat (refine ⟨by (first | exact True.intro | omega | rfl | (simp; done) | (simp; omega)), ?_⟩)); try (refine hKr _ ?_; clear hKr Kr)
  refine T.condFD rfl rfl (fun hc => ?_) (fun hc => ?_) <;> simp at hc
  · -- no: exit
    refine T.exit ?_
    simp only [if_true]
    refine hK4 _ ?_
    have hje : j = u.o.length := by omega
    subst hje
    rw [hall]
    cases hq : needR u.o i x with
    | true =>
      rw [hq, if_pos rfl, List.append_nil] at hst
      refine T.sregD 67 [0, 1, 2, 3, 4, 5, 6, 7, 8, 16, 28, 59] fun Kr hKr => ?_
      simp only [go_sem]
      (repeat (refine ⟨by (first | exact True.intro | omega | rfl | (simp; done) | (simp; omega)), ?_⟩)); try (refine hKr _ ?_; clear hKr Kr)
      refine T.condTD rfl rfl (fun hc => ?_) (fun hc => ?_) <;> try simp at hc
      refine T.skip ?_
      refine hK3 _ ?_
      refine T.regD 67 [0, 1, 2, 3, 4, 5, 6, 7, 8, 16, 28, 59] fun Kr hKr => ?_
      simp only [go_sem]
      (repeat (refine ⟨by (first | exact True.intro | omega | rfl | (simp; done) | (simp; omega)), ?_⟩)); try (refine hKr _ ?_; clear hKr Kr)
      refine ⟨i + 1, ?_, ?_, Le.fitS (by (repeat (first | exact DFit.nil | refine DFit.cons (by first | rfl | (simp [slook, hst]; done) | (simp [slook, hst]; omega)) ?_))) ?_⟩
      · omega
      · omega
      · rw [hst]; (repeat (first | exact True.intro | refine And.intro (by first | rfl | (simp [look]; done)) ?_))
    | false =>
      rw [hq, if_neg (by decide)] at hst
      refine T.sregD 67 [0, 1, 2, 3, 4, 5, 6, 7, 8, 16, 28, 59] fun Kr hKr => ?_
      simp only [go_sem]
      (repeat (refine ⟨by (first | exact True.intro | omega | rfl | (simp; done) | (simp; omega)), ?_⟩)); try (refine hKr _ ?_; clear hKr Kr)
      refine T.condTD rfl rfl (fun hc => ?_) (fun hc => ?_) <;> try simp at hc
      have happ : ordsOf C ++ [ordA x] = ordsOf (C ++ [x]) := by rw [ordsOf_app]; rfl
      have hln : (C ++ [x]).length = C.length + 1 := by simp
      rw [ordA] at happ
      refine T.regD 67 [0, 1, 2, 3, 4, 5, 6, 7, 8, 16, 28, 59] fun Kr hKr => ?_
      simp only [go_sem]
      (repeat (refine ⟨by (first | exact True.intro | omega | rfl | (simp; done) | (simp; omega)), ?_⟩)); try (refine hKr _ ?_; clear hKr Kr)
      rw [happ]
      refine hK3 _ ?_
      refine T.regD 67 [0, 1, 2, 3, 4, 5, 6, 7, 8, 16, 28, 59] fun Kr hKr => ?_
      simp only [go_sem]
      (repeat (refine ⟨by (first | exact True.intro | omega | rfl | (simp; done) | (simp; omega)), ?_⟩)); try (refine hKr _ ?_; clear hKr Kr)
      refine ⟨i + 1, ?_, ?_, Le.fitS (by (repeat (first | exact DFit.nil | refine DFit.cons (by first | rfl | (simp [slook, hst, hln]; done) | (simp [slook, hst, hln]; omega)) ?_))) ?_⟩
      · omega
      · omega
      · rw [hst, hln]; (repeat (first | exact True.intro | refine And.intro (by first | rfl | (simp [look]; done)) ?_))
  refine T.skip ?_
  refine hK5 _ ?_
  refine T.seqK fun K6 hK6 => ?_
  refine T.block ?_
  have hsj := needN_succ u.o i x j
  have hk : needK u.o i x j = (decide (j ≠ i) && (covB (u.o.getD j default) x && (!covB x (u.o.getD j default) || befB (u.o.getD j default).d (u.o.getD j default).s x.d x.s))) := rfl
  refine T.sregD 67 [0, 1, 2, 3, 4, 5, 6, 7, 8, 16, 28, 59] fun Kr hKr => ?_
  simp only [go_sem, hc]
  (repeat (refine ⟨by (first | exact True.intro | omega | rfl | (simp; done) | (simp; omega)), ?_⟩)); try (refine hKr _ ?_; clear hKr Kr)
  generalize u.o.getD j default = y at *
  have s1 := covR_spec y x
  have s2 := covR_spec x y
  have s3 := firstR_spec y x
  rw [covR_eq] at s1 s2
  generalize needN u.o i x j = b at *
  refine T.regD 67 [0, 1, 2, 3, 4, 5, 6, 7, 8, 16, 28, 59] fun Kr hKr => ?_
  simp only [go_sem]
  (repeat (refine ⟨by (first | exact True.intro | omega | rfl | (simp; done) | (simp; omega)), ?_⟩)); try (refine hKr _ ?_; clear hKr Kr)
  refine CallK.data (fun _ => Spec.args (s1) (by (first | exact ArgsLe.refl | (repeat (first | exact True.intro | refine And.intro (by first | exact AvLe.refl | exact AvLe.loose | exact AvLe.nil | exact AvLe.nilT | exact AvLe.slk | (refine AvLe.agg ?_; exact ArgsLe.refl) | (refine AvLe.agg ?_; (repeat (first | exact True.intro | refine And.intro (by first | exact AvLe.refl | exact AvLe.loose | exact AvLe.nil | exact AvLe.nilT | exact AvLe.slk) ?_)))) ?_))))) rfl ?_
  simp only [go_sem]
  (repeat (refine ⟨by (first | exact True.intro | omega | rfl | (simp; done) | (simp; omega)), ?_⟩)); try (refine hKr _ ?_; clear hKr Kr)
  refine CallK.data (fun _ => Spec.args (s2) (by (first | exact ArgsLe.refl | (repeat (first | exact True.intro | refine And.intro (by first | exact AvLe.refl | exact AvLe.loose | exact AvLe.nil | exact AvLe.nilT | exact AvLe.slk | (refine AvLe.agg ?_; exact ArgsLe.refl) | (refine AvLe.agg ?_; (repeat (first | exact True.intro | refine And.intro (by first | exact AvLe.refl | exact AvLe.loose | exact AvLe.nil | exact AvLe.nilT | exact AvLe.slk) ?_)))) ?_))))) rfl ?_
  simp only [go_sem]
  (repeat (refine ⟨by (first | exact True.intro | omega | rfl | (simp; done) | (simp; omega)), ?_⟩)); try (refine hKr _ ?_; clear hKr Kr)
  refine CallK.data (fun _ => Spec.args (s3) (by (first | exact ArgsLe.refl | (repeat (first | exact True.intro | refine And.intro (by first | exact AvLe.refl | exact AvLe.loose | exact AvLe.nil | exact AvLe.nilT | exact AvLe.slk | (refine AvLe.agg ?_; exact ArgsLe.refl) | (refine AvLe.agg ?_; (repeat (first | exact True.intro | refine And.intro (by first | exact AvLe.refl | exact AvLe.loose | exact AvLe.nil | exact AvLe.nilT | exact AvLe.slk) ?_)))) ?_))))) rfl ?_
  simp only [go_sem]
  (repeat (refine ⟨by (first | exact True.intro | omega | rfl | (simp; done) | (simp; omega)), ?_⟩)); try (refine hKr _ ?_; clear hKr Kr)
  have hf : (bif b then true else bif bif !decide ((j : Int) = (i : Int)) then covB y x else false then bif !covB x y then true else befB y.d y.s x.d x.s else false) = needN u.o i x (j + 1) := by
    rw [hsj, hk]
    have e : decide ((j : Int) = (i : Int)) = decide (j = i) := by rw [Bool.eq_iff_iff, decide_eq_true_eq, decide_eq_true_eq]; constructor <;> intro _ <;> omega
    rw [e, cond_or, cond_and, cond_and, cond_or]
    simp [Bool.and_assoc]
  rw [hf]
  refine hK6 _ ?_
  refine T.regD 67 [0, 1, 2, 3, 4, 5, 6, 7, 8, 16, 28, 59] fun Kr hKr => ?_
  simp only [go_sem]
  (repeat (refine ⟨by (first | exact True.intro | omega | rfl | (simp; done) | (simp; omega)), ?_⟩)); try (refine hKr _ ?_; clear hKr Kr)
  refine ⟨j + 1, ?_, ?_, Le.fitS (by (repeat (first | exact DFit.nil | refine DFit.cons (by first | rfl | (simp [slook]; done) | (simp [slook]; omega)) ?_))) ?_⟩
  · omega
  · omega
  · (repeat (first | exact True.intro | refine And.intro (by first | rfl | (simp [look]; done)) ?_))
end Go.Proofs
