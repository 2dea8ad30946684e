/- Devices: the reference's Insert, InsertOrder, covers, first. -/
import Derived.Test.YtdhkkdhooobdhaaGreatDoorGA
set_option linter.unusedVariables false
set_option linter.unusedSimpArgs false
namespace Go.Proofs
open Go Go.Ideal
set_option maxRecDepth 8000
set_option maxHeartbeats 4000000

theorem tw_lt {α : Type} [Inhabited α] (p : α → Bool) : ∀ (l : List α) (i : Nat), i < (l.takeWhile p).length → p (l.getD i default) = true
  | [], i, h => by simp at h
  | x :: l, 0, h => by
    rw [List.takeWhile_cons] at h
    split at h
    · rename_i hp; exact hp
    · simp at h
  | x :: l, i + 1, h => by
    rw [List.takeWhile_cons] at h
    split at h
    · exact tw_lt p l i (by simpa using h)
    · simp at h
theorem tw_ge {α : Type} [Inhabited α] (p : α → Bool) : ∀ (l : List α), (l.takeWhile p).length < l.length → p (l.getD (l.takeWhile p).length default) = false
  | [], h => by simp at h
  | x :: l, h => by
    rw [List.takeWhile_cons] at h ⊢
    split
    · rename_i hp; rw [if_pos hp] at h
      exact tw_ge p l (by simpa using h)
    · rename_i hp; simpa using hp
theorem tw_take {α : Type} (p : α → Bool) (l : List α) : l.take (l.takeWhile p).length = l.takeWhile p := by
  have e := List.takeWhile_append_dropWhile (p := p) (l := l)
  generalize l.takeWhile p = a at *
  generalize l.dropWhile p = b at *
  subst e
  simp
theorem tw_drop {α : Type} (p : α → Bool) (l : List α) : l.drop (l.takeWhile p).length = l.dropWhile p := by
  have e := List.takeWhile_append_dropWhile (p := p) (l := l)
  generalize l.takeWhile p = a at *
  generalize l.dropWhile p = b at *
  subst e
  simp
theorem tw_len {α : Type} (p : α → Bool) (l : List α) : (l.takeWhile p).length ≤ l.length := by
  have e := List.takeWhile_append_dropWhile (p := p) (l := l)
  generalize l.takeWhile p = a at *
  generalize l.dropWhile p = b at *
  subst e
  simp
def befRR (r : Rec) (x : Rec) : Bool := befB x.d x.s r.d r.s
def insR (r : Rec) (l : List Rec) : List Rec := l.takeWhile (befRR r) ++ r :: l.dropWhile (befRR r)
theorem InsertR_spec (l : List Rec) (r : Rec) (hl : l.length ≤ 100000) : Ideal.Spec Tryz.prog 75 [.sl false 6 (recsOf l), recA r] (.sl false 6 (recsOf (insR r l))) none := by
  have n1 := tw_len (befRR r) l
  refine Ideal.Spec.of_TD (n := 46) (fn := Tryz.f75) rfl rfl rfl rfl rfl rfl rfl fun w ok => ?_
  refine T.post [.tmp 4] ?_
  refine T.sregD 46 [0, 1, 3, 4, 5, 6, 29] fun Kr hKr => ?_
  simp only [go_sem]
  (repeat (refine ⟨by (first | exact True.intro | omega | rfl | (simp; done) | (simp; omega)), ?_⟩)); try (refine hKr _ ?_; clear hKr Kr)
  refine T.sregD 46 [0, 1, 3, 4, 5, 6, 29] fun Kr hKr => ?_
  simp only [go_sem]
  (repeat (refine ⟨by (first | exact True.intro | omega | rfl | (simp; done) | (simp; omega)), ?_⟩)); try (refine hKr _ ?_; clear hKr Kr)
  refine T.seqK fun K1 hK1 => ?_
  refine T.bloop (fun i : Nat => ⟨dense 46 [(0, .sl false 6 (recsOf l)), (3, .op 3 0 0), (5, .int .i64 i)], [(3, ⟨6, 39, true, [recA r]⟩)]⟩) (fun i => i ≤ (l.takeWhile (befRR r)).length) (fun i => l.length - i) 0 (by simp) ?_ fun i hi => ?_
  · refine Le.fitS (by (repeat (first | exact DFit.nil | refine DFit.cons (by first | rfl | (simp [slook]; done) | (simp [slook]; omega)) ?_))) (by (repeat (first | exact True.intro | refine And.intro (by first | rfl | (simp [look]; done)) ?_)))
  refine T.seqK fun K2 hK2 => ?_
  by_cases hb : i < l.length
  · have s1 := beforeR_spec (l.getD i default).d (l.getD i default).s r.d r.s
    have e1 : ((i : Int) < (l.length : Int)) = True := eq_true (by omega)
    refine T.sdrawD 46 [0, 1, 3, 4, 5, 6, 29] (.take 0 (.take 1 (.take 2 (.take 3 (.take 4 (.take 5 (.take 6 (.take 7 (.take 8 (.take 9 (.take 10 (.take 11 (.take 12 (.take 13 (.take 14 (.take 15 (.take 16 (.take 17 (.take 18 (.take 19 (.take 20 (.one 21 (.take 22 .done))))))))))))))))))))))) [3] rfl (by decide +kernel) (by decide +kernel) fun Kr hKr => ?_
    simp only [go_sem, hb, e1]
    (repeat (refine ⟨by (first | exact True.intro | omega | rfl | (simp; done) | (simp; omega)), ?_⟩)); try (refine hKr _ ?_; clear hKr Kr)
    refine CallK.data (fun _ => Spec.args (s1) (by (first | exact ArgsLe.refl | (repeat (first | exact True.intro | refine And.intro (by first | exact AvLe.refl | exact AvLe.loose | exact AvLe.nil | exact AvLe.nilT | exact AvLe.slk | (refine AvLe.agg ?_; exact ArgsLe.refl) | (refine AvLe.agg ?_; (repeat (first | exact True.intro | refine And.intro (by first | exact AvLe.refl | exact AvLe.loose | exact AvLe.nil | exact AvLe.nilT | exact AvLe.slk) ?_)))) ?_))))) rfl ?_
    simp only [go_sem, hb, e1]
    (repeat (refine ⟨by (first | exact True.intro | omega | rfl | (simp; done) | (simp; omega)), ?_⟩)); try (refine hKr _ ?_; clear hKr Kr)
    by_cases hi2 : i < (l.takeWhile (befRR r)).length
    · have hq : befB (l.getD i default).d (l.getD i default).s r.d r.s = true := tw_lt (befRR r) l i hi2
      rw [hq]
      refine T.condFD rfl rfl (fun hc => ?_) (fun hc => ?_) <;> try simp at hc
      refine T.skip ?_
      refine hK2 _ ?_
      refine T.block ?_
      refine T.regD 46 [0, 1, 3, 4, 5, 6, 29] fun Kr hKr => ?_
      simp only [go_sem]
      (repeat (refine ⟨by (first | exact True.intro | omega | rfl | (simp; done) | (simp; omega)), ?_⟩)); try (refine hKr _ ?_; clear hKr Kr)
      refine ⟨i + 1, ?_, ?_, Le.fitS (by (repeat (first | exact DFit.nil | refine DFit.cons (by first | rfl | (simp [slook]; done) | (simp [slook]; omega)) ?_))) ?_⟩
      · omega
      · omega
      · (repeat (first | exact True.intro | refine And.intro (by first | rfl | (simp [look]; done)) ?_))
    have hie : i = (l.takeWhile (befRR r)).length := by omega
    have hq : befB (l.getD i default).d (l.getD i default).s r.d r.s = false := by
      have := tw_ge (befRR r) l (by omega)
      rw [← hie] at this; exact this
    rw [hq]
    refine T.condFD rfl rfl (fun hc => ?_) (fun hc => ?_) <;> try simp at hc
    refine T.exit ?_
    simp only [if_true]
    refine hK1 _ ?_
    have hI : insR r l = l.take i ++ r :: l.drop i := by rw [hie, tw_take, tw_drop]; rfl
    rw [hI]
    have hj1 : i ≤ l.length := by omega
    have ht1 : (l.take i).length = i := by simp; omega
    have h1 : recsOf (l.take i) ++ [recA r] = recsOf (l.take i ++ [r]) := by rw [recsOf_app]; rfl
    have h2 : recsOf (l.take i ++ [r]) ++ recsOf (l.drop i) = recsOf (l.take i ++ r :: l.drop i) := by rw [← recsOf_app]; simp
    have h3 : i + 1 + (l.length - i) = l.length + 1 := by omega
    have h4 : (l.take i ++ r :: l.drop i).length = l.length + 1 := by simp; omega
    have h5 : (l.take i ++ r :: l.drop i).take (l.length + 1) = l.take i ++ r :: l.drop i := List.take_of_length_le (by omega)
    have h6 : (l.drop i).length = l.length - i := List.length_drop
    rw [recA] at h1
    refine T.sregD 46 [0, 1, 3, 4, 5, 6, 29] fun Kr hKr => ?_
    simp only [go_sem, hj1, ht1]
    (repeat (refine ⟨by (first | exact True.intro | omega | rfl | (simp; done) | (simp; omega)), ?_⟩)); try (refine hKr _ ?_; clear hKr Kr)
    refine T.sregD 46 [0, 1, 3, 4, 5, 6, 29] fun Kr hKr => ?_
    simp only [go_sem, hj1, ht1, h1]
    (repeat (refine ⟨by (first | exact True.intro | omega | rfl | (simp; done) | (simp; omega)), ?_⟩)); try (refine hKr _ ?_; clear hKr Kr)
    refine T.sregD 46 [0, 1, 3, 4, 5, 6, 29] fun Kr hKr => ?_
    simp only [go_sem, hj1, ht1, h1, h2, h3, h4, h6]
    (repeat (refine ⟨by (first | exact True.intro | omega | rfl | (simp; done) | (simp; omega)), ?_⟩)); try (refine hKr _ ?_; clear hKr Kr)
    refine T.ret ?_
    simp only [go_sem, h2, h3, h4, h5, h6, Nat.le_refl]
    exact Fin.dataD rfl rfl rfl
  have hie : i = (l.takeWhile (befRR r)).length := by omega
  have e1 : ((i : Int) < (l.length : Int)) = False := eq_false (by omega)
  have hg : (recsOf l).getD i .junk = .junk := by rw [List.getD_eq_getElem?_getD, List.getElem?_eq_none (by rw [recsOf_len]; omega)]; rfl
  refine T.sdrawD 46 [0, 1, 3, 4, 5, 6, 29] (.take 0 (.take 1 (.take 2 (.take 3 (.take 4 (.take 5 (.take 6 (.take 7 (.take 8 (.take 9 (.take 10 (.take 11 (.take 12 (.take 13 (.take 14 (.take 15 (.take 16 (.take 17 (.take 18 (.take 19 (.take 20 (.one 21 (.take 22 .done))))))))))))))))))))))) [3] rfl (by decide +kernel) (by decide +kernel) fun Kr hKr => ?_
  simp only [go_sem, e1, hg, List.headD_nil]
  (repeat (refine ⟨by (first | exact True.intro | omega | rfl | (simp; done) | (simp; omega)), ?_⟩)); try (refine hKr _ ?_; clear hKr Kr)
  refine CallK.data (r := .bool true) (fun h => by cases h) rfl ?_
  simp only [go_sem]
  (repeat (refine ⟨by (first | exact True.intro | omega | rfl | (simp; done) | (simp; omega)), ?_⟩)); try (refine hKr _ ?_; clear hKr Kr)
  refine T.condFD rfl rfl (fun hc => ?_) (fun hc => ?_) <;> try simp at hc
  refine T.exit ?_
  simp only [if_true]
  refine hK1 _ ?_
  have hI : insR r l = l.take i ++ r :: l.drop i := by rw [hie, tw_take, tw_drop]; rfl
  rw [hI]
  have hj1 : i ≤ l.length := by omega
  have ht1 : (l.take i).length = i := by simp; omega
  have h1 : recsOf (l.take i) ++ [recA r] = recsOf (l.take i ++ [r]) := by rw [recsOf_app]; rfl
  have h2 : recsOf (l.take i ++ [r]) ++ recsOf (l.drop i) = recsOf (l.take i ++ r :: l.drop i) := by rw [← recsOf_app]; simp
  have h3 : i + 1 + (l.length - i) = l.length + 1 := by omega
  have h4 : (l.take i ++ r :: l.drop i).length = l.length + 1 := by simp; omega
  have h5 : (l.take i ++ r :: l.drop i).take (l.length + 1) = l.take i ++ r :: l.drop i := List.take_of_length_le (by omega)
  have h6 : (l.drop i).length = l.length - i := List.length_drop
  rw [recA] at h1
  refine T.sregD 46 [0, 1, 3, 4, 5, 6, 29] fun Kr hKr => ?_
  simp only [go_sem, hj1, ht1]
  (repeat (refine ⟨by (first | exact True.intro | omega | rfl | (simp; done) | (simp; omega)), ?_⟩)); try (refine hKr _ ?_; clear hKr Kr)
  refine T.sregD 46 [0, 1, 3, 4, 5, 6, 29] fun Kr hKr => ?_
  simp only [go_sem, hj1, ht1, h1]
  (repeat (refine ⟨by (first | exact True.intro | omega | rfl | (simp; done) | (simp; omega)), ?_⟩)); try (refine hKr _ ?_; clear hKr Kr)
  refine T.sregD 46 [0, 1, 3, 4, 5, 6, 29] fun Kr hKr => ?_
  simp only [go_sem, hj1, ht1, h1, h2, h3, h4, h6]
  (repeat (refine ⟨by (first | exact True.intro | omega | rfl | (simp; done) | (simp; omega)), ?_⟩)); try (refine hKr _ ?_; clear hKr Kr)
  refine T.ret ?_
  simp only [go_sem, h2, h3, h4, h5, h6, Nat.le_refl]
  exact Fin.dataD rfl rfl rfl
def befOO (r : Ord) (x : Ord) : Bool := befB x.d x.s r.d r.s
def insO (r : Ord) (l : List Ord) : List Ord := l.takeWhile (befOO r) ++ r :: l.dropWhile (befOO r)
theorem InsertO_spec (l : List Ord) (r : Ord) (hl : l.length ≤ 100000) : Ideal.Spec Tryz.prog 73 [.sl false 7 (ordsOf l), ordA r] (.sl false 7 (ordsOf (insO r l))) none := by
  have n1 := tw_len (befOO r) l
  refine Ideal.Spec.of_TD (n := 46) (fn := Tryz.f73) rfl rfl rfl rfl rfl rfl rfl fun w ok => ?_
  refine T.post [.tmp 4] ?_
  refine T.sregD 46 [0, 1, 3, 4, 5, 6, 29] fun Kr hKr => ?_
  simp only [go_sem]
  (repeat (refine ⟨by (first | exact True.intro | omega | rfl | (simp; done) | (simp; omega)), ?_⟩)); try (refine hKr _ ?_; clear hKr Kr)
  refine T.sregD 46 [0, 1, 3, 4, 5, 6, 29] fun Kr hKr => ?_
  simp only [go_sem]
  (repeat (refine ⟨by (first | exact True.intro | omega | rfl | (simp; done) | (simp; omega)), ?_⟩)); try (refine hKr _ ?_; clear hKr Kr)
  refine T.seqK fun K1 hK1 => ?_
  refine T.bloop (fun i : Nat => ⟨dense 46 [(0, .sl false 7 (ordsOf l)), (3, .op 3 0 0), (5, .int .i64 i)], [(3, ⟨7, 70, true, [ordA r]⟩)]⟩) (fun i => i ≤ (l.takeWhile (befOO r)).length) (fun i => l.length - i) 0 (by simp) ?_ fun i hi => ?_
  · refine Le.fitS (by (repeat (first | exact DFit.nil | refine DFit.cons (by first | rfl | (simp [slook]; done) | (simp [slook]; omega)) ?_))) (by (repeat (first | exact True.intro | refine And.intro (by first | rfl | (simp [look]; done)) ?_)))
  refine T.seqK fun K2 hK2 => ?_
  by_cases hb : i < l.length
  · have s1 := beforeR_spec (l.getD i default).d (l.getD i default).s r.d r.s
    have e1 : ((i : Int) < (l.length : Int)) = True := eq_true (by omega)
    refine T.sdrawD 46 [0, 1, 3, 4, 5, 6, 29] (.take 0 (.take 1 (.take 2 (.take 3 (.take 4 (.take 5 (.take 6 (.take 7 (.take 8 (.take 9 (.take 10 (.take 11 (.take 12 (.take 13 (.take 14 (.take 15 (.take 16 (.take 17 (.take 18 (.take 19 (.take 20 (.one 21 (.take 22 .done))))))))))))))))))))))) [3] rfl (by decide +kernel) (by decide +kernel) fun Kr hKr => ?_
    simp only [go_sem, hb, e1]
    (repeat (refine ⟨by (first | exact True.intro | omega | rfl | (simp; done) | (simp; omega)), ?_⟩)); try (refine hKr _ ?_; clear hKr Kr)
    refine CallK.data (fun _ => Spec.args (s1) (by (first | exact ArgsLe.refl | (repeat (first | exact True.intro | refine And.intro (by first | exact AvLe.refl | exact AvLe.loose | exact AvLe.nil | exact AvLe.nilT | exact AvLe.slk | (refine AvLe.agg ?_; exact ArgsLe.refl) | (refine AvLe.agg ?_; (repeat (first | exact True.intro | refine And.intro (by first | exact AvLe.refl | exact AvLe.loose | exact AvLe.nil | exact AvLe.nilT | exact AvLe.slk) ?_)))) ?_))))) rfl ?_
    simp only [go_sem, hb, e1]
    (repeat (refine ⟨by (first | exact True.intro | omega | rfl | (simp; done) | (simp; omega)), ?_⟩)); try (refine hKr _ ?_; clear hKr Kr)
    by_cases hi2 : i < (l.takeWhile (befOO r)).length
    · have hq : befB (l.getD i default).d (l.getD i default).s r.d r.s = true := tw_lt (befOO r) l i hi2
      rw [hq]
      refine T.condFD rfl rfl (fun hc => ?_) (fun hc => ?_) <;> try simp at hc
      refine T.skip ?_
      refine hK2 _ ?_
      refine T.block ?_
      refine T.regD 46 [0, 1, 3, 4, 5, 6, 29] fun Kr hKr => ?_
      simp only [go_sem]
      (repeat (refine ⟨by (first | exact True.intro | omega | rfl | (simp; done) | (simp; omega)), ?_⟩)); try (refine hKr _ ?_; clear hKr Kr)
      refine ⟨i + 1, ?_, ?_, Le.fitS (by (repeat (first | exact DFit.nil | refine DFit.cons (by first | rfl | (simp [slook]; done) | (simp [slook]; omega)) ?_))) ?_⟩
      · omega
      · omega
      · (repeat (first | exact True.intro | refine And.intro (by first | rfl | (simp [look]; done)) ?_))
    have hie : i = (l.takeWhile (befOO r)).length := by omega
    have hq : befB (l.getD i default).d (l.getD i default).s r.d r.s = false := by
      have := tw_ge (befOO r) l (by omega)
      rw [← hie] at this; exact this
    rw [hq]
    refine T.condFD rfl rfl (fun hc => ?_) (fun hc => ?_) <;> try simp at hc
    refine T.exit ?_
    simp only [if_true]
    refine hK1 _ ?_
    have hI : insO r l = l.take i ++ r :: l.drop i := by rw [hie, tw_take, tw_drop]; rfl
    rw [hI]
    have hj1 : i ≤ l.length := by omega
    have ht1 : (l.take i).length = i := by simp; omega
    have h1 : ordsOf (l.take i) ++ [ordA r] = ordsOf (l.take i ++ [r]) := by rw [ordsOf_app]; rfl
    have h2 : ordsOf (l.take i ++ [r]) ++ ordsOf (l.drop i) = ordsOf (l.take i ++ r :: l.drop i) := by rw [← ordsOf_app]; simp
    have h3 : i + 1 + (l.length - i) = l.length + 1 := by omega
    have h4 : (l.take i ++ r :: l.drop i).length = l.length + 1 := by simp; omega
    have h5 : (l.take i ++ r :: l.drop i).take (l.length + 1) = l.take i ++ r :: l.drop i := List.take_of_length_le (by omega)
    have h6 : (l.drop i).length = l.length - i := List.length_drop
    rw [ordA] at h1
    refine T.sregD 46 [0, 1, 3, 4, 5, 6, 29] fun Kr hKr => ?_
    simp only [go_sem, hj1, ht1]
    (repeat (refine ⟨by (first | exact True.intro | omega | rfl | (simp; done) | (simp; omega)), ?_⟩)); try (refine hKr _ ?_; clear hKr Kr)
    refine T.sregD 46 [0, 1, 3, 4, 5, 6, 29] fun Kr hKr => ?_
    simp only [go_sem, hj1, ht1, h1]
    (repeat (refine ⟨by (first | exact True.intro | omega | rfl | (simp; done) | (simp; omega)), ?_⟩)); try (refine hKr _ ?_; clear hKr Kr)
    refine T.sregD 46 [0, 1, 3, 4, 5, 6, 29] fun Kr hKr => ?_
    simp only [go_sem, hj1, ht1, h1, h2, h3, h4, h6]
    (repeat (refine ⟨by (first | exact True.intro | omega | rfl | (simp; done) | (simp; omega)), ?_⟩)); try (refine hKr _ ?_; clear hKr Kr)
    refine T.ret ?_
    simp only [go_sem, h2, h3, h4, h5, h6, Nat.le_refl]
    exact Fin.dataD rfl rfl rfl
  have hie : i = (l.takeWhile (befOO r)).length := by omega
  have e1 : ((i : Int) < (l.length : Int)) = False := eq_false (by omega)
  have hg : (ordsOf l).getD i .junk = .junk := by rw [List.getD_eq_getElem?_getD, List.getElem?_eq_none (by rw [ordsOf_len]; omega)]; rfl
  refine T.sdrawD 46 [0, 1, 3, 4, 5, 6, 29] (.take 0 (.take 1 (.take 2 (.take 3 (.take 4 (.take 5 (.take 6 (.take 7 (.take 8 (.take 9 (.take 10 (.take 11 (.take 12 (.take 13 (.take 14 (.take 15 (.take 16 (.take 17 (.take 18 (.take 19 (.take 20 (.one 21 (.take 22 .done))))))))))))))))))))))) [3] rfl (by decide +kernel) (by decide +kernel) fun Kr hKr => ?_
  simp only [go_sem, e1, hg, List.headD_nil]
  (repeat (refine ⟨by (first | exact True.intro | omega | rfl | (simp; done) | (simp; omega)), ?_⟩)); try (refine hKr _ ?_; clear hKr Kr)
  refine CallK.data (r := .bool true) (fun h => by cases h) rfl ?_
  simp only [go_sem]
  (repeat (refine ⟨by (first | exact True.intro | omega | rfl | (simp; done) | (simp; omega)), ?_⟩)); try (refine hKr _ ?_; clear hKr Kr)
  refine T.condFD rfl rfl (fun hc => ?_) (fun hc => ?_) <;> try simp at hc
  refine T.exit ?_
  simp only [if_true]
  refine hK1 _ ?_
  have hI : insO r l = l.take i ++ r :: l.drop i := by rw [hie, tw_take, tw_drop]; rfl
  rw [hI]
  have hj1 : i ≤ l.length := by omega
  have ht1 : (l.take i).length = i := by simp; omega
  have h1 : ordsOf (l.take i) ++ [ordA r] = ordsOf (l.take i ++ [r]) := by rw [ordsOf_app]; rfl
  have h2 : ordsOf (l.take i ++ [r]) ++ ordsOf (l.drop i) = ordsOf (l.take i ++ r :: l.drop i) := by rw [← ordsOf_app]; simp
  have h3 : i + 1 + (l.length - i) = l.length + 1 := by omega
  have h4 : (l.take i ++ r :: l.drop i).length = l.length + 1 := by simp; omega
  have h5 : (l.take i ++ r :: l.drop i).take (l.length + 1) = l.take i ++ r :: l.drop i := List.take_of_length_le (by omega)
  have h6 : (l.drop i).length = l.length - i := List.length_drop
  rw [ordA] at h1
  refine T.sregD 46 [0, 1, 3, 4, 5, 6, 29] fun Kr hKr => ?_
  simp only [go_sem, hj1, ht1]
  (repeat (refine ⟨by (first | exact True.intro | omega | rfl | (simp; done) | (simp; omega)), ?_⟩)); try (refine hKr _ ?_; clear hKr Kr)
  refine T.sregD 46 [0, 1, 3, 4, 5, 6, 29] fun Kr hKr => ?_
  simp only [go_sem, hj1, ht1, h1]
  (repeat (refine ⟨by (first | exact True.intro | omega | rfl | (simp; done) | (simp; omega)), ?_⟩)); try (refine hKr _ ?_; clear hKr Kr)
  refine T.sregD 46 [0, 1, 3, 4, 5, 6, 29] fun Kr hKr => ?_
  simp only [go_sem, hj1, ht1, h1, h2, h3, h4, h6]
  (repeat (refine ⟨by (first | exact True.intro | omega | rfl | (simp; done) | (simp; omega)), ?_⟩)); try (refine hKr _ ?_; clear hKr Kr)
  refine T.ret ?_
  simp only [go_sem, h2, h3, h4, h5, h6, Nat.le_refl]
  exact Fin.dataD rfl rfl rfl
end Go.Proofs
