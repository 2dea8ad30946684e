/- Devices: the reference's Since. -/
import Derived.Test.YtjlhiahgmmlcdaaGJ
set_option linter.unusedVariables false
set_option linter.unusedSimpArgs false
namespace Go.Proofs
open Go Go.Ideal
set_option maxRecDepth 8000
set_option maxHeartbeats 4000000

theorem filter_step {α : Type} [Inhabited α] (p : α → Bool) {l : List α} {i : Nat} (h : i < l.length) : (l.take (i + 1)).filter p = (l.take i).filter p ++ (if p (l.getD i default) = true then [l.getD i default] else []) := by
  rw [take_succ_d h, List.filter_append]; congr 1
  by_cases hq : p (l.getD i default) = true
  · rw [if_pos hq, List.filter_cons_of_pos hq]; rfl
  · rw [if_neg hq, List.filter_cons_of_neg hq]; rfl
theorem Since26_spec (u : Usr) (h : ValU u) (c : List Int) (hc : c.length = 8) : Ideal.Spec Try.prog 17 [usrA u, .agg (intsOf c)] (usrA (sinceF u c)) none := by
  rw [← sinceRF_eq h]
  have ul := h.l
  have l1 := h.rl
  have l2 := h.ol
  have hT : u.l.take 8 = u.l := List.take_of_length_le (by omega)
  have hfr : ∀ i, i ≤ u.r.length → ((u.r.take i).filter fun r => decide (r.s > lst c r.d)).length ≤ i := fun i hi => Nat.le_trans (List.length_filter_le _ _) (by simp; omega)
  have hfo : ∀ i, i ≤ u.o.length → ((u.o.take i).filter fun r => decide (r.s > lst c r.d)).length ≤ i := fun i hi => Nat.le_trans (List.length_filter_le _ _) (by simp; omega)
  have er : ∀ i, i < u.r.length → (u.r.take (i + 1)).filter (fun r => decide (r.s > lst c r.d)) = _ := fun i hi => filter_step (fun r : Rec => decide (r.s > lst c r.d)) hi
  have eo : ∀ i, i < u.o.length → (u.o.take (i + 1)).filter (fun r => decide (r.s > lst c r.d)) = _ := fun i hi => filter_step (fun r : Ord => decide (r.s > lst c r.d)) hi
  have ef : sinceRF u c = ⟨u.r.filter fun r => decide (r.s > lst c r.d), u.o.filter fun o => decide (o.s > lst c o.d), u.l⟩ := rfl
  refine Ideal.Spec.of_CD (n := 76) (fn := Try.f17) rfl rfl rfl rfl rfl rfl rfl fun w ok => ?_
  refine T.post [.tmp 4] ?_
  refine T.sregD 76 [0, 1, 2, 3, 4, 5, 6, 7, 15, 32, 47, 64] fun Kr hKr => ?_
  simp only [go_sem, ul, hc]
  (repeat (refine ⟨by (first | exact True.intro | omega | rfl | (simp; done) | (simp; omega)), ?_⟩)); try (refine hKr _ ?_; clear hKr Kr)
  refine T.sregD 76 [0, 1, 2, 3, 4, 5, 6, 7, 15, 32, 47, 64] fun Kr hKr => ?_
  simp only [go_sem, ul, hT]
  (repeat (refine ⟨by (first | exact True.intro | omega | rfl | (simp; done) | (simp; omega)), ?_⟩)); try (refine hKr _ ?_; clear hKr Kr)
  refine T.seqK fun K1 hK1 => ?_
  refine T.sregD 76 [0, 1, 2, 3, 4, 5, 6, 7, 15, 32, 47, 64] fun Kr hKr => ?_
  simp only [go_sem]
  (repeat (refine ⟨by (first | exact True.intro | omega | rfl | (simp; done) | (simp; omega)), ?_⟩)); try (refine hKr _ ?_; clear hKr Kr)
  refine T.bloop (fun i : Nat => ⟨dense 76 [(2, .op 2 0 0), (3, .op 3 0 0), (4, .op 4 0 0), (5, .op 5 0 0), (6, .int .i64 i)], [(77, ⟨6, 49, false, recsOf ((u.r.take i).filter fun r => decide (r.s > lst c r.d))⟩), (5, ⟨10, 29, true, [.agg (.osl 77 0 ((u.r.take i).filter fun r => decide (r.s > lst c r.d)).length :: .sl true 1 [] :: intsOf u.l)]⟩), (4, ⟨10, 29, true, [.agg [.sl true 1 [], .sl true 1 [], .int .i64 0, .int .i64 0, .int .i64 0, .int .i64 0, .int .i64 0, .int .i64 0, .int .i64 0, .int .i64 0]]⟩), (3, ⟨8, 27, true, [.agg (intsOf c)]⟩), (2, ⟨10, 29, true, [usrA u]⟩)]⟩) (fun i => i ≤ u.r.length) (fun i => u.r.length - i) 0 (by simp) ?_ fun i hi => ?_
  · refine (Le.ownC 5 0 77 6 49).trans ?_
    simp only [go_sem]
    refine Le.fitS (by (repeat (first | exact DFit.nil | refine DFit.cons (by first | rfl | (simp [slook]; done) | (simp [slook]; omega)) ?_))) (by (repeat (first | exact True.intro | refine And.intro (by first | rfl | (simp [look]; done)) ?_)))
  refine T.seqK fun K2 hK2 => ?_
  refine T.sregD 76 [0, 1, 2, 3, 4, 5, 6, 7, 15, 32, 47, 64] fun Kr hKr => ?_
  simp only [go_sem]
  (repeat (refine ⟨by (first | exact True.intro | omega | rfl | (simp; done) | (simp; omega)), ?_⟩)); try (refine hKr _ ?_; clear hKr Kr)
  refine T.condFD rfl rfl (fun hb => ?_) (fun hb => ?_) <;> simp at hb
  · -- no: exit
    refine T.exit ?_
    simp only [if_true]
    refine hK1 _ ?_
    have hie : i = u.r.length := by omega
    subst hie
    rw [List.take_length]
    have e0 := hfr _ (Nat.le_refl u.r.length)
    rw [List.take_length] at e0
    generalize (u.r.filter fun r => decide (r.s > lst c r.d)) = R at *
    refine T.seqK fun K2 hK2 => ?_
    refine T.sregD 76 [0, 1, 2, 3, 4, 5, 6, 7, 15, 32, 47, 64] fun Kr hKr => ?_
    simp only [go_sem]
    (repeat (refine ⟨by (first | exact True.intro | omega | rfl | (simp; done) | (simp; omega)), ?_⟩)); try (refine hKr _ ?_; clear hKr Kr)
    refine T.bloop (fun i : Nat => ⟨dense 76 [(2, .op 2 0 0), (3, .op 3 0 0), (4, .op 4 0 0), (5, .op 5 0 0), (7, .int .i64 i)], [(78, ⟨7, 52, false, ordsOf ((u.o.take i).filter fun r => decide (r.s > lst c r.d))⟩), (77, ⟨6, 49, false, recsOf R⟩), (5, ⟨10, 29, true, [.agg (.osl 77 0 R.length :: .osl 78 0 ((u.o.take i).filter fun r => decide (r.s > lst c r.d)).length :: intsOf u.l)]⟩), (4, ⟨10, 29, true, [.agg [.sl true 1 [], .sl true 1 [], .int .i64 0, .int .i64 0, .int .i64 0, .int .i64 0, .int .i64 0, .int .i64 0, .int .i64 0, .int .i64 0]]⟩), (3, ⟨8, 27, true, [.agg (intsOf c)]⟩), (2, ⟨10, 29, true, [usrA u]⟩)]⟩) (fun i => i ≤ u.o.length) (fun i => u.o.length - i) 0 (by simp) ?_ fun i hi => ?_
    · refine (Le.ownC 5 1 78 7 52).trans ?_
      simp only [go_sem]
      refine Le.fitS (by (repeat (first | exact DFit.nil | refine DFit.cons (by first | rfl | (simp [slook]; done) | (simp [slook]; omega)) ?_))) (by (repeat (first | exact True.intro | refine And.intro (by first | rfl | (simp [look]; done)) ?_)))
    refine T.seqK fun K3 hK3 => ?_
    refine T.sregD 76 [0, 1, 2, 3, 4, 5, 6, 7, 15, 32, 47, 64] fun Kr hKr => ?_
    simp only [go_sem]
    (repeat (refine ⟨by (first | exact True.intro | omega | rfl | (simp; done) | (simp; omega)), ?_⟩)); try (refine hKr _ ?_; clear hKr Kr)
    refine T.condFD rfl rfl (fun hb => ?_) (fun hb => ?_) <;> simp at hb
    · -- no: exit
      refine T.exit ?_
      simp only [if_true]
      refine hK2 _ ?_
      have hie : i = u.o.length := by omega
      subst hie
      rw [List.take_length]
      have e0 := hfo _ (Nat.le_refl u.o.length)
      rw [List.take_length] at e0
      generalize (u.o.filter fun r => decide (r.s > lst c r.d)) = O at *
      rw [ef]
      have tR : R.take R.length = R := List.take_length
      have tO : O.take O.length = O := List.take_length
      refine T.sregD 76 [0, 1, 2, 3, 4, 5, 6, 7, 15, 32, 47, 64] fun Kr hKr => ?_
      simp only [go_sem, ul, hT]
      (repeat (refine ⟨by (first | exact True.intro | omega | rfl | (simp; done) | (simp; omega)), ?_⟩)); try (refine hKr _ ?_; clear hKr Kr)
      refine T.ret ?_
      simp only [go_sem, ul, hT]
      exact ⟨ResCellD rfl rfl rfl rfl (by simp only [go_sem, ul]) (by simp only [go_sem, hT]; try rfl) rfl, trivial⟩
    refine T.skip ?_
    refine hK3 _ ?_
    refine T.seqK fun K4 hK4 => ?_
    refine T.block ?_
    have hx := h.oo (u.o.getD i default) (by simp [List.getD, hb])
    have hd := hx.1.d
    obtain ⟨m, hm⟩ : ∃ m : Nat, (u.o.getD i default).d = m := ⟨(u.o.getD i default).d.toNat, by omega⟩
    have hm8 : m < 8 := by omega
    have hgc : (intsOf c).getD m .junk = .int .i64 (c.getD m default) := intsOf_get (by omega)
    have hlst : lst c (u.o.getD i default).d = c.getD m default := by rw [hm]; rfl
    have e1 := eo i hb
    simp only [hlst] at e1
    have e2 := hfo i (by omega)
    generalize ((u.o.take i).filter fun r => decide (r.s > lst c r.d)) = F at *
    refine T.sdrawD 76 [0, 1, 2, 3, 4, 5, 6, 7, 15, 32, 47, 64] (.take 0 (.take 1 (.take 2 (.take 3 (.take 4 (.take 5 (.take 6 (.take 7 (.take 8 (.take 9 (.take 10 (.take 11 (.take 12 (.take 13 (.take 14 .done))))))))))))))) [2, 3] rfl (by decide +kernel) (by decide +kernel) fun Kr hKr => ?_
    simp only [go_sem, hb, hm, hm8, hc, hgc]
    (repeat (refine ⟨by (first | exact True.intro | omega | rfl | (simp; done) | (simp; omega)), ?_⟩)); try (refine hKr _ ?_; clear hKr Kr)
    cases hq : decide ((u.o.getD i default).s > c.getD m default) with
    | true =>
      rw [hq, if_pos rfl] at e1
      refine T.condTD rfl rfl (fun hc => ?_) (fun hc => ?_) <;> try simp at hc
      refine T.draw2D 76 [0, 1, 2, 3, 4, 5, 6, 7, 15, 32, 47, 64] (.take 0 (.take 2 (.take 3 (.take 4 (.take 5 (.take 6 (.two 1 (.one 7 (.one 8 (.take 9 (.one 10 .done)))) 7 (.one 1 (.one 8 (.take 9 (.one 10 .done))))))))))) [2] rfl (by decide +kernel) (by decide +kernel) ?x1 ?h1 (fun Kr hKr => ?all1) ?rest1
      case all1 =>
        simp only [go_sem, hb]
        (repeat (any_goals (first | exact hKr _ (.inl rfl) | exact hKr _ (.inr (by (repeat (first | exact True.intro | refine And.intro (by first | rfl | (simp [look]; done)) ?_)))) | (refine And.intro ?_ ?_) | (first | exact True.intro | omega | rfl | (simp; done) | (simp; omega)))))
        all_goals (first | exact hKr _ (.inl rfl) | exact hKr _ (.inr (by (repeat (first | exact True.intro | refine And.intro (by first | rfl | (simp [look]; done)) ?_)))))
      case rest1 =>
      refine hK4 _ ?_
      have happ : ordsOf F ++ [ordA (u.o.getD i default)] = ordsOf (F ++ [u.o.getD i default]) := by rw [ordsOf_app]; rfl
      rw [ordA] at happ
      rw [happ]
      have hln : (F ++ [u.o.getD i default]).length = F.length + 1 := by simp
      refine T.regD 76 [0, 1, 2, 3, 4, 5, 6, 7, 15, 32, 47, 64] fun Kr hKr => ?_
      simp only [go_sem]
      (repeat (refine ⟨by (first | exact True.intro | omega | rfl | (simp; done) | (simp; omega)), ?_⟩)); try (refine hKr _ ?_; clear hKr Kr)
      refine ⟨i + 1, ?_, ?_, Le.fitS (by (repeat (first | exact DFit.nil | refine DFit.cons (by first | rfl | (simp [slook, e1, hln]; done) | (simp [slook, e1, hln]; omega)) ?_))) ?_⟩
      · omega
      · omega
      · rw [e1, hln]; (repeat (first | exact True.intro | refine And.intro (by first | rfl | (simp [look]; done)) ?_))
    | false =>
      rw [hq, if_neg (by decide), List.append_nil] at e1
      refine T.condTD rfl rfl (fun hc => ?_) (fun hc => ?_) <;> try simp at hc
      refine T.skip ?_
      refine hK4 _ ?_
      refine T.regD 76 [0, 1, 2, 3, 4, 5, 6, 7, 15, 32, 47, 64] fun Kr hKr => ?_
      simp only [go_sem]
      (repeat (refine ⟨by (first | exact True.intro | omega | rfl | (simp; done) | (simp; omega)), ?_⟩)); try (refine hKr _ ?_; clear hKr Kr)
      refine ⟨i + 1, ?_, ?_, Le.fitS (by (repeat (first | exact DFit.nil | refine DFit.cons (by first | rfl | (simp [slook, e1]; done) | (simp [slook, e1]; omega)) ?_))) ?_⟩
      · omega
      · omega
      · rw [e1]; (repeat (first | exact True.intro | refine And.intro (by first | rfl | (simp [look]; done)) ?_))
  refine T.skip ?_
  refine hK2 _ ?_
  refine T.seqK fun K3 hK3 => ?_
  refine T.block ?_
  have hx := h.rr (u.r.getD i default) (by simp [List.getD, hb])
  have hd := hx.1.d
  obtain ⟨m, hm⟩ : ∃ m : Nat, (u.r.getD i default).d = m := ⟨(u.r.getD i default).d.toNat, by omega⟩
  have hm8 : m < 8 := by omega
  have hgc : (intsOf c).getD m .junk = .int .i64 (c.getD m default) := intsOf_get (by omega)
  have hlst : lst c (u.r.getD i default).d = c.getD m default := by rw [hm]; rfl
  have e1 := er i hb
  simp only [hlst] at e1
  have e2 := hfr i (by omega)
  generalize ((u.r.take i).filter fun r => decide (r.s > lst c r.d)) = F at *
  refine T.sdrawD 76 [0, 1, 2, 3, 4, 5, 6, 7, 15, 32, 47, 64] (.take 0 (.take 1 (.take 2 (.take 3 (.take 4 (.take 5 (.take 6 (.take 7 (.take 8 (.take 9 (.take 10 (.take 11 (.take 12 (.take 13 (.take 14 .done))))))))))))))) [2, 3] rfl (by decide +kernel) (by decide +kernel) fun Kr hKr => ?_
  simp only [go_sem, hb, hm, hm8, hc, hgc]
  (repeat (refine ⟨by (first | exact True.intro | omega | rfl | (simp; done) | (simp; omega)), ?_⟩)); try (refine hKr _ ?_; clear hKr Kr)
  cases hq : decide ((u.r.getD i default).s > c.getD m default) with
  | true =>
    rw [hq, if_pos rfl] at e1
    refine T.condTD rfl rfl (fun hc => ?_) (fun hc => ?_) <;> try simp at hc
    refine T.draw2D 76 [0, 1, 2, 3, 4, 5, 6, 7, 15, 32, 47, 64] (.take 0 (.take 2 (.take 3 (.take 4 (.take 5 (.take 6 (.two 1 (.one 7 (.one 8 (.take 9 (.one 10 .done)))) 7 (.one 1 (.one 8 (.take 9 (.one 10 .done))))))))))) [2] rfl (by decide +kernel) (by decide +kernel) ?x2 ?h2 (fun Kr hKr => ?all2) ?rest2
    case all2 =>
      simp only [go_sem, hb]
      (repeat (any_goals (first | exact hKr _ (.inl rfl) | exact hKr _ (.inr (by (repeat (first | exact True.intro | refine And.intro (by first | rfl | (simp [look]; done)) ?_)))) | (refine And.intro ?_ ?_) | (first | exact True.intro | omega | rfl | (simp; done) | (simp; omega)))))
      all_goals (first | exact hKr _ (.inl rfl) | exact hKr _ (.inr (by (repeat (first | exact True.intro | refine And.intro (by first | rfl | (simp [look]; done)) ?_)))))
    case rest2 =>
    refine hK3 _ ?_
    have happ : recsOf F ++ [recA (u.r.getD i default)] = recsOf (F ++ [u.r.getD i default]) := by rw [recsOf_app]; rfl
    rw [recA] at happ
    rw [happ]
    have hln : (F ++ [u.r.getD i default]).length = F.length + 1 := by simp
    refine T.regD 76 [0, 1, 2, 3, 4, 5, 6, 7, 15, 32, 47, 64] fun Kr hKr => ?_
    simp only [go_sem]
    (repeat (refine ⟨by (first | exact True.intro | omega | rfl | (simp; done) | (simp; omega)), ?_⟩)); try (refine hKr _ ?_; clear hKr Kr)
    refine ⟨i + 1, ?_, ?_, Le.fitS (by (repeat (first | exact DFit.nil | refine DFit.cons (by first | rfl | (simp [slook, e1, hln]; done) | (simp [slook, e1, hln]; omega)) ?_))) ?_⟩
    · omega
    · omega
    · rw [e1, hln]; (repeat (first | exact True.intro | refine And.intro (by first | rfl | (simp [look]; done)) ?_))
  | false =>
    rw [hq, if_neg (by decide), List.append_nil] at e1
    refine T.condTD rfl rfl (fun hc => ?_) (fun hc => ?_) <;> try simp at hc
    refine T.skip ?_
    refine hK3 _ ?_
    refine T.regD 76 [0, 1, 2, 3, 4, 5, 6, 7, 15, 32, 47, 64] fun Kr hKr => ?_
    simp only [go_sem]
    (repeat (refine ⟨by (first | exact True.intro | omega | rfl | (simp; done) | (simp; omega)), ?_⟩)); try (refine hKr _ ?_; clear hKr Kr)
    refine ⟨i + 1, ?_, ?_, Le.fitS (by (repeat (first | exact DFit.nil | refine DFit.cons (by first | rfl | (simp [slook, e1]; done) | (simp [slook, e1]; omega)) ?_))) ?_⟩
    · omega
    · omega
    · rw [e1]; (repeat (first | exact True.intro | refine And.intro (by first | rfl | (simp [look]; done)) ?_))
end Go.Proofs
