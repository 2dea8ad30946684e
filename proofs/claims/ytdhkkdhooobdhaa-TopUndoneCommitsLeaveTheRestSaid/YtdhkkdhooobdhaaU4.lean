/- Undo: contracts of replaying and of undoing. -/
import Derived.Test.YtdhkkdhooobdhaaU3
import Derived.Test.YtdhkkdhooobdhaaD8
set_option linter.unusedVariables false
set_option linter.unusedSimpArgs false
namespace Go.Proofs
open Go Go.Ideal
set_option maxRecDepth 8000
set_option maxHeartbeats 4000000

theorem actF_ok {d : Doc} {s : Stp} (hd : OkD d) (h0 : (actF d s).2 = 0) : OkD (actF d s).1 := by
  unfold actF at h0 ⊢
  split
  · rename_i h; rw [if_pos h] at h0; exact (putF_ok hd h0).1
  · rename_i h; rw [if_neg h] at h0; exact (doF_ok hd h0).1
def repF (app : Int) : List Stp → Doc → Doc × Int
  | [], d => (d, 0)
  | s :: l, d => if s.app ≠ app ∨ s.und = true then repF app l d else if (actF d s).2 ≠ 0 then (noDoc, (actF d s).2) else repF app l (actF d s).1
theorem repF_no (app : Int) : ∀ (l : List Stp) (d : Doc), (repF app l d).2 ≠ 0 → (repF app l d).1 = noDoc
  | [], d => fun h => absurd rfl h
  | s :: l, d => by
    unfold repF
    split
    · exact repF_no app l d
    · split
      · intro _; rfl
      · exact repF_no app l _
theorem replay_spec (l : List Stp) (app : Int) (hl : l.length ≤ 100000) (hs : ∀ s ∈ l, s.e.s.length ≤ 100000) :
    Ideal.Spec Try.prog 32 [.sl false 8 (stsOf l), .int .i64 app] (.tup [docA (repF app l noDoc).1, .int .i64 (repF app l noDoc).2]) none := by
  have hno := repF_no app l noDoc
  refine Spec.weakT (rs := [docX false (repF app l noDoc), .int .i64 (repF app l noDoc).2]) ?_ (docX_fin _ _) rfl (docX_le _ _ hno)
  refine Ideal.Spec.of_MD (n := 39) (fn := Try.f32) rfl rfl rfl rfl (docX_fin _ _) rfl rfl fun w ok => ?_
  refine T.post [.tmp 4] ?_
  refine T.sregD 39 [0, 1, 4, 5, 6, 8, 9, 10, 11, 12, 13, 14, 24, 33] fun Kr hKr => ?_
  simp only [go_sem]
  (repeat (refine ⟨by (first | exact True.intro | omega | rfl | (simp; done) | (simp; omega)), ?_⟩)); try (refine hKr _ ?_; clear hKr Kr)
  refine T.sregD 39 [0, 1, 4, 5, 6, 8, 9, 10, 11, 12, 13, 14, 24, 33] fun Kr hKr => ?_
  simp only [go_sem]
  (repeat (refine ⟨by (first | exact True.intro | omega | rfl | (simp; done) | (simp; omega)), ?_⟩)); try (refine hKr _ ?_; clear hKr Kr)
  refine T.seqK fun K86 hK86 => ?_
  refine T.sregD 39 [0, 1, 4, 5, 6, 8, 9, 10, 11, 12, 13, 14, 24, 33] fun Kr hKr => ?_
  simp only [go_sem]
  (repeat (refine ⟨by (first | exact True.intro | omega | rfl | (simp; done) | (simp; omega)), ?_⟩)); try (refine hKr _ ?_; clear hKr Kr)
  refine T.bloop (fun p : Nat × Doc => ⟨dense 39 [(1, .int .i64 app), (4, .op 4 0 0), (6, .op 6 0 0), (11, .sl false 8 (stsOf l)), (12, .int .i64 l.length), (13, .int .i64 p.1)], [(6, ⟨2, 26, true, [docA p.2]⟩), (4, ⟨2, 26, true, [.agg [.str [], .sl true 1 []]]⟩)]⟩)
    (fun p => p.1 ≤ l.length ∧ repF app (l.drop p.1) p.2 = repF app l noDoc ∧ OkD p.2) (fun p => l.length - p.1) (0, noDoc) ⟨by simp, by simp, noDoc_ok⟩ ?_ fun p hp => ?_
  · refine (Le.boxW 6 2 26 [.str [], .sl true 1 []] [.str [], .sl false 4 []] rfl rfl rfl ⟨AvLe.refl, AvLe.nil, trivial⟩).trans ?_
    simp only [go_sem]
    refine Le.fitS (by (repeat (first | exact DFit.nil | refine DFit.cons (by first | rfl | (simp [slook]; done) | (simp [slook]; omega)) ?_))) (by (repeat (first | exact True.intro | refine And.intro (by first | rfl | (simp [look]; done)) ?_)))
  obtain ⟨i, d⟩ := p
  obtain ⟨hi, hr, hd⟩ := hp
  simp only at hi hr hd ⊢
  refine T.sregD 39 [0, 1, 4, 5, 6, 8, 9, 10, 11, 12, 13, 14, 24, 33] fun Kr hKr => ?_
  simp only [go_sem]
  (repeat (refine ⟨by (first | exact True.intro | omega | rfl | (simp; done) | (simp; omega)), ?_⟩)); try (refine hKr _ ?_; clear hKr Kr)
  refine T.seqK fun K87 hK87 => ?_
  refine T.condFD rfl rfl (fun hb => ?_) (fun hb => ?_) <;> simp at hb
  · -- no: exit
    refine T.exit ?_
    simp only [if_true]
    refine hK86 _ ?_
    have : i = l.length := by omega
    subst this
    rw [List.drop_length] at hr
    rw [← hr]
    have e2 : docX false (repF app [] d) = .agg [.str d.s, .sl false 4 (mksOf d.m)] := rfl
    refine T.sregD 39 [0, 1, 4, 5, 6, 8, 9, 10, 11, 12, 13, 14, 24, 33] fun Kr hKr => ?_
    simp only [go_sem]
    (repeat (refine ⟨by (first | exact True.intro | omega | rfl | (simp; done) | (simp; omega)), ?_⟩)); try (refine hKr _ ?_; clear hKr Kr)
    refine T.ret ?_
    simp only [go_sem]
    exact ⟨ResCellD rfl rfl rfl rfl (by simp only [go_sem]) (by rw [e2]; simp only [go_sem]) rfl, ResAtD rfl rfl rfl, trivial⟩
  rw [drop_d hb] at hr
  have hmem : l.getD i default ∈ l := by simp [List.getD, hb]
  have hsl := hs _ hmem
  refine T.skip ?_
  refine hK87 _ ?_
  refine T.seqK fun K88 hK88 => ?_
  refine T.block ?_
  refine T.sregD 39 [0, 1, 4, 5, 6, 8, 9, 10, 11, 12, 13, 14, 24, 33] fun Kr hKr => ?_
  simp only [go_sem, hb]
  (repeat (refine ⟨by (first | exact True.intro | omega | rfl | (simp; done) | (simp; omega)), ?_⟩)); try (refine hKr _ ?_; clear hKr Kr)
  generalize l.getD i default = s at *
  refine T.seqK fun K89 hK89 => ?_
  refine T.sregD 39 [0, 1, 4, 5, 6, 8, 9, 10, 11, 12, 13, 14, 24, 33] fun Kr hKr => ?_
  simp only [go_sem, cond_or]
  (repeat (refine ⟨by (first | exact True.intro | omega | rfl | (simp; done) | (simp; omega)), ?_⟩)); try (refine hKr _ ?_; clear hKr Kr)
  refine T.condTD rfl rfl (fun hc => ?_) (fun hc => ?_) <;> simp only [Bool.or_eq_true, Bool.or_eq_false_iff, decide_eq_true_eq, decide_eq_false_iff_not, Bool.not_eq_true', Bool.not_eq_false'] at hc
  · have e1 : repF app (s :: l.drop (i + 1)) d = repF app (l.drop (i + 1)) d := by simp only [repF]; rw [if_pos hc]
    rw [e1] at hr
    refine T.exit ?_
    simp only [if_true]
    refine hK88 _ ?_
    refine T.regD 39 [0, 1, 4, 5, 6, 8, 9, 10, 11, 12, 13, 14, 24, 33] fun Kr hKr => ?_
    simp only [go_sem]
    (repeat (refine ⟨by (first | exact True.intro | omega | rfl | (simp; done) | (simp; omega)), ?_⟩)); try (refine hKr _ ?_; clear hKr Kr)
    refine ⟨(i + 1, d), ?_, ?_, Le.fitS (by (repeat (first | exact DFit.nil | refine DFit.cons (by first | rfl | (simp [slook]; done) | (simp [slook]; omega)) ?_))) ?_⟩
    · exact ⟨by simp only; omega, hr, hd⟩
    · simp only; omega
    · (repeat (first | exact True.intro | refine And.intro (by first | rfl | (simp [look]; done)) ?_))
  have e1 : repF app (s :: l.drop (i + 1)) d = if (actF d s).2 ≠ 0 then (noDoc, (actF d s).2) else repF app (l.drop (i + 1)) (actF d s).1 := by
    simp only [repF]; rw [if_neg (by rcases hc with ⟨h1, h2⟩; rw [h2]; simp; omega)]
  rw [e1] at hr
  refine T.skip ?_
  refine hK89 _ ?_
  have sA := actionOf_spec s
  have hok := fun h => actF_ok (d := d) (s := s) hd h
  by_cases hid : s.id ≥ 0
  · have eA : actA s = .ifc 107 (.agg [.int .i64 s.id, .int .i64 s.e.k, .int .i64 s.e.a, .int .i64 s.e.n, .int .i64 s.e.t, .str s.e.s]) := by unfold actA; rw [if_pos hid]
    rw [eA, stA] at sA
    have sI := putting_spec d s.id s.e hd hsl
    have eR : actF d s = putF d s.id s.e.a s.e.s := by unfold actF; rw [if_pos hid]
    rw [eR] at hr hok
    generalize putF d s.id s.e.a s.e.s = R at *
    refine T.sdraw2D 39 [0, 1, 4, 5, 6, 8, 9, 10, 11, 12, 13, 14, 24, 33] (.take 0 (.take 2 (.two 1 (.two 3 (.take 4 (.take 5 (.take 6 (.one 7 (.one 8 (.take 9 .done)))))) 7 (.one 3 (.take 4 (.take 5 (.take 6 (.one 8 (.take 9 .done))))))) 7 (.one 1 (.one 3 (.take 4 (.take 5 (.take 6 (.one 8 (.take 9 .done)))))))))) [6, 8] rfl (by decide +kernel) (by decide +kernel) ?x1 ?h1 (fun Kr hKr => ?all1) ?rest1
    case all1 =>
      simp only [go_sem]
      (repeat (any_goals (first | exact hKr _ (.inl rfl) | exact hKr _ (.inr (by (repeat (first | exact True.intro | refine And.intro (by first | rfl | (simp [look]; done)) ?_)))) | ((first | refine CallK.dataA (sA) ?_ rfl ?_ | refine CallK.tupA (sA) ?_ ?_ | refine CallK.ownA (sA) ?_ ?_); (focus ((first | exact ArgsLe.refl | (repeat (first | exact True.intro | refine And.intro (by first | exact AvLe.refl | exact AvLe.loose | exact AvLe.nil | exact AvLe.nilT | exact AvLe.slk | (refine AvLe.agg ?_; exact ArgsLe.refl) | (refine AvLe.agg ?_; (repeat (first | exact True.intro | refine And.intro (by first | exact AvLe.refl | exact AvLe.loose | exact AvLe.nil | exact AvLe.nilT | exact AvLe.slk) ?_)))) ?_))); done)); simp only [go_sem]) | ((first | refine CallK.dataA (sI) ?_ rfl ?_ | refine CallK.tupA (sI) ?_ ?_ | refine CallK.ownA (sI) ?_ ?_); (focus ((first | exact ArgsLe.refl | (repeat (first | exact True.intro | refine And.intro (by first | exact AvLe.refl | exact AvLe.loose | exact AvLe.nil | exact AvLe.nilT | exact AvLe.slk | (refine AvLe.agg ?_; exact ArgsLe.refl) | (refine AvLe.agg ?_; (repeat (first | exact True.intro | refine And.intro (by first | exact AvLe.refl | exact AvLe.loose | exact AvLe.nil | exact AvLe.nilT | exact AvLe.slk) ?_)))) ?_))); done)); simp only [go_sem]) | (refine And.intro ?_ ?_) | (first | exact True.intro | omega | rfl | (simp; done) | (simp; omega)))))
      all_goals (first | exact hKr _ (.inl rfl) | exact hKr _ (.inr (by (repeat (first | exact True.intro | refine And.intro (by first | rfl | (simp [look]; done)) ?_)))))
    case rest1 =>
    refine T.seqK fun K90 hK90 => ?_
    refine T.sregD 39 [0, 1, 4, 5, 6, 8, 9, 10, 11, 12, 13, 14, 24, 33] fun Kr hKr => ?_
    simp only [go_sem]
    (repeat (refine ⟨by (first | exact True.intro | omega | rfl | (simp; done) | (simp; omega)), ?_⟩)); try (refine hKr _ ?_; clear hKr Kr)
    refine T.condTD rfl rfl (fun he => ?_) (fun he => ?_) <;> simp at he
    · -- yes
      rw [if_pos he] at hr
      have e2 : docX false (repF app l noDoc) = .agg [.str [], .sl true 1 []] := by rw [← hr]; unfold docX; rw [if_neg he]
      refine T.sregD 39 [0, 1, 4, 5, 6, 8, 9, 10, 11, 12, 13, 14, 24, 33] fun Kr hKr => ?_
      simp only [go_sem]
      (repeat (refine ⟨by (first | exact True.intro | omega | rfl | (simp; done) | (simp; omega)), ?_⟩)); try (refine hKr _ ?_; clear hKr Kr)
      refine T.ret ?_
      simp only [go_sem]
      exact ⟨ResCellD rfl rfl rfl rfl (by simp only [go_sem]) (by rw [e2]; simp only [go_sem]) (by rw [e2]; rfl), ResAtD (by rw [← hr]; simp only [go_sem]) rfl rfl, trivial⟩
    rw [if_neg (by omega)] at hr
    refine T.skip ?_
    refine hK90 _ ?_
    refine T.regD 39 [0, 1, 4, 5, 6, 8, 9, 10, 11, 12, 13, 14, 24, 33] fun Kr hKr => ?_
    simp only [go_sem]
    (repeat (refine ⟨by (first | exact True.intro | omega | rfl | (simp; done) | (simp; omega)), ?_⟩)); try (refine hKr _ ?_; clear hKr Kr)
    refine hK88 _ ?_
    refine T.regD 39 [0, 1, 4, 5, 6, 8, 9, 10, 11, 12, 13, 14, 24, 33] fun Kr hKr => ?_
    simp only [go_sem]
    (repeat (refine ⟨by (first | exact True.intro | omega | rfl | (simp; done) | (simp; omega)), ?_⟩)); try (refine hKr _ ?_; clear hKr Kr)
    refine ⟨(i + 1, R.1), ?_, ?_, Le.fitS (by (repeat (first | exact DFit.nil | refine DFit.cons (by first | rfl | (simp [slook]; done) | (simp [slook]; omega)) ?_))) ?_⟩
    · exact ⟨by simp only; omega, hr, hok (by omega)⟩
    · simp only; omega
    · (repeat (first | exact True.intro | refine And.intro (by first | rfl | (simp [look]; done)) ?_))
  · have eA : actA s = .ifc 109 (.agg [.int .i64 s.e.k, .int .i64 s.e.a, .int .i64 s.e.n, .int .i64 s.e.t, .str s.e.s]) := by unfold actA; rw [if_neg hid]
    rw [eA, stA] at sA
    have sI := editing_spec d s.e hd hsl
    have eR : actF d s = doF d s.e := by unfold actF; rw [if_neg hid]
    rw [eR] at hr hok
    generalize doF d s.e = R at *
    refine T.sdraw2D 39 [0, 1, 4, 5, 6, 8, 9, 10, 11, 12, 13, 14, 24, 33] (.take 0 (.take 2 (.two 1 (.two 3 (.take 4 (.take 5 (.take 6 (.one 7 (.one 8 (.take 9 .done)))))) 7 (.one 3 (.take 4 (.take 5 (.take 6 (.one 8 (.take 9 .done))))))) 7 (.one 1 (.one 3 (.take 4 (.take 5 (.take 6 (.one 8 (.take 9 .done)))))))))) [6, 8] rfl (by decide +kernel) (by decide +kernel) ?x2 ?h2 (fun Kr hKr => ?all2) ?rest2
    case all2 =>
      simp only [go_sem]
      (repeat (any_goals (first | exact hKr _ (.inl rfl) | exact hKr _ (.inr (by (repeat (first | exact True.intro | refine And.intro (by first | rfl | (simp [look]; done)) ?_)))) | ((first | refine CallK.dataA (sA) ?_ rfl ?_ | refine CallK.tupA (sA) ?_ ?_ | refine CallK.ownA (sA) ?_ ?_); (focus ((first | exact ArgsLe.refl | (repeat (first | exact True.intro | refine And.intro (by first | exact AvLe.refl | exact AvLe.loose | exact AvLe.nil | exact AvLe.nilT | exact AvLe.slk | (refine AvLe.agg ?_; exact ArgsLe.refl) | (refine AvLe.agg ?_; (repeat (first | exact True.intro | refine And.intro (by first | exact AvLe.refl | exact AvLe.loose | exact AvLe.nil | exact AvLe.nilT | exact AvLe.slk) ?_)))) ?_))); done)); simp only [go_sem]) | ((first | refine CallK.dataA (sI) ?_ rfl ?_ | refine CallK.tupA (sI) ?_ ?_ | refine CallK.ownA (sI) ?_ ?_); (focus ((first | exact ArgsLe.refl | (repeat (first | exact True.intro | refine And.intro (by first | exact AvLe.refl | exact AvLe.loose | exact AvLe.nil | exact AvLe.nilT | exact AvLe.slk | (refine AvLe.agg ?_; exact ArgsLe.refl) | (refine AvLe.agg ?_; (repeat (first | exact True.intro | refine And.intro (by first | exact AvLe.refl | exact AvLe.loose | exact AvLe.nil | exact AvLe.nilT | exact AvLe.slk) ?_)))) ?_))); done)); simp only [go_sem]) | (refine And.intro ?_ ?_) | (first | exact True.intro | omega | rfl | (simp; done) | (simp; omega)))))
      all_goals (first | exact hKr _ (.inl rfl) | exact hKr _ (.inr (by (repeat (first | exact True.intro | refine And.intro (by first | rfl | (simp [look]; done)) ?_)))))
    case rest2 =>
    refine T.seqK fun K90 hK90 => ?_
    refine T.sregD 39 [0, 1, 4, 5, 6, 8, 9, 10, 11, 12, 13, 14, 24, 33] fun Kr hKr => ?_
    simp only [go_sem]
    (repeat (refine ⟨by (first | exact True.intro | omega | rfl | (simp; done) | (simp; omega)), ?_⟩)); try (refine hKr _ ?_; clear hKr Kr)
    refine T.condTD rfl rfl (fun he => ?_) (fun he => ?_) <;> simp at he
    · -- yes
      rw [if_pos he] at hr
      have e2 : docX false (repF app l noDoc) = .agg [.str [], .sl true 1 []] := by rw [← hr]; unfold docX; rw [if_neg he]
      refine T.sregD 39 [0, 1, 4, 5, 6, 8, 9, 10, 11, 12, 13, 14, 24, 33] fun Kr hKr => ?_
      simp only [go_sem]
      (repeat (refine ⟨by (first | exact True.intro | omega | rfl | (simp; done) | (simp; omega)), ?_⟩)); try (refine hKr _ ?_; clear hKr Kr)
      refine T.ret ?_
      simp only [go_sem]
      exact ⟨ResCellD rfl rfl rfl rfl (by simp only [go_sem]) (by rw [e2]; simp only [go_sem]) (by rw [e2]; rfl), ResAtD (by rw [← hr]; simp only [go_sem]) rfl rfl, trivial⟩
    rw [if_neg (by omega)] at hr
    refine T.skip ?_
    refine hK90 _ ?_
    refine T.regD 39 [0, 1, 4, 5, 6, 8, 9, 10, 11, 12, 13, 14, 24, 33] fun Kr hKr => ?_
    simp only [go_sem]
    (repeat (refine ⟨by (first | exact True.intro | omega | rfl | (simp; done) | (simp; omega)), ?_⟩)); try (refine hKr _ ?_; clear hKr Kr)
    refine hK88 _ ?_
    refine T.regD 39 [0, 1, 4, 5, 6, 8, 9, 10, 11, 12, 13, 14, 24, 33] fun Kr hKr => ?_
    simp only [go_sem]
    (repeat (refine ⟨by (first | exact True.intro | omega | rfl | (simp; done) | (simp; omega)), ?_⟩)); try (refine hKr _ ?_; clear hKr Kr)
    refine ⟨(i + 1, R.1), ?_, ?_, Le.fitS (by (repeat (first | exact DFit.nil | refine DFit.cons (by first | rfl | (simp [slook]; done) | (simp [slook]; omega)) ?_))) ?_⟩
    · exact ⟨by simp only; omega, hr, hok (by omega)⟩
    · simp only; omega
    · (repeat (first | exact True.intro | refine And.intro (by first | rfl | (simp [look]; done)) ?_))
end Go.Proofs
