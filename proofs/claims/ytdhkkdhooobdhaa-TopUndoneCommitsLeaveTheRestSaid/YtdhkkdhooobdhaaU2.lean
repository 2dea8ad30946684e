/- Undo: contracts of doing a step, of what depends on a commit, of edits without a mark, of undoing. -/
import Derived.Test.YtdhkkdhooobdhaaU1
set_option linter.unusedVariables false
set_option linter.unusedSimpArgs false
namespace Go.Proofs
open Go Go.Ideal
set_option maxRecDepth 8000
set_option maxHeartbeats 4000000

structure OkP (p : Past) : Prop where
  docs : ∀ d ∈ p.docs, OkD d
  dl : p.docs.length ≤ 1000
  sl : p.st.length ≤ 1000
def pastX (r : Past × Int) : AV := if r.2 = 0 then pastA r.1 else .agg [.sl true 1 [], .sl true 1 []]
theorem pastX_fin (r : Past × Int) : (pastX r).fin = true := by unfold pastX; split <;> rfl
theorem pastX_le (r : Past × Int) (h : r.2 ≠ 0 → r.1 = noPast) : AvLe (pastX r) (pastA r.1) := by
  unfold pastX
  split
  · exact AvLe.refl
  · rename_i hr
    rw [h hr]
    exact AvLe.agg ⟨AvLe.nil, AvLe.nil, trivial⟩
/-- Doing a step. -/
def doU (p : Past) (s : Stp) : Past × Int :=
  if s.app < 0 ∨ s.app ≥ p.docs.length ∨ s.und = true ∨ s.id < -1 then (noPast, 1)
  else if (p.st.length : Int) ≥ 400 then (noPast, 2)
  else if s.id ≥ 0 ∧ (s.e.k ≠ 1 ∨ hasS p.st s.id = true) then (noPast, 290)
  else if (actF (p.docs.getD s.app.toNat default) s).2 ≠ 0 then (noPast, (actF (p.docs.getD s.app.toNat default) s).2)
  else (⟨p.docs.set s.app.toNat (actF (p.docs.getD s.app.toNat default) s).1, p.st ++ [s]⟩, 0)
theorem doU_no (p : Past) (s : Stp) (h : (doU p s).2 ≠ 0) : (doU p s).1 = noPast := by
  unfold doU at h ⊢
  split
  · rfl
  · split
    · rfl
    · split
      · rfl
      · split
        · rfl
        · rename_i h1 h2 h3 h4; rw [if_neg h1, if_neg h2, if_neg h3, if_neg h4] at h; exact absurd rfl h
theorem Do_spec_U (p : Past) (s : Stp) (hp : OkP p) (hl : s.e.s.length ≤ 100000) : Ideal.Spec Try.prog 9 [pastA p, stA s] (.tup [pastA (doU p s).1, .int .i64 (doU p s).2]) none := by
  have h1 := hp.dl
  have h2 := hp.sl
  refine Spec.weakT (rs := [pastX (doU p s), .int .i64 (doU p s).2]) ?_ (by simp [pastX_fin]; rfl) rfl ⟨pastX_le _ (doU_no p s), AvLe.refl, trivial⟩
  refine Ideal.Spec.of_MD (n := 86) (fn := Try.f9) rfl rfl rfl rfl (by simp [pastX_fin]; rfl) rfl rfl fun w ok => ?_
  refine T.post [.tmp 4] ?_
  refine T.sregD 86 [0, 1, 2, 3, 4, 5, 6, 7, 8, 9, 29, 34, 38, 49, 67] fun Kr hKr => ?_
  simp only [go_sem]
  (repeat (refine ⟨by (first | exact True.intro | omega | rfl | (simp; done) | (simp; omega)), ?_⟩)); try (refine hKr _ ?_; clear hKr Kr)
  refine T.seqK fun K33 hK33 => ?_
  refine T.sregD 86 [0, 1, 2, 3, 4, 5, 6, 7, 8, 9, 29, 34, 38, 49, 67] fun Kr hKr => ?_
  simp only [go_sem, cond_or]
  (repeat (refine ⟨by (first | exact True.intro | omega | rfl | (simp; done) | (simp; omega)), ?_⟩)); try (refine hKr _ ?_; clear hKr Kr)
  refine T.condTD rfl rfl (fun hb => ?_) (fun hb => ?_) <;> simp only [Bool.or_eq_true, Bool.or_eq_false_iff, decide_eq_true_eq, decide_eq_false_iff_not] at hb
  · -- yes
    have ee : doU p s = (noPast, 1) := by unfold doU; rw [if_pos (by rcases hb with ((h | h) | h) | h <;> simp [h])]
    have e2 : pastX (doU p s) = .agg [.sl true 1 [], .sl true 1 []] := by rw [ee]; rfl
    refine T.sregD 86 [0, 1, 2, 3, 4, 5, 6, 7, 8, 9, 29, 34, 38, 49, 67] fun Kr hKr => ?_
    simp only [go_sem]
    (repeat (refine ⟨by (first | exact True.intro | omega | rfl | (simp; done) | (simp; omega)), ?_⟩)); try (refine hKr _ ?_; clear hKr Kr)
    refine T.ret ?_
    simp only [go_sem]
    exact ⟨ResCellD rfl rfl rfl rfl (by simp only [go_sem]) (by rw [e2]; simp only [go_sem]) (by rw [e2]; rfl), ResAtD (by rw [ee]; rfl) rfl rfl, trivial⟩
  obtain ⟨⟨⟨b1, b2⟩, b3⟩, b4⟩ := hb
  have hno1 : ¬ (s.app < 0 ∨ s.app ≥ p.docs.length ∨ s.und = true ∨ s.id < -1) := by rw [b3]; simp; omega
  refine T.skip ?_
  refine hK33 _ ?_
  refine T.seqK fun K34 hK34 => ?_
  refine T.sregD 86 [0, 1, 2, 3, 4, 5, 6, 7, 8, 9, 29, 34, 38, 49, 67] fun Kr hKr => ?_
  simp only [go_sem]
  (repeat (refine ⟨by (first | exact True.intro | omega | rfl | (simp; done) | (simp; omega)), ?_⟩)); try (refine hKr _ ?_; clear hKr Kr)
  refine T.condTD rfl rfl (fun hc => ?_) (fun hc => ?_) <;> simp at hc
  · -- yes
    have ee : doU p s = (noPast, 2) := by unfold doU; rw [if_neg hno1, if_pos (by omega)]
    have e2 : pastX (doU p s) = .agg [.sl true 1 [], .sl true 1 []] := by rw [ee]; rfl
    refine T.sregD 86 [0, 1, 2, 3, 4, 5, 6, 7, 8, 9, 29, 34, 38, 49, 67] fun Kr hKr => ?_
    simp only [go_sem]
    (repeat (refine ⟨by (first | exact True.intro | omega | rfl | (simp; done) | (simp; omega)), ?_⟩)); try (refine hKr _ ?_; clear hKr Kr)
    refine T.ret ?_
    simp only [go_sem]
    exact ⟨ResCellD rfl rfl rfl rfl (by simp only [go_sem]) (by rw [e2]; simp only [go_sem]) (by rw [e2]; rfl), ResAtD (by rw [ee]; rfl) rfl rfl, trivial⟩
  refine T.skip ?_
  refine hK34 _ ?_
  have e1 : doU p s = if s.id ≥ 0 ∧ (s.e.k ≠ 1 ∨ hasS p.st s.id = true) then (noPast, 290)
      else if (actF (p.docs.getD s.app.toNat default) s).2 ≠ 0 then (noPast, (actF (p.docs.getD s.app.toNat default) s).2)
      else (⟨p.docs.set s.app.toNat (actF (p.docs.getD s.app.toNat default) s).1, p.st ++ [s]⟩, 0) := by
    unfold doU; rw [if_neg hno1, if_neg (by omega)]
  obtain ⟨n, hna⟩ : ∃ n : Nat, s.app = n := ⟨s.app.toNat, by omega⟩
  have hn : n < p.docs.length := by omega
  rw [hna] at e1
  simp only [Int.toNat_natCast] at e1
  have hdd : OkD (p.docs.getD n default) := hp.docs _ (by simp [List.getD, hn])
  have sA := actionOf_spec s
  have sD := cloneD_spec p.docs (by omega)
  have sS := cloneS_spec p.st (by omega)
  refine T.seqK fun K35 hK35 => ?_
  refine T.sregD 86 [0, 1, 2, 3, 4, 5, 6, 7, 8, 9, 29, 34, 38, 49, 67] fun Kr hKr => ?_
  simp only [go_sem]
  (repeat (refine ⟨by (first | exact True.intro | omega | rfl | (simp; done) | (simp; omega)), ?_⟩)); try (refine hKr _ ?_; clear hKr Kr)
  refine T.condTD rfl rfl (fun hd => ?_) (fun hd => ?_) <;> simp at hd
  · -- a commit
    have sC := containsFunc_spec p.st s (by omega)
    have eA : actA s = .ifc 107 (.agg [.int .i64 s.id, .int .i64 s.e.k, .int .i64 s.e.a, .int .i64 s.e.n, .int .i64 s.e.t, .str s.e.s]) := by unfold actA; rw [if_pos (by omega)]
    rw [eA, stA, hna] at sA
    have sI := putting_spec (p.docs.getD n default) s.id s.e hdd hl
    have eR : actF (p.docs.getD n default) s = putF (p.docs.getD n default) s.id s.e.a s.e.s := by unfold actF; rw [if_pos (by omega)]
    rw [eR] at e1
    generalize putF (p.docs.getD n default) s.id s.e.a s.e.s = R at *
    by_cases hk : s.e.k = 1
    rotate_left
    · have hk' : (s.e.k = 1) = False := eq_false hk
      have ee : doU p s = (noPast, 290) := by rw [e1, if_pos ⟨by omega, .inl hk⟩]
      have e2 : pastX (doU p s) = .agg [.sl true 1 [], .sl true 1 []] := by rw [ee]; rfl
      refine T.sregD 86 [0, 1, 2, 3, 4, 5, 6, 7, 8, 9, 29, 34, 38, 49, 67] fun Kr hKr => ?_
      simp only [go_sem]
      (repeat (refine ⟨by (first | exact True.intro | omega | rfl | (simp; done) | (simp; omega)), ?_⟩)); try (refine hKr _ ?_; clear hKr Kr)
      refine T.sregD 86 [0, 1, 2, 3, 4, 5, 6, 7, 8, 9, 29, 34, 38, 49, 67] fun Kr hKr => ?_
      simp only [go_sem, hk']
      (repeat (refine ⟨by (first | exact True.intro | omega | rfl | (simp; done) | (simp; omega)), ?_⟩)); try (refine hKr _ ?_; clear hKr Kr)
      refine CallK.data (r := .bool true) (fun h => by cases h) rfl ?_
      simp only [go_sem]
      (repeat (refine ⟨by (first | exact True.intro | omega | rfl | (simp; done) | (simp; omega)), ?_⟩)); try (refine hKr _ ?_; clear hKr Kr)
      refine T.condTD rfl rfl (fun hf => ?_) (fun hf => ?_) <;> try simp at hf
      refine T.sregD 86 [0, 1, 2, 3, 4, 5, 6, 7, 8, 9, 29, 34, 38, 49, 67] fun Kr hKr => ?_
      simp only [go_sem]
      (repeat (refine ⟨by (first | exact True.intro | omega | rfl | (simp; done) | (simp; omega)), ?_⟩)); try (refine hKr _ ?_; clear hKr Kr)
      refine T.ret ?_
      simp only [go_sem]
      exact ⟨ResCellD rfl rfl rfl rfl (by simp only [go_sem]) (by rw [e2]; simp only [go_sem]) (by rw [e2]; rfl), ResAtD (by rw [ee]; rfl) rfl rfl, trivial⟩
    have hk' : (s.e.k = 1) = True := eq_true hk
    refine T.sregD 86 [0, 1, 2, 3, 4, 5, 6, 7, 8, 9, 29, 34, 38, 49, 67] fun Kr hKr => ?_
    simp only [go_sem]
    (repeat (refine ⟨by (first | exact True.intro | omega | rfl | (simp; done) | (simp; omega)), ?_⟩)); try (refine hKr _ ?_; clear hKr Kr)
    refine T.sregD 86 [0, 1, 2, 3, 4, 5, 6, 7, 8, 9, 29, 34, 38, 49, 67] fun Kr hKr => ?_
    simp only [go_sem, hk']
    (repeat (refine ⟨by (first | exact True.intro | omega | rfl | (simp; done) | (simp; omega)), ?_⟩)); try (refine hKr _ ?_; clear hKr Kr)
    refine CallK.data (fun _ => Spec.args (sC) (by (first | exact ArgsLe.refl | (repeat (first | exact True.intro | refine And.intro (by first | exact AvLe.refl | exact AvLe.loose | exact AvLe.nil | exact AvLe.nilT | exact AvLe.slk | (refine AvLe.agg ?_; exact ArgsLe.refl) | (refine AvLe.agg ?_; (repeat (first | exact True.intro | refine And.intro (by first | exact AvLe.refl | exact AvLe.loose | exact AvLe.nil | exact AvLe.nilT | exact AvLe.slk) ?_)))) ?_))))) rfl ?_
    simp only [go_sem]
    (repeat (refine ⟨by (first | exact True.intro | omega | rfl | (simp; done) | (simp; omega)), ?_⟩)); try (refine hKr _ ?_; clear hKr Kr)
    refine T.condTD rfl rfl (fun hf => ?_) (fun hf => ?_) <;> try simp at hf
    · have ee : doU p s = (noPast, 290) := by rw [e1, if_pos ⟨by omega, .inr hf⟩]
      have e2 : pastX (doU p s) = .agg [.sl true 1 [], .sl true 1 []] := by rw [ee]; rfl
      refine T.sregD 86 [0, 1, 2, 3, 4, 5, 6, 7, 8, 9, 29, 34, 38, 49, 67] fun Kr hKr => ?_
      simp only [go_sem]
      (repeat (refine ⟨by (first | exact True.intro | omega | rfl | (simp; done) | (simp; omega)), ?_⟩)); try (refine hKr _ ?_; clear hKr Kr)
      refine T.ret ?_
      simp only [go_sem]
      exact ⟨ResCellD rfl rfl rfl rfl (by simp only [go_sem]) (by rw [e2]; simp only [go_sem]) (by rw [e2]; rfl), ResAtD (by rw [ee]; rfl) rfl rfl, trivial⟩
    have e0 : doU p s = if R.2 ≠ 0 then (noPast, R.2) else (⟨p.docs.set n R.1, p.st ++ [s]⟩, 0) := by rw [e1, if_neg (by rw [hf]; simp [hk])]
    refine T.skip ?_
    refine hK35 _ ?_
    refine T.sdraw2D 86 [0, 1, 2, 3, 4, 5, 6, 7, 8, 9, 29, 34, 38, 49, 67] (.take 0 (.take 2 (.take 3 (.take 4 (.take 5 (.take 6 (.take 7 (.two 1 (.take 8 (.two 9 (.take 10 (.two 11 (.take 12 (.take 13 (.take 14 (.one 15 (.one 16 (.take 17 .done)))))) 15 (.one 11 (.take 12 (.take 13 (.take 14 (.one 16 (.take 17 .done)))))))) 15 (.one 9 (.take 10 (.one 11 (.take 12 (.take 13 (.take 14 (.one 16 (.take 17 .done)))))))))) 15 (.one 1 (.take 8 (.one 9 (.take 10 (.one 11 (.take 12 (.take 13 (.take 14 (.one 16 (.take 17 .done)))))))))))))))))) [2, 3] rfl (by decide +kernel) (by decide +kernel) ?x1 ?h1 (fun Kr hKr => ?all1) ?rest1
    case all1 =>
      simp only [go_sem, hna, hn]
      (repeat (any_goals (first | exact hKr _ (.inl rfl) | exact hKr _ (.inr (by (repeat (first | exact True.intro | refine And.intro (by first | rfl | (simp [look]; done)) ?_)))) | ((first | refine CallK.dataA (sA) ?_ rfl ?_ | refine CallK.tupA (sA) ?_ ?_ | refine CallK.ownA (sA) ?_ ?_); (focus ((first | exact ArgsLe.refl | (repeat (first | exact True.intro | refine And.intro (by first | exact AvLe.refl | exact AvLe.loose | exact AvLe.nil | exact AvLe.nilT | exact AvLe.slk | (refine AvLe.agg ?_; exact ArgsLe.refl) | (refine AvLe.agg ?_; (repeat (first | exact True.intro | refine And.intro (by first | exact AvLe.refl | exact AvLe.loose | exact AvLe.nil | exact AvLe.nilT | exact AvLe.slk) ?_)))) ?_))); done)); simp only [go_sem, hna, hn]) | ((first | refine CallK.dataA (sI) ?_ rfl ?_ | refine CallK.tupA (sI) ?_ ?_ | refine CallK.ownA (sI) ?_ ?_); (focus ((first | exact ArgsLe.refl | (repeat (first | exact True.intro | refine And.intro (by first | exact AvLe.refl | exact AvLe.loose | exact AvLe.nil | exact AvLe.nilT | exact AvLe.slk | (refine AvLe.agg ?_; exact ArgsLe.refl) | (refine AvLe.agg ?_; (repeat (first | exact True.intro | refine And.intro (by first | exact AvLe.refl | exact AvLe.loose | exact AvLe.nil | exact AvLe.nilT | exact AvLe.slk) ?_)))) ?_))); done)); simp only [go_sem, hna, hn]) | (refine And.intro ?_ ?_) | (first | exact True.intro | omega | rfl | (simp; done) | (simp; omega)))))
      all_goals (first | exact hKr _ (.inl rfl) | exact hKr _ (.inr (by (repeat (first | exact True.intro | refine And.intro (by first | rfl | (simp [look]; done)) ?_)))))
    case rest1 =>
    refine T.seqK fun K36 hK36 => ?_
    refine T.sregD 86 [0, 1, 2, 3, 4, 5, 6, 7, 8, 9, 29, 34, 38, 49, 67] fun Kr hKr => ?_
    simp only [go_sem]
    (repeat (refine ⟨by (first | exact True.intro | omega | rfl | (simp; done) | (simp; omega)), ?_⟩)); try (refine hKr _ ?_; clear hKr Kr)
    refine T.condTD rfl rfl (fun he => ?_) (fun he => ?_) <;> simp at he
    · -- yes
      refine T.sregD 86 [0, 1, 2, 3, 4, 5, 6, 7, 8, 9, 29, 34, 38, 49, 67] fun Kr hKr => ?_
      simp only [go_sem]
      (repeat (refine ⟨by (first | exact True.intro | omega | rfl | (simp; done) | (simp; omega)), ?_⟩)); try (refine hKr _ ?_; clear hKr Kr)
      have ee : doU p s = (noPast, R.2) := by rw [e0, if_pos he]
      have e2 : pastX (doU p s) = .agg [.sl true 1 [], .sl true 1 []] := by rw [ee]; unfold pastX; rw [if_neg he]
      refine T.ret ?_
      simp only [go_sem]
      exact ⟨ResCellD rfl rfl rfl rfl (by simp only [go_sem]) (by rw [e2]; simp only [go_sem]) (by rw [e2]; rfl), ResAtD (by rw [ee]; simp only [go_sem]) rfl rfl, trivial⟩
    have ee : doU p s = (⟨p.docs.set n R.1, p.st ++ [s]⟩, 0) := by rw [e0, if_neg (by omega)]
    have e2 : pastX (doU p s) = .agg [.sl false 2 (docsOf (p.docs.set n R.1)), .sl false 8 (stsOf (p.st ++ [s]))] := by rw [ee]; rfl
    have hT : (p.docs.set n ⟨R.1.s, R.1.m⟩).take p.docs.length = p.docs.set n R.1 := List.take_of_length_le (by simp)
    have hA : stsOf p.st ++ [.agg [.int .i64 n, .int .i64 s.id, .int .i64 s.e.k, .int .i64 s.e.a, .int .i64 s.e.n, .int .i64 s.e.t, .str s.e.s, .bool s.und]] = stsOf (p.st ++ [s]) := by rw [stsOf_app, ← hna]; rfl
    have hA3 : (p.st ++ [s]).length = p.st.length + 1 := by simp
    have hA4 : (p.st ++ [s]).take (p.st.length + 1) = p.st ++ [s] := List.take_of_length_le (by simp)
    refine T.skip ?_
    refine hK36 _ ?_
    refine T.sregD 86 [0, 1, 2, 3, 4, 5, 6, 7, 8, 9, 29, 34, 38, 49, 67] fun Kr hKr => ?_
    simp only [go_sem]
    (repeat (refine ⟨by (first | exact True.intro | omega | rfl | (simp; done) | (simp; omega)), ?_⟩)); try (refine hKr _ ?_; clear hKr Kr)
    refine CallK.own (Spec.args (sD) (by (first | exact ArgsLe.refl | (repeat (first | exact True.intro | refine And.intro (by first | exact AvLe.refl | exact AvLe.loose | exact AvLe.nil | exact AvLe.nilT | exact AvLe.slk | (refine AvLe.agg ?_; exact ArgsLe.refl) | (refine AvLe.agg ?_; (repeat (first | exact True.intro | refine And.intro (by first | exact AvLe.refl | exact AvLe.loose | exact AvLe.nil | exact AvLe.nilT | exact AvLe.slk) ?_)))) ?_))))) ?_
    simp only [go_sem]
    (repeat (refine ⟨by (first | exact True.intro | omega | rfl | (simp; done) | (simp; omega)), ?_⟩)); try (refine hKr _ ?_; clear hKr Kr)
    refine T.sregD 86 [0, 1, 2, 3, 4, 5, 6, 7, 8, 9, 29, 34, 38, 49, 67] fun Kr hKr => ?_
    simp only [go_sem, hn]
    (repeat (refine ⟨by (first | exact True.intro | omega | rfl | (simp; done) | (simp; omega)), ?_⟩)); try (refine hKr _ ?_; clear hKr Kr)
    refine T.sdraw2D 86 [0, 1, 2, 3, 4, 5, 6, 7, 8, 9, 29, 34, 38, 49, 67] (.take 0 (.take 1 (.take 2 (.take 4 (.two 3 (.one 5 (.one 6 (.one 7 (.one 8 (.take 9 .done))))) 5 (.one 3 (.one 6 (.one 7 (.one 8 (.take 9 .done)))))))))) [2, 3] rfl (by decide +kernel) (by decide +kernel) ?x2 ?h2 (fun Kr hKr => ?all2) ?rest2
    case all2 =>
      simp only [go_sem, hna, hn, List.length_set, Nat.le_refl, hT, hA, hA3, hA4]
      (repeat (any_goals (first | exact hKr _ (.inl rfl) | exact hKr _ (.inr (by (repeat (first | exact True.intro | refine And.intro (by first | rfl | (simp [look]; done)) ?_)))) | ((first | refine CallK.dataA (sS) ?_ rfl ?_ | refine CallK.tupA (sS) ?_ ?_ | refine CallK.ownA (sS) ?_ ?_); (focus ((first | exact ArgsLe.refl | (repeat (first | exact True.intro | refine And.intro (by first | exact AvLe.refl | exact AvLe.loose | exact AvLe.nil | exact AvLe.nilT | exact AvLe.slk | (refine AvLe.agg ?_; exact ArgsLe.refl) | (refine AvLe.agg ?_; (repeat (first | exact True.intro | refine And.intro (by first | exact AvLe.refl | exact AvLe.loose | exact AvLe.nil | exact AvLe.nilT | exact AvLe.slk) ?_)))) ?_))); done)); simp only [go_sem, hna, hn, List.length_set, Nat.le_refl, hT, hA, hA3, hA4]) | (refine And.intro ?_ ?_) | (first | exact True.intro | omega | rfl | (simp; done) | (simp; omega)))))
      all_goals (first | exact hKr _ (.inl rfl) | exact hKr _ (.inr (by (repeat (first | exact True.intro | refine And.intro (by first | rfl | (simp [look]; done)) ?_)))))
    case rest2 =>
    refine T.ret ?_
    simp only [go_sem, List.take_length, List.length_set, Nat.le_refl, hT, hA, hA3, hA4]
    exact ⟨ResCellD rfl rfl rfl rfl (by simp only [go_sem]) (by rw [e2]; simp only [go_sem]) (by rw [e2]; rfl), ResAtD (by rw [ee]; simp only [go_sem]) rfl rfl, trivial⟩
  have eA : actA s = .ifc 109 (.agg [.int .i64 s.e.k, .int .i64 s.e.a, .int .i64 s.e.n, .int .i64 s.e.t, .str s.e.s]) := by unfold actA; rw [if_neg (by omega)]
  rw [eA, stA, hna] at sA
  have sI := editing_spec (p.docs.getD n default) s.e hdd hl
  have eR : actF (p.docs.getD n default) s = doF (p.docs.getD n default) s.e := by unfold actF; rw [if_neg (by omega)]
  rw [eR] at e1
  generalize doF (p.docs.getD n default) s.e = R at *
  have e0 : doU p s = if R.2 ≠ 0 then (noPast, R.2) else (⟨p.docs.set n R.1, p.st ++ [s]⟩, 0) := by rw [e1, if_neg (by omega)]
  refine T.skip ?_
  refine hK35 _ ?_
  refine T.sdraw2D 86 [0, 1, 2, 3, 4, 5, 6, 7, 8, 9, 29, 34, 38, 49, 67] (.take 0 (.take 2 (.take 3 (.take 4 (.take 5 (.take 6 (.take 7 (.two 1 (.take 8 (.two 9 (.take 10 (.two 11 (.take 12 (.take 13 (.take 14 (.one 15 (.one 16 (.take 17 .done)))))) 15 (.one 11 (.take 12 (.take 13 (.take 14 (.one 16 (.take 17 .done)))))))) 15 (.one 9 (.take 10 (.one 11 (.take 12 (.take 13 (.take 14 (.one 16 (.take 17 .done)))))))))) 15 (.one 1 (.take 8 (.one 9 (.take 10 (.one 11 (.take 12 (.take 13 (.take 14 (.one 16 (.take 17 .done)))))))))))))))))) [2, 3] rfl (by decide +kernel) (by decide +kernel) ?x3 ?h3 (fun Kr hKr => ?all3) ?rest3
  case all3 =>
    simp only [go_sem, hna, hn]
    (repeat (any_goals (first | exact hKr _ (.inl rfl) | exact hKr _ (.inr (by (repeat (first | exact True.intro | refine And.intro (by first | rfl | (simp [look]; done)) ?_)))) | ((first | refine CallK.dataA (sA) ?_ rfl ?_ | refine CallK.tupA (sA) ?_ ?_ | refine CallK.ownA (sA) ?_ ?_); (focus ((first | exact ArgsLe.refl | (repeat (first | exact True.intro | refine And.intro (by first | exact AvLe.refl | exact AvLe.loose | exact AvLe.nil | exact AvLe.nilT | exact AvLe.slk | (refine AvLe.agg ?_; exact ArgsLe.refl) | (refine AvLe.agg ?_; (repeat (first | exact True.intro | refine And.intro (by first | exact AvLe.refl | exact AvLe.loose | exact AvLe.nil | exact AvLe.nilT | exact AvLe.slk) ?_)))) ?_))); done)); simp only [go_sem, hna, hn]) | ((first | refine CallK.dataA (sI) ?_ rfl ?_ | refine CallK.tupA (sI) ?_ ?_ | refine CallK.ownA (sI) ?_ ?_); (focus ((first | exact ArgsLe.refl | (repeat (first | exact True.intro | refine And.intro (by first | exact AvLe.refl | exact AvLe.loose | exact AvLe.nil | exact AvLe.nilT | exact AvLe.slk | (refine AvLe.agg ?_; exact ArgsLe.refl) | (refine AvLe.agg ?_; (repeat (first | exact True.intro | refine And.intro (by first | exact AvLe.refl | exact AvLe.loose | exact AvLe.nil | exact AvLe.nilT | exact AvLe.slk) ?_)))) ?_))); done)); simp only [go_sem, hna, hn]) | (refine And.intro ?_ ?_) | (first | exact True.intro | omega | rfl | (simp; done) | (simp; omega)))))
    all_goals (first | exact hKr _ (.inl rfl) | exact hKr _ (.inr (by (repeat (first | exact True.intro | refine And.intro (by first | rfl | (simp [look]; done)) ?_)))))
  case rest3 =>
  refine T.seqK fun K36 hK36 => ?_
  refine T.sregD 86 [0, 1, 2, 3, 4, 5, 6, 7, 8, 9, 29, 34, 38, 49, 67] fun Kr hKr => ?_
  simp only [go_sem]
  (repeat (refine ⟨by (first | exact True.intro | omega | rfl | (simp; done) | (simp; omega)), ?_⟩)); try (refine hKr _ ?_; clear hKr Kr)
  refine T.condTD rfl rfl (fun he => ?_) (fun he => ?_) <;> simp at he
  · -- yes
    refine T.sregD 86 [0, 1, 2, 3, 4, 5, 6, 7, 8, 9, 29, 34, 38, 49, 67] fun Kr hKr => ?_
    simp only [go_sem]
    (repeat (refine ⟨by (first | exact True.intro | omega | rfl | (simp; done) | (simp; omega)), ?_⟩)); try (refine hKr _ ?_; clear hKr Kr)
    have ee : doU p s = (noPast, R.2) := by rw [e0, if_pos he]
    have e2 : pastX (doU p s) = .agg [.sl true 1 [], .sl true 1 []] := by rw [ee]; unfold pastX; rw [if_neg he]
    refine T.ret ?_
    simp only [go_sem]
    exact ⟨ResCellD rfl rfl rfl rfl (by simp only [go_sem]) (by rw [e2]; simp only [go_sem]) (by rw [e2]; rfl), ResAtD (by rw [ee]; simp only [go_sem]) rfl rfl, trivial⟩
  have ee : doU p s = (⟨p.docs.set n R.1, p.st ++ [s]⟩, 0) := by rw [e0, if_neg (by omega)]
  have e2 : pastX (doU p s) = .agg [.sl false 2 (docsOf (p.docs.set n R.1)), .sl false 8 (stsOf (p.st ++ [s]))] := by rw [ee]; rfl
  have hT : (p.docs.set n ⟨R.1.s, R.1.m⟩).take p.docs.length = p.docs.set n R.1 := List.take_of_length_le (by simp)
  have hA : stsOf p.st ++ [.agg [.int .i64 n, .int .i64 s.id, .int .i64 s.e.k, .int .i64 s.e.a, .int .i64 s.e.n, .int .i64 s.e.t, .str s.e.s, .bool s.und]] = stsOf (p.st ++ [s]) := by rw [stsOf_app, ← hna]; rfl
  have hA3 : (p.st ++ [s]).length = p.st.length + 1 := by simp
  have hA4 : (p.st ++ [s]).take (p.st.length + 1) = p.st ++ [s] := List.take_of_length_le (by simp)
  refine T.skip ?_
  refine hK36 _ ?_
  refine T.sregD 86 [0, 1, 2, 3, 4, 5, 6, 7, 8, 9, 29, 34, 38, 49, 67] fun Kr hKr => ?_
  simp only [go_sem]
  (repeat (refine ⟨by (first | exact True.intro | omega | rfl | (simp; done) | (simp; omega)), ?_⟩)); try (refine hKr _ ?_; clear hKr Kr)
  refine CallK.own (Spec.args (sD) (by (first | exact ArgsLe.refl | (repeat (first | exact True.intro | refine And.intro (by first | exact AvLe.refl | exact AvLe.loose | exact AvLe.nil | exact AvLe.nilT | exact AvLe.slk | (refine AvLe.agg ?_; exact ArgsLe.refl) | (refine AvLe.agg ?_; (repeat (first | exact True.intro | refine And.intro (by first | exact AvLe.refl | exact AvLe.loose | exact AvLe.nil | exact AvLe.nilT | exact AvLe.slk) ?_)))) ?_))))) ?_
  simp only [go_sem]
  (repeat (refine ⟨by (first | exact True.intro | omega | rfl | (simp; done) | (simp; omega)), ?_⟩)); try (refine hKr _ ?_; clear hKr Kr)
  refine T.sregD 86 [0, 1, 2, 3, 4, 5, 6, 7, 8, 9, 29, 34, 38, 49, 67] fun Kr hKr => ?_
  simp only [go_sem, hn]
  (repeat (refine ⟨by (first | exact True.intro | omega | rfl | (simp; done) | (simp; omega)), ?_⟩)); try (refine hKr _ ?_; clear hKr Kr)
  refine T.sdraw2D 86 [0, 1, 2, 3, 4, 5, 6, 7, 8, 9, 29, 34, 38, 49, 67] (.take 0 (.take 1 (.take 2 (.take 4 (.two 3 (.one 5 (.one 6 (.one 7 (.one 8 (.take 9 .done))))) 5 (.one 3 (.one 6 (.one 7 (.one 8 (.take 9 .done)))))))))) [2, 3] rfl (by decide +kernel) (by decide +kernel) ?x4 ?h4 (fun Kr hKr => ?all4) ?rest4
  case all4 =>
    simp only [go_sem, hna, hn, List.length_set, Nat.le_refl, hT, hA, hA3, hA4]
    (repeat (any_goals (first | exact hKr _ (.inl rfl) | exact hKr _ (.inr (by (repeat (first | exact True.intro | refine And.intro (by first | rfl | (simp [look]; done)) ?_)))) | ((first | refine CallK.dataA (sS) ?_ rfl ?_ | refine CallK.tupA (sS) ?_ ?_ | refine CallK.ownA (sS) ?_ ?_); (focus ((first | exact ArgsLe.refl | (repeat (first | exact True.intro | refine And.intro (by first | exact AvLe.refl | exact AvLe.loose | exact AvLe.nil | exact AvLe.nilT | exact AvLe.slk | (refine AvLe.agg ?_; exact ArgsLe.refl) | (refine AvLe.agg ?_; (repeat (first | exact True.intro | refine And.intro (by first | exact AvLe.refl | exact AvLe.loose | exact AvLe.nil | exact AvLe.nilT | exact AvLe.slk) ?_)))) ?_))); done)); simp only [go_sem, hna, hn, List.length_set, Nat.le_refl, hT, hA, hA3, hA4]) | (refine And.intro ?_ ?_) | (first | exact True.intro | omega | rfl | (simp; done) | (simp; omega)))))
    all_goals (first | exact hKr _ (.inl rfl) | exact hKr _ (.inr (by (repeat (first | exact True.intro | refine And.intro (by first | rfl | (simp [look]; done)) ?_)))))
  case rest4 =>
  refine T.ret ?_
  simp only [go_sem, List.take_length, List.length_set, Nat.le_refl, hT, hA, hA3, hA4]
  exact ⟨ResCellD rfl rfl rfl rfl (by simp only [go_sem]) (by rw [e2]; simp only [go_sem]) (by rw [e2]; rfl), ResAtD (by rw [ee]; simp only [go_sem]) rfl rfl, trivial⟩
end Go.Proofs
