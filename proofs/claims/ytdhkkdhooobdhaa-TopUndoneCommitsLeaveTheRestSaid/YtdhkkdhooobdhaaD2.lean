/- Documents: contracts of the reference's carrying; bytes of texts; edits that are possible; their texts. -/
import Derived.Test.YtdhkkdhooobdhaaD1
set_option linter.unusedVariables false
set_option linter.unusedSimpArgs false
namespace Go.Proofs
open Go Go.Ideal
set_option maxRecDepth 8000
set_option maxHeartbeats 4000000

/-! ### The reference's carrying -/
theorem open_spec (a n : Int) (m : Mark) (hm : SmM m) (hn : Sm n) : Ideal.Spec Try.prog 78 [mkA m, .int .i64 a, .int .i64 n] (mkA (insM a n m)) none := by
  obtain ⟨⟨h1, h2⟩, h3, h4⟩ := hm
  obtain ⟨h5, h6⟩ := hn
  refine Ideal.Spec.of_CD (n := 28) (fn := Try.f78) rfl rfl rfl rfl rfl rfl rfl fun w ok => ?_
  refine T.post [.tmp 6] ?_
  refine T.sregD 28 [0, 1, 2, 3, 6, 10, 15] fun Kr hKr => ?_
  simp only [go_sem]
  (repeat (refine ⟨by (first | exact True.intro | omega | rfl | (simp; done) | (simp; omega)), ?_⟩)); try (refine hKr _ ?_; clear hKr Kr)
  refine T.seqK fun K1 hK1 => ?_
  refine T.sregD 28 [0, 1, 2, 3, 6, 10, 15] fun Kr hKr => ?_
  simp only [go_sem]
  (repeat (refine ⟨by (first | exact True.intro | omega | rfl | (simp; done) | (simp; omega)), ?_⟩)); try (refine hKr _ ?_; clear hKr Kr)
  refine T.condTD rfl rfl (fun hb => ?_) (fun hb => ?_) <;> simp at hb
  · have e : insM a n m = m := by simp [insM, hb]
    refine T.sregD 28 [0, 1, 2, 3, 6, 10, 15] fun Kr hKr => ?_
    simp only [go_sem]
    (repeat (refine ⟨by (first | exact True.intro | omega | rfl | (simp; done) | (simp; omega)), ?_⟩)); try (refine hKr _ ?_; clear hKr Kr)
    refine T.ret ?_
    simp only [go_sem]
    exact ⟨ResCellD rfl rfl rfl rfl (by simp only [go_sem]) (by simp only [go_sem, e]) rfl, trivial⟩
  have hb' : ¬ m.t ≤ a := by omega
  refine T.skip ?_
  refine hK1 _ ?_
  refine T.seqK fun K2 hK2 => ?_
  refine T.sregD 28 [0, 1, 2, 3, 6, 10, 15] fun Kr hKr => ?_
  simp only [go_sem]
  (repeat (refine ⟨by (first | exact True.intro | omega | rfl | (simp; done) | (simp; omega)), ?_⟩)); try (refine hKr _ ?_; clear hKr Kr)
  refine T.condTD rfl rfl (fun hc => ?_) (fun hc => ?_) <;> simp at hc
  · have hc' : ¬ m.f ≥ a := by omega
    have e : insM a n m = ⟨m.id, m.f, m.t + n, false⟩ := by simp [insM, hb', hc']
    refine T.regD 28 [0, 1, 2, 3, 6, 10, 15] fun Kr hKr => ?_
    simp only [go_sem]
    (repeat (refine ⟨by (first | exact True.intro | omega | rfl | (simp; done) | (simp; omega)), ?_⟩)); try (refine hKr _ ?_; clear hKr Kr)
    refine hK2 _ ?_
    refine T.sregD 28 [0, 1, 2, 3, 6, 10, 15] fun Kr hKr => ?_
    simp only [go_sem]
    (repeat (refine ⟨by (first | exact True.intro | omega | rfl | (simp; done) | (simp; omega)), ?_⟩)); try (refine hKr _ ?_; clear hKr Kr)
    refine T.sregD 28 [0, 1, 2, 3, 6, 10, 15] fun Kr hKr => ?_
    simp only [go_sem]
    (repeat (refine ⟨by (first | exact True.intro | omega | rfl | (simp; done) | (simp; omega)), ?_⟩)); try (refine hKr _ ?_; clear hKr Kr)
    refine T.ret ?_
    simp only [go_sem]
    exact ⟨ResCellD rfl rfl rfl rfl (by simp only [go_sem]) (by simp only [go_sem, e]) rfl, trivial⟩
  have e : insM a n m = ⟨m.id, m.f + n, m.t + n, m.w⟩ := by simp [insM, hb', hc]
  refine T.regD 28 [0, 1, 2, 3, 6, 10, 15] fun Kr hKr => ?_
  simp only [go_sem]
  (repeat (refine ⟨by (first | exact True.intro | omega | rfl | (simp; done) | (simp; omega)), ?_⟩)); try (refine hKr _ ?_; clear hKr Kr)
  refine hK2 _ ?_
  refine T.sregD 28 [0, 1, 2, 3, 6, 10, 15] fun Kr hKr => ?_
  simp only [go_sem]
  (repeat (refine ⟨by (first | exact True.intro | omega | rfl | (simp; done) | (simp; omega)), ?_⟩)); try (refine hKr _ ?_; clear hKr Kr)
  refine T.sregD 28 [0, 1, 2, 3, 6, 10, 15] fun Kr hKr => ?_
  simp only [go_sem]
  (repeat (refine ⟨by (first | exact True.intro | omega | rfl | (simp; done) | (simp; omega)), ?_⟩)); try (refine hKr _ ?_; clear hKr Kr)
  refine T.ret ?_
  simp only [go_sem]
  exact ⟨ResCellD rfl rfl rfl rfl (by simp only [go_sem]) (by simp only [go_sem, e]) rfl, trivial⟩
theorem shut_spec (p a n : Int) (hp : Sm p) (ha : Sm a) (hn : Sm n) : Ideal.Spec Try.prog 84 [.int .i64 p, .int .i64 a, .int .i64 n] (.int .i64 (shutP p a n)) none := by
  obtain ⟨h1, h2⟩ := hp
  obtain ⟨h3, h4⟩ := ha
  obtain ⟨h5, h6⟩ := hn
  refine Ideal.Spec.of_TD (n := 20) (fn := Try.f84) rfl rfl rfl rfl rfl rfl rfl fun w ok => ?_
  refine T.sregD 20 [0, 1, 2, 6, 9, 15] fun Kr hKr => ?_
  simp only [go_sem]
  (repeat (refine ⟨by (first | exact True.intro | omega | rfl | (simp; done) | (simp; omega)), ?_⟩)); try (refine hKr _ ?_; clear hKr Kr)
  refine T.seqK fun K1 hK1 => ?_
  refine T.sregD 20 [0, 1, 2, 6, 9, 15] fun Kr hKr => ?_
  simp only [go_sem]
  (repeat (refine ⟨by (first | exact True.intro | omega | rfl | (simp; done) | (simp; omega)), ?_⟩)); try (refine hKr _ ?_; clear hKr Kr)
  refine T.condTD rfl rfl (fun hb => ?_) (fun hb => ?_) <;> simp at hb
  · refine T.sregD 20 [0, 1, 2, 6, 9, 15] fun Kr hKr => ?_
    simp only [go_sem]
    (repeat (refine ⟨by (first | exact True.intro | omega | rfl | (simp; done) | (simp; omega)), ?_⟩)); try (refine hKr _ ?_; clear hKr Kr)
    refine T.ret (Fin.dataD (by simp [slook, shutP, hb]) rfl rfl)
  have hb' : ¬ p ≤ a := by omega
  refine T.skip ?_
  refine hK1 _ ?_
  refine T.seqK fun K2 hK2 => ?_
  refine T.sregD 20 [0, 1, 2, 6, 9, 15] fun Kr hKr => ?_
  simp only [go_sem]
  (repeat (refine ⟨by (first | exact True.intro | omega | rfl | (simp; done) | (simp; omega)), ?_⟩)); try (refine hKr _ ?_; clear hKr Kr)
  refine T.condTD rfl rfl (fun hc => ?_) (fun hc => ?_) <;> simp at hc
  · have hc' : p - a ≤ n := by omega
    refine T.sregD 20 [0, 1, 2, 6, 9, 15] fun Kr hKr => ?_
    simp only [go_sem]
    (repeat (refine ⟨by (first | exact True.intro | omega | rfl | (simp; done) | (simp; omega)), ?_⟩)); try (refine hKr _ ?_; clear hKr Kr)
    refine T.ret (Fin.dataD (by simp [slook, shutP, hb', hc']) rfl rfl)
  have hc' : ¬ p - a ≤ n := by omega
  refine T.skip ?_
  refine hK2 _ ?_
  refine T.sregD 20 [0, 1, 2, 6, 9, 15] fun Kr hKr => ?_
  simp only [go_sem]
  (repeat (refine ⟨by (first | exact True.intro | omega | rfl | (simp; done) | (simp; omega)), ?_⟩)); try (refine hKr _ ?_; clear hKr Kr)
  refine T.ret (Fin.dataD (by simp [slook, shutP, hb', hc']) rfl rfl)
theorem cond_and (b c : Bool) : (bif b then c else false) = (b && c) := by cases b <;> rfl
theorem cond_or (b c : Bool) : (bif b then true else c) = (b || c) := by cases b <;> rfl
theorem without_spec (a n : Int) (m : Mark) (hm : SmM m) (ha : Sm a) (hn : Sm n) : Ideal.Spec Try.prog 79 [mkA m, .int .i64 a, .int .i64 n] (mkA (delW a n m)) none := by
  have s1 := shut_spec m.f a n hm.1 ha hn
  have s2 := shut_spec m.t a n hm.2 ha hn
  obtain ⟨h1, h2⟩ := hm.1
  obtain ⟨h3, h4⟩ := hm.2
  obtain ⟨h5, h6⟩ := shutP_sm hm.1 ha hn
  obtain ⟨h7, h8⟩ := shutP_sm hm.2 ha hn
  refine Ideal.Spec.of_CD (n := 38) (fn := Try.f79) rfl rfl rfl rfl rfl rfl rfl fun w ok => ?_
  refine T.post [.tmp 6] ?_
  refine T.sregD 38 [0, 1, 2, 3, 6, 7] fun Kr hKr => ?_
  simp only [go_sem]
  (repeat (refine ⟨by (first | exact True.intro | omega | rfl | (simp; done) | (simp; omega)), ?_⟩)); try (refine hKr _ ?_; clear hKr Kr)
  refine T.sregD 38 [0, 1, 2, 3, 6, 7] fun Kr hKr => ?_
  simp only [go_sem]
  (repeat (refine ⟨by (first | exact True.intro | omega | rfl | (simp; done) | (simp; omega)), ?_⟩)); try (refine hKr _ ?_; clear hKr Kr)
  refine T.sdraw2D 38 [0, 1, 2, 3, 6, 7] (.take 0 (.take 2 (.take 3 (.take 5 (.take 7 (.take 8 (.two 1 (.two 4 (.one 6 (.take 10 (.one 9 (.one 11 (.take 12 (.one 13 .done)))))) 6 (.one 4 (.take 10 (.one 9 (.one 11 (.take 12 (.one 13 .done))))))) 6 (.one 1 (.one 4 (.take 10 (.one 9 (.one 11 (.take 12 (.one 13 .done)))))))))))))) [] rfl (by decide +kernel) (by decide +kernel) ?x1 ?h1 (fun Kr hKr => ?all1) ?rest1
  case all1 =>
    simp only [go_sem]
    (repeat (any_goals (first | exact hKr _ (.inl rfl) | exact hKr _ (.inr (by (repeat (first | exact True.intro | refine And.intro (by first | rfl | (simp [look]; done)) ?_)))) | ((first | refine CallK.dataA (s1) ?_ rfl ?_ | refine CallK.tupA (s1) ?_ ?_ | refine CallK.ownA (s1) ?_ ?_); (focus ((first | exact ArgsLe.refl | (repeat (first | exact True.intro | refine And.intro (by first | exact AvLe.refl | exact AvLe.loose | exact AvLe.nil | exact AvLe.nilT | exact AvLe.slk | (refine AvLe.agg ?_; exact ArgsLe.refl) | (refine AvLe.agg ?_; (repeat (first | exact True.intro | refine And.intro (by first | exact AvLe.refl | exact AvLe.loose | exact AvLe.nil | exact AvLe.nilT | exact AvLe.slk) ?_)))) ?_))); done)); simp only [go_sem]) | ((first | refine CallK.dataA (s2) ?_ rfl ?_ | refine CallK.tupA (s2) ?_ ?_ | refine CallK.ownA (s2) ?_ ?_); (focus ((first | exact ArgsLe.refl | (repeat (first | exact True.intro | refine And.intro (by first | exact AvLe.refl | exact AvLe.loose | exact AvLe.nil | exact AvLe.nilT | exact AvLe.slk | (refine AvLe.agg ?_; exact ArgsLe.refl) | (refine AvLe.agg ?_; (repeat (first | exact True.intro | refine And.intro (by first | exact AvLe.refl | exact AvLe.loose | exact AvLe.nil | exact AvLe.nilT | exact AvLe.slk) ?_)))) ?_))); done)); simp only [go_sem]) | (refine And.intro ?_ ?_) | (first | exact True.intro | omega | rfl | (simp; done) | (simp; omega)))))
    all_goals (first | exact hKr _ (.inl rfl) | exact hKr _ (.inr (by (repeat (first | exact True.intro | refine And.intro (by first | rfl | (simp [look]; done)) ?_)))))
  case rest1 =>
  refine T.sregD 38 [0, 1, 2, 3, 6, 7] fun Kr hKr => ?_
  simp only [go_sem]
  (repeat (refine ⟨by (first | exact True.intro | omega | rfl | (simp; done) | (simp; omega)), ?_⟩)); try (refine hKr _ ?_; clear hKr Kr)
  refine T.sregD 38 [0, 1, 2, 3, 6, 7] fun Kr hKr => ?_
  simp only [go_sem]
  (repeat (refine ⟨by (first | exact True.intro | omega | rfl | (simp; done) | (simp; omega)), ?_⟩)); try (refine hKr _ ?_; clear hKr Kr)
  refine T.ret ?_
  simp only [go_sem]
  exact ⟨ResCellD rfl rfl rfl rfl (by simp only [go_sem]) (by simp only [go_sem, cond_and, delW]) rfl, trivial⟩

def carR (e : Edit) (m : Mark) : Option Mark :=
  if e.k = 1 then some (insM e.a e.s.length m) else if e.k = 4 ∨ e.n = 0 then some m
  else if e.k = 3 ∧ m.f ≥ e.a ∧ m.t ≤ e.a + e.n then some ⟨m.id, m.f + e.t - e.a, m.t + e.t - e.a, m.w⟩
  else if (delW e.a e.n m).f = (delW e.a e.n m).t then none else if e.k = 3 then some (insM e.t e.n (delW e.a e.n m)) else some (delW e.a e.n m)
theorem carR_eq {e : Edit} {m : Mark} (hk : 1 ≤ e.k ∧ e.k ≤ 4) (hn : 0 ≤ e.n) (hm : m.f < m.t) : carR e m = carM e m := by
  unfold carR carM
  by_cases h1 : e.k = 1
  · rw [if_pos h1, if_pos h1]
  rw [if_neg h1, if_neg h1]
  have hmono : shutP m.f e.a e.n ≤ shutP m.t e.a e.n := by unfold shutP; (repeat' split) <;> omega
  by_cases h4 : e.k = 4
  · rw [if_pos (.inl h4), if_neg (by omega), if_neg (by omega)]
  by_cases hz : e.n = 0
  · rw [if_pos (.inr hz)]
    by_cases h2 : e.k = 2
    · rw [if_pos h2]
      have s : ∀ p, shutP p e.a 0 = p := by intro p; unfold shutP; (repeat' split) <;> omega
      rw [hz]
      have : ¬ m.t ≤ m.f := by omega
      simp [delM, delW, s, this]
    · rw [if_neg h2, if_neg (by omega)]
  rw [if_neg (by omega)]
  by_cases h2 : e.k = 2
  · rw [if_pos h2, if_neg (by omega)]
    simp only [delM]
    have e1 : (delW e.a e.n m).f = shutP m.f e.a e.n := rfl
    have e2 : (delW e.a e.n m).t = shutP m.t e.a e.n := rfl
    rw [e1, e2]
    by_cases hd : shutP m.f e.a e.n = shutP m.t e.a e.n
    · rw [if_pos hd, if_pos (by omega)]
    · rw [if_neg hd, if_neg (by omega), if_neg (by omega)]
  rw [if_neg h2]
  have h3 : e.k = 3 := by omega
  rw [if_pos (show e.k = 3 ∧ e.n > 0 by omega)]
  simp only [movM, delM]
  have e1 : (delW e.a e.n m).f = shutP m.f e.a e.n := rfl
  have e2 : (delW e.a e.n m).t = shutP m.t e.a e.n := rfl
  rw [e1, e2]
  by_cases hi : m.f ≥ e.a ∧ m.t - e.a ≤ e.n
  · rw [if_pos hi, if_pos (by omega)]
    congr 2 <;> omega
  · rw [if_neg hi, if_neg (by omega)]
    by_cases hd : shutP m.f e.a e.n = shutP m.t e.a e.n
    · rw [if_pos hd, if_pos (by omega)]
    · rw [if_neg hd, if_pos h3, if_neg (show ¬ shutP m.t e.a e.n ≤ shutP m.f e.a e.n by omega)]
theorem CarryR_spec (e : Edit) (m : Mark) (hm : SmM m) (he : SmW e) : Ideal.Spec Try.prog 64 [mkA m, editA e] (omA (carR e m)) none := by
  have so := open_spec e.a e.s.length m hm ⟨by omega, by have := he.2.2.2; omega⟩
  have sw := fun h1 => without_spec e.a e.n m hm he.1 (he.2.1 h1)
  have so2 := fun h1 => open_spec e.t e.n (delW e.a e.n m) ⟨shutP_sm hm.1 he.1 (he.2.1 h1), shutP_sm hm.2 he.1 (he.2.1 h1)⟩ (he.2.1 h1)
  obtain ⟨h1, h2⟩ := hm.1
  obtain ⟨h3, h4⟩ := hm.2
  obtain ⟨h5, h6⟩ := he.1
  refine Ideal.Spec.of_MD (n := 89) (fn := Try.f64) rfl rfl rfl rfl rfl rfl rfl fun w ok => ?_
  refine T.post [.tmp 4] ?_
  refine T.sregD 89 [0, 1, 2, 3, 4, 5, 6, 17, 27, 77, 81] fun Kr hKr => ?_
  simp only [go_sem]
  (repeat (refine ⟨by (first | exact True.intro | omega | rfl | (simp; done) | (simp; omega)), ?_⟩)); try (refine hKr _ ?_; clear hKr Kr)
  refine T.seqK fun K86 hK86 => ?_
  refine T.block ?_
  refine T.sregD 89 [0, 1, 2, 3, 4, 5, 6, 17, 27, 77, 81] fun Kr hKr => ?_
  simp only [go_sem]
  (repeat (refine ⟨by (first | exact True.intro | omega | rfl | (simp; done) | (simp; omega)), ?_⟩)); try (refine hKr _ ?_; clear hKr Kr)
  refine T.condTD rfl rfl (fun hb => ?_) (fun hb => ?_) <;> simp at hb
  · have ee : carR e m = some (insM e.a e.s.length m) := by simp only [carR]; rw [if_pos hb]
    refine T.sregD 89 [0, 1, 2, 3, 4, 5, 6, 17, 27, 77, 81] fun Kr hKr => ?_
    simp only [go_sem]
    (repeat (refine ⟨by (first | exact True.intro | omega | rfl | (simp; done) | (simp; omega)), ?_⟩)); try (refine hKr _ ?_; clear hKr Kr)
    refine CallK.data (fun _ => Spec.args (so) (by (first | exact ArgsLe.refl | (repeat (first | exact True.intro | refine And.intro (by first | exact AvLe.refl | exact AvLe.loose | exact AvLe.nil | exact AvLe.nilT | exact AvLe.slk | (refine AvLe.agg ?_; exact ArgsLe.refl) | (refine AvLe.agg ?_; (repeat (first | exact True.intro | refine And.intro (by first | exact AvLe.refl | exact AvLe.loose | exact AvLe.nil | exact AvLe.nilT | exact AvLe.slk) ?_)))) ?_))))) rfl ?_
    simp only [go_sem]
    (repeat (refine ⟨by (first | exact True.intro | omega | rfl | (simp; done) | (simp; omega)), ?_⟩)); try (refine hKr _ ?_; clear hKr Kr)
    refine T.ret ?_
    simp only [go_sem]
    exact ⟨ResCellD rfl rfl rfl rfl (by simp only [go_sem]) (by simp only [go_sem, ee]) rfl, ResAtD (by simp [slook, ee]) rfl rfl, trivial⟩
  obtain ⟨h7, h8⟩ := he.2.1 hb
  refine T.sregD 89 [0, 1, 2, 3, 4, 5, 6, 17, 27, 77, 81] fun Kr hKr => ?_
  simp only [go_sem]
  (repeat (refine ⟨by (first | exact True.intro | omega | rfl | (simp; done) | (simp; omega)), ?_⟩)); try (refine hKr _ ?_; clear hKr Kr)
  refine T.condTD rfl rfl (fun hc => ?_) (fun hc => ?_) <;> simp [Bool.cond_eq_ite] at hc
  · have ee : carR e m = some m := by simp only [carR]; rw [if_neg hb, if_pos (by omega)]
    refine T.sregD 89 [0, 1, 2, 3, 4, 5, 6, 17, 27, 77, 81] fun Kr hKr => ?_
    simp only [go_sem]
    (repeat (refine ⟨by (first | exact True.intro | omega | rfl | (simp; done) | (simp; omega)), ?_⟩)); try (refine hKr _ ?_; clear hKr Kr)
    refine T.ret ?_
    simp only [go_sem]
    exact ⟨ResCellD rfl rfl rfl rfl (by simp only [go_sem]) (by simp only [go_sem, ee]) rfl, ResAtD (by simp [slook, ee]) rfl rfl, trivial⟩
  refine T.sregD 89 [0, 1, 2, 3, 4, 5, 6, 17, 27, 77, 81] fun Kr hKr => ?_
  simp only [go_sem]
  (repeat (refine ⟨by (first | exact True.intro | omega | rfl | (simp; done) | (simp; omega)), ?_⟩)); try (refine hKr _ ?_; clear hKr Kr)
  refine T.condTD rfl rfl (fun hd => ?_) (fun hd => ?_) <;> simp [Bool.cond_eq_ite] at hd
  · have ee : carR e m = some ⟨m.id, m.f + e.t - e.a, m.t + e.t - e.a, m.w⟩ := by simp only [carR]; rw [if_neg hb, if_neg (by omega), if_pos (by omega)]
    obtain ⟨h9, h10⟩ := he.2.2.1 hd.1.1
    refine T.sdraw2D 89 [0, 1, 2, 3, 4, 5, 6, 17, 27, 77, 81] (.take 0 (.take 2 (.take 3 (.take 5 (.take 6 (.take 8 (.take 10 (.take 11 (.take 13 (.take 14 (.two 1 (.take 4 (.take 7 (.one 9 (.take 12 (.take 15 (.take 16 (.one 17 (.take 18 (.one 19 .done))))))))) 9 (.take 12 (.take 15 (.one 1 (.take 4 (.take 7 (.take 16 (.one 17 (.take 18 (.one 19 .done)))))))))))))))))))) [3] rfl (by decide +kernel) (by decide +kernel) ?x2 ?h2 (fun Kr hKr => ?all2) ?rest2
    case all2 =>
      simp only [go_sem]
      (repeat (any_goals (first | exact hKr _ (.inl rfl) | exact hKr _ (.inr (by (repeat (first | exact True.intro | refine And.intro (by first | rfl | (simp [look]; done)) ?_)))) | (refine And.intro ?_ ?_) | (first | exact True.intro | omega | rfl | (simp; done) | (simp; omega)))))
      all_goals (first | exact hKr _ (.inl rfl) | exact hKr _ (.inr (by (repeat (first | exact True.intro | refine And.intro (by first | rfl | (simp [look]; done)) ?_)))))
    case rest2 =>
    refine T.sregD 89 [0, 1, 2, 3, 4, 5, 6, 17, 27, 77, 81] fun Kr hKr => ?_
    simp only [go_sem]
    (repeat (refine ⟨by (first | exact True.intro | omega | rfl | (simp; done) | (simp; omega)), ?_⟩)); try (refine hKr _ ?_; clear hKr Kr)
    refine T.ret ?_
    simp only [go_sem]
    exact ⟨ResCellD rfl rfl rfl rfl (by simp only [go_sem]) (by simp only [go_sem, ee]) rfl, ResAtD (by simp [slook, ee]) rfl rfl, trivial⟩
  have e0 : carR e m = if (delW e.a e.n m).f = (delW e.a e.n m).t then none else if e.k = 3 then some (insM e.t e.n (delW e.a e.n m)) else some (delW e.a e.n m) := by
    simp only [carR]; rw [if_neg hb, if_neg (by omega), if_neg (by omega)]
  refine T.skip ?_
  refine hK86 _ ?_
  generalize delW e.a e.n m = m' at *
  refine T.sregD 89 [0, 1, 2, 3, 4, 5, 6, 17, 27, 77, 81] fun Kr hKr => ?_
  simp only [go_sem]
  (repeat (refine ⟨by (first | exact True.intro | omega | rfl | (simp; done) | (simp; omega)), ?_⟩)); try (refine hKr _ ?_; clear hKr Kr)
  refine CallK.data (fun _ => Spec.args (sw hb) (by (first | exact ArgsLe.refl | (repeat (first | exact True.intro | refine And.intro (by first | exact AvLe.refl | exact AvLe.loose | exact AvLe.nil | exact AvLe.nilT | exact AvLe.slk | (refine AvLe.agg ?_; exact ArgsLe.refl) | (refine AvLe.agg ?_; (repeat (first | exact True.intro | refine And.intro (by first | exact AvLe.refl | exact AvLe.loose | exact AvLe.nil | exact AvLe.nilT | exact AvLe.slk) ?_)))) ?_))))) rfl ?_
  simp only [go_sem]
  (repeat (refine ⟨by (first | exact True.intro | omega | rfl | (simp; done) | (simp; omega)), ?_⟩)); try (refine hKr _ ?_; clear hKr Kr)
  refine T.seqK fun K87 hK87 => ?_
  refine T.sregD 89 [0, 1, 2, 3, 4, 5, 6, 17, 27, 77, 81] fun Kr hKr => ?_
  simp only [go_sem]
  (repeat (refine ⟨by (first | exact True.intro | omega | rfl | (simp; done) | (simp; omega)), ?_⟩)); try (refine hKr _ ?_; clear hKr Kr)
  refine T.condTD rfl rfl (fun hx => ?_) (fun hx => ?_) <;> simp at hx
  · rw [if_pos hx] at e0
    refine T.sregD 89 [0, 1, 2, 3, 4, 5, 6, 17, 27, 77, 81] fun Kr hKr => ?_
    simp only [go_sem]
    (repeat (refine ⟨by (first | exact True.intro | omega | rfl | (simp; done) | (simp; omega)), ?_⟩)); try (refine hKr _ ?_; clear hKr Kr)
    refine T.ret ?_
    simp only [go_sem]
    exact ⟨ResCellD rfl rfl rfl rfl (by simp only [go_sem]) (by simp only [go_sem, e0, noMark]) rfl, ResAtD (by simp [slook, e0]) rfl rfl, trivial⟩
  rw [if_neg hx] at e0
  refine T.skip ?_
  refine hK87 _ ?_
  refine T.seqK fun K88 hK88 => ?_
  refine T.sregD 89 [0, 1, 2, 3, 4, 5, 6, 17, 27, 77, 81] fun Kr hKr => ?_
  simp only [go_sem]
  (repeat (refine ⟨by (first | exact True.intro | omega | rfl | (simp; done) | (simp; omega)), ?_⟩)); try (refine hKr _ ?_; clear hKr Kr)
  refine T.condTD rfl rfl (fun hy => ?_) (fun hy => ?_) <;> simp at hy
  · rw [if_pos hy] at e0
    refine T.regD 89 [0, 1, 2, 3, 4, 5, 6, 17, 27, 77, 81] fun Kr hKr => ?_
    simp only [go_sem]
    (repeat (refine ⟨by (first | exact True.intro | omega | rfl | (simp; done) | (simp; omega)), ?_⟩)); try (refine hKr _ ?_; clear hKr Kr)
    refine CallK.data (fun _ => Spec.args (so2 hb) (by (first | exact ArgsLe.refl | (repeat (first | exact True.intro | refine And.intro (by first | exact AvLe.refl | exact AvLe.loose | exact AvLe.nil | exact AvLe.nilT | exact AvLe.slk | (refine AvLe.agg ?_; exact ArgsLe.refl) | (refine AvLe.agg ?_; (repeat (first | exact True.intro | refine And.intro (by first | exact AvLe.refl | exact AvLe.loose | exact AvLe.nil | exact AvLe.nilT | exact AvLe.slk) ?_)))) ?_))))) rfl ?_
    simp only [go_sem]
    (repeat (refine ⟨by (first | exact True.intro | omega | rfl | (simp; done) | (simp; omega)), ?_⟩)); try (refine hKr _ ?_; clear hKr Kr)
    refine hK88 _ ?_
    refine T.sregD 89 [0, 1, 2, 3, 4, 5, 6, 17, 27, 77, 81] fun Kr hKr => ?_
    simp only [go_sem]
    (repeat (refine ⟨by (first | exact True.intro | omega | rfl | (simp; done) | (simp; omega)), ?_⟩)); try (refine hKr _ ?_; clear hKr Kr)
    refine T.ret ?_
    simp only [go_sem]
    exact ⟨ResCellD rfl rfl rfl rfl (by simp only [go_sem]) (by simp only [go_sem, e0]) rfl, ResAtD (by simp [slook, e0]) rfl rfl, trivial⟩
  rw [if_neg hy] at e0
  refine T.skip ?_
  refine hK88 _ ?_
  refine T.sregD 89 [0, 1, 2, 3, 4, 5, 6, 17, 27, 77, 81] fun Kr hKr => ?_
  simp only [go_sem]
  (repeat (refine ⟨by (first | exact True.intro | omega | rfl | (simp; done) | (simp; omega)), ?_⟩)); try (refine hKr _ ?_; clear hKr Kr)
  refine T.ret ?_
  simp only [go_sem]
  exact ⟨ResCellD rfl rfl rfl rfl (by simp only [go_sem]) (by simp only [go_sem, e0]) rfl, ResAtD (by simp [slook, e0]) rfl rfl, trivial⟩

/-! ### Bytes -/
def okB (c : UInt8) : Bool := !(decide ((c.toNat : Int) < 32) || decide ((c.toNat : Int) > 126))
def plainB (s : List UInt8) : Bool := s.all okB
theorem plain_step {s : List UInt8} {i : Nat} (h : i < s.length) (hp : plainB (s.take i) = true) (ho : okB (s.getD i 0) = true) : plainB (s.take (i + 1)) = true := by
  have : s.take (i + 1) = s.take i ++ [s.getD i 0] := by rw [List.take_add_one]; simp [List.getD, h]
  rw [this, plainB, List.all_append]
  simp only [plainB] at hp
  rw [hp]; simpa using ho
theorem plain_bad {s : List UInt8} {i : Nat} (h : i < s.length) (ho : okB (s.getD i 0) = false) : plainB s = false := by
  simp only [plainB, List.all_eq_false]
  exact ⟨s[i], List.getElem_mem h, by simpa [List.getD, h] using ho⟩
theorem printable_spec (s : List UInt8) (hl : s.length < 2 ^ 31) : Ideal.Spec Try.prog 70 [.str s] (.bool (plainB s)) none := by
  refine Ideal.Spec.of_TD (n := 20) (fn := Try.f70) rfl rfl rfl rfl rfl rfl rfl fun w ok => ?_
  refine T.sregD 20 [0, 2, 3, 5, 6, 7, 18] fun Kr hKr => ?_
  simp only [go_sem]
  (repeat (refine ⟨by (first | exact True.intro | omega | rfl | (simp; done) | (simp; omega)), ?_⟩)); try (refine hKr _ ?_; clear hKr Kr)
  refine T.seqK fun K93 hK93 => ?_
  refine T.sregD 20 [0, 2, 3, 5, 6, 7, 18] fun Kr hKr => ?_
  simp only [go_sem]
  (repeat (refine ⟨by (first | exact True.intro | omega | rfl | (simp; done) | (simp; omega)), ?_⟩)); try (refine hKr _ ?_; clear hKr Kr)
  refine T.bloop (fun i : Nat => ⟨dense 20 [(0, .str s), (5, .int .i64 s.length), (6, .int .i64 i)], []⟩) (fun i => i ≤ s.length ∧ plainB (s.take i) = true) (fun i => s.length - i) 0 ⟨by omega, rfl⟩ ?_ fun i hi => ?_
  · refine Le.fitS (by (repeat (first | exact DFit.nil | refine DFit.cons (by first | rfl | (simp [slook]; done) | (simp [slook]; omega)) ?_))) (by (repeat (first | exact True.intro | refine And.intro (by first | rfl | (simp [look]; done)) ?_)))
  obtain ⟨hi, hp⟩ := hi
  refine T.sregD 20 [0, 2, 3, 5, 6, 7, 18] fun Kr hKr => ?_
  simp only [go_sem]
  (repeat (refine ⟨by (first | exact True.intro | omega | rfl | (simp; done) | (simp; omega)), ?_⟩)); try (refine hKr _ ?_; clear hKr Kr)
  refine T.seqK fun K94 hK94 => ?_
  refine T.condFD rfl rfl (fun hb => ?_) (fun hb => ?_) <;> simp at hb
  · -- no: exit
    refine T.exit ?_
    simp only [if_true]
    refine hK93 _ ?_
    refine T.sregD 20 [0, 2, 3, 5, 6, 7, 18] fun Kr hKr => ?_
    simp only [go_sem]
    (repeat (refine ⟨by (first | exact True.intro | omega | rfl | (simp; done) | (simp; omega)), ?_⟩)); try (refine hKr _ ?_; clear hKr Kr)
    have : i = s.length := by omega
    subst this
    rw [List.take_length] at hp
    refine T.ret (Fin.dataD (by simp only [slook, hp]; rfl) rfl rfl)
  refine T.skip ?_
  refine hK94 _ ?_
  refine T.seqK fun K95 hK95 => ?_
  refine T.block ?_
  refine T.sregD 20 [0, 2, 3, 5, 6, 7, 18] fun Kr hKr => ?_
  simp only [go_sem]
  (repeat (refine ⟨by (first | exact True.intro | omega | rfl | (simp; done) | (simp; omega)), ?_⟩)); try (refine hKr _ ?_; clear hKr Kr)
  refine T.sregD 20 [0, 2, 3, 5, 6, 7, 18] fun Kr hKr => ?_
  simp only [go_sem, hb]
  (repeat (refine ⟨by (first | exact True.intro | omega | rfl | (simp; done) | (simp; omega)), ?_⟩)); try (refine hKr _ ?_; clear hKr Kr)
  refine T.condTD rfl rfl (fun hc => ?_) (fun hc => ?_) <;> simp only [cond_or] at hc
  · -- yes
    refine T.sregD 20 [0, 2, 3, 5, 6, 7, 18] fun Kr hKr => ?_
    simp only [go_sem]
    (repeat (refine ⟨by (first | exact True.intro | omega | rfl | (simp; done) | (simp; omega)), ?_⟩)); try (refine hKr _ ?_; clear hKr Kr)
    have : plainB s = false := plain_bad hb (by simp only [okB]; rw [Bool.not_eq_false']; simpa using hc)
    refine T.ret (Fin.dataD (by simp only [slook, this]; rfl) rfl rfl)
  refine T.skip ?_
  refine hK95 _ ?_
  refine T.regD 20 [0, 2, 3, 5, 6, 7, 18] fun Kr hKr => ?_
  simp only [go_sem]
  (repeat (refine ⟨by (first | exact True.intro | omega | rfl | (simp; done) | (simp; omega)), ?_⟩)); try (refine hKr _ ?_; clear hKr Kr)
  refine ⟨i + 1, ?_, ?_, Le.fitS (by (repeat (first | exact DFit.nil | refine DFit.cons (by first | rfl | (simp [slook]; done) | (simp [slook]; omega)) ?_))) ?_⟩
  · exact ⟨by omega, plain_step hb hp (by simp only [okB]; rw [Bool.not_eq_true']; simpa using hc)⟩
  · omega
  · (repeat (first | exact True.intro | refine And.intro (by first | rfl | (simp [look]; done)) ?_))
def inB (n lo hi : Int) : Bool := decide (n ≥ lo) && decide (n ≤ hi)
theorem In_spec (n lo hi : Int) : Ideal.Spec Try.prog 66 [.int .i64 n, .int .i64 lo, .int .i64 hi] (.bool (inB n lo hi)) none := by
  refine Ideal.Spec.of_TD (n := 15) (fn := Try.f66) rfl rfl rfl rfl rfl rfl rfl fun w ok => ?_
  refine T.sregD 15 [0, 1, 2, 6] fun Kr hKr => ?_
  simp only [go_sem]
  (repeat (refine ⟨by (first | exact True.intro | omega | rfl | (simp; done) | (simp; omega)), ?_⟩)); try (refine hKr _ ?_; clear hKr Kr)
  refine T.sregD 15 [0, 1, 2, 6] fun Kr hKr => ?_
  simp only [go_sem]
  (repeat (refine ⟨by (first | exact True.intro | omega | rfl | (simp; done) | (simp; omega)), ?_⟩)); try (refine hKr _ ?_; clear hKr Kr)
  refine T.ret (Fin.dataD (by simp only [slook, inB, cond_and]; rfl) rfl rfl)
theorem Plain_spec (s : List UInt8) (lo up : Int) (hl : s.length < 2 ^ 31) : Ideal.Spec Try.prog 89 [.str s, .int .i64 lo, .int .i64 up] (.bool (plainB s && inB s.length lo up)) none := by
  refine Ideal.Spec.of_TD (n := 29) (fn := Try.f89) rfl rfl rfl rfl rfl rfl rfl fun w ok => ?_
  refine T.sregD 29 [0, 1, 2, 6, 7, 11, 23] fun Kr hKr => ?_
  simp only [go_sem]
  (repeat (refine ⟨by (first | exact True.intro | omega | rfl | (simp; done) | (simp; omega)), ?_⟩)); try (refine hKr _ ?_; clear hKr Kr)
  refine T.seqK fun K93 hK93 => ?_
  refine T.sregD 29 [0, 1, 2, 6, 7, 11, 23] fun Kr hKr => ?_
  simp only [go_sem]
  (repeat (refine ⟨by (first | exact True.intro | omega | rfl | (simp; done) | (simp; omega)), ?_⟩)); try (refine hKr _ ?_; clear hKr Kr)
  refine T.bloop (fun i : Nat => ⟨dense 29 [(0, .str s), (1, .int .i64 lo), (2, .int .i64 up), (7, .int .i64 i)], []⟩) (fun i => i ≤ s.length ∧ plainB (s.take i) = true) (fun i => s.length - i) 0 ⟨by omega, rfl⟩ ?_ fun i hi => ?_
  · refine Le.fitS (by (repeat (first | exact DFit.nil | refine DFit.cons (by first | rfl | (simp [slook]; done) | (simp [slook]; omega)) ?_))) (by (repeat (first | exact True.intro | refine And.intro (by first | rfl | (simp [look]; done)) ?_)))
  obtain ⟨hi, hp⟩ := hi
  refine T.seqK fun K94 hK94 => ?_
  refine T.sregD 29 [0, 1, 2, 6, 7, 11, 23] fun Kr hKr => ?_
  simp only [go_sem]
  (repeat (refine ⟨by (first | exact True.intro | omega | rfl | (simp; done) | (simp; omega)), ?_⟩)); try (refine hKr _ ?_; clear hKr Kr)
  refine T.condFD rfl rfl (fun hb => ?_) (fun hb => ?_) <;> simp at hb
  · -- no: exit
    refine T.exit ?_
    simp only [if_true]
    refine hK93 _ ?_
    have : i = s.length := by omega
    subst this
    rw [List.take_length] at hp
    refine T.sregD 29 [0, 1, 2, 6, 7, 11, 23] fun Kr hKr => ?_
    simp only [go_sem]
    (repeat (refine ⟨by (first | exact True.intro | omega | rfl | (simp; done) | (simp; omega)), ?_⟩)); try (refine hKr _ ?_; clear hKr Kr)
    refine CallK.data (fun _ => Spec.args (In_spec s.length lo up) (by (first | exact ArgsLe.refl | (repeat (first | exact True.intro | refine And.intro (by first | exact AvLe.refl | exact AvLe.loose | exact AvLe.nil | exact AvLe.nilT | exact AvLe.slk | (refine AvLe.agg ?_; exact ArgsLe.refl) | (refine AvLe.agg ?_; (repeat (first | exact True.intro | refine And.intro (by first | exact AvLe.refl | exact AvLe.loose | exact AvLe.nil | exact AvLe.nilT | exact AvLe.slk) ?_)))) ?_))))) rfl ?_
    simp only [go_sem]
    (repeat (refine ⟨by (first | exact True.intro | omega | rfl | (simp; done) | (simp; omega)), ?_⟩)); try (refine hKr _ ?_; clear hKr Kr)
    refine T.ret (Fin.dataD (by simp only [slook, hp]; rfl) rfl rfl)
  refine T.skip ?_
  refine hK94 _ ?_
  refine T.seqK fun K95 hK95 => ?_
  refine T.block ?_
  refine T.sregD 29 [0, 1, 2, 6, 7, 11, 23] fun Kr hKr => ?_
  simp only [go_sem, hb]
  (repeat (refine ⟨by (first | exact True.intro | omega | rfl | (simp; done) | (simp; omega)), ?_⟩)); try (refine hKr _ ?_; clear hKr Kr)
  refine T.condTD rfl rfl (fun hc => ?_) (fun hc => ?_) <;> simp only [cond_or] at hc
  · -- yes
    refine T.sregD 29 [0, 1, 2, 6, 7, 11, 23] fun Kr hKr => ?_
    simp only [go_sem]
    (repeat (refine ⟨by (first | exact True.intro | omega | rfl | (simp; done) | (simp; omega)), ?_⟩)); try (refine hKr _ ?_; clear hKr Kr)
    have : plainB s = false := plain_bad hb (by simp only [okB]; rw [Bool.not_eq_false']; simpa using hc)
    refine T.ret (Fin.dataD (by simp only [slook, this]; rfl) rfl rfl)
  refine T.skip ?_
  refine hK95 _ ?_
  refine T.regD 29 [0, 1, 2, 6, 7, 11, 23] fun Kr hKr => ?_
  simp only [go_sem]
  (repeat (refine ⟨by (first | exact True.intro | omega | rfl | (simp; done) | (simp; omega)), ?_⟩)); try (refine hKr _ ?_; clear hKr Kr)
  refine ⟨i + 1, ?_, ?_, Le.fitS (by (repeat (first | exact DFit.nil | refine DFit.cons (by first | rfl | (simp [slook]; done) | (simp [slook]; omega)) ?_))) ?_⟩
  · exact ⟨by omega, plain_step hb hp (by simp only [okB]; rw [Bool.not_eq_true']; simpa using hc)⟩
  · omega
  · (repeat (first | exact True.intro | refine And.intro (by first | rfl | (simp [look]; done)) ?_))
end Go.Proofs
