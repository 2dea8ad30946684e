/- Undo: contracts of the reference: places, edits without a mark, commits, doing a step. -/
import Derived.Test.YtdhkkdhooobdhaaU5
import Derived.Test.YtdhkkdhooobdhaaD7
set_option linter.unusedVariables false
set_option linter.unusedSimpArgs false
namespace Go.Proofs
open Go Go.Ideal
set_option maxRecDepth 8000
set_option maxHeartbeats 4000000

def plaF (q : Int) (m : Mark) : Int := if q ≤ m.f then q else max m.f (q - (m.t - m.f))
theorem plaF_wo {q : Int} {m : Mark} (h : m.f ≤ m.t) : plaF q m = woF m q := by
  unfold plaF woF
  split
  · rfl
  · split <;> omega
theorem place_spec (q : Int) (m : Mark) (hm : SmM m) (hq : 0 ≤ q ∧ q ≤ 1000000) : Ideal.Spec Try.prog 77 [.int .i64 q, mkA m] (.int .i64 (plaF q m)) none := by
  obtain ⟨⟨h1, h2⟩, h3, h4⟩ := hm
  obtain ⟨h5, h6⟩ := hq
  refine Ideal.Spec.of_TD (n := 20) (fn := Try.f77) rfl rfl rfl rfl rfl rfl rfl fun w ok => ?_
  refine T.sregD 20 [0, 1, 3, 4, 8] fun Kr hKr => ?_
  simp only [go_sem]
  (repeat (refine ⟨by (first | exact True.intro | omega | rfl | (simp; done) | (simp; omega)), ?_⟩)); try (refine hKr _ ?_; clear hKr Kr)
  refine T.seqK fun K132 hK132 => ?_
  refine T.sregD 20 [0, 1, 3, 4, 8] fun Kr hKr => ?_
  simp only [go_sem]
  (repeat (refine ⟨by (first | exact True.intro | omega | rfl | (simp; done) | (simp; omega)), ?_⟩)); try (refine hKr _ ?_; clear hKr Kr)
  refine T.condTD rfl rfl (fun hb => ?_) (fun hb => ?_) <;> simp at hb
  · -- yes
    have e : plaF q m = q := by simp [plaF, hb]
    refine T.sregD 20 [0, 1, 3, 4, 8] fun Kr hKr => ?_
    simp only [go_sem]
    (repeat (refine ⟨by (first | exact True.intro | omega | rfl | (simp; done) | (simp; omega)), ?_⟩)); try (refine hKr _ ?_; clear hKr Kr)
    refine T.ret (Fin.dataD (by rw [e]; rfl) rfl rfl)
  have e : plaF q m = max m.f (q - (m.t - m.f)) := by unfold plaF; rw [if_neg (by omega)]
  refine T.skip ?_
  refine hK132 _ ?_
  refine T.sregD 20 [0, 1, 3, 4, 8] fun Kr hKr => ?_
  simp only [go_sem]
  (repeat (refine ⟨by (first | exact True.intro | omega | rfl | (simp; done) | (simp; omega)), ?_⟩)); try (refine hKr _ ?_; clear hKr Kr)
  have e2 : (if q - (m.t - m.f) > m.f then q - (m.t - m.f) else m.f) = plaF q m := by rw [e]; split <;> omega
  refine T.ret (Fin.dataD (by rw [← e2]; rfl) rfl rfl)
def applyX (s : Stp) (r : Doc × Int) : AV := if ¬ s.id < 0 ∧ s.e.k ≠ 1 then .agg [.str [], .sl true 1 []] else docA r.1
theorem applyX_fin (s : Stp) (r : Doc × Int) : (applyX s r).fin = true := by unfold applyX; split <;> rfl
theorem applyX_le (s : Stp) (r : Doc × Int) (h : ¬ s.id < 0 ∧ s.e.k ≠ 1 → r = (noDoc, 290)) : AvLe (applyX s r) (docA r.1) := by
  unfold applyX
  split
  · rename_i h1; rw [h h1]; exact AvLe.agg ⟨AvLe.refl, AvLe.nil, trivial⟩
  · exact AvLe.refl
theorem apply_spec (d : Doc) (s : Stp) (hd : OkD d) (hl : s.e.s.length ≤ 100000) : Ideal.Spec Try.prog 67 [docA d, stA s]
    (.tup [docA (if s.id < 0 then doF d s.e else if s.e.k ≠ 1 then (noDoc, 290) else putF d s.id s.e.a s.e.s).1, .int .i64 (if s.id < 0 then doF d s.e else if s.e.k ≠ 1 then (noDoc, 290) else putF d s.id s.e.a s.e.s).2]) none := by
  have s1 := DoR_spec d s.e hd hl
  have s2 := PutR_spec d s.id s.e.a s.e.s hd hl
  generalize hR : (if s.id < 0 then doF d s.e else if s.e.k ≠ 1 then (noDoc, 290) else putF d s.id s.e.a s.e.s) = R
  refine Spec.weakT (rs := [applyX s R, .int .i64 R.2]) ?_ (by simp [applyX_fin]; rfl) rfl ⟨applyX_le s R (fun h => by rw [← hR, if_neg h.1, if_pos h.2]), AvLe.refl, trivial⟩
  refine Ideal.Spec.of_MD (n := 33) (fn := Try.f67) rfl rfl rfl rfl (by simp [applyX_fin]; rfl) rfl rfl fun w ok => ?_
  refine T.post [.tmp 4] ?_
  refine T.sregD 33 [0, 1, 2, 3, 4, 5, 8, 18] fun Kr hKr => ?_
  simp only [go_sem]
  (repeat (refine ⟨by (first | exact True.intro | omega | rfl | (simp; done) | (simp; omega)), ?_⟩)); try (refine hKr _ ?_; clear hKr Kr)
  refine T.seqK fun K132 hK132 => ?_
  refine T.sregD 33 [0, 1, 2, 3, 4, 5, 8, 18] fun Kr hKr => ?_
  simp only [go_sem]
  (repeat (refine ⟨by (first | exact True.intro | omega | rfl | (simp; done) | (simp; omega)), ?_⟩)); try (refine hKr _ ?_; clear hKr Kr)
  refine T.condTD rfl rfl (fun hb => ?_) (fun hb => ?_) <;> simp at hb
  · -- yes
    rw [if_pos hb] at hR
    rw [hR] at s1
    have e2 : applyX s R = .agg [.str R.1.s, .sl false 4 (mksOf R.1.m)] := by unfold applyX; rw [if_neg (by omega)]; rfl
    refine T.sregD 33 [0, 1, 2, 3, 4, 5, 8, 18] fun Kr hKr => ?_
    simp only [go_sem]
    (repeat (refine ⟨by (first | exact True.intro | omega | rfl | (simp; done) | (simp; omega)), ?_⟩)); try (refine hKr _ ?_; clear hKr Kr)
    refine CallK.tup (fun _ => Spec.args (s1) (by (first | exact ArgsLe.refl | (repeat (first | exact True.intro | refine And.intro (by first | exact AvLe.refl | exact AvLe.loose | exact AvLe.nil | exact AvLe.nilT | exact AvLe.slk | (refine AvLe.agg ?_; exact ArgsLe.refl) | (refine AvLe.agg ?_; (repeat (first | exact True.intro | refine And.intro (by first | exact AvLe.refl | exact AvLe.loose | exact AvLe.nil | exact AvLe.nilT | exact AvLe.slk) ?_)))) ?_))))) ?_
    simp only [go_sem]
    (repeat (refine ⟨by (first | exact True.intro | omega | rfl | (simp; done) | (simp; omega)), ?_⟩)); try (refine hKr _ ?_; clear hKr Kr)
    refine T.ret ?_
    simp only [go_sem]
    exact ⟨ResCellD rfl rfl rfl rfl (by simp only [go_sem]) (by rw [e2]; simp only [go_sem]) (by rw [e2]; rfl), ResAtD (by simp only [go_sem]) rfl rfl, trivial⟩
  rw [if_neg (by omega)] at hR
  refine T.skip ?_
  refine hK132 _ ?_
  refine T.seqK fun K133 hK133 => ?_
  refine T.sregD 33 [0, 1, 2, 3, 4, 5, 8, 18] fun Kr hKr => ?_
  simp only [go_sem]
  (repeat (refine ⟨by (first | exact True.intro | omega | rfl | (simp; done) | (simp; omega)), ?_⟩)); try (refine hKr _ ?_; clear hKr Kr)
  refine T.condTD rfl rfl (fun hc => ?_) (fun hc => ?_) <;> simp at hc
  · -- yes
    rw [if_pos hc] at hR
    have e2 : applyX s R = .agg [.str [], .sl true 1 []] := by unfold applyX; rw [if_pos (by omega)]
    refine T.sregD 33 [0, 1, 2, 3, 4, 5, 8, 18] fun Kr hKr => ?_
    simp only [go_sem]
    (repeat (refine ⟨by (first | exact True.intro | omega | rfl | (simp; done) | (simp; omega)), ?_⟩)); try (refine hKr _ ?_; clear hKr Kr)
    refine T.ret ?_
    simp only [go_sem]
    exact ⟨ResCellD rfl rfl rfl rfl (by simp only [go_sem]) (by rw [e2]; simp only [go_sem]) (by rw [e2]; rfl), ResAtD (by rw [← hR]; simp only [go_sem]) rfl rfl, trivial⟩
  rw [if_neg (by omega)] at hR
  rw [hR] at s2
  have e2 : applyX s R = .agg [.str R.1.s, .sl false 4 (mksOf R.1.m)] := by unfold applyX; rw [if_neg (by omega)]; rfl
  refine T.skip ?_
  refine hK133 _ ?_
  refine T.sregD 33 [0, 1, 2, 3, 4, 5, 8, 18] fun Kr hKr => ?_
  simp only [go_sem]
  (repeat (refine ⟨by (first | exact True.intro | omega | rfl | (simp; done) | (simp; omega)), ?_⟩)); try (refine hKr _ ?_; clear hKr Kr)
  refine CallK.tup (fun _ => Spec.args (s2) (by (first | exact ArgsLe.refl | (repeat (first | exact True.intro | refine And.intro (by first | exact AvLe.refl | exact AvLe.loose | exact AvLe.nil | exact AvLe.nilT | exact AvLe.slk | (refine AvLe.agg ?_; exact ArgsLe.refl) | (refine AvLe.agg ?_; (repeat (first | exact True.intro | refine And.intro (by first | exact AvLe.refl | exact AvLe.loose | exact AvLe.nil | exact AvLe.nilT | exact AvLe.slk) ?_)))) ?_))))) ?_
  simp only [go_sem]
  (repeat (refine ⟨by (first | exact True.intro | omega | rfl | (simp; done) | (simp; omega)), ?_⟩)); try (refine hKr _ ?_; clear hKr Kr)
  refine T.ret ?_
  simp only [go_sem]
  exact ⟨ResCellD rfl rfl rfl rfl (by simp only [go_sem]) (by rw [e2]; simp only [go_sem]) (by rw [e2]; rfl), ResAtD (by simp only [go_sem]) rfl rfl, trivial⟩

/-! ### Doing a step -/
theorem doU_app (p : Past) (s : Stp) : doU p s = if s.app < 0 ∨ s.app ≥ p.docs.length ∨ s.und = true ∨ s.id < -1 then (noPast, 1)
    else if (p.st.length : Int) ≥ 400 then (noPast, 2)
    else if s.id ≥ 0 ∧ hasS p.st s.id = true then (noPast, 290)
    else if (if s.id < 0 then doF (p.docs.getD s.app.toNat default) s.e else if s.e.k ≠ 1 then (noDoc, 290) else putF (p.docs.getD s.app.toNat default) s.id s.e.a s.e.s).2 ≠ 0
      then (noPast, (if s.id < 0 then doF (p.docs.getD s.app.toNat default) s.e else if s.e.k ≠ 1 then (noDoc, 290) else putF (p.docs.getD s.app.toNat default) s.id s.e.a s.e.s).2)
    else (⟨p.docs.set s.app.toNat (if s.id < 0 then doF (p.docs.getD s.app.toNat default) s.e else if s.e.k ≠ 1 then (noDoc, 290) else putF (p.docs.getD s.app.toNat default) s.id s.e.a s.e.s).1, p.st ++ [s]⟩, 0) := by
  unfold doU actF
  by_cases h1 : s.app < 0 ∨ s.app ≥ p.docs.length ∨ s.und = true ∨ s.id < -1
  · rw [if_pos h1, if_pos h1]
  rw [if_neg h1, if_neg h1]
  by_cases h2 : (p.st.length : Int) ≥ 400
  · rw [if_pos h2, if_pos h2]
  rw [if_neg h2, if_neg h2]
  by_cases h3 : s.id < 0
  · have g : ¬ s.id ≥ 0 := by omega
    simp only [g, h3, false_and, if_false, if_true]
  have g : s.id ≥ 0 := by omega
  simp only [g, h3, true_and, if_false, if_true]
  cases h5 : hasS p.st s.id with
  | true => simp
  | false =>
    by_cases h4 : s.e.k = 1
    · simp [h4]
    · simp [h4]
theorem DoR_spec_U (p : Past) (s : Stp) (hp : OkP p) (hl : s.e.s.length ≤ 100000) : Ideal.Spec Try.prog 46 [pastA p, stA s] (.tup [pastA (doU p s).1, .int .i64 (doU p s).2]) none := by
  have h1 := hp.dl
  have h2 := hp.sl
  have eD := doU_app p s
  have sI := In_spec s.app 0 (p.docs.length - 1)
  refine Spec.weakT (rs := [pastX (doU p s), .int .i64 (doU p s).2]) ?_ (by simp [pastX_fin]; rfl) rfl ⟨pastX_le _ (doU_no p s), AvLe.refl, trivial⟩
  refine Ideal.Spec.of_MD (n := 92) (fn := Try.f46) rfl rfl rfl rfl (by simp [pastX_fin]; rfl) rfl rfl fun w ok => ?_
  refine T.post [.tmp 4] ?_
  refine T.sregD 92 [0, 1, 2, 3, 4, 5, 6, 7, 8, 9, 26, 31, 37, 53, 67] fun Kr hKr => ?_
  simp only [go_sem]
  (repeat (refine ⟨by (first | exact True.intro | omega | rfl | (simp; done) | (simp; omega)), ?_⟩)); try (refine hKr _ ?_; clear hKr Kr)
  refine T.seqK fun K114 hK114 => ?_
  refine T.sregD 92 [0, 1, 2, 3, 4, 5, 6, 7, 8, 9, 26, 31, 37, 53, 67] fun Kr hKr => ?_
  simp only [go_sem]
  (repeat (refine ⟨by (first | exact True.intro | omega | rfl | (simp; done) | (simp; omega)), ?_⟩)); try (refine hKr _ ?_; clear hKr Kr)
  refine CallK.data (fun _ => Spec.args (sI) (by (first | exact ArgsLe.refl | (repeat (first | exact True.intro | refine And.intro (by first | exact AvLe.refl | exact AvLe.loose | exact AvLe.nil | exact AvLe.nilT | exact AvLe.slk | (refine AvLe.agg ?_; exact ArgsLe.refl) | (refine AvLe.agg ?_; (repeat (first | exact True.intro | refine And.intro (by first | exact AvLe.refl | exact AvLe.loose | exact AvLe.nil | exact AvLe.nilT | exact AvLe.slk) ?_)))) ?_))))) rfl ?_
  simp only [go_sem, cond_or]
  (repeat (refine ⟨by (first | exact True.intro | omega | rfl | (simp; done) | (simp; omega)), ?_⟩)); try (refine hKr _ ?_; clear hKr Kr)
  refine T.condTD rfl rfl (fun hb => ?_) (fun hb => ?_) <;> simp only [inB, Bool.or_eq_true, Bool.or_eq_false_iff, decide_eq_true_eq, decide_eq_false_iff_not, Bool.not_eq_true', Bool.not_eq_false', Bool.and_eq_true, Bool.and_eq_false_iff] at hb
  · -- yes
    have ee : doU p s = (noPast, 1) := by rw [eD, if_pos (by rcases hb with (h | h) | h <;> first | omega | simp [h])]
    have e2 : pastX (doU p s) = .agg [.sl true 1 [], .sl true 1 []] := by rw [ee]; rfl
    refine T.sregD 92 [0, 1, 2, 3, 4, 5, 6, 7, 8, 9, 26, 31, 37, 53, 67] fun Kr hKr => ?_
    simp only [go_sem]
    (repeat (refine ⟨by (first | exact True.intro | omega | rfl | (simp; done) | (simp; omega)), ?_⟩)); try (refine hKr _ ?_; clear hKr Kr)
    refine T.ret ?_
    simp only [go_sem]
    exact ⟨ResCellD rfl rfl rfl rfl (by simp only [go_sem]) (by rw [e2]; simp only [go_sem]) (by rw [e2]; rfl), ResAtD (by rw [ee]; rfl) rfl rfl, trivial⟩
  obtain ⟨⟨⟨b1, b2⟩, b3⟩, b4⟩ := hb
  rw [if_neg (by rw [b3]; simp; omega)] at eD
  refine T.skip ?_
  refine hK114 _ ?_
  refine T.seqK fun K115 hK115 => ?_
  refine T.sregD 92 [0, 1, 2, 3, 4, 5, 6, 7, 8, 9, 26, 31, 37, 53, 67] fun Kr hKr => ?_
  simp only [go_sem]
  (repeat (refine ⟨by (first | exact True.intro | omega | rfl | (simp; done) | (simp; omega)), ?_⟩)); try (refine hKr _ ?_; clear hKr Kr)
  refine T.condTD rfl rfl (fun hc => ?_) (fun hc => ?_) <;> simp at hc
  · -- yes
    have ee : doU p s = (noPast, 2) := by rw [eD, if_pos (by omega)]
    have e2 : pastX (doU p s) = .agg [.sl true 1 [], .sl true 1 []] := by rw [ee]; rfl
    refine T.sregD 92 [0, 1, 2, 3, 4, 5, 6, 7, 8, 9, 26, 31, 37, 53, 67] fun Kr hKr => ?_
    simp only [go_sem]
    (repeat (refine ⟨by (first | exact True.intro | omega | rfl | (simp; done) | (simp; omega)), ?_⟩)); try (refine hKr _ ?_; clear hKr Kr)
    refine T.ret ?_
    simp only [go_sem]
    exact ⟨ResCellD rfl rfl rfl rfl (by simp only [go_sem]) (by rw [e2]; simp only [go_sem]) (by rw [e2]; rfl), ResAtD (by rw [ee]; rfl) rfl rfl, trivial⟩
  rw [if_neg (by omega)] at eD
  refine T.skip ?_
  refine hK115 _ ?_
  obtain ⟨n, hna⟩ : ∃ n : Nat, s.app = n := ⟨s.app.toNat, by omega⟩
  have hn : n < p.docs.length := by omega
  rw [hna] at eD
  simp only [Int.toNat_natCast] at eD
  have hdd : OkD (p.docs.getD n default) := hp.docs _ (by simp [List.getD, hn])
  have sA := apply_spec (p.docs.getD n default) s hdd hl
  generalize (if s.id < 0 then doF (p.docs.getD n default) s.e else if s.e.k ≠ 1 then (noDoc, 290) else putF (p.docs.getD n default) s.id s.e.a s.e.s) = R at *
  rw [stA, hna] at sA
  refine T.seqK fun K116 hK116 => ?_
  refine T.sregD 92 [0, 1, 2, 3, 4, 5, 6, 7, 8, 9, 26, 31, 37, 53, 67] fun Kr hKr => ?_
  simp only [go_sem]
  (repeat (refine ⟨by (first | exact True.intro | omega | rfl | (simp; done) | (simp; omega)), ?_⟩)); try (refine hKr _ ?_; clear hKr Kr)
  refine T.bloop (fun i : Nat => ⟨dense 92 [(2, .op 2 0 0), (3, .op 3 0 0), (4, .op 4 0 0), (6, .int .i64 i)], [(4, ⟨2, 33, true, [.agg [.sl true 1 [], .sl true 1 []]]⟩), (3, ⟨8, 51, true, [stA s]⟩), (2, ⟨2, 33, true, [pastA p]⟩)]⟩)
    (fun i => i ≤ p.st.length ∧ (s.id ≥ 0 → (p.st.take i).any (fun x => decide (x.id = s.id)) = false)) (fun i => p.st.length - i) 0 (by simp) ?_ fun i hi => ?_
  · refine Le.fitS (by (repeat (first | exact DFit.nil | refine DFit.cons (by first | rfl | (simp [slook]; done) | (simp [slook]; omega)) ?_))) (by (repeat (first | exact True.intro | refine And.intro (by first | rfl | (simp [look]; done)) ?_)))
  obtain ⟨hi, hf⟩ := hi
  refine T.seqK fun K117 hK117 => ?_
  refine T.sregD 92 [0, 1, 2, 3, 4, 5, 6, 7, 8, 9, 26, 31, 37, 53, 67] fun Kr hKr => ?_
  simp only [go_sem]
  (repeat (refine ⟨by (first | exact True.intro | omega | rfl | (simp; done) | (simp; omega)), ?_⟩)); try (refine hKr _ ?_; clear hKr Kr)
  refine T.condFD rfl rfl (fun hb => ?_) (fun hb => ?_) <;> simp at hb
  · -- no: exit
    refine T.exit ?_
    simp only [if_true]
    refine hK116 _ ?_
    have : i = p.st.length := by omega
    subst this
    rw [List.take_length] at hf
    rw [if_neg (by rintro ⟨h3, h4⟩; have := hf h3; unfold hasS at h4; rw [this] at h4; cases h4)] at eD
    refine T.sdraw2D 92 [0, 1, 2, 3, 4, 5, 6, 7, 8, 9, 26, 31, 37, 53, 67] (.take 0 (.take 1 (.take 2 (.take 3 (.take 4 (.take 5 (.take 6 (.two 7 (.take 8 (.take 9 (.take 10 (.one 11 (.one 12 (.take 13 .done)))))) 11 (.one 7 (.take 8 (.take 9 (.take 10 (.one 12 (.take 13 .done)))))))))))))) [2, 3] rfl (by decide +kernel) (by decide +kernel) ?x1 ?h1 (fun Kr hKr => ?all1) ?rest1
    case all1 =>
      simp only [go_sem, hna, hn]
      (repeat (any_goals (first | exact hKr _ (.inl rfl) | exact hKr _ (.inr (by (repeat (first | exact True.intro | refine And.intro (by first | rfl | (simp [look]; done)) ?_)))) | ((first | refine CallK.dataA (sA) ?_ rfl ?_ | refine CallK.tupA (sA) ?_ ?_ | refine CallK.ownA (sA) ?_ ?_); (focus ((first | exact ArgsLe.refl | (repeat (first | exact True.intro | refine And.intro (by first | exact AvLe.refl | exact AvLe.loose | exact AvLe.nil | exact AvLe.nilT | exact AvLe.slk | (refine AvLe.agg ?_; exact ArgsLe.refl) | (refine AvLe.agg ?_; (repeat (first | exact True.intro | refine And.intro (by first | exact AvLe.refl | exact AvLe.loose | exact AvLe.nil | exact AvLe.nilT | exact AvLe.slk) ?_)))) ?_))); done)); simp only [go_sem, hna, hn]) | (refine And.intro ?_ ?_) | (first | exact True.intro | omega | rfl | (simp; done) | (simp; omega)))))
      all_goals (first | exact hKr _ (.inl rfl) | exact hKr _ (.inr (by (repeat (first | exact True.intro | refine And.intro (by first | rfl | (simp [look]; done)) ?_)))))
    case rest1 =>
    refine T.seqK fun K118 hK118 => ?_
    refine T.sregD 92 [0, 1, 2, 3, 4, 5, 6, 7, 8, 9, 26, 31, 37, 53, 67] fun Kr hKr => ?_
    simp only [go_sem]
    (repeat (refine ⟨by (first | exact True.intro | omega | rfl | (simp; done) | (simp; omega)), ?_⟩)); try (refine hKr _ ?_; clear hKr Kr)
    refine T.condTD rfl rfl (fun hb => ?_) (fun hb => ?_) <;> simp at hb
    · -- yes
      have ee : doU p s = (noPast, R.2) := by rw [eD, if_pos hb]
      have e2 : pastX (doU p s) = .agg [.sl true 1 [], .sl true 1 []] := by rw [ee]; unfold pastX; rw [if_neg hb]
      refine T.sregD 92 [0, 1, 2, 3, 4, 5, 6, 7, 8, 9, 26, 31, 37, 53, 67] fun Kr hKr => ?_
      simp only [go_sem]
      (repeat (refine ⟨by (first | exact True.intro | omega | rfl | (simp; done) | (simp; omega)), ?_⟩)); try (refine hKr _ ?_; clear hKr Kr)
      refine T.ret ?_
      simp only [go_sem]
      exact ⟨ResCellD rfl rfl rfl rfl (by simp only [go_sem]) (by rw [e2]; simp only [go_sem]) (by rw [e2]; rfl), ResAtD (by rw [ee]; simp only [go_sem]) rfl rfl, trivial⟩
    refine T.skip ?_
    refine hK118 _ ?_
    have ee : doU p s = (⟨p.docs.set n R.1, p.st ++ [s]⟩, 0) := by rw [eD, if_neg (by omega)]
    have e2 : pastX (doU p s) = .agg [.sl false 2 (docsOf (p.docs.set n R.1)), .sl false 8 (stsOf (p.st ++ [s]))] := by rw [ee]; rfl
    refine T.sdraw2D 92 [0, 1, 2, 3, 4, 5, 6, 7, 8, 9, 26, 31, 37, 53, 67] (.take 1 (.take 2 (.take 5 (.take 6 (.three 0 (.three 3 (.two 4 (.two 7 (.take 8 (.one 9 (.one 10 .done))) 9 (.one 7 (.take 8 (.one 10 .done)))) 9 (.one 4 (.one 7 (.take 8 (.one 10 .done))))) 4 (.two 3 (.two 7 (.take 8 (.one 9 (.one 10 .done))) 9 (.one 7 (.take 8 (.one 10 .done)))) 9 (.one 3 (.one 7 (.take 8 (.one 10 .done))))) 9 (.two 3 (.one 4 (.one 7 (.take 8 (.one 10 .done)))) 4 (.one 3 (.one 7 (.take 8 (.one 10 .done)))))) 4 (.two 0 (.two 3 (.two 7 (.take 8 (.one 9 (.one 10 .done))) 9 (.one 7 (.take 8 (.one 10 .done)))) 9 (.one 3 (.one 7 (.take 8 (.one 10 .done))))) 9 (.one 0 (.one 3 (.one 7 (.take 8 (.one 10 .done)))))) 9 (.two 0 (.two 3 (.one 4 (.one 7 (.take 8 (.one 10 .done)))) 4 (.one 3 (.one 7 (.take 8 (.one 10 .done))))) 4 (.one 0 (.one 3 (.one 7 (.take 8 (.one 10 .done))))))))))) [2] rfl (by decide +kernel) (by decide +kernel) ?x2 ?h2 (fun Kr hKr => ?all2) ?rest2
    case all2 =>
      simp only [go_sem, hna, hn]
      (repeat (any_goals (first | exact hKr _ (.inl rfl) | exact hKr _ (.inr (by (repeat (first | exact True.intro | refine And.intro (by first | rfl | (simp [look]; done)) ?_)))) | (refine And.intro ?_ ?_) | (first | exact True.intro | omega | rfl | (simp; done) | (simp; omega)))))
      all_goals (first | exact hKr _ (.inl rfl) | exact hKr _ (.inr (by (repeat (first | exact True.intro | refine And.intro (by first | rfl | (simp [look]; done)) ?_)))))
    case rest2 =>
    have happ : stsOf p.st ++ [stA s] = stsOf (p.st ++ [s]) := by simp [stsOf]
    rw [stA, hna] at happ
    have hll : (p.st ++ [s]).length = p.st.length + 1 := by simp
    have hT2 : (p.docs.set n ⟨R.1.s, R.1.m⟩).take p.docs.length = p.docs.set n R.1 := List.take_of_length_le (by simp)
    have hT3 : (p.st ++ [s]).take (p.st.length + 1) = p.st ++ [s] := List.take_of_length_le (by simp)
    refine T.sregD 92 [0, 1, 2, 3, 4, 5, 6, 7, 8, 9, 26, 31, 37, 53, 67] fun Kr hKr => ?_
    simp only [go_sem, hn, hna]
    (repeat (refine ⟨by (first | exact True.intro | omega | rfl | (simp; done) | (simp; omega)), ?_⟩)); try (refine hKr _ ?_; clear hKr Kr)
    refine T.sregD 92 [0, 1, 2, 3, 4, 5, 6, 7, 8, 9, 26, 31, 37, 53, 67] fun Kr hKr => ?_
    simp only [go_sem, happ]
    (repeat (refine ⟨by (first | exact True.intro | omega | rfl | (simp; done) | (simp; omega)), ?_⟩)); try (refine hKr _ ?_; clear hKr Kr)
    refine T.sregD 92 [0, 1, 2, 3, 4, 5, 6, 7, 8, 9, 26, 31, 37, 53, 67] fun Kr hKr => ?_
    simp only [go_sem, Nat.le_refl, List.length_set, hT2, hT3, hll]
    (repeat (refine ⟨by (first | exact True.intro | omega | rfl | (simp; done) | (simp; omega)), ?_⟩)); try (refine hKr _ ?_; clear hKr Kr)
    refine T.ret ?_
    simp only [go_sem, Nat.le_refl, List.length_set, hT2, hT3, hll]
    exact ⟨ResCellD rfl rfl rfl rfl (by simp only [go_sem]) (by rw [e2]; simp only [go_sem]) (by rw [e2]; rfl), ResAtD (by rw [ee]; simp only [go_sem]) rfl rfl, trivial⟩
  have hstep : (p.st.take (i + 1)).any (fun x => decide (x.id = s.id)) = ((p.st.take i).any (fun x => decide (x.id = s.id)) || decide ((p.st.getD i default).id = s.id)) := by
    rw [take_succ_d hb, List.any_append]; simp
  refine T.skip ?_
  refine hK117 _ ?_
  refine T.seqK fun K119 hK119 => ?_
  refine T.block ?_
  by_cases hid : s.id ≥ 0
  · have hid' : (s.id ≥ 0) = True := eq_true hid
    refine T.sdrawD 92 [0, 1, 2, 3, 4, 5, 6, 7, 8, 9, 26, 31, 37, 53, 67] (.take 0 (.take 1 (.take 2 (.take 3 (.take 4 (.take 5 (.take 6 (.take 7 (.take 8 (.take 9 (.take 10 (.take 11 (.take 12 (.take 13 .done)))))))))))))) [2, 3] rfl (by decide +kernel) (by decide +kernel) fun Kr hKr => ?_
    simp only [go_sem, hb, hid']
    (repeat (refine ⟨by (first | exact True.intro | omega | rfl | (simp; done) | (simp; omega)), ?_⟩)); try (refine hKr _ ?_; clear hKr Kr)
    refine T.condTD rfl rfl (fun hc => ?_) (fun hc => ?_) <;> simp [-List.getD_eq_getElem?_getD] at hc
    · -- yes
      have hh : hasS p.st s.id = true := List.any_eq_true.2 ⟨p.st.getD i default, by simp [List.getD, hb], by simpa using hc⟩
      have ee : doU p s = (noPast, 290) := by rw [eD, if_pos ⟨hid, hh⟩]
      have e2 : pastX (doU p s) = .agg [.sl true 1 [], .sl true 1 []] := by rw [ee]; rfl
      refine T.sregD 92 [0, 1, 2, 3, 4, 5, 6, 7, 8, 9, 26, 31, 37, 53, 67] fun Kr hKr => ?_
      simp only [go_sem]
      (repeat (refine ⟨by (first | exact True.intro | omega | rfl | (simp; done) | (simp; omega)), ?_⟩)); try (refine hKr _ ?_; clear hKr Kr)
      refine T.ret ?_
      simp only [go_sem]
      exact ⟨ResCellD rfl rfl rfl rfl (by simp only [go_sem]) (by rw [e2]; simp only [go_sem]) (by rw [e2]; rfl), ResAtD (by rw [ee]; simp only [go_sem]) rfl rfl, trivial⟩
    refine T.skip ?_
    refine hK119 _ ?_
    refine T.regD 92 [0, 1, 2, 3, 4, 5, 6, 7, 8, 9, 26, 31, 37, 53, 67] fun Kr hKr => ?_
    simp only [go_sem]
    (repeat (refine ⟨by (first | exact True.intro | omega | rfl | (simp; done) | (simp; omega)), ?_⟩)); try (refine hKr _ ?_; clear hKr Kr)
    refine ⟨i + 1, ?_, ?_, Le.fitS (by (repeat (first | exact DFit.nil | refine DFit.cons (by first | rfl | (simp [slook]; done) | (simp [slook]; omega)) ?_))) ?_⟩
    · refine ⟨by omega, fun _ => ?_⟩
      rw [hstep, hf hid]; simpa using hc
    · omega
    · (repeat (first | exact True.intro | refine And.intro (by first | rfl | (simp [look]; done)) ?_))
  have hid' : (s.id ≥ 0) = False := eq_false hid
  refine T.sdrawD 92 [0, 1, 2, 3, 4, 5, 6, 7, 8, 9, 26, 31, 37, 53, 67] (.take 0 (.take 1 (.take 2 (.take 3 (.take 4 (.take 5 (.take 6 (.take 7 (.take 8 (.take 9 (.take 10 (.take 11 (.take 12 (.take 13 .done)))))))))))))) [2, 3] rfl (by decide +kernel) (by decide +kernel) fun Kr hKr => ?_
  simp only [go_sem, hb, hid']
  (repeat (refine ⟨by (first | exact True.intro | omega | rfl | (simp; done) | (simp; omega)), ?_⟩)); try (refine hKr _ ?_; clear hKr Kr)
  refine T.condTD rfl rfl (fun hc => ?_) (fun hc => ?_) <;> try simp at hc
  refine T.skip ?_
  refine hK119 _ ?_
  refine T.regD 92 [0, 1, 2, 3, 4, 5, 6, 7, 8, 9, 26, 31, 37, 53, 67] fun Kr hKr => ?_
  simp only [go_sem]
  (repeat (refine ⟨by (first | exact True.intro | omega | rfl | (simp; done) | (simp; omega)), ?_⟩)); try (refine hKr _ ?_; clear hKr Kr)
  refine ⟨i + 1, ?_, ?_, Le.fitS (by (repeat (first | exact DFit.nil | refine DFit.cons (by first | rfl | (simp [slook]; done) | (simp [slook]; omega)) ?_))) ?_⟩
  · exact ⟨by omega, fun h => absurd h hid⟩
  · omega
  · (repeat (first | exact True.intro | refine And.intro (by first | rfl | (simp [look]; done)) ?_))
end Go.Proofs
