/- Undo: contracts of the reference: undoing. Written by mku9.py. -/
import Derived.Test.YtdhkkdhooobdhaaU8
set_option linter.unusedVariables false
set_option linter.unusedSimpArgs false
namespace Go.Proofs
open Go Go.Ideal
set_option maxRecDepth 8000
set_option maxHeartbeats 4000000

theorem ReplayV_spec (v : Value) (hv : v.oneCell' = true) (p : Past) (app : Int) (n : Nat) (hp : p.st.length ≤ 100000) (hn : n ≤ 100000) (hs : ∀ s ∈ p.st, s.e.s.length ≤ 100000) :
    Ideal.Spec Try.prog 65 [.agg [.atom v, .sl false 8 (stsOf p.st)], .int .i64 app, .int .i64 n] (docA (repR app (p.st.take n) noDoc)) none := by
  refine Ideal.Spec.of_CD (n := 55) (fn := Try.f65) rfl rfl rfl rfl rfl rfl rfl fun w ok => ?_
  refine T.post [.tmp 6] ?_
  refine T.sregD 55 [0, 1, 2, 3, 6, 7, 8, 9, 10, 21, 40, 52] fun Kr hKr => ?_
  simp only [go_sem]
  (repeat (refine ⟨by (first | exact True.intro | omega | rfl | (simp; done) | (simp; omega)), ?_⟩)); try (refine hKr _ ?_; clear hKr Kr)
  refine T.sregD 55 [0, 1, 2, 3, 6, 7, 8, 9, 10, 21, 40, 52] fun Kr hKr => ?_
  simp only [go_sem]
  (repeat (refine ⟨by (first | exact True.intro | omega | rfl | (simp; done) | (simp; omega)), ?_⟩)); try (refine hKr _ ?_; clear hKr Kr)
  refine T.seqK fun K65 hK65 => ?_
  refine T.sregD 55 [0, 1, 2, 3, 6, 7, 8, 9, 10, 21, 40, 52] fun Kr hKr => ?_
  simp only [go_sem]
  (repeat (refine ⟨by (first | exact True.intro | omega | rfl | (simp; done) | (simp; omega)), ?_⟩)); try (refine hKr _ ?_; clear hKr Kr)
  refine T.bloop (fun x : Nat × Doc => ⟨dense 55 [(1, .int .i64 app), (2, .int .i64 n), (3, .op 3 0 0), (6, .op 6 0 0), (7, .op 7 0 0), (8, .int .i64 x.1)], [(7, ⟨2, 26, true, [docA x.2]⟩), (6, ⟨2, 26, true, [.agg [.str [], .sl true 1 []]]⟩), (3, ⟨2, 33, true, [.agg [.atom v, .sl false 8 (stsOf p.st)]]⟩)]⟩)
    (fun x => x.1 ≤ p.st.length ∧ x.1 ≤ n ∧ repR app ((p.st.take n).drop x.1) x.2 = repR app (p.st.take n) noDoc ∧ OkD x.2) (fun x => p.st.length - x.1) (0, noDoc) ⟨by simp, by simp, by simp, noDoc_ok⟩ ?_ fun x hx => ?_
  · refine (Le.boxW 7 2 26 [.str [], .sl true 1 []] [.str [], .sl false 4 []] rfl rfl rfl ⟨AvLe.refl, AvLe.nil, trivial⟩).trans ?_
    simp only [go_sem]
    refine Le.fitS (by (repeat (first | exact DFit.nil | refine DFit.cons (by first | rfl | (simp [slook]; done) | (simp [slook]; omega)) ?_))) (by (repeat (first | exact True.intro | refine And.intro (by first | rfl | (simp [look]; done)) ?_)))
  obtain ⟨i, d⟩ := x
  obtain ⟨hi, hin, hr, hd⟩ := hx
  simp only at hi hin hr hd ⊢
  refine T.seqK fun K66 hK66 => ?_
  refine T.sregD 55 [0, 1, 2, 3, 6, 7, 8, 9, 10, 21, 40, 52] fun Kr hKr => ?_
  simp only [go_sem, cond_and]
  (repeat (refine ⟨by (first | exact True.intro | omega | rfl | (simp; done) | (simp; omega)), ?_⟩)); try (refine hKr _ ?_; clear hKr Kr)
  refine T.condFD rfl rfl (fun hb => ?_) (fun hb => ?_) <;> simp only [Bool.and_eq_true, decide_eq_true_eq, Bool.and_eq_false_iff, decide_eq_false_iff_not] at hb
  · -- no: exit
    refine T.exit ?_
    simp only [if_true]
    refine hK65 _ ?_
    have : (p.st.take n).drop i = [] := List.drop_of_length_le (by simp; omega)
    rw [this] at hr
    have hr : d = repR app (p.st.take n) noDoc := by rw [← hr]; rfl
    rw [← hr]
    refine T.sregD 55 [0, 1, 2, 3, 6, 7, 8, 9, 10, 21, 40, 52] fun Kr hKr => ?_
    simp only [go_sem]
    (repeat (refine ⟨by (first | exact True.intro | omega | rfl | (simp; done) | (simp; omega)), ?_⟩)); try (refine hKr _ ?_; clear hKr Kr)
    refine T.ret ?_
    simp only [go_sem]
    exact ⟨ResCellD rfl rfl rfl rfl (by simp only [go_sem]) (by simp only [go_sem]) rfl, trivial⟩
  have hin2 : i < n := by omega
  have hil : i < p.st.length := by omega
  have hti : i < (p.st.take n).length := by simp; omega
  have hg : (p.st.take n).getD i default = p.st.getD i default := by simp [List.getD, List.getElem?_take, hin2]
  rw [drop_d hti, hg] at hr
  have hmem : p.st.getD i default ∈ p.st := by simp [List.getD, hil]
  have hsl := hs _ hmem
  refine T.skip ?_
  refine hK66 _ ?_
  refine T.seqK fun K67 hK67 => ?_
  refine T.block ?_
  refine T.sregD 55 [0, 1, 2, 3, 6, 7, 8, 9, 10, 21, 40, 52] fun Kr hKr => ?_
  simp only [go_sem, hil, cond_and]
  (repeat (refine ⟨by (first | exact True.intro | omega | rfl | (simp; done) | (simp; omega)), ?_⟩)); try (refine hKr _ ?_; clear hKr Kr)
  have sA := apply_spec d (p.st.getD i default) hd hsl
  have hok := appF_ok (d := d) (s := p.st.getD i default) hd
  refine T.condTD rfl rfl (fun hb2 => ?_) (fun hb2 => ?_) <;> simp only [Bool.and_eq_true, decide_eq_true_eq, Bool.and_eq_false_iff, decide_eq_false_iff_not, Bool.not_eq_true', Bool.not_eq_false'] at hb2
  · -- yes
    have e1 : repR app (p.st.getD i default :: (p.st.take n).drop (i + 1)) d = if (appF d (p.st.getD i default)).2 = 0 then repR app ((p.st.take n).drop (i + 1)) (appF d (p.st.getD i default)).1 else repR app ((p.st.take n).drop (i + 1)) d := by
      simp only [repR]; rw [if_pos hb2]
    rw [e1] at hr
    change Ideal.Spec Try.prog 67 [docA d, stA (p.st.getD i default)] (.tup [docA (appF d (p.st.getD i default)).1, .int .i64 (appF d (p.st.getD i default)).2]) none at sA
    generalize appF d (p.st.getD i default) = R at *
    refine T.sdraw2D 55 [0, 1, 2, 3, 6, 7, 8, 9, 10, 21, 40, 52] (.take 0 (.take 1 (.take 2 (.take 3 (.take 4 (.take 5 (.two 6 (.take 7 (.take 8 (.take 9 (.one 10 (.one 11 (.take 12 .done)))))) 10 (.one 6 (.take 7 (.take 8 (.take 9 (.one 11 (.take 12 .done))))))))))))) [3, 7] rfl (by decide +kernel) (by decide +kernel) ?x1 ?h1 (fun Kr hKr => ?all1) ?rest1
    case all1 =>
      simp only [go_sem, hil]
      (repeat (any_goals (first | exact hKr _ (.inl rfl) | exact hKr _ (.inr (by (repeat (first | exact True.intro | refine And.intro (by first | rfl | (simp [look]; done)) ?_)))) | ((first | refine CallK.dataA (sA) ?_ rfl ?_ | refine CallK.tupA (sA) ?_ ?_ | refine CallK.ownA (sA) ?_ ?_); (focus ((first | exact ArgsLe.refl | (repeat (first | exact True.intro | refine And.intro (by first | exact AvLe.refl | exact AvLe.loose | exact AvLe.nil | exact AvLe.nilT | exact AvLe.slk | (refine AvLe.agg ?_; exact ArgsLe.refl) | (refine AvLe.agg ?_; (repeat (first | exact True.intro | refine And.intro (by first | exact AvLe.refl | exact AvLe.loose | exact AvLe.nil | exact AvLe.nilT | exact AvLe.slk) ?_)))) ?_))); done)); simp only [go_sem, hil]) | (refine And.intro ?_ ?_) | (first | exact True.intro | omega | rfl | (simp; done) | (simp; omega)))))
      all_goals (first | exact hKr _ (.inl rfl) | exact hKr _ (.inr (by (repeat (first | exact True.intro | refine And.intro (by first | rfl | (simp [look]; done)) ?_)))))
    case rest1 =>
    refine T.sregD 55 [0, 1, 2, 3, 6, 7, 8, 9, 10, 21, 40, 52] fun Kr hKr => ?_
    simp only [go_sem]
    (repeat (refine ⟨by (first | exact True.intro | omega | rfl | (simp; done) | (simp; omega)), ?_⟩)); try (refine hKr _ ?_; clear hKr Kr)
    refine T.condTD rfl rfl (fun hb3 => ?_) (fun hb3 => ?_) <;> simp at hb3
    · -- yes
      rw [if_pos hb3] at hr
      refine T.regD 55 [0, 1, 2, 3, 6, 7, 8, 9, 10, 21, 40, 52] fun Kr hKr => ?_
      simp only [go_sem]
      (repeat (refine ⟨by (first | exact True.intro | omega | rfl | (simp; done) | (simp; omega)), ?_⟩)); try (refine hKr _ ?_; clear hKr Kr)
      refine hK67 _ ?_
      refine T.regD 55 [0, 1, 2, 3, 6, 7, 8, 9, 10, 21, 40, 52] fun Kr hKr => ?_
      simp only [go_sem]
      (repeat (refine ⟨by (first | exact True.intro | omega | rfl | (simp; done) | (simp; omega)), ?_⟩)); try (refine hKr _ ?_; clear hKr Kr)
      refine ⟨(i + 1, R.1), ?_, ?_, Le.fitS (by (repeat (first | exact DFit.nil | refine DFit.cons (by first | rfl | (simp [slook]; done) | (simp [slook]; omega)) ?_))) ?_⟩
      · exact ⟨by simp only; omega, by simp only; omega, hr, hok hb3⟩
      · simp only; omega
      · (repeat (first | exact True.intro | refine And.intro (by first | rfl | (simp [look]; done)) ?_))
    rw [if_neg hb3] at hr
    refine T.skip ?_
    refine hK67 _ ?_
    refine T.regD 55 [0, 1, 2, 3, 6, 7, 8, 9, 10, 21, 40, 52] fun Kr hKr => ?_
    simp only [go_sem]
    (repeat (refine ⟨by (first | exact True.intro | omega | rfl | (simp; done) | (simp; omega)), ?_⟩)); try (refine hKr _ ?_; clear hKr Kr)
    refine ⟨(i + 1, d), ?_, ?_, Le.fitS (by (repeat (first | exact DFit.nil | refine DFit.cons (by first | rfl | (simp [slook]; done) | (simp [slook]; omega)) ?_))) ?_⟩
    · exact ⟨by simp only; omega, by simp only; omega, hr, hd⟩
    · simp only; omega
    · (repeat (first | exact True.intro | refine And.intro (by first | rfl | (simp [look]; done)) ?_))
  have e1 : repR app (p.st.getD i default :: (p.st.take n).drop (i + 1)) d = repR app ((p.st.take n).drop (i + 1)) d := by
    simp only [repR]; rw [if_neg (by rintro ⟨h1, h2⟩; rcases hb2 with h | h; exact h h1; rw [h2] at h; cases h)]
  rw [e1] at hr
  refine T.skip ?_
  refine hK67 _ ?_
  refine T.regD 55 [0, 1, 2, 3, 6, 7, 8, 9, 10, 21, 40, 52] fun Kr hKr => ?_
  simp only [go_sem]
  (repeat (refine ⟨by (first | exact True.intro | omega | rfl | (simp; done) | (simp; omega)), ?_⟩)); try (refine hKr _ ?_; clear hKr Kr)
  refine ⟨(i + 1, d), ?_, ?_, Le.fitS (by (repeat (first | exact DFit.nil | refine DFit.cons (by first | rfl | (simp [slook]; done) | (simp [slook]; omega)) ?_))) ?_⟩
  · exact ⟨by simp only; omega, by simp only; omega, hr, hd⟩
  · simp only; omega
  · (repeat (first | exact True.intro | refine And.intro (by first | rfl | (simp [look]; done)) ?_))
@[go_sem] def undA (r : Past × List Nat × Int) : AV := .agg [.sl false 2 (docsOf r.1.docs), .sl false 8 (stsOf r.1.st), .sl false 1 (intsOf (ofN r.2.1)), .int .i64 r.2.2]
def undX (r : Past × List Nat × Int) : AV :=
  if r.2.2 = 0 then .agg [.sl false 2 (docsOf r.1.docs), .sl false 8 (stsOf r.1.st), .sl true 1 [], .int .i64 0]
  else if r.2.1 = [] then .agg [.sl true 1 [], .sl true 1 [], .sl true 1 [], .int .i64 r.2.2]
  else .agg [.sl true 1 [], .sl true 1 [], .sl false 1 (intsOf (ofN r.2.1)), .int .i64 r.2.2]
theorem undX_fin (r : Past × List Nat × Int) : (undX r).fin = true := by unfold undX; (repeat' split) <;> rfl
theorem undX_le (r : Past × List Nat × Int) (h : r.2.2 ≠ 0 → r.1 = noPast) (h2 : r.2.2 = 0 → r.2.1 = []) : AvLe (undX r) (undA r) := by
  unfold undX undA
  split
  · rename_i h0
    rw [h2 h0, h0]
    exact AvLe.agg ⟨AvLe.refl, AvLe.refl, AvLe.nil, AvLe.refl, trivial⟩
  · rename_i h0
    rw [h h0]
    split
    · rename_i h1
      rw [h1]
      exact AvLe.agg ⟨AvLe.nil, AvLe.nil, AvLe.nil, AvLe.refl, trivial⟩
    · exact AvLe.agg ⟨AvLe.nil, AvLe.nil, AvLe.refl, AvLe.refl, trivial⟩
theorem undU_l (p : Past) (i : Int) (h : (undU p i).2.2 = 0) : (undU p i).2.1 = [] := by
  unfold undU at h ⊢
  split
  · rfl
  · rename_i h1; rw [if_neg h1] at h
    split
    · rename_i h2; rw [if_pos h2] at h; cases h
    · split <;> rfl
theorem comm_und {p : Past} (h : Good p) {i : Nat} (hi : i < p.st.length) : Comm (undS p i) := fun s hs => by
  obtain ⟨t, ht, e1, e2, e3, e4⟩ := mem_core (undS_core hi) hs
  intro g; rw [← e3]; exact h.com t ht (by omega)
theorem UndoR_spec {p : Past} (h : Good p) (i : Int) : Ideal.Spec Try.prog 45 [pastA p, .int .i64 i] (undA (undU p i)) none := by
  have h1 := h.dl
  have h2 := h.sl
  have sD := DependsR_spec h i
  refine Spec.weak (r := undX (undU p i)) ?_ (undX_fin _) rfl (undX_le _ (undU_no p i) (undU_l p i))
  refine Ideal.Spec.of_CD (n := 121) (fn := Try.f45) rfl rfl rfl rfl (undX_fin _) rfl rfl fun w ok => ?_
  refine T.post [.tmp 4] ?_
  refine T.sregD 121 [0, 1, 2, 4, 5, 6, 7, 8, 9, 10, 11, 19, 24, 77, 92] fun Kr hKr => ?_
  simp only [go_sem]
  (repeat (refine ⟨by (first | exact True.intro | omega | rfl | (simp; done) | (simp; omega)), ?_⟩)); try (refine hKr _ ?_; clear hKr Kr)
  refine T.sregD 121 [0, 1, 2, 4, 5, 6, 7, 8, 9, 10, 11, 19, 24, 77, 92] fun Kr hKr => ?_
  simp only [go_sem]
  (repeat (refine ⟨by (first | exact True.intro | omega | rfl | (simp; done) | (simp; omega)), ?_⟩)); try (refine hKr _ ?_; clear hKr Kr)
  refine CallK.tup (fun _ => Spec.args (sD) (by (first | exact ArgsLe.refl | (repeat (first | exact True.intro | refine And.intro (by first | exact AvLe.refl | exact AvLe.loose | exact AvLe.nil | exact AvLe.nilT | exact AvLe.slk | (refine AvLe.agg ?_; exact ArgsLe.refl) | (refine AvLe.agg ?_; (repeat (first | exact True.intro | refine And.intro (by first | exact AvLe.refl | exact AvLe.loose | exact AvLe.nil | exact AvLe.nilT | exact AvLe.slk) ?_)))) ?_))))) ?_
  simp only [go_sem]
  (repeat (refine ⟨by (first | exact True.intro | omega | rfl | (simp; done) | (simp; omega)), ?_⟩)); try (refine hKr _ ?_; clear hKr Kr)
  refine T.seqK fun K89 hK89 => ?_
  refine T.sregD 121 [0, 1, 2, 4, 5, 6, 7, 8, 9, 10, 11, 19, 24, 77, 92] fun Kr hKr => ?_
  simp only [go_sem]
  (repeat (refine ⟨by (first | exact True.intro | omega | rfl | (simp; done) | (simp; omega)), ?_⟩)); try (refine hKr _ ?_; clear hKr Kr)
  refine T.condTD rfl rfl (fun hb => ?_) (fun hb => ?_) <;> try simp at hb
  · -- no commit
    have ee : undU p i = (noPast, [], (depU p i).2) := by unfold undU; rw [if_pos hb]
    have e2 : undX (undU p i) = .agg [.sl true 1 [], .sl true 1 [], .sl true 1 [], .int .i64 (depU p i).2] := by rw [ee]; unfold undX; rw [if_neg hb, if_pos rfl]
    refine T.sregD 121 [0, 1, 2, 4, 5, 6, 7, 8, 9, 10, 11, 19, 24, 77, 92] fun Kr hKr => ?_
    simp only [go_sem]
    (repeat (refine ⟨by (first | exact True.intro | omega | rfl | (simp; done) | (simp; omega)), ?_⟩)); try (refine hKr _ ?_; clear hKr Kr)
    refine T.ret ?_
    simp only [go_sem]
    exact ⟨ResCellD rfl rfl rfl rfl (by simp only [go_sem]) (by rw [e2]; simp only [go_sem]) (by rw [e2]; rfl), trivial⟩
  refine T.skip ?_
  refine hK89 _ ?_
  refine T.seqK fun K90 hK90 => ?_
  refine T.sregD 121 [0, 1, 2, 4, 5, 6, 7, 8, 9, 10, 11, 19, 24, 77, 92] fun Kr hKr => ?_
  simp only [go_sem]
  (repeat (refine ⟨by (first | exact True.intro | omega | rfl | (simp; done) | (simp; omega)), ?_⟩)); try (refine hKr _ ?_; clear hKr Kr)
  refine T.condTD rfl rfl (fun hc2 => ?_) (fun hc2 => ?_) <;> try simp at hc2
  · -- later steps depend on it
    have hne : (depU p i).1 ≠ [] := by intro h; rw [h] at hc2; simp at hc2
    have ee : undU p i = (noPast, (depU p i).1, 320) := by unfold undU; rw [if_neg (by omega), if_pos hne]
    have e2 : undX (undU p i) = .agg [.sl true 1 [], .sl true 1 [], .sl false 1 (intsOf (ofN (depU p i).1)), .int .i64 320] := by rw [ee]; unfold undX; rw [if_neg (by simp), if_neg hne]
    refine T.sregD 121 [0, 1, 2, 4, 5, 6, 7, 8, 9, 10, 11, 19, 24, 77, 92] fun Kr hKr => ?_
    simp only [go_sem]
    (repeat (refine ⟨by (first | exact True.intro | omega | rfl | (simp; done) | (simp; omega)), ?_⟩)); try (refine hKr _ ?_; clear hKr Kr)
    refine T.ret ?_
    simp only [go_sem]
    exact ⟨ResCellD rfl rfl rfl rfl (by simp only [go_sem]) (by rw [e2]; simp only [go_sem]) (by rw [e2]; rfl), trivial⟩
  have hnil : (depU p i).1 = [] := by
    cases hL : (depU p i).1 with
    | nil => rfl
    | cons x y => rw [hL] at hc2; simp at hc2
  have hcom : isCom p i = true := depU_inv.1.1 hb
  obtain ⟨hi0, hi, hid, hu, ha, hal⟩ := isCom_inv hcom
  obtain ⟨n, rfl⟩ : ∃ n : Nat, i = n := ⟨i.toNat, by omega⟩
  obtain ⟨⟨ha0, ha1⟩, hch⟩ := h.chx hcom
  obtain ⟨a, D', haa, hla, ee, hrep, _⟩ := undU_eq h hcom hnil
  simp only [Int.toNat_natCast] at hi hid hu ha hal
  have hmem : p.st.getD n default ∈ p.st := by simp [List.getD, hi]
  have htx := h.txt _ hmem
  have e2 : undX (undU p n) = .agg [.sl false 2 (docsOf (p.docs.set a D')), .sl false 8 (stsOf (undS p n)), .sl true 1 [], .int .i64 0] := by rw [ee]; rfl
  have hdep : depF p.st (fstM (p.st.getD n default)) (gL p.st (p.st.getD n default).app (n + 1)) = [] := by
    unfold depU at hnil; rw [if_pos hcom] at hnil; simp only [Int.toNat_natCast] at hnil; rw [lat_gL hi] at hnil; exact hnil
  have eS : undS p n = updF p.st (gL p.st (p.st.getD n default).app (n + 1)) (fstM (p.st.getD n default)) (offS p.st n) := by unfold undS; rw [lat_gL hi]
  have hSl := undS_len hi
  have hScom := comm_und h hi
  have hStx : ∀ s ∈ undS p n, s.e.s.length ≤ 100000 := fun s hs => by
    obtain ⟨t, ht, _, _, _, e4⟩ := mem_core (undS_core hi) hs
    have := h.txt t ht
    rw [← e4]; omega
  have hrr : repR a (undS p n) noDoc = D' := repR_eq a _ _ _ hScom hrep
  rw [haa] at hch hdep eS
  refine T.skip ?_
  refine hK90 _ ?_
  refine T.sdraw2D 121 [0, 1, 2, 4, 5, 6, 7, 8, 9, 10, 11, 19, 24, 77, 92] (.take 1 (.take 2 (.take 5 (.take 6 (.take 9 (.take 10 (.take 11 (.take 12 (.take 13 (.take 14 (.three 0 (.three 3 (.two 4 (.two 7 (.take 8 (.one 15 (.one 16 (.take 17 .done)))) 15 (.one 7 (.take 8 (.one 16 (.take 17 .done))))) 15 (.one 4 (.one 7 (.take 8 (.one 16 (.take 17 .done)))))) 4 (.two 3 (.two 7 (.take 8 (.one 15 (.one 16 (.take 17 .done)))) 15 (.one 7 (.take 8 (.one 16 (.take 17 .done))))) 15 (.one 3 (.one 7 (.take 8 (.one 16 (.take 17 .done)))))) 15 (.two 3 (.one 4 (.one 7 (.take 8 (.one 16 (.take 17 .done))))) 4 (.one 3 (.one 7 (.take 8 (.one 16 (.take 17 .done))))))) 4 (.two 0 (.two 3 (.two 7 (.take 8 (.one 15 (.one 16 (.take 17 .done)))) 15 (.one 7 (.take 8 (.one 16 (.take 17 .done))))) 15 (.one 3 (.one 7 (.take 8 (.one 16 (.take 17 .done)))))) 15 (.one 0 (.one 3 (.one 7 (.take 8 (.one 16 (.take 17 .done))))))) 15 (.two 0 (.two 3 (.one 4 (.one 7 (.take 8 (.one 16 (.take 17 .done))))) 4 (.one 3 (.one 7 (.take 8 (.one 16 (.take 17 .done)))))) 4 (.one 0 (.one 3 (.one 7 (.take 8 (.one 16 (.take 17 .done)))))))))))))))))) [2] rfl (by decide +kernel) (by decide +kernel) ?x2 ?h2 (fun Kr hKr => ?all2) ?rest2
  case all2 =>
    simp only [go_sem, hi]
    (repeat (any_goals (first | exact hKr _ (.inl rfl) | exact hKr _ (.inr (by (repeat (first | exact True.intro | refine And.intro (by first | rfl | (simp [look]; done)) ?_)))) | (refine And.intro ?_ ?_) | (first | exact True.intro | omega | rfl | (simp; done) | (simp; omega)))))
    all_goals (first | exact hKr _ (.inl rfl) | exact hKr _ (.inr (by (repeat (first | exact True.intro | refine And.intro (by first | rfl | (simp [look]; done)) ?_)))))
  case rest2 =>
  refine T.sdrawD 121 [0, 1, 2, 4, 5, 6, 7, 8, 9, 10, 11, 19, 24, 77, 92] (.take 0 (.take 1 (.take 2 (.take 3 (.take 4 (.take 5 (.take 6 (.take 7 (.take 8 (.take 9 (.take 10 (.take 11 (.take 12 (.take 13 (.take 14 (.take 15 (.take 16 (.take 17 (.take 18 (.take 19 (.take 20 (.take 21 (.take 22 (.take 23 (.one 24 (.one 25 .done)))))))))))))))))))))))))) [2] rfl (by decide +kernel) (by decide +kernel) fun Kr hKr => ?_
  simp only [go_sem, hi]
  (repeat (refine ⟨by (first | exact True.intro | omega | rfl | (simp; done) | (simp; omega)), ?_⟩)); try (refine hKr _ ?_; clear hKr Kr)
  have hbx : (.agg [.int .i64 0, .int .i64 (p.st.getD n default).e.a, .int .i64 ((p.st.getD n default).e.a + (p.st.getD n default).e.s.length), .bool true] : AV) = mkA (zM (fstM (p.st.getD n default))) := rfl
  have hmw : (fstM (p.st.getD n default)).w = true := rfl
  rw [hbx, haa]
  refine T.sregD 121 [0, 1, 2, 4, 5, 6, 7, 8, 9, 10, 11, 19, 24, 77, 92] fun Kr hKr => ?_
  simp only [go_sem, hi]
  (repeat (refine ⟨by (first | exact True.intro | omega | rfl | (simp; done) | (simp; omega)), ?_⟩)); try (refine hKr _ ?_; clear hKr Kr)
  have hoff : p.st.set n ⟨(p.st.getD n default).app, (p.st.getD n default).id, ⟨(p.st.getD n default).e.k, (p.st.getD n default).e.a, (p.st.getD n default).e.n, (p.st.getD n default).e.t, (p.st.getD n default).e.s⟩, true⟩ = offS p.st n := rfl
  rw [hoff]
  have holn : (offS p.st n).length = p.st.length := by simp [offS]
  generalize fstM (p.st.getD n default) = m0 at *
  generalize offS p.st n = out0 at *
  refine T.seqK fun K91 hK91 => ?_
  refine T.sregD 121 [0, 1, 2, 4, 5, 6, 7, 8, 9, 10, 11, 19, 24, 77, 92] fun Kr hKr => ?_
  simp only [go_sem]
  (repeat (refine ⟨by (first | exact True.intro | omega | rfl | (simp; done) | (simp; omega)), ?_⟩)); try (refine hKr _ ?_; clear hKr Kr)
  refine T.bloop (fun x : Nat × Mark × List Stp => ⟨dense 121 [(1, .int .i64 n), (2, .op 2 0 0), (4, .op 4 0 0), (7, .op 7 0 0), (8, .int .i64 a), (9, .op 9 0 0), (10, .int .i64 x.1)],
      [(9, ⟨4, 65, true, [mkA (zM x.2.1)]⟩), (31, ⟨8, 51, false, stsOf x.2.2⟩), (27, ⟨2, 26, false, docsOf p.docs⟩), (7, ⟨2, 33, true, [.agg [.osl 27 0 p.docs.length, .osl 31 0 p.st.length]]⟩),
       (4, ⟨4, 117, true, [.agg [.sl true 1 [], .sl true 1 [], .sl true 1 [], .int .i64 0]]⟩), (2, ⟨2, 33, true, [pastA p]⟩)]⟩)
    (fun x => x.1 ≤ p.st.length ∧ x.2.2.length = p.st.length ∧ updF p.st (gL p.st a x.1) x.2.1 x.2.2 = undS p n ∧ ChX p.st x.2.1 (gL p.st a x.1) ∧ depF p.st x.2.1 (gL p.st a x.1) = [] ∧ x.2.1.w = true) (fun x => p.st.length - x.1) (n + 1, m0, out0)
    ⟨by simp only; omega, holn, eS.symm, hch, hdep, hmw⟩ ?_ fun x hx => ?_
  · refine Le.fitS (by (repeat (first | exact DFit.nil | refine DFit.cons (by first | rfl | (simp [slook]; done) | (simp [slook]; omega)) ?_))) (by (repeat (first | exact True.intro | refine And.intro (by first | rfl | (simp [look]; done)) ?_)))
  obtain ⟨k, m, out⟩ := x
  obtain ⟨hk, hol, hd, hcn, hdp, hw⟩ := hx
  simp only at hk hol hd hcn hdp hw ⊢
  refine T.seqK fun K92 hK92 => ?_
  refine T.sregD 121 [0, 1, 2, 4, 5, 6, 7, 8, 9, 10, 11, 19, 24, 77, 92] fun Kr hKr => ?_
  simp only [go_sem]
  (repeat (refine ⟨by (first | exact True.intro | omega | rfl | (simp; done) | (simp; omega)), ?_⟩)); try (refine hKr _ ?_; clear hKr Kr)
  refine T.condFD rfl rfl (fun hb2 => ?_) (fun hb2 => ?_) <;> simp at hb2
  · -- no: exit
    refine T.exit ?_
    simp only [if_true]
    refine hK91 _ ?_
    rw [gL_end (by omega)] at hd
    have hd : out = undS p n := by rw [← hd]; rfl
    subst hd
    have hT : (undS p n).take p.st.length = undS p n := List.take_of_length_le (by omega)
    have hT2 : (p.docs.set a ⟨D'.s, D'.m⟩).take p.docs.length = p.docs.set a D' := List.take_of_length_le (by simp)
    have sR : ∀ v : Value, v.oneCell' = true → Ideal.Spec Try.prog 65 [.agg [.atom v, .sl false 8 (stsOf (undS p n))], .int .i64 a, .int .i64 (undS p n).length] (docA D') none := fun v hv => by
      have := ReplayV_spec v hv ⟨[], undS p n⟩ a (undS p n).length (by simp only; omega) (by omega) hStx
      simp only [List.take_length] at this
      rw [hrr] at this
      exact this
    refine T.weaken (Le.frz 31) ?_
    simp only [go_sem, hT, hol, Nat.le_refl]
    refine T.sdrawD 121 [0, 1, 2, 4, 5, 6, 7, 8, 9, 10, 11, 19, 24, 77, 92] (.take 0 (.take 1 (.take 2 (.hid 7 3 (.take 4 (.take 5 (.take 6 (.take 7 (.one 8 (.take 9 (.one 10 .done))))))))))) [7] rfl (by decide +kernel) (by decide +kernel) fun Kr hKr => ?_
    simp only [go_sem, hla]
    (repeat (refine ⟨by (first | exact True.intro | omega | rfl | (simp; done) | (simp; omega)), ?_⟩)); try (refine hKr _ ?_; clear hKr Kr)
    intro v hv
    refine CallK.data (fun _ => Spec.args (sR v hv) (by (first | exact ArgsLe.refl | (repeat (first | exact True.intro | refine And.intro (by first | exact AvLe.refl | exact AvLe.loose | exact AvLe.nil | exact AvLe.nilT | exact AvLe.slk | (refine AvLe.agg ?_; exact ArgsLe.refl) | (refine AvLe.agg ?_; (repeat (first | exact True.intro | refine And.intro (by first | exact AvLe.refl | exact AvLe.loose | exact AvLe.nil | exact AvLe.nilT | exact AvLe.slk) ?_)))) ?_))))) rfl ?_
    simp only [go_sem, hla]
    (repeat (refine ⟨by (first | exact True.intro | omega | rfl | (simp; done) | (simp; omega)), ?_⟩)); try (refine hKr _ ?_; clear hKr Kr)
    refine T.sregD 121 [0, 1, 2, 4, 5, 6, 7, 8, 9, 10, 11, 19, 24, 77, 92] fun Kr hKr => ?_
    simp only [go_sem, Nat.le_refl, List.length_set, hT2]
    (repeat (refine ⟨by (first | exact True.intro | omega | rfl | (simp; done) | (simp; omega)), ?_⟩)); try (refine hKr _ ?_; clear hKr Kr)
    refine T.ret ?_
    simp only [go_sem, Nat.le_refl, List.length_set, hT2]
    exact ⟨ResCellD rfl rfl rfl rfl (by simp only [go_sem]) (by rw [e2]; simp only [go_sem]) (by rw [e2]; rfl), trivial⟩
  have hkm : p.st.getD k default ∈ p.st := by simp [List.getD, hb2]
  refine T.skip ?_
  refine hK92 _ ?_
  refine T.seqK fun K93 hK93 => ?_
  refine T.block ?_
  refine T.sregD 121 [0, 1, 2, 4, 5, 6, 7, 8, 9, 10, 11, 19, 24, 77, 92] fun Kr hKr => ?_
  simp only [go_sem, hb2]
  (repeat (refine ⟨by (first | exact True.intro | omega | rfl | (simp; done) | (simp; omega)), ?_⟩)); try (refine hKr _ ?_; clear hKr Kr)
  refine T.seqK fun K94 hK94 => ?_
  refine T.sregD 121 [0, 1, 2, 4, 5, 6, 7, 8, 9, 10, 11, 19, 24, 77, 92] fun Kr hKr => ?_
  simp only [go_sem, cond_or]
  (repeat (refine ⟨by (first | exact True.intro | omega | rfl | (simp; done) | (simp; omega)), ?_⟩)); try (refine hKr _ ?_; clear hKr Kr)
  refine T.condTD rfl rfl (fun hc2 => ?_) (fun hc2 => ?_) <;> simp only [Bool.or_eq_true, Bool.or_eq_false_iff, decide_eq_true_eq, decide_eq_false_iff_not, Bool.not_eq_true', Bool.not_eq_false'] at hc2
  · -- not of this document
    have hg : gateP p.st a k = false := gateP_no.2 hc2
    rw [gL_no hb2 hg] at hd hcn hdp
    refine T.exit ?_
    simp only [if_true]
    refine hK93 _ ?_
    refine T.regD 121 [0, 1, 2, 4, 5, 6, 7, 8, 9, 10, 11, 19, 24, 77, 92] fun Kr hKr => ?_
    simp only [go_sem]
    (repeat (refine ⟨by (first | exact True.intro | omega | rfl | (simp; done) | (simp; omega)), ?_⟩)); try (refine hKr _ ?_; clear hKr Kr)
    refine ⟨(k + 1, m, out), ?_, ?_, Le.fitS (by (repeat (first | exact DFit.nil | refine DFit.cons (by first | rfl | (simp [slook]; done) | (simp [slook]; omega)) ?_))) ?_⟩
    · exact ⟨by simp only; omega, hol, hd, hcn, hdp, hw⟩
    · simp only; omega
    · (repeat (first | exact True.intro | refine And.intro (by first | rfl | (simp [look]; done)) ?_))
  have hg : gateP p.st a k = true := by
    cases hh : gateP p.st a k with
    | true => rfl
    | false => rcases gateP_no.1 hh with h3 | h3; exact absurd hc2.1 h3; rw [hc2.2] at h3; cases h3
  rw [gL_yes hb2 hg] at hd hcn hdp
  obtain ⟨⟨c1, c2, c3, c4, c5⟩, c6⟩ := hcn
  have hwm : whM m = m := by cases m; simp only [whM] at *; rw [hw]
  have sC := CarryR_spec (p.st.getD k default).e (zM m) c1 c3
  rw [carR_z c4 c5 c2] at sC
  have sM := movedR_spec (p.st.getD k default).e (zM m) c1 c2 c3
  rw [movU_z] at sM
  simp only [depF] at hdp
  simp only [updF] at hd
  rw [hwm] at hdp c6
  obtain ⟨m', hcm, hw', hdp'⟩ : ∃ m', carM (p.st.getD k default).e m = some m' ∧ m'.w = true ∧ depF p.st m' (gL p.st a (k + 1)) = [] := by
    cases hcm : carM (p.st.getD k default).e m with
    | none => rw [hcm] at hdp; simp at hdp
    | some m' =>
      rw [hcm] at hdp
      simp only at hdp
      cases hw' : m'.w with
      | false => rw [hw'] at hdp; simp at hdp
      | true => rw [hw'] at hdp; simp only [if_true, List.nil_append] at hdp; exact ⟨m', rfl, hw', hdp⟩
  rw [hcm] at sC hd c6
  simp only [Option.map_some] at sC
  simp only [Option.getD_some] at hd
  simp only at c6
  have hko : k < out.length := by omega
  refine T.skip ?_
  refine hK94 _ ?_
  refine T.sdrawD 121 [0, 1, 2, 4, 5, 6, 7, 8, 9, 10, 11, 19, 24, 77, 92] (.take 0 (.take 1 (.take 2 (.take 3 (.take 4 (.take 5 (.one 6 (.take 7 (.take 8 (.one 9 .done)))))))))) [7, 9, 11] rfl (by decide +kernel) (by decide +kernel) fun Kr hKr => ?_
  simp only [go_sem, hb2, hko]
  (repeat (refine ⟨by (first | exact True.intro | omega | rfl | (simp; done) | (simp; omega)), ?_⟩)); try (refine hKr _ ?_; clear hKr Kr)
  refine CallK.data (fun _ => Spec.args (sM) (by (first | exact ArgsLe.refl | (repeat (first | exact True.intro | refine And.intro (by first | exact AvLe.refl | exact AvLe.loose | exact AvLe.nil | exact AvLe.nilT | exact AvLe.slk | (refine AvLe.agg ?_; exact ArgsLe.refl) | (refine AvLe.agg ?_; (repeat (first | exact True.intro | refine And.intro (by first | exact AvLe.refl | exact AvLe.loose | exact AvLe.nil | exact AvLe.nilT | exact AvLe.slk) ?_)))) ?_))))) rfl ?_
  simp only [go_sem, hol, hko, hb2]
  (repeat (refine ⟨by (first | exact True.intro | omega | rfl | (simp; done) | (simp; omega)), ?_⟩)); try (refine hKr _ ?_; clear hKr Kr)
  refine T.regD 121 [0, 1, 2, 4, 5, 6, 7, 8, 9, 10, 11, 19, 24, 77, 92] fun Kr hKr => ?_
  simp only [go_sem]
  (repeat (refine ⟨by (first | exact True.intro | omega | rfl | (simp; done) | (simp; omega)), ?_⟩)); try (refine hKr _ ?_; clear hKr Kr)
  refine CallK.tup (fun _ => Spec.args (sC) (by (first | exact ArgsLe.refl | (repeat (first | exact True.intro | refine And.intro (by first | exact AvLe.refl | exact AvLe.loose | exact AvLe.nil | exact AvLe.nilT | exact AvLe.slk | (refine AvLe.agg ?_; exact ArgsLe.refl) | (refine AvLe.agg ?_; (repeat (first | exact True.intro | refine And.intro (by first | exact AvLe.refl | exact AvLe.loose | exact AvLe.nil | exact AvLe.nilT | exact AvLe.slk) ?_)))) ?_))))) ?_
  simp only [go_sem]
  (repeat (refine ⟨by (first | exact True.intro | omega | rfl | (simp; done) | (simp; omega)), ?_⟩)); try (refine hKr _ ?_; clear hKr Kr)
  refine hK93 _ ?_
  refine T.regD 121 [0, 1, 2, 4, 5, 6, 7, 8, 9, 10, 11, 19, 24, 77, 92] fun Kr hKr => ?_
  simp only [go_sem]
  (repeat (refine ⟨by (first | exact True.intro | omega | rfl | (simp; done) | (simp; omega)), ?_⟩)); try (refine hKr _ ?_; clear hKr Kr)
  refine ⟨(k + 1, m', out.set k ⟨(out.getD k default).app, (out.getD k default).id, movU (p.st.getD k default).e m, (out.getD k default).und⟩), ?_, ?_, Le.fitS (by (repeat (first | exact DFit.nil | refine DFit.cons (by first | rfl | (simp [slook]; done) | (simp [slook]; omega)) ?_))) ?_⟩
  · exact ⟨by simp only; omega, by simp; omega, hd, c6, hdp', hw'⟩
  · simp only; omega
  · (repeat (first | exact True.intro | refine And.intro (by first | rfl | (simp [look]; done)) ?_))
end Go.Proofs
