/- Undo: undoing leaves what replaying makes, and the other steps as they are. -/
import Derived.Test.YtjbflniimfmnhaaV3
set_option linter.unusedVariables false
set_option linter.unusedSimpArgs false
namespace Go.Proofs
open Go Go.Ideal
set_option maxRecDepth 8000
set_option maxHeartbeats 4000000

theorem remU_at (app : Int) : ∀ (l : List Stp) (m : Mark) (j : Nat), j < l.length → core ((remU app m l).getD j default) = core (l.getD j default) ∧ ((remU app m l).getD j default).und = (l.getD j default).und ∧
    (goneS app (l.getD j default) → (remU app m l).getD j default = l.getD j default)
  | [], _, j, h => absurd h (by simp)
  | s :: l, m, 0, _ => by
    simp only [remU]
    split
    · exact ⟨rfl, rfl, fun _ => rfl⟩
    · rename_i g
      exact ⟨outS_core s m, rfl, fun h => absurd h g⟩
  | s :: l, m, j + 1, h => by
    simp only [remU]
    split
    · exact remU_at app l m j (by simpa using h)
    · exact remU_at app l _ j (by simpa using h)
theorem undS_at {p : Past} {i a : Nat} (c : Cho p i a) {k : Nat} (hk : k < p.st.length) : core ((undS p i).getD k default) = core (p.st.getD k default) ∧
    ((undS p i).getD k default).und = ((p.st.getD k default).und || decide (k = i)) ∧ (k ≤ i ∨ (p.st.getD k default).app ≠ a → ((undS p i).getD k default).e = (p.st.getD k default).e) := by
  have hi := c.lt
  have hA : (p.st.take i).length = i := by simp; omega
  rw [undS_eq p i hi]
  rcases Nat.lt_trichotomy k i with h | h | h
  · have e : ∀ R : List Stp, (p.st.take i ++ R).getD k default = p.st.getD k default := fun R => by
      rw [List.getD, List.getElem?_append_left (by rw [hA]; exact h), List.getElem?_take, if_pos h]; rfl
    rw [e]
    refine ⟨rfl, ?_, fun _ => rfl⟩
    rw [decide_eq_false (by omega)]; simp
  · subst h
    have e : ∀ (x : Stp) (R : List Stp), (p.st.take k ++ x :: R).getD k default = x := fun x R => by
      rw [List.getD, List.getElem?_append_right (by omega), hA]; simp
    rw [e]
    exact ⟨rfl, by simp, fun _ => rfl⟩
  · obtain ⟨j, rfl⟩ : ∃ j, k = i + 1 + j := ⟨k - (i + 1), by omega⟩
    have e : ∀ (x : Stp) (R : List Stp), (p.st.take i ++ x :: R).getD (i + 1 + j) default = R.getD j default := fun x R => by
      rw [List.getD, List.getElem?_append_right (by omega), hA, show i + 1 + j - i = j + 1 by omega]; rfl
    have e2 : (p.st.drop (i + 1)).getD j default = p.st.getD (i + 1 + j) default := by simp [List.getD, List.getElem?_drop]
    rw [e]
    obtain ⟨r1, r2, r3⟩ := remU_at (p.st.getD i default).app (p.st.drop (i + 1)) (fstM (p.st.getD i default)) j (by simp; omega)
    rw [e2] at r1 r2 r3
    refine ⟨r1, ?_, fun h => ?_⟩
    · rw [r2, decide_eq_false (by omega)]; simp
    · rw [r3 (.inl (by have := c.app; omega))]
/-- What undoing a commit leaves. -/
structure Und (p : Past) (i a : Nat) (D' : Doc) : Prop where
  eq : undU p i = (⟨p.docs.set a D', undS p i⟩, [], 0)
  good : Good ⟨p.docs.set a D', undS p i⟩
  ok : OkD D'
  len : (undS p i).length = p.st.length
theorem und_of {p : Past} (h : Good p) {i a : Nat} (c : Cho p i a) (hw : (depU p i).1 = []) : ∃ D', Und p i a D' := by
  obtain ⟨a', D', h1, h2, h3, h4, h5, _⟩ := undU_eq h c.com hw
  have : a' = a := by have := c.app; omega
  subst this
  have hg := good_und h c.com hw
  rw [h3] at hg
  exact ⟨D', h3, hg, h5.ok', undS_len c.lt⟩
theorem good_replay {p : Past} (h : Good p) {a n : Nat} (ha : a < p.docs.length) (hn : p.st.length ≤ n) : repR a (p.st.take n) noDoc = p.docs.getD a default := by
  rw [List.take_of_length_le hn]
  exact repR_eq a _ _ _ h.com (h.rep a ha)
theorem replays_law (l : List URaw) (n : UInt8) : Ideal.Spec Try.prog 4 [.sl false 7 (urawsOf l), .int .u8 n.toNat] (.bool true) none := by
  have s1 := Made_specU l
  have hM := made_ok l
  generalize madeU l = p at *
  have hg := hM.good
  have hsl := hM.len
  have h2 := hM.two
  have hnn := n.toNat_lt
  have s2 := Chosen_specU p n (by omega)
  have s0 := sanityU_spec
  refine Ideal.Spec.of_TD (n := 172) (fn := Try.f4) rfl rfl rfl rfl rfl rfl rfl fun w ok => ?_
  refine T.sregD 172 [0, 1, 4, 5, 6, 7, 8, 9, 10, 11, 12, 20, 27, 48, 50, 89, 94, 149, 170] fun Kr hKr => ?_
  simp only [go_sem]
  (repeat (refine ⟨by (first | exact True.intro | omega | rfl | (simp; done) | (simp; omega)), ?_⟩)); try (refine hKr _ ?_; clear hKr Kr)
  refine T.sregD 172 [0, 1, 4, 5, 6, 7, 8, 9, 10, 11, 12, 20, 27, 48, 50, 89, 94, 149, 170] fun Kr hKr => ?_
  simp only [go_sem]
  (repeat (refine ⟨by (first | exact True.intro | omega | rfl | (simp; done) | (simp; omega)), ?_⟩)); try (refine hKr _ ?_; clear hKr Kr)
  refine CallK.data (fun _ => Spec.args (s0) (by (first | exact ArgsLe.refl | (repeat (first | exact True.intro | refine And.intro (by first | exact AvLe.refl | exact AvLe.loose | exact AvLe.nil | exact AvLe.nilT | exact AvLe.slk | (refine AvLe.agg ?_; exact ArgsLe.refl) | (refine AvLe.agg ?_; (repeat (first | exact True.intro | refine And.intro (by first | exact AvLe.refl | exact AvLe.loose | exact AvLe.nil | exact AvLe.nilT | exact AvLe.slk) ?_)))) ?_))))) rfl ?_
  simp only [go_sem]
  (repeat (refine ⟨by (first | exact True.intro | omega | rfl | (simp; done) | (simp; omega)), ?_⟩)); try (refine hKr _ ?_; clear hKr Kr)
  refine T.sregD 172 [0, 1, 4, 5, 6, 7, 8, 9, 10, 11, 12, 20, 27, 48, 50, 89, 94, 149, 170] fun Kr hKr => ?_
  simp only [go_sem]
  (repeat (refine ⟨by (first | exact True.intro | omega | rfl | (simp; done) | (simp; omega)), ?_⟩)); try (refine hKr _ ?_; clear hKr Kr)
  refine CallK.data (fun _ => Spec.args (s1) (by (first | exact ArgsLe.refl | (repeat (first | exact True.intro | refine And.intro (by first | exact AvLe.refl | exact AvLe.loose | exact AvLe.nil | exact AvLe.nilT | exact AvLe.slk | (refine AvLe.agg ?_; exact ArgsLe.refl) | (refine AvLe.agg ?_; (repeat (first | exact True.intro | refine And.intro (by first | exact AvLe.refl | exact AvLe.loose | exact AvLe.nil | exact AvLe.nilT | exact AvLe.slk) ?_)))) ?_))))) rfl ?_
  simp only [go_sem]
  (repeat (refine ⟨by (first | exact True.intro | omega | rfl | (simp; done) | (simp; omega)), ?_⟩)); try (refine hKr _ ?_; clear hKr Kr)
  refine T.sregD 172 [0, 1, 4, 5, 6, 7, 8, 9, 10, 11, 12, 20, 27, 48, 50, 89, 94, 149, 170] fun Kr hKr => ?_
  simp only [go_sem]
  (repeat (refine ⟨by (first | exact True.intro | omega | rfl | (simp; done) | (simp; omega)), ?_⟩)); try (refine hKr _ ?_; clear hKr Kr)
  refine CallK.data (fun _ => Spec.args (s2) (by (first | exact ArgsLe.refl | (repeat (first | exact True.intro | refine And.intro (by first | exact AvLe.refl | exact AvLe.loose | exact AvLe.nil | exact AvLe.nilT | exact AvLe.slk | (refine AvLe.agg ?_; exact ArgsLe.refl) | (refine AvLe.agg ?_; (repeat (first | exact True.intro | refine And.intro (by first | exact AvLe.refl | exact AvLe.loose | exact AvLe.nil | exact AvLe.nilT | exact AvLe.slk) ?_)))) ?_))))) rfl ?_
  simp only [go_sem]
  (repeat (refine ⟨by (first | exact True.intro | omega | rfl | (simp; done) | (simp; omega)), ?_⟩)); try (refine hKr _ ?_; clear hKr Kr)
  refine T.seqK fun K1 hK1 => ?_
  rcases choU_com p n with he | ⟨i, he, hc⟩
  · rw [he]
    refine T.sregD 172 [0, 1, 4, 5, 6, 7, 8, 9, 10, 11, 12, 20, 27, 48, 50, 89, 94, 149, 170] fun Kr hKr => ?_
    simp only [go_sem]
    (repeat (refine ⟨by (first | exact True.intro | omega | rfl | (simp; done) | (simp; omega)), ?_⟩)); try (refine hKr _ ?_; clear hKr Kr)
    refine T.condTD rfl rfl (fun hb => ?_) (fun hb => ?_) <;> try simp at hb
    refine T.sregD 172 [0, 1, 4, 5, 6, 7, 8, 9, 10, 11, 12, 20, 27, 48, 50, 89, 94, 149, 170] fun Kr hKr => ?_
    simp only [go_sem]
    (repeat (refine ⟨by (first | exact True.intro | omega | rfl | (simp; done) | (simp; omega)), ?_⟩)); try (refine hKr _ ?_; clear hKr Kr)
    refine T.ret (Fin.dataD rfl rfl rfl)
  rw [he]
  obtain ⟨a, c⟩ := cho_of hg hc
  have s3 := undone_spec hg i
  have hi := c.lt
  have ha := c.app
  have hal := c.al
  have hi0 : ((i : Int) < 0) = False := eq_false (by omega)
  refine T.sregD 172 [0, 1, 4, 5, 6, 7, 8, 9, 10, 11, 12, 20, 27, 48, 50, 89, 94, 149, 170] fun Kr hKr => ?_
  simp only [go_sem, hi0]
  (repeat (refine ⟨by (first | exact True.intro | omega | rfl | (simp; done) | (simp; omega)), ?_⟩)); try (refine hKr _ ?_; clear hKr Kr)
  refine T.condTD rfl rfl (fun hb => ?_) (fun hb => ?_) <;> try simp at hb
  refine T.skip ?_
  refine hK1 _ ?_
  refine T.sregD 172 [0, 1, 4, 5, 6, 7, 8, 9, 10, 11, 12, 20, 27, 48, 50, 89, 94, 149, 170] fun Kr hKr => ?_
  simp only [go_sem]
  (repeat (refine ⟨by (first | exact True.intro | omega | rfl | (simp; done) | (simp; omega)), ?_⟩)); try (refine hKr _ ?_; clear hKr Kr)
  refine CallK.data (fun _ => Spec.args (s3) (by (first | exact ArgsLe.refl | (repeat (first | exact True.intro | refine And.intro (by first | exact AvLe.refl | exact AvLe.loose | exact AvLe.nil | exact AvLe.nilT | exact AvLe.slk | (refine AvLe.agg ?_; exact ArgsLe.refl) | (refine AvLe.agg ?_; (repeat (first | exact True.intro | refine And.intro (by first | exact AvLe.refl | exact AvLe.loose | exact AvLe.nil | exact AvLe.nilT | exact AvLe.slk) ?_)))) ?_))))) rfl ?_
  simp only [go_sem]
  (repeat (refine ⟨by (first | exact True.intro | omega | rfl | (simp; done) | (simp; omega)), ?_⟩)); try (refine hKr _ ?_; clear hKr Kr)
  refine T.seqK fun K2 hK2 => ?_
  by_cases hw : (depU p i).1 = []
  rotate_left
  · have ee : undU p i = (noPast, (depU p i).1, 320) := by unfold undU; rw [if_neg (by rw [depU_inv.1.2 c.com]; simp), if_pos hw]
    rw [ee]
    refine T.sregD 172 [0, 1, 4, 5, 6, 7, 8, 9, 10, 11, 12, 20, 27, 48, 50, 89, 94, 149, 170] fun Kr hKr => ?_
    simp only [go_sem]
    (repeat (refine ⟨by (first | exact True.intro | omega | rfl | (simp; done) | (simp; omega)), ?_⟩)); try (refine hKr _ ?_; clear hKr Kr)
    refine T.condTD rfl rfl (fun hb => ?_) (fun hb => ?_) <;> try simp at hb
    refine T.sregD 172 [0, 1, 4, 5, 6, 7, 8, 9, 10, 11, 12, 20, 27, 48, 50, 89, 94, 149, 170] fun Kr hKr => ?_
    simp only [go_sem]
    (repeat (refine ⟨by (first | exact True.intro | omega | rfl | (simp; done) | (simp; omega)), ?_⟩)); try (refine hKr _ ?_; clear hKr Kr)
    refine T.ret (Fin.dataD rfl rfl rfl)
  obtain ⟨D', U⟩ := und_of hg hw (c := c)
  have hat : ∀ k, k < p.st.length → _ := fun k hk => undS_at c hk
  have hcu := c.und
  rw [U.eq]
  have hq := U.good
  have hQl := U.len
  have hok := U.ok
  have s4 : ∀ x : Nat, x < 2 → Ideal.Spec Try.prog 17 [pastA ⟨p.docs.set a D', undS p i⟩, .int .i64 x, .int .i64 400] (docA ((p.docs.set a D').getD x default)) none := fun x hx => by
    have := Replay_spec ⟨p.docs.set a D', undS p i⟩ x 400 (by simp only; omega) (by omega) (fun s hs => by have := hq.txt s hs; omega)
    rw [good_replay hq (by simp; omega) (by simp only; omega)] at this
    exact this
  have hset : ∀ x, (p.docs.set a D').getD x default = if x = a then D' else p.docs.getD x default := fun x => by
    simp only [List.getD, List.getElem?_set]
    by_cases hx : a = x
    · subst hx; simp [hal]
    · rw [if_neg hx, if_neg (by omega)]
  have hoks : ∀ x, x < 2 → OkD ((p.docs.set a D').getD x default) := fun x hx => hq.okD (p := ⟨p.docs.set a D', undS p i⟩) (by simp; omega)
  have hS2 : (p.docs.set a D').length = 2 := by simpa using h2
  clear U
  generalize p.docs.set a D' = S at *
  generalize undS p i = Q at *
  refine T.sregD 172 [0, 1, 4, 5, 6, 7, 8, 9, 10, 11, 12, 20, 27, 48, 50, 89, 94, 149, 170] fun Kr hKr => ?_
  simp only [go_sem]
  (repeat (refine ⟨by (first | exact True.intro | omega | rfl | (simp; done) | (simp; omega)), ?_⟩)); try (refine hKr _ ?_; clear hKr Kr)
  refine T.condTD rfl rfl (fun hb => ?_) (fun hb => ?_) <;> try simp at hb
  refine T.skip ?_
  refine hK2 _ ?_
  refine T.seqK fun K3 hK3 => ?_
  refine T.sregD 172 [0, 1, 4, 5, 6, 7, 8, 9, 10, 11, 12, 20, 27, 48, 50, 89, 94, 149, 170] fun Kr hKr => ?_
  simp only [go_sem, hS2, hQl]
  (repeat (refine ⟨by (first | exact True.intro | omega | rfl | (simp; done) | (simp; omega)), ?_⟩)); try (refine hKr _ ?_; clear hKr Kr)
  refine T.condTD rfl rfl (fun hb => ?_) (fun hb => ?_) <;> try simp at hb
  refine T.skip ?_
  refine hK3 _ ?_
  refine T.seqK fun K4 hK4 => ?_
  refine T.sregD 172 [0, 1, 4, 5, 6, 7, 8, 9, 10, 11, 12, 20, 27, 48, 50, 89, 94, 149, 170] fun Kr hKr => ?_
  simp only [go_sem]
  (repeat (refine ⟨by (first | exact True.intro | omega | rfl | (simp; done) | (simp; omega)), ?_⟩)); try (refine hKr _ ?_; clear hKr Kr)
  refine T.bloop (fun x : Nat => ⟨dense 172 [(5, .bool true), (6, .op 6 0 0), (7, .int .i64 i), (8, .op 8 0 0), (9, .int .i64 x)], [(8, ⟨4, 40, true, [undA (⟨S, Q⟩, [], 0)]⟩), (6, ⟨2, 27, true, [pastA p]⟩)]⟩) (fun x => x ≤ 2) (fun x => 2 - x) 0 (by simp) ?_ fun x hx => ?_
  · refine Le.fitS (by (repeat (first | exact DFit.nil | refine DFit.cons (by first | rfl | (simp [slook]; done) | (simp [slook]; omega)) ?_))) (by (repeat (first | exact True.intro | refine And.intro (by first | rfl | (simp [look]; done)) ?_)))
  refine T.seqK fun K5 hK5 => ?_
  refine T.sregD 172 [0, 1, 4, 5, 6, 7, 8, 9, 10, 11, 12, 20, 27, 48, 50, 89, 94, 149, 170] fun Kr hKr => ?_
  simp only [go_sem]
  (repeat (refine ⟨by (first | exact True.intro | omega | rfl | (simp; done) | (simp; omega)), ?_⟩)); try (refine hKr _ ?_; clear hKr Kr)
  refine T.condFD rfl rfl (fun hb => ?_) (fun hb => ?_) <;> simp only [decide_eq_true_eq, decide_eq_false_iff_not] at hb
  · -- no: exit
    refine T.exit ?_
    simp only [if_true]
    refine hK4 _ ?_
    refine T.seqK fun K6 hK6 => ?_
    refine T.sregD 172 [0, 1, 4, 5, 6, 7, 8, 9, 10, 11, 12, 20, 27, 48, 50, 89, 94, 149, 170] fun Kr hKr => ?_
    simp only [go_sem]
    (repeat (refine ⟨by (first | exact True.intro | omega | rfl | (simp; done) | (simp; omega)), ?_⟩)); try (refine hKr _ ?_; clear hKr Kr)
    refine T.bloop (fun k : Nat => ⟨dense 172 [(5, .bool true), (6, .op 6 0 0), (7, .int .i64 i), (8, .op 8 0 0), (10, .int .i64 k)], [(8, ⟨4, 40, true, [undA (⟨S, Q⟩, [], 0)]⟩), (6, ⟨2, 27, true, [pastA p]⟩)]⟩) (fun k => k ≤ p.st.length) (fun k => p.st.length - k) 0 (by simp) ?_ fun k hk => ?_
    · refine Le.fitS (by (repeat (first | exact DFit.nil | refine DFit.cons (by first | rfl | (simp [slook]; done) | (simp [slook]; omega)) ?_))) (by (repeat (first | exact True.intro | refine And.intro (by first | rfl | (simp [look]; done)) ?_)))
    refine T.seqK fun K7 hK7 => ?_
    refine T.sregD 172 [0, 1, 4, 5, 6, 7, 8, 9, 10, 11, 12, 20, 27, 48, 50, 89, 94, 149, 170] fun Kr hKr => ?_
    simp only [go_sem]
    (repeat (refine ⟨by (first | exact True.intro | omega | rfl | (simp; done) | (simp; omega)), ?_⟩)); try (refine hKr _ ?_; clear hKr Kr)
    refine T.condFD rfl rfl (fun hd => ?_) (fun hd => ?_) <;> simp only [decide_eq_true_eq, decide_eq_false_iff_not] at hd
    · -- no: exit
      refine T.exit ?_
      simp only [if_true]
      refine hK6 _ ?_
      refine T.sregD 172 [0, 1, 4, 5, 6, 7, 8, 9, 10, 11, 12, 20, 27, 48, 50, 89, 94, 149, 170] fun Kr hKr => ?_
      simp only [go_sem]
      (repeat (refine ⟨by (first | exact True.intro | omega | rfl | (simp; done) | (simp; omega)), ?_⟩)); try (refine hKr _ ?_; clear hKr Kr)
      refine T.ret (Fin.dataD rfl rfl rfl)
    have hkl : k < p.st.length := by omega
    have hkQ : k < Q.length := by omega
    obtain ⟨c1, c2, c3⟩ := hat k hkl
    refine T.skip ?_
    refine hK7 _ ?_
    refine T.seqK fun K8 hK8 => ?_
    refine T.block ?_
    refine T.sdraw2D 172 [0, 1, 4, 5, 6, 7, 8, 9, 10, 11, 12, 20, 27, 48, 50, 89, 94, 149, 170] (.take 0 (.take 1 (.take 2 (.take 3 (.take 4 (.take 5 (.take 6 (.take 7 (.take 8 (.take 9 (.take 10 (.two 11 (.one 12 (.one 13 (.one 14 .done))) 12 (.one 11 (.one 13 (.one 14 .done))))))))))))))) [6, 8] rfl (by decide +kernel) (by decide +kernel) ?x1 ?h1 (fun Kr hKr => ?all1) ?rest1
    case all1 =>
      simp only [go_sem, hkl, hkQ]
      (repeat (any_goals (first | exact hKr _ (.inl rfl) | exact hKr _ (.inr (by (repeat (first | exact True.intro | refine And.intro (by first | rfl | (simp [look]; done)) ?_)))) | (refine And.intro ?_ ?_) | (first | exact True.intro | omega | rfl | (simp; done) | (simp; omega)))))
      all_goals (first | exact hKr _ (.inl rfl) | exact hKr _ (.inr (by (repeat (first | exact True.intro | refine And.intro (by first | rfl | (simp [look]; done)) ?_)))))
    case rest1 =>
    have hki : k = i → (p.st.getD k default).und = false := fun e => by rw [e]; exact hcu
    generalize p.st.getD k default = X at *
    generalize Q.getD k default = Y at *
    obtain ⟨xa, xi, ⟨xk, xx, xn, xt, xs⟩, xu⟩ := X
    obtain ⟨ya, yi, ⟨yk, yx, yn, yt, ys⟩, yu⟩ := Y
    simp only [core, Prod.mk.injEq] at c1
    obtain ⟨rfl, rfl, rfl, rfl⟩ := c1
    simp only at c2 c3 hki
    have hyu : (if xu = true then true else decide ((k : Int) = (i : Int))) = yu := by
      rw [c2]
      have : (((k : Int) = (i : Int)) ↔ k = i) := by omega
      cases xu <;> simp [this]
    refine T.seqK fun K9 hK9 => ?_
    refine T.sregD 172 [0, 1, 4, 5, 6, 7, 8, 9, 10, 11, 12, 20, 27, 48, 50, 89, 94, 149, 170] fun Kr hKr => ?_
    simp only [go_sem]
    (repeat (refine ⟨by (first | exact True.intro | omega | rfl | (simp; done) | (simp; omega)), ?_⟩)); try (refine hKr _ ?_; clear hKr Kr)
    have hxy : yu = (xu || decide ((k : Int) = (i : Int))) := by rw [c2]; congr 1; simp; omega
    refine T.condTD rfl rfl (fun hb => ?_) (fun hb => ?_)
    · exfalso
      subst hxy
      cases xu <;> simp at hb
    refine T.skip ?_
    refine hK9 _ ?_
    by_cases hy : k ≤ i ∨ ya ≠ a
    · have hee := c3 hy
      simp only [Edit.mk.injEq] at hee
      obtain ⟨_, rfl, rfl, rfl, _⟩ := hee
      refine T.sdrawD 172 [0, 1, 4, 5, 6, 7, 8, 9, 10, 11, 12, 20, 27, 48, 50, 89, 94, 149, 170] (.take 0 (.take 1 (.take 2 (.take 3 (.take 4 (.take 5 (.take 6 (.take 7 (.take 8 (.take 9 (.take 10 (.take 11 (.take 12 (.take 13 (.take 14 (.take 15 (.take 16 (.take 17 (.take 18 (.take 19 (.take 20 .done))))))))))))))))))))) [6, 11, 12] rfl (by decide +kernel) (by decide +kernel) fun Kr hKr => ?_
      simp only [go_sem, hi, ha, decide_true, beq_self_eq_true]
      (repeat (refine ⟨by (first | exact True.intro | omega | rfl | (simp; done) | (simp; omega)), ?_⟩)); try (refine hKr _ ?_; clear hKr Kr)
      refine T.condTD rfl rfl (fun hb => ?_) (fun hb => ?_)
      · exfalso; simp at hb
      refine T.skip ?_
      refine hK8 _ ?_
      refine T.regD 172 [0, 1, 4, 5, 6, 7, 8, 9, 10, 11, 12, 20, 27, 48, 50, 89, 94, 149, 170] fun Kr hKr => ?_
      simp only [go_sem]
      (repeat (refine ⟨by (first | exact True.intro | omega | rfl | (simp; done) | (simp; omega)), ?_⟩)); try (refine hKr _ ?_; clear hKr Kr)
      refine ⟨k + 1, ?_, ?_, Le.fitS (by (repeat (first | exact DFit.nil | refine DFit.cons (by first | rfl | (simp [slook]; done) | (simp [slook]; omega)) ?_))) ?_⟩
      · omega
      · omega
      · (repeat (first | exact True.intro | refine And.intro (by first | rfl | (simp [look]; done)) ?_))
    · have h1 : ((k : Int) ≤ (i : Int)) = False := eq_false (by omega)
      have h3 : (ya = (a : Int)) = True := eq_true (by omega)
      refine T.sdrawD 172 [0, 1, 4, 5, 6, 7, 8, 9, 10, 11, 12, 20, 27, 48, 50, 89, 94, 149, 170] (.take 0 (.take 1 (.take 2 (.take 3 (.take 4 (.take 5 (.take 6 (.take 7 (.take 8 (.take 9 (.take 10 (.take 11 (.take 12 (.take 13 (.take 14 (.take 15 (.take 16 (.take 17 (.take 18 (.take 19 (.take 20 .done))))))))))))))))))))) [6, 11, 12] rfl (by decide +kernel) (by decide +kernel) fun Kr hKr => ?_
      simp only [go_sem, hi, ha, h1, h3]
      (repeat (refine ⟨by (first | exact True.intro | omega | rfl | (simp; done) | (simp; omega)), ?_⟩)); try (refine hKr _ ?_; clear hKr Kr)
      refine T.condTD rfl rfl (fun hb => ?_) (fun hb => ?_)
      · exfalso; simp at hb
      refine T.skip ?_
      refine hK8 _ ?_
      refine T.regD 172 [0, 1, 4, 5, 6, 7, 8, 9, 10, 11, 12, 20, 27, 48, 50, 89, 94, 149, 170] fun Kr hKr => ?_
      simp only [go_sem]
      (repeat (refine ⟨by (first | exact True.intro | omega | rfl | (simp; done) | (simp; omega)), ?_⟩)); try (refine hKr _ ?_; clear hKr Kr)
      refine ⟨k + 1, ?_, ?_, Le.fitS (by (repeat (first | exact DFit.nil | refine DFit.cons (by first | rfl | (simp [slook]; done) | (simp [slook]; omega)) ?_))) ?_⟩
      · omega
      · omega
      · (repeat (first | exact True.intro | refine And.intro (by first | rfl | (simp [look]; done)) ?_))
  have hx2 : x < 2 := by omega
  have hxS : x < S.length := by omega
  have hxP : x < p.docs.length := by omega
  have s5 := s4 x hx2
  have hokx := hoks x hx2
  have hl1 := hokx.len
  have hl2 := hokx.cnt
  have s6 := Same_spec (S.getD x default) (S.getD x default) (by omega) (by omega) (by omega) (by omega)
  rw [decide_eq_true rfl] at s6
  refine T.skip ?_
  refine hK5 _ ?_
  refine T.seqK fun K10 hK10 => ?_
  refine T.block ?_
  by_cases hxa : x = a
  · have h1 : ((x : Int) = (a : Int)) = True := eq_true (by omega)
    refine T.sdrawD 172 [0, 1, 4, 5, 6, 7, 8, 9, 10, 11, 12, 20, 27, 48, 50, 89, 94, 149, 170] (.take 0 (.take 1 (.take 2 (.take 4 (.take 5 (.take 6 (.take 7 (.take 8 (.take 9 (.one 3 (.one 10 (.take 11 (.take 12 (.take 13 (.take 14 (.take 15 (.take 16 (.take 17 (.take 18 (.take 19 (.take 20 (.take 21 (.take 22 (.take 23 (.take 24 (.take 25 (.take 26 (.take 27 (.take 28 (.take 29 (.take 30 (.take 31 (.take 32 (.one 33 (.take 34 (.take 35 (.take 36 .done))))))))))))))))))))))))))))))))))))) [6, 8] rfl (by decide +kernel) (by decide +kernel) fun Kr hKr => ?_
    simp only [go_sem, hi, ha, hxS, hxP, h1]
    (repeat (refine ⟨by (first | exact True.intro | omega | rfl | (simp; done) | (simp; omega)), ?_⟩)); try (refine hKr _ ?_; clear hKr Kr)
    refine CallK.data (fun _ => Spec.args (s5) (by (first | exact ArgsLe.refl | (repeat (first | exact True.intro | refine And.intro (by first | exact AvLe.refl | exact AvLe.loose | exact AvLe.nil | exact AvLe.nilT | exact AvLe.slk | (refine AvLe.agg ?_; exact ArgsLe.refl) | (refine AvLe.agg ?_; (repeat (first | exact True.intro | refine And.intro (by first | exact AvLe.refl | exact AvLe.loose | exact AvLe.nil | exact AvLe.nilT | exact AvLe.slk) ?_)))) ?_))))) rfl ?_
    simp only [go_sem, hi, ha, hxS, hxP, h1]
    (repeat (refine ⟨by (first | exact True.intro | omega | rfl | (simp; done) | (simp; omega)), ?_⟩)); try (refine hKr _ ?_; clear hKr Kr)
    refine CallK.data (fun _ => Spec.args (s6) (by (first | exact ArgsLe.refl | (repeat (first | exact True.intro | refine And.intro (by first | exact AvLe.refl | exact AvLe.loose | exact AvLe.nil | exact AvLe.nilT | exact AvLe.slk | (refine AvLe.agg ?_; exact ArgsLe.refl) | (refine AvLe.agg ?_; (repeat (first | exact True.intro | refine And.intro (by first | exact AvLe.refl | exact AvLe.loose | exact AvLe.nil | exact AvLe.nilT | exact AvLe.slk) ?_)))) ?_))))) rfl ?_
    simp only [go_sem, hi, ha, hxS, hxP, h1]
    (repeat (refine ⟨by (first | exact True.intro | omega | rfl | (simp; done) | (simp; omega)), ?_⟩)); try (refine hKr _ ?_; clear hKr Kr)
    refine CallK.data (r := .bool true) (fun h => by cases h) rfl ?_
    simp only [go_sem, hi, ha, hxS, hxP, h1]
    (repeat (refine ⟨by (first | exact True.intro | omega | rfl | (simp; done) | (simp; omega)), ?_⟩)); try (refine hKr _ ?_; clear hKr Kr)
    refine T.condTD rfl rfl (fun hb => ?_) (fun hb => ?_)
    · exfalso; simp at hb
    refine T.skip ?_
    refine hK10 _ ?_
    refine T.regD 172 [0, 1, 4, 5, 6, 7, 8, 9, 10, 11, 12, 20, 27, 48, 50, 89, 94, 149, 170] fun Kr hKr => ?_
    simp only [go_sem]
    (repeat (refine ⟨by (first | exact True.intro | omega | rfl | (simp; done) | (simp; omega)), ?_⟩)); try (refine hKr _ ?_; clear hKr Kr)
    refine ⟨x + 1, ?_, ?_, Le.fitS (by (repeat (first | exact DFit.nil | refine DFit.cons (by first | rfl | (simp [slook]; done) | (simp [slook]; omega)) ?_))) ?_⟩
    · omega
    · omega
    · (repeat (first | exact True.intro | refine And.intro (by first | rfl | (simp [look]; done)) ?_))
  · have h1 : ((x : Int) = (a : Int)) = False := eq_false (by omega)
    have hgx := hset x
    rw [if_neg hxa] at hgx
    rw [hgx] at s5 s6
    refine T.sdrawD 172 [0, 1, 4, 5, 6, 7, 8, 9, 10, 11, 12, 20, 27, 48, 50, 89, 94, 149, 170] (.take 0 (.take 1 (.take 2 (.take 4 (.take 5 (.take 6 (.take 7 (.take 8 (.take 9 (.one 3 (.one 10 (.take 11 (.take 12 (.take 13 (.take 14 (.take 15 (.take 16 (.take 17 (.take 18 (.take 19 (.take 20 (.take 21 (.take 22 (.take 23 (.take 24 (.take 25 (.take 26 (.take 27 (.take 28 (.take 29 (.take 30 (.take 31 (.take 32 (.one 33 (.take 34 (.take 35 (.take 36 .done))))))))))))))))))))))))))))))))))))) [6, 8] rfl (by decide +kernel) (by decide +kernel) fun Kr hKr => ?_
    simp only [go_sem, hi, ha, hxS, hxP, h1, hgx]
    (repeat (refine ⟨by (first | exact True.intro | omega | rfl | (simp; done) | (simp; omega)), ?_⟩)); try (refine hKr _ ?_; clear hKr Kr)
    refine CallK.data (fun _ => Spec.args (s5) (by (first | exact ArgsLe.refl | (repeat (first | exact True.intro | refine And.intro (by first | exact AvLe.refl | exact AvLe.loose | exact AvLe.nil | exact AvLe.nilT | exact AvLe.slk | (refine AvLe.agg ?_; exact ArgsLe.refl) | (refine AvLe.agg ?_; (repeat (first | exact True.intro | refine And.intro (by first | exact AvLe.refl | exact AvLe.loose | exact AvLe.nil | exact AvLe.nilT | exact AvLe.slk) ?_)))) ?_))))) rfl ?_
    simp only [go_sem, hi, ha, hxS, hxP, h1, hgx]
    (repeat (refine ⟨by (first | exact True.intro | omega | rfl | (simp; done) | (simp; omega)), ?_⟩)); try (refine hKr _ ?_; clear hKr Kr)
    refine CallK.data (fun _ => Spec.args (s6) (by (first | exact ArgsLe.refl | (repeat (first | exact True.intro | refine And.intro (by first | exact AvLe.refl | exact AvLe.loose | exact AvLe.nil | exact AvLe.nilT | exact AvLe.slk | (refine AvLe.agg ?_; exact ArgsLe.refl) | (refine AvLe.agg ?_; (repeat (first | exact True.intro | refine And.intro (by first | exact AvLe.refl | exact AvLe.loose | exact AvLe.nil | exact AvLe.nilT | exact AvLe.slk) ?_)))) ?_))))) rfl ?_
    simp only [go_sem, hi, ha, hxS, hxP, h1, hgx]
    (repeat (refine ⟨by (first | exact True.intro | omega | rfl | (simp; done) | (simp; omega)), ?_⟩)); try (refine hKr _ ?_; clear hKr Kr)
    refine CallK.data (fun _ => Spec.args (s6) (by (first | exact ArgsLe.refl | (repeat (first | exact True.intro | refine And.intro (by first | exact AvLe.refl | exact AvLe.loose | exact AvLe.nil | exact AvLe.nilT | exact AvLe.slk | (refine AvLe.agg ?_; exact ArgsLe.refl) | (refine AvLe.agg ?_; (repeat (first | exact True.intro | refine And.intro (by first | exact AvLe.refl | exact AvLe.loose | exact AvLe.nil | exact AvLe.nilT | exact AvLe.slk) ?_)))) ?_))))) rfl ?_
    simp only [go_sem, hi, ha, hxS, hxP, h1, hgx]
    (repeat (refine ⟨by (first | exact True.intro | omega | rfl | (simp; done) | (simp; omega)), ?_⟩)); try (refine hKr _ ?_; clear hKr Kr)
    refine T.condTD rfl rfl (fun hb => ?_) (fun hb => ?_)
    · exfalso; simp at hb
    refine T.skip ?_
    refine hK10 _ ?_
    refine T.regD 172 [0, 1, 4, 5, 6, 7, 8, 9, 10, 11, 12, 20, 27, 48, 50, 89, 94, 149, 170] fun Kr hKr => ?_
    simp only [go_sem]
    (repeat (refine ⟨by (first | exact True.intro | omega | rfl | (simp; done) | (simp; omega)), ?_⟩)); try (refine hKr _ ?_; clear hKr Kr)
    refine ⟨x + 1, ?_, ?_, Le.fitS (by (repeat (first | exact DFit.nil | refine DFit.cons (by first | rfl | (simp [slook]; done) | (simp [slook]; omega)) ?_))) ?_⟩
    · omega
    · omega
    · (repeat (first | exact True.intro | refine And.intro (by first | rfl | (simp [look]; done)) ?_))
end Go.Proofs
