/- Undo: contracts of the reference: equal pasts, the choice of steps, pasts that are made; the statements' own small functions. -/
import Derived.Test.YtdhkkdhooobdhaaU9
import Derived.Test.YtdhkkdhooobdhaaD8
set_option linter.unusedVariables false
set_option linter.unusedSimpArgs false
namespace Go.Proofs
open Go Go.Ideal
set_option maxRecDepth 8000
set_option maxHeartbeats 4000000

/-! ### Equal pasts -/
/-! ### Steps that are chosen -/
structure URaw where
  app : UInt8
  und : Bool
  x : Raw
  deriving Inhabited
@[go_sem] def urawA (x : URaw) : AV := .agg [.int .u8 x.app.toNat, .bool x.und, .int .u8 x.x.k.toNat, .int .u8 x.x.a.toNat, .int .u8 x.x.n.toNat, .int .u8 x.x.t.toNat, .sl false 1 (bytesOf x.x.s)]
def urawsOf (l : List URaw) : List AV := l.map urawA
@[go_sem] theorem urawsOf_len (l : List URaw) : (urawsOf l).length = l.length := by simp [urawsOf]
@[go_sem] theorem urawsOf_get {l : List URaw} {i : Nat} (h : i < l.length) : (urawsOf l).getD i .junk = urawA (l.getD i default) := by simp [urawsOf, List.getD, h]
def nextU (p : Past) (x : URaw) : Stp :=
  if 128 ≤ x.x.k.toNat then ⟨(x.app.toNat % 2 : Nat), p.st.length, editF ⟨0, x.x.a, x.x.n, x.x.t, x.x.s⟩ (p.docs.getD (x.app.toNat % 2) default).s.length, false⟩
  else ⟨(x.app.toNat % 2 : Nat), -1, editF x.x (p.docs.getD (x.app.toNat % 2) default).s.length, false⟩
theorem Next_specU {p : Past} (h : Good p) (h2 : p.docs.length = 2) (x : URaw) : Ideal.Spec Try.prog 47 [pastA p, urawA x] (stA (nextU p x)) none := by
  have hsl := h.sl
  have hk := x.x.k.toNat_lt
  have hap := x.app.toNat_lt
  obtain ⟨a, hae, hal⟩ : ∃ a : Nat, x.app.toNat % 2 = a ∧ a < 2 := ⟨_, rfl, by omega⟩
  have hae' : (x.app.toNat : Int) % 2 = a := by omega
  have hd := (h.okD (a := a) (by omega)).len
  have had : a < p.docs.length := by omega
  have e1 : nextU p x = if 128 ≤ x.x.k.toNat then ⟨a, p.st.length, editF ⟨0, x.x.a, x.x.n, x.x.t, x.x.s⟩ (p.docs.getD a default).s.length, false⟩
    else ⟨a, -1, editF x.x (p.docs.getD a default).s.length, false⟩ := by unfold nextU; rw [hae]
  refine Ideal.Spec.of_CD (n := 39) (fn := Try.f47) rfl rfl rfl rfl rfl rfl rfl fun w ok => ?_
  refine T.post [.tmp 4] ?_
  refine T.sregD 39 [0, 1, 2, 3, 4, 5, 6, 26] fun Kr hKr => ?_
  simp only [go_sem]
  (repeat (refine ⟨by (first | exact True.intro | omega | rfl | (simp; done) | (simp; omega)), ?_⟩)); try (refine hKr _ ?_; clear hKr Kr)
  refine T.sregD 39 [0, 1, 2, 3, 4, 5, 6, 26] fun Kr hKr => ?_
  simp only [go_sem, h2, hae']
  (repeat (refine ⟨by (first | exact True.intro | omega | rfl | (simp; done) | (simp; omega)), ?_⟩)); try (refine hKr _ ?_; clear hKr Kr)
  refine T.sregD 39 [0, 1, 2, 3, 4, 5, 6, 26] fun Kr hKr => ?_
  simp only [go_sem, had]
  (repeat (refine ⟨by (first | exact True.intro | omega | rfl | (simp; done) | (simp; omega)), ?_⟩)); try (refine hKr _ ?_; clear hKr Kr)
  refine T.seqK fun K72 hK72 => ?_
  refine T.sregD 39 [0, 1, 2, 3, 4, 5, 6, 26] fun Kr hKr => ?_
  simp only [go_sem]
  (repeat (refine ⟨by (first | exact True.intro | omega | rfl | (simp; done) | (simp; omega)), ?_⟩)); try (refine hKr _ ?_; clear hKr Kr)
  refine T.condTD rfl rfl (fun hb => ?_) (fun hb => ?_) <;> simp at hb
  · -- a commit
    have ee : nextU p x = ⟨a, p.st.length, editF ⟨0, x.x.a, x.x.n, x.x.t, x.x.s⟩ (p.docs.getD a default).s.length, false⟩ := by rw [e1, if_pos (by omega)]
    have s1 : Ideal.Spec Try.prog 68 [.agg [.int .u8 0, .int .u8 x.x.a.toNat, .int .u8 x.x.n.toNat, .int .u8 x.x.t.toNat, .sl false 1 (bytesOf x.x.s)], .int .i64 (p.docs.getD a default).s.length] (editA (editF ⟨0, x.x.a, x.x.n, x.x.t, x.x.s⟩ (p.docs.getD a default).s.length)) none :=
      Edit_spec ⟨0, x.x.a, x.x.n, x.x.t, x.x.s⟩ (p.docs.getD a default).s.length (by omega)
    generalize editF ⟨0, x.x.a, x.x.n, x.x.t, x.x.s⟩ (p.docs.getD a default).s.length = E at *
    refine T.sregD 39 [0, 1, 2, 3, 4, 5, 6, 26] fun Kr hKr => ?_
    simp only [go_sem]
    (repeat (refine ⟨by (first | exact True.intro | omega | rfl | (simp; done) | (simp; omega)), ?_⟩)); try (refine hKr _ ?_; clear hKr Kr)
    refine T.regD 39 [0, 1, 2, 3, 4, 5, 6, 26] fun Kr hKr => ?_
    simp only [go_sem]
    (repeat (refine ⟨by (first | exact True.intro | omega | rfl | (simp; done) | (simp; omega)), ?_⟩)); try (refine hKr _ ?_; clear hKr Kr)
    refine hK72 _ ?_
    refine T.sregD 39 [0, 1, 2, 3, 4, 5, 6, 26] fun Kr hKr => ?_
    simp only [go_sem]
    (repeat (refine ⟨by (first | exact True.intro | omega | rfl | (simp; done) | (simp; omega)), ?_⟩)); try (refine hKr _ ?_; clear hKr Kr)
    refine CallK.data (fun _ => Spec.args (s1) (by (first | exact ArgsLe.refl | (repeat (first | exact True.intro | refine And.intro (by first | exact AvLe.refl | exact AvLe.loose | exact AvLe.nil | exact AvLe.nilT | exact AvLe.slk | (refine AvLe.agg ?_; exact ArgsLe.refl) | (refine AvLe.agg ?_; (repeat (first | exact True.intro | refine And.intro (by first | exact AvLe.refl | exact AvLe.loose | exact AvLe.nil | exact AvLe.nilT | exact AvLe.slk) ?_)))) ?_))))) rfl ?_
    simp only [go_sem]
    (repeat (refine ⟨by (first | exact True.intro | omega | rfl | (simp; done) | (simp; omega)), ?_⟩)); try (refine hKr _ ?_; clear hKr Kr)
    refine T.sregD 39 [0, 1, 2, 3, 4, 5, 6, 26] fun Kr hKr => ?_
    simp only [go_sem]
    (repeat (refine ⟨by (first | exact True.intro | omega | rfl | (simp; done) | (simp; omega)), ?_⟩)); try (refine hKr _ ?_; clear hKr Kr)
    refine T.ret ?_
    simp only [go_sem]
    exact ⟨ResCellD rfl rfl rfl rfl (by simp only [go_sem]) (by rw [ee]; simp only [go_sem]) rfl, trivial⟩
  have ee : nextU p x = ⟨a, -1, editF x.x (p.docs.getD a default).s.length, false⟩ := by rw [e1, if_neg (by omega)]
  have s1 := Edit_spec x.x (p.docs.getD a default).s.length (by omega)
  generalize editF x.x (p.docs.getD a default).s.length = E at *
  refine T.skip ?_
  refine hK72 _ ?_
  refine T.sregD 39 [0, 1, 2, 3, 4, 5, 6, 26] fun Kr hKr => ?_
  simp only [go_sem]
  (repeat (refine ⟨by (first | exact True.intro | omega | rfl | (simp; done) | (simp; omega)), ?_⟩)); try (refine hKr _ ?_; clear hKr Kr)
  refine CallK.data (fun _ => Spec.args (s1) (by (first | exact ArgsLe.refl | (repeat (first | exact True.intro | refine And.intro (by first | exact AvLe.refl | exact AvLe.loose | exact AvLe.nil | exact AvLe.nilT | exact AvLe.slk | (refine AvLe.agg ?_; exact ArgsLe.refl) | (refine AvLe.agg ?_; (repeat (first | exact True.intro | refine And.intro (by first | exact AvLe.refl | exact AvLe.loose | exact AvLe.nil | exact AvLe.nilT | exact AvLe.slk) ?_)))) ?_))))) rfl ?_
  simp only [go_sem]
  (repeat (refine ⟨by (first | exact True.intro | omega | rfl | (simp; done) | (simp; omega)), ?_⟩)); try (refine hKr _ ?_; clear hKr Kr)
  refine T.sregD 39 [0, 1, 2, 3, 4, 5, 6, 26] fun Kr hKr => ?_
  simp only [go_sem]
  (repeat (refine ⟨by (first | exact True.intro | omega | rfl | (simp; done) | (simp; omega)), ?_⟩)); try (refine hKr _ ?_; clear hKr Kr)
  refine T.ret ?_
  simp only [go_sem]
  exact ⟨ResCellD rfl rfl rfl rfl (by simp only [go_sem]) (by rw [ee]; simp only [go_sem]) rfl, trivial⟩
def stepU (p : Past) (x : URaw) : Past :=
  if x.und = true ∧ 0 < p.st.length then (if (undU p ((x.x.a.toNat % p.st.length : Nat) : Int)).2.2 = 0 then (undU p ((x.x.a.toNat % p.st.length : Nat) : Int)).1 else p)
  else if (doU p (nextU p x)).2 = 0 then (doU p (nextU p x)).1 else p
theorem nextU_len (p : Past) (x : URaw) : (nextU p x).e.s.length ≤ 4 := by
  unfold nextU
  split <;> exact editF_len _ _
theorem Step_specU {p : Past} (h : Good p) (h2 : p.docs.length = 2) (x : URaw) : Ideal.Spec Try.prog 34 [pastA p, urawA x] (pastA (stepU p x)) none := by
  have hsl := h.sl
  have hxa := x.x.a.toNat_lt
  have sN := Next_specU h h2 x
  have hnl := nextU_len p x
  have sO := DoR_spec_U p (nextU p x) h.okP (by omega)
  refine Ideal.Spec.of_CD (n := 44) (fn := Try.f34) rfl rfl rfl rfl rfl rfl rfl fun w ok => ?_
  refine T.post [.tmp 4] ?_
  refine T.sregD 44 [0, 1, 2, 3, 4, 5, 6, 7, 15, 28, 41] fun Kr hKr => ?_
  simp only [go_sem]
  (repeat (refine ⟨by (first | exact True.intro | omega | rfl | (simp; done) | (simp; omega)), ?_⟩)); try (refine hKr _ ?_; clear hKr Kr)
  refine T.seqK fun K101 hK101 => ?_
  refine T.sregD 44 [0, 1, 2, 3, 4, 5, 6, 7, 15, 28, 41] fun Kr hKr => ?_
  simp only [go_sem, cond_and]
  (repeat (refine ⟨by (first | exact True.intro | omega | rfl | (simp; done) | (simp; omega)), ?_⟩)); try (refine hKr _ ?_; clear hKr Kr)
  refine T.condTD rfl rfl (fun hb => ?_) (fun hb => ?_) <;> simp only [Bool.and_eq_true, Bool.and_eq_false_iff, decide_eq_true_eq, decide_eq_false_iff_not] at hb
  · -- a commit is undone
    obtain ⟨hu, hpos⟩ := hb
    have hpos : 0 < p.st.length := by omega
    obtain ⟨j, hj, hjl⟩ : ∃ j : Nat, x.x.a.toNat % p.st.length = j ∧ j < p.st.length := ⟨_, rfl, Nat.mod_lt _ hpos⟩
    have hj' : (x.x.a.toNat : Int) % (p.st.length : Int) = j := by rw [← hj]; simp
    have hz : ((p.st.length : Int) = 0) = False := eq_false (by omega)
    have e1 : stepU p x = if (undU p j).2.2 = 0 then (undU p j).1 else p := by unfold stepU; rw [if_pos ⟨hu, hpos⟩, hj]
    have sU := UndoR_spec h j
    have hun := undU_no p j
    generalize undU p j = R at *
    refine T.sdraw2D 44 [0, 1, 2, 3, 4, 5, 6, 7, 15, 28, 41] (.take 0 (.take 1 (.take 2 (.take 3 (.take 4 (.take 5 (.take 6 (.take 7 (.take 8 (.two 9 (.one 10 (.one 11 .done)) 10 (.one 9 (.one 11 .done)))))))))))) [2, 3] rfl (by decide +kernel) (by decide +kernel) ?x1 ?h1 (fun Kr hKr => ?all1) ?rest1
    case all1 =>
      simp only [go_sem, hz, hj']
      (repeat (any_goals (first | exact hKr _ (.inl rfl) | exact hKr _ (.inr (by (repeat (first | exact True.intro | refine And.intro (by first | rfl | (simp [look]; done)) ?_)))) | ((first | refine CallK.dataA (sU) ?_ rfl ?_ | refine CallK.tupA (sU) ?_ ?_ | refine CallK.ownA (sU) ?_ ?_); (focus ((first | exact ArgsLe.refl | (repeat (first | exact True.intro | refine And.intro (by first | exact AvLe.refl | exact AvLe.loose | exact AvLe.nil | exact AvLe.nilT | exact AvLe.slk | (refine AvLe.agg ?_; exact ArgsLe.refl) | (refine AvLe.agg ?_; (repeat (first | exact True.intro | refine And.intro (by first | exact AvLe.refl | exact AvLe.loose | exact AvLe.nil | exact AvLe.nilT | exact AvLe.slk) ?_)))) ?_))); done)); simp only [go_sem, hz, hj']) | (refine And.intro ?_ ?_) | (first | exact True.intro | omega | rfl | (simp; done) | (simp; omega)))))
      all_goals (first | exact hKr _ (.inl rfl) | exact hKr _ (.inr (by (repeat (first | exact True.intro | refine And.intro (by first | rfl | (simp [look]; done)) ?_)))))
    case rest1 =>
    refine T.seqK fun K102 hK102 => ?_
    refine T.sregD 44 [0, 1, 2, 3, 4, 5, 6, 7, 15, 28, 41] fun Kr hKr => ?_
    simp only [go_sem]
    (repeat (refine ⟨by (first | exact True.intro | omega | rfl | (simp; done) | (simp; omega)), ?_⟩)); try (refine hKr _ ?_; clear hKr Kr)
    refine T.condTD rfl rfl (fun hc => ?_) (fun hc => ?_) <;> simp at hc
    · rw [if_pos hc] at e1
      refine T.sregD 44 [0, 1, 2, 3, 4, 5, 6, 7, 15, 28, 41] fun Kr hKr => ?_
      simp only [go_sem]
      (repeat (refine ⟨by (first | exact True.intro | omega | rfl | (simp; done) | (simp; omega)), ?_⟩)); try (refine hKr _ ?_; clear hKr Kr)
      refine T.ret ?_
      simp only [go_sem]
      exact ⟨ResCellD rfl rfl rfl rfl (by simp only [go_sem]) (by rw [e1]; simp only [go_sem]) rfl, trivial⟩
    rw [if_neg hc] at e1
    refine T.skip ?_
    refine hK102 _ ?_
    refine T.sregD 44 [0, 1, 2, 3, 4, 5, 6, 7, 15, 28, 41] fun Kr hKr => ?_
    simp only [go_sem]
    (repeat (refine ⟨by (first | exact True.intro | omega | rfl | (simp; done) | (simp; omega)), ?_⟩)); try (refine hKr _ ?_; clear hKr Kr)
    refine T.ret ?_
    simp only [go_sem]
    exact ⟨ResCellD rfl rfl rfl rfl (by simp only [go_sem]) (by rw [e1]; simp only [go_sem]) rfl, trivial⟩
  have e1 : stepU p x = if (doU p (nextU p x)).2 = 0 then (doU p (nextU p x)).1 else p := by
    unfold stepU; rw [if_neg (by rintro ⟨h1, h3⟩; rcases hb with hb | hb; rw [h1] at hb; cases hb; exact hb (by omega))]
  generalize nextU p x = N at *
  generalize doU p N = R at *
  refine T.skip ?_
  refine hK101 _ ?_
  refine T.sdraw2D 44 [0, 1, 2, 3, 4, 5, 6, 7, 15, 28, 41] (.take 0 (.take 1 (.take 2 (.two 3 (.two 4 (.take 5 (.take 6 (.take 7 (.one 8 (.one 9 (.take 10 .done)))))) 8 (.one 4 (.take 5 (.take 6 (.take 7 (.one 9 (.take 10 .done))))))) 8 (.one 3 (.one 4 (.take 5 (.take 6 (.take 7 (.one 9 (.take 10 .done))))))))))) [2, 3] rfl (by decide +kernel) (by decide +kernel) ?x2 ?h2 (fun Kr hKr => ?all2) ?rest2
  case all2 =>
    simp only [go_sem]
    (repeat (any_goals (first | exact hKr _ (.inl rfl) | exact hKr _ (.inr (by (repeat (first | exact True.intro | refine And.intro (by first | rfl | (simp [look]; done)) ?_)))) | ((first | refine CallK.dataA (sN) ?_ rfl ?_ | refine CallK.tupA (sN) ?_ ?_ | refine CallK.ownA (sN) ?_ ?_); (focus ((first | exact ArgsLe.refl | (repeat (first | exact True.intro | refine And.intro (by first | exact AvLe.refl | exact AvLe.loose | exact AvLe.nil | exact AvLe.nilT | exact AvLe.slk | (refine AvLe.agg ?_; exact ArgsLe.refl) | (refine AvLe.agg ?_; (repeat (first | exact True.intro | refine And.intro (by first | exact AvLe.refl | exact AvLe.loose | exact AvLe.nil | exact AvLe.nilT | exact AvLe.slk) ?_)))) ?_))); done)); simp only [go_sem]) | ((first | refine CallK.dataA (sO) ?_ rfl ?_ | refine CallK.tupA (sO) ?_ ?_ | refine CallK.ownA (sO) ?_ ?_); (focus ((first | exact ArgsLe.refl | (repeat (first | exact True.intro | refine And.intro (by first | exact AvLe.refl | exact AvLe.loose | exact AvLe.nil | exact AvLe.nilT | exact AvLe.slk | (refine AvLe.agg ?_; exact ArgsLe.refl) | (refine AvLe.agg ?_; (repeat (first | exact True.intro | refine And.intro (by first | exact AvLe.refl | exact AvLe.loose | exact AvLe.nil | exact AvLe.nilT | exact AvLe.slk) ?_)))) ?_))); done)); simp only [go_sem]) | (refine And.intro ?_ ?_) | (first | exact True.intro | omega | rfl | (simp; done) | (simp; omega)))))
    all_goals (first | exact hKr _ (.inl rfl) | exact hKr _ (.inr (by (repeat (first | exact True.intro | refine And.intro (by first | rfl | (simp [look]; done)) ?_)))))
  case rest2 =>
  refine T.seqK fun K103 hK103 => ?_
  refine T.sregD 44 [0, 1, 2, 3, 4, 5, 6, 7, 15, 28, 41] fun Kr hKr => ?_
  simp only [go_sem]
  (repeat (refine ⟨by (first | exact True.intro | omega | rfl | (simp; done) | (simp; omega)), ?_⟩)); try (refine hKr _ ?_; clear hKr Kr)
  refine T.condTD rfl rfl (fun hc => ?_) (fun hc => ?_) <;> simp at hc
  · rw [if_pos hc] at e1
    refine T.sregD 44 [0, 1, 2, 3, 4, 5, 6, 7, 15, 28, 41] fun Kr hKr => ?_
    simp only [go_sem]
    (repeat (refine ⟨by (first | exact True.intro | omega | rfl | (simp; done) | (simp; omega)), ?_⟩)); try (refine hKr _ ?_; clear hKr Kr)
    refine T.ret ?_
    simp only [go_sem]
    exact ⟨ResCellD rfl rfl rfl rfl (by simp only [go_sem]) (by rw [e1]; simp only [go_sem]) rfl, trivial⟩
  rw [if_neg hc] at e1
  refine T.skip ?_
  refine hK103 _ ?_
  refine T.sregD 44 [0, 1, 2, 3, 4, 5, 6, 7, 15, 28, 41] fun Kr hKr => ?_
  simp only [go_sem]
  (repeat (refine ⟨by (first | exact True.intro | omega | rfl | (simp; done) | (simp; omega)), ?_⟩)); try (refine hKr _ ?_; clear hKr Kr)
  refine T.ret ?_
  simp only [go_sem]
  exact ⟨ResCellD rfl rfl rfl rfl (by simp only [go_sem]) (by rw [e1]; simp only [go_sem]) rfl, trivial⟩

/-! ### Pasts that are made -/
def runU (l : List URaw) : Nat → Past
  | 0 => ⟨List.replicate 2 noDoc, []⟩
  | k + 1 => stepU (runU l k) (l.getD k default)
structure MadeOK (p : Past) (n : Nat) : Prop where
  good : Good p
  two : p.docs.length = 2
  len : p.st.length ≤ n
  ids : ∀ s ∈ p.st, s.id < p.st.length
theorem nextU_id (p : Past) (x : URaw) : (nextU p x).id = p.st.length ∨ (nextU p x).id = -1 := by
  unfold nextU
  split
  · exact .inl rfl
  · exact .inr rfl
theorem doU_ok {p : Past} {s : Stp} (h : Good p) (h0 : (doU p s).2 = 0) (hs : p.st.length < 90) (ht : s.e.s.length ≤ 1000) : (doU p s).1.st = p.st ++ [s] ∧ (doU p s).1.docs.length = p.docs.length := by
  obtain ⟨_, a, _, _, _, e, _⟩ := good_do h h0 hs ht
  rw [e]; simp
theorem MadeOK.step {p : Past} {n : Nat} (h : MadeOK p n) (hn : n < 80) (x : URaw) : MadeOK (stepU p x) (n + 1) := by
  unfold stepU
  split
  · split
    · rename_i h1 h2
      obtain ⟨c1, c2⟩ := und_zero h2
      have hg := good_und h.good c1 c2
      obtain ⟨a, D', _, _, he, _⟩ := undU_eq h.good c1 c2
      obtain ⟨_, hi, _⟩ := isCom_inv c1
      simp only [Int.toNat_natCast] at hi
      have hl := undS_len hi
      refine ⟨hg, ?_, ?_, fun s hs => ?_⟩
      · rw [he]; simpa using h.two
      · rw [he]; show (undS p _).length ≤ _; rw [hl]; have := h.len; omega
      · rw [he] at hs ⊢
        show s.id < ((undS p _).length : Int)
        rw [hl]
        obtain ⟨t, ht, _, e2, _⟩ := mem_core (undS_core hi) hs
        rw [← e2]; exact h.ids t ht
    · exact ⟨h.good, h.two, by have := h.len; omega, h.ids⟩
  · split
    · rename_i h1 h2
      have hl := nextU_len p x
      have hlen := h.len
      obtain ⟨e1, e2⟩ := doU_ok h.good h2 (by omega) (by omega)
      refine ⟨(good_do h.good h2 (by omega) (by omega)).1, by rw [e2]; exact h.two, by rw [e1]; simp; omega, fun s hs => ?_⟩
      rw [e1] at hs ⊢
      simp only [List.length_append, List.length_singleton]
      rcases List.mem_append.1 hs with hs | hs
      · have := h.ids s hs; omega
      · simp only [List.mem_singleton] at hs
        subst hs
        rcases nextU_id p x with h3 | h3 <;> omega
    · exact ⟨h.good, h.two, by have := h.len; omega, h.ids⟩
theorem run_made (l : List URaw) : ∀ k, k ≤ 80 → MadeOK (runU l k) k
  | 0, _ => ⟨good_new 2 (by decide), by simp [runU], by simp [runU], by simp [runU]⟩
  | k + 1, h => (run_made l k (by omega)).step (by omega) _
def madeU (l : List URaw) : Past := runU l (min l.length 14)
theorem made_ok (l : List URaw) : MadeOK (madeU l) 14 := by
  have h := run_made l (min l.length 14) (by omega)
  exact ⟨h.good, h.two, by have := h.len; show (runU l (min l.length 14)).st.length ≤ 14; omega, h.ids⟩
theorem Made_specU (l : List URaw) : Ideal.Spec Try.prog 13 [.sl false 7 (urawsOf l)] (pastA (madeU l)) none := by
  have s1 := NewR_spec 2 (by decide)
  refine Ideal.Spec.of_CD (n := 23) (fn := Try.f13) rfl rfl rfl rfl rfl rfl rfl fun w ok => ?_
  refine T.post [.tmp 2] ?_
  refine T.sregD 23 [0, 2, 3, 4, 13] fun Kr hKr => ?_
  simp only [go_sem]
  (repeat (refine ⟨by (first | exact True.intro | omega | rfl | (simp; done) | (simp; omega)), ?_⟩)); try (refine hKr _ ?_; clear hKr Kr)
  refine T.sregD 23 [0, 2, 3, 4, 13] fun Kr hKr => ?_
  simp only [go_sem]
  (repeat (refine ⟨by (first | exact True.intro | omega | rfl | (simp; done) | (simp; omega)), ?_⟩)); try (refine hKr _ ?_; clear hKr Kr)
  refine CallK.data (fun _ => Spec.args (s1) (by (first | exact ArgsLe.refl | (repeat (first | exact True.intro | refine And.intro (by first | exact AvLe.refl | exact AvLe.loose | exact AvLe.nil | exact AvLe.nilT | exact AvLe.slk | (refine AvLe.agg ?_; exact ArgsLe.refl) | (refine AvLe.agg ?_; (repeat (first | exact True.intro | refine And.intro (by first | exact AvLe.refl | exact AvLe.loose | exact AvLe.nil | exact AvLe.nilT | exact AvLe.slk) ?_)))) ?_))))) rfl ?_
  simp only [go_sem]
  (repeat (refine ⟨by (first | exact True.intro | omega | rfl | (simp; done) | (simp; omega)), ?_⟩)); try (refine hKr _ ?_; clear hKr Kr)
  refine T.seqK fun K54 hK54 => ?_
  refine T.sregD 23 [0, 2, 3, 4, 13] fun Kr hKr => ?_
  simp only [go_sem]
  (repeat (refine ⟨by (first | exact True.intro | omega | rfl | (simp; done) | (simp; omega)), ?_⟩)); try (refine hKr _ ?_; clear hKr Kr)
  refine T.bloop (fun i : Nat => ⟨dense 23 [(0, .sl false 7 (urawsOf l)), (2, .op 2 0 0), (3, .op 3 0 0), (4, .int .i64 i)], [(3, ⟨2, 33, true, [pastA (runU l i)]⟩), (2, ⟨2, 33, true, [.agg [.sl true 1 [], .sl true 1 []]]⟩)]⟩)
    (fun i => i ≤ l.length ∧ i ≤ 14) (fun i => l.length - i) 0 (by simp) ?_ fun i hi => ?_
  · refine Le.fitS (by (repeat (first | exact DFit.nil | refine DFit.cons (by first | rfl | (simp [slook]; done) | (simp [slook]; omega)) ?_))) (by (repeat (first | exact True.intro | refine And.intro (by first | rfl | (simp [look]; done)) ?_)))
  obtain ⟨hi1, hi2⟩ := hi
  refine T.seqK fun K55 hK55 => ?_
  refine T.sregD 23 [0, 2, 3, 4, 13] fun Kr hKr => ?_
  simp only [go_sem, cond_and]
  (repeat (refine ⟨by (first | exact True.intro | omega | rfl | (simp; done) | (simp; omega)), ?_⟩)); try (refine hKr _ ?_; clear hKr Kr)
  refine T.condFD rfl rfl (fun hb => ?_) (fun hb => ?_) <;> simp only [Bool.and_eq_true, decide_eq_true_eq, Bool.and_eq_false_iff, decide_eq_false_iff_not] at hb
  · -- no: exit
    refine T.exit ?_
    simp only [if_true]
    refine hK54 _ ?_
    have : madeU l = runU l i := by unfold madeU; congr 1; omega
    rw [this]
    refine T.sregD 23 [0, 2, 3, 4, 13] fun Kr hKr => ?_
    simp only [go_sem]
    (repeat (refine ⟨by (first | exact True.intro | omega | rfl | (simp; done) | (simp; omega)), ?_⟩)); try (refine hKr _ ?_; clear hKr Kr)
    refine T.ret ?_
    simp only [go_sem]
    exact ⟨ResCellD rfl rfl rfl rfl (by simp only [go_sem]) (by simp only [go_sem]) rfl, trivial⟩
  have hil : i < l.length := by omega
  have hm := run_made l i (by omega)
  have sS := Step_specU hm.good hm.two (l.getD i default)
  change Ideal.Spec Try.prog 34 [pastA (runU l i), urawA (l.getD i default)] (pastA (runU l (i + 1))) none at sS
  generalize runU l i = P0 at *
  refine T.skip ?_
  refine hK55 _ ?_
  refine T.seqK fun K56 hK56 => ?_
  refine T.block ?_
  refine T.drawD 23 [0, 2, 3, 4, 13] (.take 1 (.take 2 (.take 3 (.take 4 (.one 0 (.one 5 (.one 6 .done))))))) [] rfl (by decide +kernel) (by decide +kernel) fun Kr hKr => ?_
  simp only [go_sem, hil]
  (repeat (refine ⟨by (first | exact True.intro | omega | rfl | (simp; done) | (simp; omega)), ?_⟩)); try (refine hKr _ ?_; clear hKr Kr)
  refine CallK.data (fun _ => Spec.args (sS) (by (first | exact ArgsLe.refl | (repeat (first | exact True.intro | refine And.intro (by first | exact AvLe.refl | exact AvLe.loose | exact AvLe.nil | exact AvLe.nilT | exact AvLe.slk | (refine AvLe.agg ?_; exact ArgsLe.refl) | (refine AvLe.agg ?_; (repeat (first | exact True.intro | refine And.intro (by first | exact AvLe.refl | exact AvLe.loose | exact AvLe.nil | exact AvLe.nilT | exact AvLe.slk) ?_)))) ?_))))) rfl ?_
  simp only [go_sem, hil]
  (repeat (refine ⟨by (first | exact True.intro | omega | rfl | (simp; done) | (simp; omega)), ?_⟩)); try (refine hKr _ ?_; clear hKr Kr)
  refine hK56 _ ?_
  refine T.regD 23 [0, 2, 3, 4, 13] fun Kr hKr => ?_
  simp only [go_sem]
  (repeat (refine ⟨by (first | exact True.intro | omega | rfl | (simp; done) | (simp; omega)), ?_⟩)); try (refine hKr _ ?_; clear hKr Kr)
  refine ⟨i + 1, ?_, ?_, Le.fitS (by (repeat (first | exact DFit.nil | refine DFit.cons (by first | rfl | (simp [slook]; done) | (simp [slook]; omega)) ?_))) ?_⟩
  · exact ⟨by omega, by omega⟩
  · omega
  · (repeat (first | exact True.intro | refine And.intro (by first | rfl | (simp [look]; done)) ?_))

/-! ### A commit that is chosen -/
def comL (p : Past) (k : Nat) : List Nat := (List.range k).filter fun (i : Nat) => comR p i
theorem comL_succ (p : Past) (k : Nat) : comL p (k + 1) = comL p k ++ (if comR p k = true then [k] else []) := by
  simp only [comL, List.range_succ, List.filter_append]
  congr 1
  by_cases h : comR p k = true <;> simp [h]
theorem comL_len (p : Past) (k : Nat) : (comL p k).length ≤ k := Nat.le_trans (List.length_filter_le _ _) (by simp)
def choU (p : Past) (n : UInt8) : Int := if comL p p.st.length = [] then -1 else ((comL p p.st.length).getD (n.toNat % (comL p p.st.length).length) default : Nat)
theorem choU_com (p : Past) (n : UInt8) : choU p n = -1 ∨ ∃ i : Nat, choU p n = i ∧ comR p i = true := by
  unfold choU
  split
  · exact .inl rfl
  · rename_i h
    refine .inr ⟨_, rfl, ?_⟩
    have hpos : 0 < (comL p p.st.length).length := List.length_pos_iff.2 h
    have hm : (comL p p.st.length).getD (n.toNat % (comL p p.st.length).length) default ∈ comL p p.st.length := by
      have := Nat.mod_lt n.toNat hpos
      simp [List.getD, this]
    exact (List.mem_filter.1 hm).2
theorem Chosen_specU (p : Past) (n : UInt8) (hs : p.st.length ≤ 100000) : Ideal.Spec Try.prog 14 [pastA p, .int .u8 n.toNat] (.int .i64 (choU p n)) none := by
  have hn := n.toNat_lt
  refine Ideal.Spec.of_TD (n := 33) (fn := Try.f14) rfl rfl rfl rfl rfl rfl rfl fun w ok => ?_
  refine T.sregD 33 [0, 1, 2, 4, 5, 6, 12, 17, 24] fun Kr hKr => ?_
  simp only [go_sem]
  (repeat (refine ⟨by (first | exact True.intro | omega | rfl | (simp; done) | (simp; omega)), ?_⟩)); try (refine hKr _ ?_; clear hKr Kr)
  refine T.sregD 33 [0, 1, 2, 4, 5, 6, 12, 17, 24] fun Kr hKr => ?_
  simp only [go_sem]
  (repeat (refine ⟨by (first | exact True.intro | omega | rfl | (simp; done) | (simp; omega)), ?_⟩)); try (refine hKr _ ?_; clear hKr Kr)
  refine T.seqK fun K57 hK57 => ?_
  refine T.sregD 33 [0, 1, 2, 4, 5, 6, 12, 17, 24] fun Kr hKr => ?_
  simp only [go_sem]
  (repeat (refine ⟨by (first | exact True.intro | omega | rfl | (simp; done) | (simp; omega)), ?_⟩)); try (refine hKr _ ?_; clear hKr Kr)
  refine T.bloop (fun j : Nat => ⟨dense 33 [(1, .int .u8 n.toNat), (2, .op 2 0 0), (5, .osl 7 0 (comL p j).length), (6, .int .i64 j)], [(7, ⟨1, 3, false, intsOf (ofN (comL p j))⟩), (2, ⟨2, 33, true, [pastA p]⟩)]⟩) (fun j => j ≤ p.st.length) (fun j => p.st.length - j) 0 (by simp) ?_ fun j hj => ?_
  · refine Le.fitS (by (repeat (first | exact DFit.nil | refine DFit.cons (by first | rfl | (simp [slook]; done) | (simp [slook]; omega)) ?_))) (by (repeat (first | exact True.intro | refine And.intro (by first | rfl | (simp [look]; done)) ?_)))
  have hll := comL_len p j
  refine T.seqK fun K58 hK58 => ?_
  refine T.sregD 33 [0, 1, 2, 4, 5, 6, 12, 17, 24] fun Kr hKr => ?_
  simp only [go_sem]
  (repeat (refine ⟨by (first | exact True.intro | omega | rfl | (simp; done) | (simp; omega)), ?_⟩)); try (refine hKr _ ?_; clear hKr Kr)
  refine T.condFD rfl rfl (fun hb => ?_) (fun hb => ?_) <;> simp at hb
  · -- no: exit
    refine T.exit ?_
    simp only [if_true]
    refine hK57 _ ?_
    have : j = p.st.length := by omega
    subst this
    have e0 : choU p n = if comL p p.st.length = [] then (-1 : Int) else ((comL p p.st.length).getD (n.toNat % (comL p p.st.length).length) default : Nat) := rfl
    generalize comL p p.st.length = L at *
    refine T.seqK fun K59 hK59 => ?_
    refine T.sregD 33 [0, 1, 2, 4, 5, 6, 12, 17, 24] fun Kr hKr => ?_
    simp only [go_sem]
    (repeat (refine ⟨by (first | exact True.intro | omega | rfl | (simp; done) | (simp; omega)), ?_⟩)); try (refine hKr _ ?_; clear hKr Kr)
    refine T.condTD rfl rfl (fun hc => ?_) (fun hc => ?_) <;> simp at hc
    · have ee : choU p n = -1 := by rw [e0, if_pos (by simpa using hc)]
      refine T.sregD 33 [0, 1, 2, 4, 5, 6, 12, 17, 24] fun Kr hKr => ?_
      simp only [go_sem]
      (repeat (refine ⟨by (first | exact True.intro | omega | rfl | (simp; done) | (simp; omega)), ?_⟩)); try (refine hKr _ ?_; clear hKr Kr)
      refine T.ret (Fin.dataD (by rw [ee]; rfl) rfl rfl)
    have hpos : 0 < L.length := List.length_pos_iff.2 (by simpa using hc)
    obtain ⟨q, hq, hql⟩ : ∃ q : Nat, n.toNat % L.length = q ∧ q < L.length := ⟨_, rfl, Nat.mod_lt _ hpos⟩
    have hq' : (n.toNat : Int) % (L.length : Int) = q := by rw [← hq]; simp
    have hz : ((L.length : Int) = 0) = False := eq_false (by omega)
    have hql2 : q < (ofN L).length := by simpa [ofN] using hql
    have hgo : (ofN L).getD q default = ((L.getD q default : Nat) : Int) := by simp [ofN, List.getD, hql]
    have ee : choU p n = (L.getD q default : Nat) := by rw [e0, if_neg (by simpa using hc), hq]
    refine T.skip ?_
    refine hK59 _ ?_
    refine T.sregD 33 [0, 1, 2, 4, 5, 6, 12, 17, 24] fun Kr hKr => ?_
    simp only [go_sem, hz, hq', hql, hql2, hgo]
    (repeat (refine ⟨by (first | exact True.intro | omega | rfl | (simp; done) | (simp; omega)), ?_⟩)); try (refine hKr _ ?_; clear hKr Kr)
    refine T.ret (Fin.dataD (by rw [ee]; rfl) rfl rfl)
  refine T.skip ?_
  refine hK58 _ ?_
  refine T.seqK fun K60 hK60 => ?_
  refine T.block ?_
  have s1 := Commit_spec p j (by omega)
  have hstep := comL_succ p j
  refine T.sregD 33 [0, 1, 2, 4, 5, 6, 12, 17, 24] fun Kr hKr => ?_
  simp only [go_sem]
  (repeat (refine ⟨by (first | exact True.intro | omega | rfl | (simp; done) | (simp; omega)), ?_⟩)); try (refine hKr _ ?_; clear hKr Kr)
  refine CallK.data (fun _ => Spec.args (s1) (by (first | exact ArgsLe.refl | (repeat (first | exact True.intro | refine And.intro (by first | exact AvLe.refl | exact AvLe.loose | exact AvLe.nil | exact AvLe.nilT | exact AvLe.slk | (refine AvLe.agg ?_; exact ArgsLe.refl) | (refine AvLe.agg ?_; (repeat (first | exact True.intro | refine And.intro (by first | exact AvLe.refl | exact AvLe.loose | exact AvLe.nil | exact AvLe.nilT | exact AvLe.slk) ?_)))) ?_))))) rfl ?_
  simp only [go_sem]
  (repeat (refine ⟨by (first | exact True.intro | omega | rfl | (simp; done) | (simp; omega)), ?_⟩)); try (refine hKr _ ?_; clear hKr Kr)
  refine T.condTD rfl rfl (fun hc => ?_) (fun hc => ?_) <;> try simp at hc
  · rw [if_pos hc] at hstep
    have happ : intsOf (ofN (comL p j ++ [j])) = intsOf (ofN (comL p j)) ++ [.int .i64 j] := by simp [intsOf, ofN]
    refine T.regD 33 [0, 1, 2, 4, 5, 6, 12, 17, 24] fun Kr hKr => ?_
    simp only [go_sem]
    (repeat (refine ⟨by (first | exact True.intro | omega | rfl | (simp; done) | (simp; omega)), ?_⟩)); try (refine hKr _ ?_; clear hKr Kr)
    refine hK60 _ ?_
    refine T.regD 33 [0, 1, 2, 4, 5, 6, 12, 17, 24] fun Kr hKr => ?_
    simp only [go_sem]
    (repeat (refine ⟨by (first | exact True.intro | omega | rfl | (simp; done) | (simp; omega)), ?_⟩)); try (refine hKr _ ?_; clear hKr Kr)
    refine ⟨j + 1, ?_, ?_, Le.fitS (by (repeat (first | exact DFit.nil | refine DFit.cons (by first | rfl | (simp [slook, hstep]; done) | (simp [slook, hstep]; omega)) ?_))) ?_⟩
    · omega
    · omega
    · rw [hstep, happ]; (repeat (first | exact True.intro | refine And.intro (by first | rfl | (simp [look]; done)) ?_))
  rw [if_neg (by rw [hc]; decide), List.append_nil] at hstep
  refine T.skip ?_
  refine hK60 _ ?_
  refine T.regD 33 [0, 1, 2, 4, 5, 6, 12, 17, 24] fun Kr hKr => ?_
  simp only [go_sem]
  (repeat (refine ⟨by (first | exact True.intro | omega | rfl | (simp; done) | (simp; omega)), ?_⟩)); try (refine hKr _ ?_; clear hKr Kr)
  refine ⟨j + 1, ?_, ?_, Le.fitS (by (repeat (first | exact DFit.nil | refine DFit.cons (by first | rfl | (simp [slook, hstep]; done) | (simp [slook, hstep]; omega)) ?_))) ?_⟩
  · omega
  · omega
  · rw [hstep]; (repeat (first | exact True.intro | refine And.intro (by first | rfl | (simp [look]; done)) ?_))

/-! ### The statements' own functions -/
end Go.Proofs
