/- Messages: a step of the program and of the reference. Written by mkm6.py. -/
import Derived.Test.YtomdfdppfhkbjaaM5
set_option linter.unusedVariables false
set_option linter.unusedSimpArgs false
namespace Go.Proofs
open Go Go.Ideal
set_option maxRecDepth 8000
set_option maxHeartbeats 4000000

def stepG (hear : List Sent → Packet → List Sent) (s : MSt) (x : MRaw) : MSt :=
  if x.k.toNat % 8 = 0 ∨ x.k.toNat % 8 = 1 then ⟨(subF s.l (newF x)).1, s.c, s.w ++ (subF s.l (newF x)).2.1⟩
  else if x.k.toNat % 8 = 2 then ⟨s.l, s.c, s.w ++ agnF s.l⟩
  else if x.k.toNat % 8 = 3 then ⟨s.l, s.c.set (x.app.toNat % 2) (refuF (s.c.getD (x.app.toNat % 2) default) ((x.i.toNat : Int) % 12)), s.w⟩
  else if (pickF s x).2 = true ∧ (pickF s x).1.k = 1 ∧ 0 ≤ (pickF s x).1.app ∧ (pickF s x).1.app < 2 then
    ⟨s.l, s.c.set (pickF s x).1.app.toNat (recvF (s.c.getD (pickF s x).1.app.toNat default) (pickF s x).1.app (pickF s x).1).1, s.w ++ (recvF (s.c.getD (pickF s x).1.app.toNat default) (pickF s x).1.app (pickF s x).1).2⟩
  else if (pickF s x).2 = true then ⟨hear s.l (pickF s x).1, s.c, s.w⟩ else s
structure OkM (s : MSt) : Prop where
  l : s.l.length ≤ 1000
  c : s.c.length = 2
  w : s.w.length ≤ 10000
  ok : ∀ c ∈ s.c, OkC c
  txt : ∀ p ∈ s.w, p.s.length ≤ 1000
theorem pick_txt {s : MSt} (h : OkM s) (x : MRaw) : (pickF s x).1.s.length ≤ 1000 := by
  unfold pickF
  split
  · simp
  · rename_i hw
    have hpos : 0 < s.w.length := by cases h : s.w with | nil => exact absurd h hw | cons a b => simp
    have hlt : pickN s x < s.w.length := by
      unfold pickN; split
      · exact Nat.mod_lt _ hpos
      · omega
    exact h.txt _ (by simp [List.getD, hlt])
theorem OkM.cl {s : MSt} (h : OkM s) {a : Nat} (ha : a < 2) : OkC (s.c.getD a default) := h.ok _ (by have := h.c; simp [List.getD, show a < s.c.length by omega])

theorem Next_spec (s : MSt) (x : MRaw) (h : OkM s) : Ideal.Spec Try.prog 14 [mstA s, mrawA x] (mstA (stepG hearR s x)) none := by
  obtain ⟨n1, n2, n3, n4⟩ := noteT_ok x.t.toNat
  have hl := h.l
  have hc := h.c
  have hw := h.w
  have hk := x.k.toNat_lt
  have ha := x.app.toNat_lt
  have hi := x.i.toNat_lt
  have s1 := NewM_spec x
  have s2 := SubmitR_spec s.l (newF x) (by omega) (by show (noteT x.t.toNat).length ≤ 100000; omega)
  have s3 := AgainR_spec s.l (by omega)
  have s4 := Picked_spec s x (by omega)
  have hpt := pick_txt h x
  have hTc : s.c.take 2 = s.c := List.take_of_length_le (by omega)
  refine Ideal.Spec.of_CD (n := 125) (fn := Try.f14) rfl rfl rfl rfl rfl rfl rfl fun w ok => ?_
  refine T.post [.tmp 4] ?_
  refine T.sregD 125 [0, 1, 2, 3, 4, 5, 6, 7, 8, 9, 10, 11, 25, 47, 72, 78, 95, 104] fun Kr hKr => ?_
  simp only [go_sem]
  (repeat (refine ⟨by (first | exact True.intro | omega | rfl | (simp; done) | (simp; omega)), ?_⟩)); try (refine hKr _ ?_; clear hKr Kr)
  refine T.sdraw2D 125 [0, 1, 2, 3, 4, 5, 6, 7, 8, 9, 10, 11, 25, 47, 72, 78, 95, 104] (.take 0 (.take 1 (.take 3 (.take 4 (.take 7 (.take 8 (.three 2 (.three 5 (.two 6 (.two 9 (.take 10 (.one 11 (.one 12 .done))) 11 (.one 9 (.take 10 (.one 12 .done)))) 11 (.one 6 (.one 9 (.take 10 (.one 12 .done))))) 6 (.two 5 (.two 9 (.take 10 (.one 11 (.one 12 .done))) 11 (.one 9 (.take 10 (.one 12 .done)))) 11 (.one 5 (.one 9 (.take 10 (.one 12 .done))))) 11 (.two 5 (.one 6 (.one 9 (.take 10 (.one 12 .done)))) 6 (.one 5 (.one 9 (.take 10 (.one 12 .done)))))) 6 (.two 2 (.two 5 (.two 9 (.take 10 (.one 11 (.one 12 .done))) 11 (.one 9 (.take 10 (.one 12 .done)))) 11 (.one 5 (.one 9 (.take 10 (.one 12 .done))))) 11 (.one 2 (.one 5 (.one 9 (.take 10 (.one 12 .done)))))) 11 (.two 2 (.two 5 (.one 6 (.one 9 (.take 10 (.one 12 .done)))) 6 (.one 5 (.one 9 (.take 10 (.one 12 .done))))) 6 (.one 2 (.one 5 (.one 9 (.take 10 (.one 12 .done))))))))))))) [2] rfl (by decide +kernel) (by decide +kernel) ?x6 ?h6 (fun Kr hKr => ?all6) ?rest6
  case all6 =>
    simp only [go_sem, hc]
    (repeat (any_goals (first | exact hKr _ (.inl rfl) | exact hKr _ (.inr (by (repeat (first | exact True.intro | refine And.intro (by first | rfl | (simp [look]; done)) ?_)))) | (refine And.intro ?_ ?_) | (first | exact True.intro | omega | rfl | (simp; done) | (simp; omega)))))
    all_goals (first | exact hKr _ (.inl rfl) | exact hKr _ (.inr (by (repeat (first | exact True.intro | refine And.intro (by first | rfl | (simp [look]; done)) ?_)))))
  case rest6 =>
  refine T.seqK fun K55 hK55 => ?_
  refine T.sregD 125 [0, 1, 2, 3, 4, 5, 6, 7, 8, 9, 10, 11, 25, 47, 72, 78, 95, 104] fun Kr hKr => ?_
  simp only [go_sem]
  (repeat (refine ⟨by (first | exact True.intro | omega | rfl | (simp; done) | (simp; omega)), ?_⟩)); try (refine hKr _ ?_; clear hKr Kr)
  refine T.block ?_
  refine T.seqK fun K56 hK56 => ?_
  by_cases h01 : x.k.toNat % 8 = 0 ∨ x.k.toNat % 8 = 1
  · have ee : stepG hearR s x = ⟨(subF s.l (newF x)).1, s.c, s.w ++ (subF s.l (newF x)).2.1⟩ := by unfold stepG; rw [if_pos h01]
    have hS : (subF s.l (newF x)).2.1.length ≤ 1 := by unfold subF; (repeat' split) <;> simp
    generalize subF s.l (newF x) = S at *
    have hP : pksOf s.w ++ pksOf S.2.1 = pksOf (s.w ++ S.2.1) := (pksOf_app _ _).symm
    have hT : (s.w ++ S.2.1).take (s.w.length + S.2.1.length) = s.w ++ S.2.1 := List.take_of_length_le (by simp)
    rcases h01 with h0 | h1
    · have h0' : ((x.k.toNat : Int) % 8 = 0) = True := eq_true (by omega)
      refine T.sregD 125 [0, 1, 2, 3, 4, 5, 6, 7, 8, 9, 10, 11, 25, 47, 72, 78, 95, 104] fun Kr hKr => ?_
      simp only [go_sem, h0']
      (repeat (refine ⟨by (first | exact True.intro | omega | rfl | (simp; done) | (simp; omega)), ?_⟩)); try (refine hKr _ ?_; clear hKr Kr)
      refine T.condTD rfl rfl (fun hb => ?_) (fun hb => ?_) <;> try simp at hb
      refine T.skip ?_
      refine hK56 _ ?_
      refine T.condTD rfl rfl (fun hb => ?_) (fun hb => ?_) <;> try simp at hb
      refine T.sdraw2D 125 [0, 1, 2, 3, 4, 5, 6, 7, 8, 9, 10, 11, 25, 47, 72, 78, 95, 104] (.take 0 (.take 1 (.take 2 (.two 3 (.two 4 (.one 5 (.one 6 .done)) 5 (.one 4 (.one 6 .done))) 5 (.one 3 (.one 4 (.one 6 .done))))))) [2, 3] rfl (by decide +kernel) (by decide +kernel) ?x7 ?h7 (fun Kr hKr => ?all7) ?rest7
      case all7 =>
        simp only [go_sem]
        (repeat (any_goals (first | exact hKr _ (.inl rfl) | exact hKr _ (.inr (by (repeat (first | exact True.intro | refine And.intro (by first | rfl | (simp [look]; done)) ?_)))) | ((first | refine CallK.dataA (s1) ?_ rfl ?_ | refine CallK.tupA (s1) ?_ ?_ | refine CallK.ownA (s1) ?_ ?_); (focus ((first | exact ArgsLe.refl | (repeat (first | exact True.intro | refine And.intro (by first | exact AvLe.refl | exact AvLe.loose | exact AvLe.nil | exact AvLe.nilT | exact AvLe.slk | (refine AvLe.agg ?_; exact ArgsLe.refl) | (refine AvLe.agg ?_; (repeat (first | exact True.intro | refine And.intro (by first | exact AvLe.refl | exact AvLe.loose | exact AvLe.nil | exact AvLe.nilT | exact AvLe.slk) ?_)))) ?_))); done)); simp only [go_sem]) | ((first | refine CallK.dataA (s2) ?_ rfl ?_ | refine CallK.tupA (s2) ?_ ?_ | refine CallK.ownA (s2) ?_ ?_); (focus ((first | exact ArgsLe.refl | (repeat (first | exact True.intro | refine And.intro (by first | exact AvLe.refl | exact AvLe.loose | exact AvLe.nil | exact AvLe.nilT | exact AvLe.slk | (refine AvLe.agg ?_; exact ArgsLe.refl) | (refine AvLe.agg ?_; (repeat (first | exact True.intro | refine And.intro (by first | exact AvLe.refl | exact AvLe.loose | exact AvLe.nil | exact AvLe.nilT | exact AvLe.slk) ?_)))) ?_))); done)); simp only [go_sem]) | (refine And.intro ?_ ?_) | (first | exact True.intro | omega | rfl | (simp; done) | (simp; omega)))))
        all_goals (first | exact hKr _ (.inl rfl) | exact hKr _ (.inr (by (repeat (first | exact True.intro | refine And.intro (by first | rfl | (simp [look]; done)) ?_)))))
      case rest7 =>
      refine T.sregD 125 [0, 1, 2, 3, 4, 5, 6, 7, 8, 9, 10, 11, 25, 47, 72, 78, 95, 104] fun Kr hKr => ?_
      simp only [go_sem]
      (repeat (refine ⟨by (first | exact True.intro | omega | rfl | (simp; done) | (simp; omega)), ?_⟩)); try (refine hKr _ ?_; clear hKr Kr)
      refine T.regD 125 [0, 1, 2, 3, 4, 5, 6, 7, 8, 9, 10, 11, 25, 47, 72, 78, 95, 104] fun Kr hKr => ?_
      simp only [go_sem, hP]
      (repeat (refine ⟨by (first | exact True.intro | omega | rfl | (simp; done) | (simp; omega)), ?_⟩)); try (refine hKr _ ?_; clear hKr Kr)
      refine hK55 _ ?_
      refine T.sregD 125 [0, 1, 2, 3, 4, 5, 6, 7, 8, 9, 10, 11, 25, 47, 72, 78, 95, 104] fun Kr hKr => ?_
      simp only [go_sem, hT, hTc, hc, Nat.le_refl, List.length_append]
      (repeat (refine ⟨by (first | exact True.intro | omega | rfl | (simp; done) | (simp; omega)), ?_⟩)); try (refine hKr _ ?_; clear hKr Kr)
      refine T.ret ?_
      simp only [go_sem, hT, hTc, hc, Nat.le_refl, List.length_append]
      exact ⟨ResCellD rfl rfl rfl rfl (by simp only [go_sem]) (by rw [ee]; rfl) rfl, trivial⟩
    · have h0' : ((x.k.toNat : Int) % 8 = 0) = False := eq_false (by omega)
      have h1' : ((x.k.toNat : Int) % 8 = 1) = True := eq_true (by omega)
      refine T.sregD 125 [0, 1, 2, 3, 4, 5, 6, 7, 8, 9, 10, 11, 25, 47, 72, 78, 95, 104] fun Kr hKr => ?_
      simp only [go_sem, h0']
      (repeat (refine ⟨by (first | exact True.intro | omega | rfl | (simp; done) | (simp; omega)), ?_⟩)); try (refine hKr _ ?_; clear hKr Kr)
      refine T.condTD rfl rfl (fun hb => ?_) (fun hb => ?_) <;> try simp at hb
      refine T.regD 125 [0, 1, 2, 3, 4, 5, 6, 7, 8, 9, 10, 11, 25, 47, 72, 78, 95, 104] fun Kr hKr => ?_
      simp only [go_sem, h1']
      (repeat (refine ⟨by (first | exact True.intro | omega | rfl | (simp; done) | (simp; omega)), ?_⟩)); try (refine hKr _ ?_; clear hKr Kr)
      refine hK56 _ ?_
      refine T.condTD rfl rfl (fun hb => ?_) (fun hb => ?_) <;> try simp at hb
      refine T.sdraw2D 125 [0, 1, 2, 3, 4, 5, 6, 7, 8, 9, 10, 11, 25, 47, 72, 78, 95, 104] (.take 0 (.take 1 (.take 2 (.two 3 (.two 4 (.one 5 (.one 6 .done)) 5 (.one 4 (.one 6 .done))) 5 (.one 3 (.one 4 (.one 6 .done))))))) [2, 3] rfl (by decide +kernel) (by decide +kernel) ?x8 ?h8 (fun Kr hKr => ?all8) ?rest8
      case all8 =>
        simp only [go_sem]
        (repeat (any_goals (first | exact hKr _ (.inl rfl) | exact hKr _ (.inr (by (repeat (first | exact True.intro | refine And.intro (by first | rfl | (simp [look]; done)) ?_)))) | ((first | refine CallK.dataA (s1) ?_ rfl ?_ | refine CallK.tupA (s1) ?_ ?_ | refine CallK.ownA (s1) ?_ ?_); (focus ((first | exact ArgsLe.refl | (repeat (first | exact True.intro | refine And.intro (by first | exact AvLe.refl | exact AvLe.loose | exact AvLe.nil | exact AvLe.nilT | exact AvLe.slk | (refine AvLe.agg ?_; exact ArgsLe.refl) | (refine AvLe.agg ?_; (repeat (first | exact True.intro | refine And.intro (by first | exact AvLe.refl | exact AvLe.loose | exact AvLe.nil | exact AvLe.nilT | exact AvLe.slk) ?_)))) ?_))); done)); simp only [go_sem]) | ((first | refine CallK.dataA (s2) ?_ rfl ?_ | refine CallK.tupA (s2) ?_ ?_ | refine CallK.ownA (s2) ?_ ?_); (focus ((first | exact ArgsLe.refl | (repeat (first | exact True.intro | refine And.intro (by first | exact AvLe.refl | exact AvLe.loose | exact AvLe.nil | exact AvLe.nilT | exact AvLe.slk | (refine AvLe.agg ?_; exact ArgsLe.refl) | (refine AvLe.agg ?_; (repeat (first | exact True.intro | refine And.intro (by first | exact AvLe.refl | exact AvLe.loose | exact AvLe.nil | exact AvLe.nilT | exact AvLe.slk) ?_)))) ?_))); done)); simp only [go_sem]) | (refine And.intro ?_ ?_) | (first | exact True.intro | omega | rfl | (simp; done) | (simp; omega)))))
        all_goals (first | exact hKr _ (.inl rfl) | exact hKr _ (.inr (by (repeat (first | exact True.intro | refine And.intro (by first | rfl | (simp [look]; done)) ?_)))))
      case rest8 =>
      refine T.sregD 125 [0, 1, 2, 3, 4, 5, 6, 7, 8, 9, 10, 11, 25, 47, 72, 78, 95, 104] fun Kr hKr => ?_
      simp only [go_sem]
      (repeat (refine ⟨by (first | exact True.intro | omega | rfl | (simp; done) | (simp; omega)), ?_⟩)); try (refine hKr _ ?_; clear hKr Kr)
      refine T.regD 125 [0, 1, 2, 3, 4, 5, 6, 7, 8, 9, 10, 11, 25, 47, 72, 78, 95, 104] fun Kr hKr => ?_
      simp only [go_sem, hP]
      (repeat (refine ⟨by (first | exact True.intro | omega | rfl | (simp; done) | (simp; omega)), ?_⟩)); try (refine hKr _ ?_; clear hKr Kr)
      refine hK55 _ ?_
      refine T.sregD 125 [0, 1, 2, 3, 4, 5, 6, 7, 8, 9, 10, 11, 25, 47, 72, 78, 95, 104] fun Kr hKr => ?_
      simp only [go_sem, hT, hTc, hc, Nat.le_refl, List.length_append]
      (repeat (refine ⟨by (first | exact True.intro | omega | rfl | (simp; done) | (simp; omega)), ?_⟩)); try (refine hKr _ ?_; clear hKr Kr)
      refine T.ret ?_
      simp only [go_sem, hT, hTc, hc, Nat.le_refl, List.length_append]
      exact ⟨ResCellD rfl rfl rfl rfl (by simp only [go_sem]) (by rw [ee]; rfl) rfl, trivial⟩
  have h0' : ((x.k.toNat : Int) % 8 = 0) = False := eq_false (by omega)
  have h1' : ((x.k.toNat : Int) % 8 = 1) = False := eq_false (by omega)
  have e1 : stepG hearR s x = if x.k.toNat % 8 = 2 then ⟨s.l, s.c, s.w ++ agnF s.l⟩
    else if x.k.toNat % 8 = 3 then ⟨s.l, s.c.set (x.app.toNat % 2) (refuF (s.c.getD (x.app.toNat % 2) default) ((x.i.toNat : Int) % 12)), s.w⟩
    else if (pickF s x).2 = true ∧ (pickF s x).1.k = 1 ∧ 0 ≤ (pickF s x).1.app ∧ (pickF s x).1.app < 2 then
      ⟨s.l, s.c.set (pickF s x).1.app.toNat (recvF (s.c.getD (pickF s x).1.app.toNat default) (pickF s x).1.app (pickF s x).1).1, s.w ++ (recvF (s.c.getD (pickF s x).1.app.toNat default) (pickF s x).1.app (pickF s x).1).2⟩
    else if (pickF s x).2 = true then ⟨hearR s.l (pickF s x).1, s.c, s.w⟩ else s := by unfold stepG; rw [if_neg h01]
  clear s2
  refine T.sregD 125 [0, 1, 2, 3, 4, 5, 6, 7, 8, 9, 10, 11, 25, 47, 72, 78, 95, 104] fun Kr hKr => ?_
  simp only [go_sem, h0']
  (repeat (refine ⟨by (first | exact True.intro | omega | rfl | (simp; done) | (simp; omega)), ?_⟩)); try (refine hKr _ ?_; clear hKr Kr)
  refine T.condTD rfl rfl (fun hb => ?_) (fun hb => ?_) <;> try simp at hb
  refine T.regD 125 [0, 1, 2, 3, 4, 5, 6, 7, 8, 9, 10, 11, 25, 47, 72, 78, 95, 104] fun Kr hKr => ?_
  simp only [go_sem, h1']
  (repeat (refine ⟨by (first | exact True.intro | omega | rfl | (simp; done) | (simp; omega)), ?_⟩)); try (refine hKr _ ?_; clear hKr Kr)
  refine hK56 _ ?_
  refine T.condTD rfl rfl (fun hb => ?_) (fun hb => ?_) <;> try simp at hb
  by_cases h2 : x.k.toNat % 8 = 2
  · have h2' : ((x.k.toNat : Int) % 8 = 2) = True := eq_true (by omega)
    have ee := e1
    rw [if_pos h2] at ee
    have hA := agnF_len s.l
    generalize agnF s.l = A at *
    have hP : pksOf s.w ++ pksOf A = pksOf (s.w ++ A) := (pksOf_app _ _).symm
    have hT : (s.w ++ A).take (s.w.length + A.length) = s.w ++ A := List.take_of_length_le (by simp)
    refine T.sregD 125 [0, 1, 2, 3, 4, 5, 6, 7, 8, 9, 10, 11, 25, 47, 72, 78, 95, 104] fun Kr hKr => ?_
    simp only [go_sem, h2']
    (repeat (refine ⟨by (first | exact True.intro | omega | rfl | (simp; done) | (simp; omega)), ?_⟩)); try (refine hKr _ ?_; clear hKr Kr)
    refine T.condTD rfl rfl (fun hb => ?_) (fun hb => ?_) <;> try simp at hb
    refine T.draw2D 125 [0, 1, 2, 3, 4, 5, 6, 7, 8, 9, 10, 11, 25, 47, 72, 78, 95, 104] (.take 0 (.take 2 (.take 3 (.two 1 (.one 4 (.one 5 (.take 6 (.one 7 .done)))) 4 (.one 1 (.one 5 (.take 6 (.one 7 .done)))))))) [2] rfl (by decide +kernel) (by decide +kernel) ?x9 ?h9 (fun Kr hKr => ?all9) ?rest9
    case all9 =>
      simp only [go_sem, hP]
      (repeat (any_goals (first | exact hKr _ (.inl rfl) | exact hKr _ (.inr (by (repeat (first | exact True.intro | refine And.intro (by first | rfl | (simp [look]; done)) ?_)))) | ((first | refine CallK.dataA (s3) ?_ rfl ?_ | refine CallK.tupA (s3) ?_ ?_ | refine CallK.ownA (s3) ?_ ?_); (focus ((first | exact ArgsLe.refl | (repeat (first | exact True.intro | refine And.intro (by first | exact AvLe.refl | exact AvLe.loose | exact AvLe.nil | exact AvLe.nilT | exact AvLe.slk | (refine AvLe.agg ?_; exact ArgsLe.refl) | (refine AvLe.agg ?_; (repeat (first | exact True.intro | refine And.intro (by first | exact AvLe.refl | exact AvLe.loose | exact AvLe.nil | exact AvLe.nilT | exact AvLe.slk) ?_)))) ?_))); done)); simp only [go_sem, hP]) | (refine And.intro ?_ ?_) | (first | exact True.intro | omega | rfl | (simp; done) | (simp; omega)))))
      all_goals (first | exact hKr _ (.inl rfl) | exact hKr _ (.inr (by (repeat (first | exact True.intro | refine And.intro (by first | rfl | (simp [look]; done)) ?_)))))
    case rest9 =>
    refine hK55 _ ?_
    refine T.sregD 125 [0, 1, 2, 3, 4, 5, 6, 7, 8, 9, 10, 11, 25, 47, 72, 78, 95, 104] fun Kr hKr => ?_
    simp only [go_sem, hT, hTc, hc, Nat.le_refl, List.length_append]
    (repeat (refine ⟨by (first | exact True.intro | omega | rfl | (simp; done) | (simp; omega)), ?_⟩)); try (refine hKr _ ?_; clear hKr Kr)
    refine T.ret ?_
    simp only [go_sem, hT, hTc, hc, Nat.le_refl, List.length_append]
    exact ⟨ResCellD rfl rfl rfl rfl (by simp only [go_sem]) (by rw [ee]; rfl) rfl, trivial⟩
  have h2' : ((x.k.toNat : Int) % 8 = 2) = False := eq_false (by omega)
  rw [if_neg h2] at e1
  by_cases h3 : x.k.toNat % 8 = 3
  · have h3' : ((x.k.toNat : Int) % 8 = 3) = True := eq_true (by omega)
    have ee := e1
    rw [if_pos h3] at ee
    obtain ⟨a, hae, hal⟩ : ∃ a : Nat, x.app.toNat % 2 = a ∧ a < 2 := ⟨_, rfl, by omega⟩
    have hae' : (x.app.toNat : Int) % 2 = a := by omega
    rw [hae] at ee
    have hcl := h.cl hal
    have hac : a < s.c.length := by omega
    have s5 := RefuseR_spec (s.c.getD a default) ((x.i.toNat : Int) % 12) hcl.has hcl.ref
    generalize refuF (s.c.getD a default) ((x.i.toNat : Int) % 12) = R at *
    have hTs : ∀ y : Client, (s.c.set a y).take 2 = s.c.set a y := fun y => List.take_of_length_le (by simp; omega)
    have hTl : s.w.take s.w.length = s.w := List.take_length
    refine T.sregD 125 [0, 1, 2, 3, 4, 5, 6, 7, 8, 9, 10, 11, 25, 47, 72, 78, 95, 104] fun Kr hKr => ?_
    simp only [go_sem, h2']
    (repeat (refine ⟨by (first | exact True.intro | omega | rfl | (simp; done) | (simp; omega)), ?_⟩)); try (refine hKr _ ?_; clear hKr Kr)
    refine T.condTD rfl rfl (fun hb => ?_) (fun hb => ?_) <;> try simp at hb
    refine T.sregD 125 [0, 1, 2, 3, 4, 5, 6, 7, 8, 9, 10, 11, 25, 47, 72, 78, 95, 104] fun Kr hKr => ?_
    simp only [go_sem, h3']
    (repeat (refine ⟨by (first | exact True.intro | omega | rfl | (simp; done) | (simp; omega)), ?_⟩)); try (refine hKr _ ?_; clear hKr Kr)
    refine T.condTD rfl rfl (fun hb => ?_) (fun hb => ?_) <;> try simp at hb
    refine T.sregD 125 [0, 1, 2, 3, 4, 5, 6, 7, 8, 9, 10, 11, 25, 47, 72, 78, 95, 104] fun Kr hKr => ?_
    simp only [go_sem, hae']
    (repeat (refine ⟨by (first | exact True.intro | omega | rfl | (simp; done) | (simp; omega)), ?_⟩)); try (refine hKr _ ?_; clear hKr Kr)
    refine T.drawD 125 [0, 1, 2, 3, 4, 5, 6, 7, 8, 9, 10, 11, 25, 47, 72, 78, 95, 104] (.take 0 (.take 1 (.take 2 (.take 3 (.take 4 (.take 5 (.take 6 (.take 7 (.take 8 (.take 9 (.take 10 (.take 11 (.one 12 (.take 13 (.one 14 .done))))))))))))))) [2, 3, 5] rfl (by decide +kernel) (by decide +kernel) fun Kr hKr => ?_
    simp only [go_sem, hal, hc]
    (repeat (refine ⟨by (first | exact True.intro | omega | rfl | (simp; done) | (simp; omega)), ?_⟩)); try (refine hKr _ ?_; clear hKr Kr)
    refine CallK.data (fun _ => Spec.args (s5) (by (first | exact ArgsLe.refl | (repeat (first | exact True.intro | refine And.intro (by first | exact AvLe.refl | exact AvLe.loose | exact AvLe.nil | exact AvLe.nilT | exact AvLe.slk | (refine AvLe.agg ?_; exact ArgsLe.refl) | (refine AvLe.agg ?_; (repeat (first | exact True.intro | refine And.intro (by first | exact AvLe.refl | exact AvLe.loose | exact AvLe.nil | exact AvLe.nilT | exact AvLe.slk) ?_)))) ?_))))) rfl ?_
    simp only [go_sem, hal, hc]
    (repeat (refine ⟨by (first | exact True.intro | omega | rfl | (simp; done) | (simp; omega)), ?_⟩)); try (refine hKr _ ?_; clear hKr Kr)
    refine hK55 _ ?_
    refine T.sregD 125 [0, 1, 2, 3, 4, 5, 6, 7, 8, 9, 10, 11, 25, 47, 72, 78, 95, 104] fun Kr hKr => ?_
    simp only [go_sem, hTs, hTl, hTc, hc, Nat.le_refl, List.length_set]
    (repeat (refine ⟨by (first | exact True.intro | omega | rfl | (simp; done) | (simp; omega)), ?_⟩)); try (refine hKr _ ?_; clear hKr Kr)
    refine T.ret ?_
    simp only [go_sem, hTs, hTl, hTc, hc, Nat.le_refl, List.length_set]
    exact ⟨ResCellD rfl rfl rfl rfl (by simp only [go_sem]) (by rw [ee]; rfl) rfl, trivial⟩
  have h3' : ((x.k.toNat : Int) % 8 = 3) = False := eq_false (by omega)
  rw [if_neg h3] at e1
  refine T.sregD 125 [0, 1, 2, 3, 4, 5, 6, 7, 8, 9, 10, 11, 25, 47, 72, 78, 95, 104] fun Kr hKr => ?_
  simp only [go_sem, h2']
  (repeat (refine ⟨by (first | exact True.intro | omega | rfl | (simp; done) | (simp; omega)), ?_⟩)); try (refine hKr _ ?_; clear hKr Kr)
  refine T.condTD rfl rfl (fun hb => ?_) (fun hb => ?_) <;> try simp at hb
  refine T.sregD 125 [0, 1, 2, 3, 4, 5, 6, 7, 8, 9, 10, 11, 25, 47, 72, 78, 95, 104] fun Kr hKr => ?_
  simp only [go_sem, h3']
  (repeat (refine ⟨by (first | exact True.intro | omega | rfl | (simp; done) | (simp; omega)), ?_⟩)); try (refine hKr _ ?_; clear hKr Kr)
  refine T.condTD rfl rfl (fun hb => ?_) (fun hb => ?_) <;> try simp at hb
  generalize pickF s x = Q at *
  obtain ⟨p, q⟩ := Q
  simp only at e1 s4 hpt
  refine T.sregD 125 [0, 1, 2, 3, 4, 5, 6, 7, 8, 9, 10, 11, 25, 47, 72, 78, 95, 104] fun Kr hKr => ?_
  simp only [go_sem]
  (repeat (refine ⟨by (first | exact True.intro | omega | rfl | (simp; done) | (simp; omega)), ?_⟩)); try (refine hKr _ ?_; clear hKr Kr)
  refine CallK.tup (fun _ => Spec.args (s4) (by (first | exact ArgsLe.refl | (repeat (first | exact True.intro | refine And.intro (by first | exact AvLe.refl | exact AvLe.loose | exact AvLe.nil | exact AvLe.nilT | exact AvLe.slk | (refine AvLe.agg ?_; exact ArgsLe.refl) | (refine AvLe.agg ?_; (repeat (first | exact True.intro | refine And.intro (by first | exact AvLe.refl | exact AvLe.loose | exact AvLe.nil | exact AvLe.nilT | exact AvLe.slk) ?_)))) ?_))))) ?_
  simp only [go_sem]
  (repeat (refine ⟨by (first | exact True.intro | omega | rfl | (simp; done) | (simp; omega)), ?_⟩)); try (refine hKr _ ?_; clear hKr Kr)
  cases q with
  | false =>
    have ee := e1
    rw [if_neg (by simp), if_neg (by simp)] at ee
    have hTl : s.w.take s.w.length = s.w := List.take_length
    refine T.sregD 125 [0, 1, 2, 3, 4, 5, 6, 7, 8, 9, 10, 11, 25, 47, 72, 78, 95, 104] fun Kr hKr => ?_
    simp only [go_sem]
    (repeat (refine ⟨by (first | exact True.intro | omega | rfl | (simp; done) | (simp; omega)), ?_⟩)); try (refine hKr _ ?_; clear hKr Kr)
    refine T.condTD rfl rfl (fun hb => ?_) (fun hb => ?_) <;> try simp at hb
    refine T.sregD 125 [0, 1, 2, 3, 4, 5, 6, 7, 8, 9, 10, 11, 25, 47, 72, 78, 95, 104] fun Kr hKr => ?_
    simp only [go_sem]
    (repeat (refine ⟨by (first | exact True.intro | omega | rfl | (simp; done) | (simp; omega)), ?_⟩)); try (refine hKr _ ?_; clear hKr Kr)
    refine T.condTD rfl rfl (fun hb => ?_) (fun hb => ?_) <;> try simp at hb
    refine T.skip ?_
    refine hK55 _ ?_
    refine T.sregD 125 [0, 1, 2, 3, 4, 5, 6, 7, 8, 9, 10, 11, 25, 47, 72, 78, 95, 104] fun Kr hKr => ?_
    simp only [go_sem, hTl, hTc, hc, Nat.le_refl]
    (repeat (refine ⟨by (first | exact True.intro | omega | rfl | (simp; done) | (simp; omega)), ?_⟩)); try (refine hKr _ ?_; clear hKr Kr)
    refine T.ret ?_
    simp only [go_sem, hTl, hTc, hc, Nat.le_refl]
    exact ⟨ResCellD rfl rfl rfl rfl (by simp only [go_sem]) (by rw [ee]; rfl) rfl, trivial⟩
  | true =>
    have hTl : s.w.take s.w.length = s.w := List.take_length
    have s6 := HearR_spec s.l p (by omega)
    by_cases g : p.k = 1 ∧ 0 ≤ p.app ∧ p.app < 2
    · have ee := e1
      rw [if_pos ⟨rfl, g⟩] at ee
      obtain ⟨g1, g2, g3⟩ := g
      obtain ⟨a, hae⟩ : ∃ a : Nat, p.app = a := ⟨p.app.toNat, by omega⟩
      have hal : a < 2 := by omega
      have hac : a < s.c.length := by omega
      have hcl := h.cl hal
      have s5 := ReceiveR_spec (s.c.getD a default) p.app p hcl (by omega)
      rw [hae] at ee
      simp only [Int.toNat_natCast] at ee
      simp only [pkA, hae] at s5
      have hRl : (recvF (s.c.getD a default) (a : Int) p).2.length ≤ 1 := by unfold recvF; split <;> simp
      generalize recvF (s.c.getD a default) (a : Int) p = R at *
      have g1' : (p.k = 1) = True := eq_true g1
      have g2' : ((a : Int) ≥ 0) = True := eq_true (by omega)
      have g3' : ((a : Int) < 2) = True := eq_true (by omega)
      have hTs : ∀ y : Client, (s.c.set a y).take 2 = s.c.set a y := fun y => List.take_of_length_le (by simp; omega)
      have hP : pksOf s.w ++ pksOf R.2 = pksOf (s.w ++ R.2) := (pksOf_app _ _).symm
      have hT : (s.w ++ R.2).take (s.w.length + R.2.length) = s.w ++ R.2 := List.take_of_length_le (by simp)
      refine T.sregD 125 [0, 1, 2, 3, 4, 5, 6, 7, 8, 9, 10, 11, 25, 47, 72, 78, 95, 104] fun Kr hKr => ?_
      simp only [go_sem, g1', hae, g2', g3']
      (repeat (refine ⟨by (first | exact True.intro | omega | rfl | (simp; done) | (simp; omega)), ?_⟩)); try (refine hKr _ ?_; clear hKr Kr)
      refine T.condTD rfl rfl (fun hb => ?_) (fun hb => ?_) <;> try simp at hb
      refine T.sdraw2D 125 [0, 1, 2, 3, 4, 5, 6, 7, 8, 9, 10, 11, 25, 47, 72, 78, 95, 104] (.take 0 (.take 1 (.take 2 (.take 3 (.take 4 (.take 5 (.take 6 (.take 7 (.take 8 (.two 9 (.take 10 (.take 11 (.take 12 (.one 13 (.one 14 (.take 15 .done)))))) 13 (.one 9 (.take 10 (.take 11 (.take 12 (.one 14 (.take 15 .done)))))))))))))))) [2, 8] rfl (by decide +kernel) (by decide +kernel) ?x10 ?h10 (fun Kr hKr => ?all10) ?rest10
      case all10 =>
        simp only [go_sem, hal, hc, hae]
        (repeat (any_goals (first | exact hKr _ (.inl rfl) | exact hKr _ (.inr (by (repeat (first | exact True.intro | refine And.intro (by first | rfl | (simp [look]; done)) ?_)))) | ((first | refine CallK.dataA (s5) ?_ rfl ?_ | refine CallK.tupA (s5) ?_ ?_ | refine CallK.ownA (s5) ?_ ?_); (focus ((first | exact ArgsLe.refl | (repeat (first | exact True.intro | refine And.intro (by first | exact AvLe.refl | exact AvLe.loose | exact AvLe.nil | exact AvLe.nilT | exact AvLe.slk | (refine AvLe.agg ?_; exact ArgsLe.refl) | (refine AvLe.agg ?_; (repeat (first | exact True.intro | refine And.intro (by first | exact AvLe.refl | exact AvLe.loose | exact AvLe.nil | exact AvLe.nilT | exact AvLe.slk) ?_)))) ?_))); done)); simp only [go_sem, hal, hc, hae]) | (refine And.intro ?_ ?_) | (first | exact True.intro | omega | rfl | (simp; done) | (simp; omega)))))
        all_goals (first | exact hKr _ (.inl rfl) | exact hKr _ (.inr (by (repeat (first | exact True.intro | refine And.intro (by first | rfl | (simp [look]; done)) ?_)))))
      case rest10 =>
      refine T.sregD 125 [0, 1, 2, 3, 4, 5, 6, 7, 8, 9, 10, 11, 25, 47, 72, 78, 95, 104] fun Kr hKr => ?_
      simp only [go_sem, hal, hc]
      (repeat (refine ⟨by (first | exact True.intro | omega | rfl | (simp; done) | (simp; omega)), ?_⟩)); try (refine hKr _ ?_; clear hKr Kr)
      refine T.regD 125 [0, 1, 2, 3, 4, 5, 6, 7, 8, 9, 10, 11, 25, 47, 72, 78, 95, 104] fun Kr hKr => ?_
      simp only [go_sem, hP]
      (repeat (refine ⟨by (first | exact True.intro | omega | rfl | (simp; done) | (simp; omega)), ?_⟩)); try (refine hKr _ ?_; clear hKr Kr)
      refine hK55 _ ?_
      refine T.sregD 125 [0, 1, 2, 3, 4, 5, 6, 7, 8, 9, 10, 11, 25, 47, 72, 78, 95, 104] fun Kr hKr => ?_
      simp only [go_sem, hTs, hT, hTc, hc, Nat.le_refl, List.length_set, List.length_append]
      (repeat (refine ⟨by (first | exact True.intro | omega | rfl | (simp; done) | (simp; omega)), ?_⟩)); try (refine hKr _ ?_; clear hKr Kr)
      refine T.ret ?_
      simp only [go_sem, hTs, hT, hTc, hc, Nat.le_refl, List.length_set, List.length_append]
      exact ⟨ResCellD rfl rfl rfl rfl (by simp only [go_sem]) (by rw [ee]; rfl) rfl, trivial⟩
    have ee := e1
    rw [if_neg (fun h => g h.2), if_pos rfl] at ee
    have key : ∀ K : St → Prop, True := fun _ => trivial
    by_cases g1 : p.k = 1
    rotate_left
    · have g1' : (p.k = 1) = False := eq_false g1
      refine T.sregD 125 [0, 1, 2, 3, 4, 5, 6, 7, 8, 9, 10, 11, 25, 47, 72, 78, 95, 104] fun Kr hKr => ?_
      simp only [go_sem, g1']
      (repeat (refine ⟨by (first | exact True.intro | omega | rfl | (simp; done) | (simp; omega)), ?_⟩)); try (refine hKr _ ?_; clear hKr Kr)
      refine T.condTD rfl rfl (fun hb => ?_) (fun hb => ?_) <;> try simp at hb
      refine T.sregD 125 [0, 1, 2, 3, 4, 5, 6, 7, 8, 9, 10, 11, 25, 47, 72, 78, 95, 104] fun Kr hKr => ?_
      simp only [go_sem]
      (repeat (refine ⟨by (first | exact True.intro | omega | rfl | (simp; done) | (simp; omega)), ?_⟩)); try (refine hKr _ ?_; clear hKr Kr)
      refine T.condTD rfl rfl (fun hb => ?_) (fun hb => ?_) <;> try simp at hb
      refine T.regD 125 [0, 1, 2, 3, 4, 5, 6, 7, 8, 9, 10, 11, 25, 47, 72, 78, 95, 104] fun Kr hKr => ?_
      simp only [go_sem]
      (repeat (refine ⟨by (first | exact True.intro | omega | rfl | (simp; done) | (simp; omega)), ?_⟩)); try (refine hKr _ ?_; clear hKr Kr)
      refine CallK.data (fun _ => Spec.args (s6) (by (first | exact ArgsLe.refl | (repeat (first | exact True.intro | refine And.intro (by first | exact AvLe.refl | exact AvLe.loose | exact AvLe.nil | exact AvLe.nilT | exact AvLe.slk | (refine AvLe.agg ?_; exact ArgsLe.refl) | (refine AvLe.agg ?_; (repeat (first | exact True.intro | refine And.intro (by first | exact AvLe.refl | exact AvLe.loose | exact AvLe.nil | exact AvLe.nilT | exact AvLe.slk) ?_)))) ?_))))) rfl ?_
      simp only [go_sem]
      (repeat (refine ⟨by (first | exact True.intro | omega | rfl | (simp; done) | (simp; omega)), ?_⟩)); try (refine hKr _ ?_; clear hKr Kr)
      refine hK55 _ ?_
      refine T.sregD 125 [0, 1, 2, 3, 4, 5, 6, 7, 8, 9, 10, 11, 25, 47, 72, 78, 95, 104] fun Kr hKr => ?_
      simp only [go_sem, hTl, hTc, hc, Nat.le_refl]
      (repeat (refine ⟨by (first | exact True.intro | omega | rfl | (simp; done) | (simp; omega)), ?_⟩)); try (refine hKr _ ?_; clear hKr Kr)
      refine T.ret ?_
      simp only [go_sem, hTl, hTc, hc, Nat.le_refl]
      exact ⟨ResCellD rfl rfl rfl rfl (by simp only [go_sem]) (by rw [ee]; rfl) rfl, trivial⟩
    have g1' : (p.k = 1) = True := eq_true g1
    by_cases g2 : 0 ≤ p.app
    rotate_left
    · have g2' : (p.app ≥ 0) = False := eq_false g2
      refine T.sregD 125 [0, 1, 2, 3, 4, 5, 6, 7, 8, 9, 10, 11, 25, 47, 72, 78, 95, 104] fun Kr hKr => ?_
      simp only [go_sem, g1', g2']
      (repeat (refine ⟨by (first | exact True.intro | omega | rfl | (simp; done) | (simp; omega)), ?_⟩)); try (refine hKr _ ?_; clear hKr Kr)
      refine T.condTD rfl rfl (fun hb => ?_) (fun hb => ?_) <;> try simp at hb
      refine T.sregD 125 [0, 1, 2, 3, 4, 5, 6, 7, 8, 9, 10, 11, 25, 47, 72, 78, 95, 104] fun Kr hKr => ?_
      simp only [go_sem]
      (repeat (refine ⟨by (first | exact True.intro | omega | rfl | (simp; done) | (simp; omega)), ?_⟩)); try (refine hKr _ ?_; clear hKr Kr)
      refine T.condTD rfl rfl (fun hb => ?_) (fun hb => ?_) <;> try simp at hb
      refine T.regD 125 [0, 1, 2, 3, 4, 5, 6, 7, 8, 9, 10, 11, 25, 47, 72, 78, 95, 104] fun Kr hKr => ?_
      simp only [go_sem]
      (repeat (refine ⟨by (first | exact True.intro | omega | rfl | (simp; done) | (simp; omega)), ?_⟩)); try (refine hKr _ ?_; clear hKr Kr)
      refine CallK.data (fun _ => Spec.args (s6) (by (first | exact ArgsLe.refl | (repeat (first | exact True.intro | refine And.intro (by first | exact AvLe.refl | exact AvLe.loose | exact AvLe.nil | exact AvLe.nilT | exact AvLe.slk | (refine AvLe.agg ?_; exact ArgsLe.refl) | (refine AvLe.agg ?_; (repeat (first | exact True.intro | refine And.intro (by first | exact AvLe.refl | exact AvLe.loose | exact AvLe.nil | exact AvLe.nilT | exact AvLe.slk) ?_)))) ?_))))) rfl ?_
      simp only [go_sem]
      (repeat (refine ⟨by (first | exact True.intro | omega | rfl | (simp; done) | (simp; omega)), ?_⟩)); try (refine hKr _ ?_; clear hKr Kr)
      refine hK55 _ ?_
      refine T.sregD 125 [0, 1, 2, 3, 4, 5, 6, 7, 8, 9, 10, 11, 25, 47, 72, 78, 95, 104] fun Kr hKr => ?_
      simp only [go_sem, hTl, hTc, hc, Nat.le_refl]
      (repeat (refine ⟨by (first | exact True.intro | omega | rfl | (simp; done) | (simp; omega)), ?_⟩)); try (refine hKr _ ?_; clear hKr Kr)
      refine T.ret ?_
      simp only [go_sem, hTl, hTc, hc, Nat.le_refl]
      exact ⟨ResCellD rfl rfl rfl rfl (by simp only [go_sem]) (by rw [ee]; rfl) rfl, trivial⟩
    have g2' : (p.app ≥ 0) = True := eq_true g2
    have g3' : (p.app < 2) = False := eq_false (fun h => g ⟨g1, g2, h⟩)
    refine T.sregD 125 [0, 1, 2, 3, 4, 5, 6, 7, 8, 9, 10, 11, 25, 47, 72, 78, 95, 104] fun Kr hKr => ?_
    simp only [go_sem, g1', g2', g3']
    (repeat (refine ⟨by (first | exact True.intro | omega | rfl | (simp; done) | (simp; omega)), ?_⟩)); try (refine hKr _ ?_; clear hKr Kr)
    refine T.condTD rfl rfl (fun hb => ?_) (fun hb => ?_) <;> try simp at hb
    refine T.sregD 125 [0, 1, 2, 3, 4, 5, 6, 7, 8, 9, 10, 11, 25, 47, 72, 78, 95, 104] fun Kr hKr => ?_
    simp only [go_sem]
    (repeat (refine ⟨by (first | exact True.intro | omega | rfl | (simp; done) | (simp; omega)), ?_⟩)); try (refine hKr _ ?_; clear hKr Kr)
    refine T.condTD rfl rfl (fun hb => ?_) (fun hb => ?_) <;> try simp at hb
    refine T.regD 125 [0, 1, 2, 3, 4, 5, 6, 7, 8, 9, 10, 11, 25, 47, 72, 78, 95, 104] fun Kr hKr => ?_
    simp only [go_sem]
    (repeat (refine ⟨by (first | exact True.intro | omega | rfl | (simp; done) | (simp; omega)), ?_⟩)); try (refine hKr _ ?_; clear hKr Kr)
    refine CallK.data (fun _ => Spec.args (s6) (by (first | exact ArgsLe.refl | (repeat (first | exact True.intro | refine And.intro (by first | exact AvLe.refl | exact AvLe.loose | exact AvLe.nil | exact AvLe.nilT | exact AvLe.slk | (refine AvLe.agg ?_; exact ArgsLe.refl) | (refine AvLe.agg ?_; (repeat (first | exact True.intro | refine And.intro (by first | exact AvLe.refl | exact AvLe.loose | exact AvLe.nil | exact AvLe.nilT | exact AvLe.slk) ?_)))) ?_))))) rfl ?_
    simp only [go_sem]
    (repeat (refine ⟨by (first | exact True.intro | omega | rfl | (simp; done) | (simp; omega)), ?_⟩)); try (refine hKr _ ?_; clear hKr Kr)
    refine hK55 _ ?_
    refine T.sregD 125 [0, 1, 2, 3, 4, 5, 6, 7, 8, 9, 10, 11, 25, 47, 72, 78, 95, 104] fun Kr hKr => ?_
    simp only [go_sem, hTl, hTc, hc, Nat.le_refl]
    (repeat (refine ⟨by (first | exact True.intro | omega | rfl | (simp; done) | (simp; omega)), ?_⟩)); try (refine hKr _ ?_; clear hKr Kr)
    refine T.ret ?_
    simp only [go_sem, hTl, hTc, hc, Nat.le_refl]
    exact ⟨ResCellD rfl rfl rfl rfl (by simp only [go_sem]) (by rw [ee]; rfl) rfl, trivial⟩
end Go.Proofs
