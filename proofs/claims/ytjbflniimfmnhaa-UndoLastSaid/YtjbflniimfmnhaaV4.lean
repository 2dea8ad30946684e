/- Undo: undoing the last step. -/
import Derived.Test.YtjbflniimfmnhaaV3
import Derived.Test.YtjbflniimfmnhaaD13
set_option linter.unusedVariables false
set_option linter.unusedSimpArgs false
namespace Go.Proofs
open Go Go.Ideal
set_option maxRecDepth 8000
set_option maxHeartbeats 4000000

theorem last_und {p : Past} {s : Stp} (h : Good p) (h0 : (doU p s).2 = 0) (hs : p.st.length < 90) (ht : s.e.s.length ≤ 1000) (hid : s.id ≥ 0) :
    undU (doU p s).1 p.st.length = (⟨p.docs, p.st ++ [⟨s.app, s.id, s.e, true⟩]⟩, [], 0) ∧ Good (doU p s).1 ∧ (doU p s).1.st.length = p.st.length + 1 ∧ (doU p s).1.docs.length = p.docs.length ∧ (doU p s).1.st = p.st ++ [s] := by
  obtain ⟨hq, a, ha, hal, hz, e, hu, hk, _⟩ := good_do h h0 hs ht
  rw [e] at hq ⊢
  simp only at hq ⊢
  have hg : (p.st ++ [s]).getD p.st.length default = s := by simp [List.getD]
  have hdr : (p.st ++ [s]).drop (p.st.length + 1) = [] := List.drop_of_length_le (by simp)
  have htk : (p.st ++ [s]).take p.st.length = p.st := by simp
  have hc : isCom (⟨p.docs.set a (actF (p.docs.getD a default) s).1, p.st ++ [s]⟩ : Past) (p.st.length : Int) = true := by
    unfold isCom
    simp only [Int.toNat_natCast]
    rw [if_neg (by simp; omega)]
    simp only [hg, hu, List.length_set, Bool.not_false, Bool.true_and, Bool.and_eq_true, decide_eq_true_eq]
    omega
  have hd : (depU (⟨p.docs.set a (actF (p.docs.getD a default) s).1, p.st ++ [s]⟩ : Past) (p.st.length : Int)).1 = [] := by
    refine (dep_iff hc).2 ?_
    simp only
    rw [hdr]; trivial
  obtain ⟨a', D', e1, e2, e3, e4, _⟩ := undU_eq hq hc hd
  simp only at e1 e2 e3 e4
  rw [hg] at e1
  have : a' = a := by omega
  subst this
  have hS : undS (⟨p.docs.set a' (actF (p.docs.getD a' default) s).1, p.st ++ [s]⟩ : Past) p.st.length = p.st ++ [⟨s.app, s.id, s.e, true⟩] := by
    rw [undS_eq _ _ (by simp)]
    simp only
    rw [htk, hg, hdr]; rfl
  rw [hS, rep_join (h.rep a' hal), rep_gone (.inr rfl)] at e4
  have hD : D' = p.docs.getD a' default := by cases e4; rfl
  refine ⟨?_, hq, by simp, by simp, trivial⟩
  rw [e3, hS, hD]
  congr 2
  refine List.ext_getElem? fun j => ?_
  rw [List.getElem?_set]
  by_cases hj : a' = j
  · subst hj
    simp [List.getD, hal]
  · rw [if_neg hj, List.getElem?_set, if_neg hj]
theorem next_err {p : Past} {n : Nat} (h : MadeOK p n) (hn : n < 80) (x : URaw) (hx : 128 ≤ x.x.k.toNat) : (doU p (nextU p x)).2 = 0 ∨ (doU p (nextU p x)).2 = 2 := by
  have h2 := h.two
  have hl := h.len
  obtain ⟨a, hae, hal⟩ : ∃ a : Nat, x.app.toNat % 2 = a ∧ a < 2 := ⟨_, rfl, by omega⟩
  have e : nextU p x = ⟨a, p.st.length, editF ⟨0, x.x.a, x.x.n, x.x.t, x.x.s⟩ (p.docs.getD a default).s.length, false⟩ := by
    unfold nextU; rw [if_pos hx, hae]
  have hp := editF_poss ⟨0, x.x.a, x.x.n, x.x.t, x.x.s⟩ (p.docs.getD a default).s.length
  have hk : (editF ⟨0, x.x.a, x.x.n, x.x.t, x.x.s⟩ (p.docs.getD a default).s.length).k = 1 := by
    unfold editF; rw [if_pos (by simp)]
  have hh : hasS p.st (p.st.length : Int) = false := by
    cases hh : hasS p.st (p.st.length : Int) with
    | false => rfl
    | true =>
      obtain ⟨y, hy, he⟩ := List.any_eq_true.1 hh
      have := h.ids y hy
      simp only [decide_eq_true_eq] at he
      omega
  have hda := h.good.okD (a := a) (by omega)
  -- its number is new
  have hi : hasId (p.docs.getD a default).m (p.st.length : Int) = false := by
    cases hi : hasId (p.docs.getD a default).m (p.st.length : Int) with
    | false => rfl
    | true =>
      obtain ⟨m, hm, he⟩ := hasId_mem.1 hi
      obtain ⟨i0, _⟩ := rep_ids a p.st noDoc _ noDoc_ok h.good.com (h.good.rep a (by omega))
      rcases i0 m hm with ⟨y, hy, _⟩ | ⟨s, hs, _, he2⟩
      · cases hy
      · have := h.ids s hs; omega
  rw [e]
  generalize editF ⟨0, x.x.a, x.x.n, x.x.t, x.x.s⟩ (p.docs.getD a default).s.length = E at *
  unfold doU
  simp only
  rw [if_neg (by simp; omega), if_neg (by omega), if_neg (by rw [hh, hk]; simp)]
  simp only [Int.toNat_natCast]
  have ea : actF (p.docs.getD a default) ⟨(a : Int), (p.st.length : Int), E, false⟩ = putF (p.docs.getD a default) p.st.length E.a E.s := by
    unfold actF; rw [if_pos (by simp only; omega)]
  rw [ea]
  have hpp : possB (putE E.a E.s) (p.docs.getD a default).s.length = true := by rw [(put_eff hk).1]; exact hp
  unfold putF
  have hno : ¬ (possB (putE E.a E.s) (p.docs.getD a default).s.length = false ∨ (p.st.length : Int) < 0 ∨ hasId (p.docs.getD a default).m p.st.length = true) := by
    rintro (g | g | g)
    · rw [hpp] at g; cases g
    · omega
    · rw [hi] at g; cases g
  rw [if_neg hno]
  split
  · right; simp
  · left; simp
theorem last_law (l : List URaw) (x : URaw) : Ideal.Spec Try.prog 7 [.sl false 7 (urawsOf l), urawA x] (.bool true) none := by
  have s1 := Made_specU l
  have hM := made_ok l
  generalize madeU l = p at *
  have hg := hM.good
  have hsl := hM.len
  have h2 := hM.two
  have s0 := sanityU_spec
  obtain ⟨y, hy⟩ : ∃ y : URaw, y = ⟨x.app, x.und, ⟨128, x.x.a, x.x.n, x.x.t, x.x.s⟩⟩ := ⟨_, rfl⟩
  have s2 := Next_specU hg h2 y
  have hyA : urawA y = .agg [.int .u8 x.app.toNat, .bool x.und, .int .u8 128, .int .u8 x.x.a.toNat, .int .u8 x.x.n.toNat, .int .u8 x.x.t.toNat, .sl false 1 (bytesOf x.x.s)] := by rw [hy]; rfl
  rw [hyA] at s2
  have hy8 : 128 ≤ y.x.k.toNat := by rw [hy]; simp
  have hne := next_err hM (by omega) y hy8
  have hnl := nextU_len p y
  have hid : (nextU p y).id ≥ 0 := by
    unfold nextU; rw [if_pos hy8]; simp only; omega
  generalize nextU p y = s at *
  have s3 := hg.Do_spec s (by omega)
  have hL : (doU p s).2 = 0 → _ := fun h0 => last_und hg h0 (by omega) (by omega) hid
  have hS : (p.st ++ [(⟨s.app, s.id, s.e, true⟩ : Stp)]).length = p.st.length + 1 := by simp
  generalize hR : doU p s = R at *
  refine Ideal.Spec.of_TD (n := 70) (fn := Try.f7) rfl rfl rfl rfl rfl rfl rfl fun w ok => ?_
  refine T.sregD 70 [0, 1, 3, 4, 5, 6, 7, 8, 9, 10, 11, 27, 46] fun Kr hKr => ?_
  simp only [go_sem]
  (repeat (refine ⟨by (first | exact True.intro | omega | rfl | (simp; done) | (simp; omega)), ?_⟩)); try (refine hKr _ ?_; clear hKr Kr)
  refine T.sregD 70 [0, 1, 3, 4, 5, 6, 7, 8, 9, 10, 11, 27, 46] fun Kr hKr => ?_
  simp only [go_sem]
  (repeat (refine ⟨by (first | exact True.intro | omega | rfl | (simp; done) | (simp; omega)), ?_⟩)); try (refine hKr _ ?_; clear hKr Kr)
  refine CallK.data (fun _ => Spec.args (s0) (by (first | exact ArgsLe.refl | (repeat (first | exact True.intro | refine And.intro (by first | exact AvLe.refl | exact AvLe.loose | exact AvLe.nil | exact AvLe.nilT | exact AvLe.slk | (refine AvLe.agg ?_; exact ArgsLe.refl) | (refine AvLe.agg ?_; (repeat (first | exact True.intro | refine And.intro (by first | exact AvLe.refl | exact AvLe.loose | exact AvLe.nil | exact AvLe.nilT | exact AvLe.slk) ?_)))) ?_))))) rfl ?_
  simp only [go_sem]
  (repeat (refine ⟨by (first | exact True.intro | omega | rfl | (simp; done) | (simp; omega)), ?_⟩)); try (refine hKr _ ?_; clear hKr Kr)
  refine T.sregD 70 [0, 1, 3, 4, 5, 6, 7, 8, 9, 10, 11, 27, 46] fun Kr hKr => ?_
  simp only [go_sem]
  (repeat (refine ⟨by (first | exact True.intro | omega | rfl | (simp; done) | (simp; omega)), ?_⟩)); try (refine hKr _ ?_; clear hKr Kr)
  refine CallK.data (fun _ => Spec.args (s1) (by (first | exact ArgsLe.refl | (repeat (first | exact True.intro | refine And.intro (by first | exact AvLe.refl | exact AvLe.loose | exact AvLe.nil | exact AvLe.nilT | exact AvLe.slk | (refine AvLe.agg ?_; exact ArgsLe.refl) | (refine AvLe.agg ?_; (repeat (first | exact True.intro | refine And.intro (by first | exact AvLe.refl | exact AvLe.loose | exact AvLe.nil | exact AvLe.nilT | exact AvLe.slk) ?_)))) ?_))))) rfl ?_
  simp only [go_sem]
  (repeat (refine ⟨by (first | exact True.intro | omega | rfl | (simp; done) | (simp; omega)), ?_⟩)); try (refine hKr _ ?_; clear hKr Kr)
  refine T.sregD 70 [0, 1, 3, 4, 5, 6, 7, 8, 9, 10, 11, 27, 46] fun Kr hKr => ?_
  simp only [go_sem]
  (repeat (refine ⟨by (first | exact True.intro | omega | rfl | (simp; done) | (simp; omega)), ?_⟩)); try (refine hKr _ ?_; clear hKr Kr)
  refine T.sregD 70 [0, 1, 3, 4, 5, 6, 7, 8, 9, 10, 11, 27, 46] fun Kr hKr => ?_
  simp only [go_sem]
  (repeat (refine ⟨by (first | exact True.intro | omega | rfl | (simp; done) | (simp; omega)), ?_⟩)); try (refine hKr _ ?_; clear hKr Kr)
  refine CallK.data (fun _ => Spec.args (s2) (by (first | exact ArgsLe.refl | (repeat (first | exact True.intro | refine And.intro (by first | exact AvLe.refl | exact AvLe.loose | exact AvLe.nil | exact AvLe.nilT | exact AvLe.slk | (refine AvLe.agg ?_; exact ArgsLe.refl) | (refine AvLe.agg ?_; (repeat (first | exact True.intro | refine And.intro (by first | exact AvLe.refl | exact AvLe.loose | exact AvLe.nil | exact AvLe.nilT | exact AvLe.slk) ?_)))) ?_))))) rfl ?_
  simp only [go_sem]
  (repeat (refine ⟨by (first | exact True.intro | omega | rfl | (simp; done) | (simp; omega)), ?_⟩)); try (refine hKr _ ?_; clear hKr Kr)
  refine T.sregD 70 [0, 1, 3, 4, 5, 6, 7, 8, 9, 10, 11, 27, 46] fun Kr hKr => ?_
  simp only [go_sem]
  (repeat (refine ⟨by (first | exact True.intro | omega | rfl | (simp; done) | (simp; omega)), ?_⟩)); try (refine hKr _ ?_; clear hKr Kr)
  refine CallK.tup (fun _ => Spec.args (s3) (by (first | exact ArgsLe.refl | (repeat (first | exact True.intro | refine And.intro (by first | exact AvLe.refl | exact AvLe.loose | exact AvLe.nil | exact AvLe.nilT | exact AvLe.slk | (refine AvLe.agg ?_; exact ArgsLe.refl) | (refine AvLe.agg ?_; (repeat (first | exact True.intro | refine And.intro (by first | exact AvLe.refl | exact AvLe.loose | exact AvLe.nil | exact AvLe.nilT | exact AvLe.slk) ?_)))) ?_))))) ?_
  simp only [go_sem]
  (repeat (refine ⟨by (first | exact True.intro | omega | rfl | (simp; done) | (simp; omega)), ?_⟩)); try (refine hKr _ ?_; clear hKr Kr)
  refine T.seqK fun K30 hK30 => ?_
  refine T.sregD 70 [0, 1, 3, 4, 5, 6, 7, 8, 9, 10, 11, 27, 46] fun Kr hKr => ?_
  simp only [go_sem]
  (repeat (refine ⟨by (first | exact True.intro | omega | rfl | (simp; done) | (simp; omega)), ?_⟩)); try (refine hKr _ ?_; clear hKr Kr)
  rcases hne with h0 | h0
  rotate_left
  · rw [h0]
    refine T.condTD rfl rfl (fun hb => ?_) (fun hb => ?_) <;> try simp at hb
    refine T.sregD 70 [0, 1, 3, 4, 5, 6, 7, 8, 9, 10, 11, 27, 46] fun Kr hKr => ?_
    simp only [go_sem]
    (repeat (refine ⟨by (first | exact True.intro | omega | rfl | (simp; done) | (simp; omega)), ?_⟩)); try (refine hKr _ ?_; clear hKr Kr)
    refine T.ret (Fin.dataD rfl rfl rfl)
  obtain ⟨e1, e2, e3, e4, e5⟩ := hL h0
  have s4 := undone_spec e2 p.st.length
  rw [e1] at s4
  have hlen2 : R.1.docs.length = 2 := by omega
  refine T.condTD rfl rfl (fun hb => ?_) (fun hb => ?_) <;> try (simp [h0] at hb; done)
  refine T.skip ?_
  refine hK30 _ ?_
  refine T.seqK fun K31 hK31 => ?_
  refine T.sregD 70 [0, 1, 3, 4, 5, 6, 7, 8, 9, 10, 11, 27, 46] fun Kr hKr => ?_
  simp only [go_sem, e3, hlen2]
  (repeat (refine ⟨by (first | exact True.intro | omega | rfl | (simp; done) | (simp; omega)), ?_⟩)); try (refine hKr _ ?_; clear hKr Kr)
  refine T.condTD rfl rfl (fun hb => ?_) (fun hb => ?_) <;> try simp at hb
  refine T.skip ?_
  refine hK31 _ ?_
  have hP : OkP ⟨p.docs, p.st ++ [⟨s.app, s.id, s.e, true⟩]⟩ := by
    have o := hg.okP
    exact ⟨o.docs, o.dl, by have := o.sl; simp; omega⟩
  have sS := same_specU (⟨p.docs, p.st ++ [⟨s.app, s.id, s.e, true⟩]⟩, [], 0) (⟨p.docs, p.st ++ [⟨s.app, s.id, s.e, true⟩]⟩, [], 0) hP hP (by simp) (by simp)
  rw [decide_eq_true rfl] at sS
  have happ : stsOf p.st ++ [stA ⟨s.app, s.id, s.e, true⟩] = stsOf (p.st ++ [⟨s.app, s.id, s.e, true⟩]) := by simp [stsOf]
  rw [stA] at happ
  refine T.sregD 70 [0, 1, 3, 4, 5, 6, 7, 8, 9, 10, 11, 27, 46] fun Kr hKr => ?_
  simp only [go_sem]
  (repeat (refine ⟨by (first | exact True.intro | omega | rfl | (simp; done) | (simp; omega)), ?_⟩)); try (refine hKr _ ?_; clear hKr Kr)
  refine CallK.data (fun _ => Spec.args (s4) (by (first | exact ArgsLe.refl | (repeat (first | exact True.intro | refine And.intro (by first | exact AvLe.refl | exact AvLe.loose | exact AvLe.nil | exact AvLe.nilT | exact AvLe.slk | (refine AvLe.agg ?_; exact ArgsLe.refl) | (refine AvLe.agg ?_; (repeat (first | exact True.intro | refine And.intro (by first | exact AvLe.refl | exact AvLe.loose | exact AvLe.nil | exact AvLe.nilT | exact AvLe.slk) ?_)))) ?_))))) rfl ?_
  simp only [go_sem]
  (repeat (refine ⟨by (first | exact True.intro | omega | rfl | (simp; done) | (simp; omega)), ?_⟩)); try (refine hKr _ ?_; clear hKr Kr)
  refine T.sregD 70 [0, 1, 3, 4, 5, 6, 7, 8, 9, 10, 11, 27, 46] fun Kr hKr => ?_
  simp only [go_sem]
  (repeat (refine ⟨by (first | exact True.intro | omega | rfl | (simp; done) | (simp; omega)), ?_⟩)); try (refine hKr _ ?_; clear hKr Kr)
  refine T.sdraw2D 70 [0, 1, 3, 4, 5, 6, 7, 8, 9, 10, 11, 27, 46] (.take 0 (.take 1 (.take 3 (.take 4 (.take 6 (.three 2 (.three 5 (.two 7 (.two 8 (.take 9 (.one 10 (.one 11 .done))) 10 (.one 8 (.take 9 (.one 11 .done)))) 10 (.one 7 (.one 8 (.take 9 (.one 11 .done))))) 7 (.two 5 (.two 8 (.take 9 (.one 10 (.one 11 .done))) 10 (.one 8 (.take 9 (.one 11 .done)))) 10 (.one 5 (.one 8 (.take 9 (.one 11 .done))))) 10 (.two 5 (.one 7 (.one 8 (.take 9 (.one 11 .done)))) 7 (.one 5 (.one 8 (.take 9 (.one 11 .done)))))) 7 (.two 2 (.two 5 (.two 8 (.take 9 (.one 10 (.one 11 .done))) 10 (.one 8 (.take 9 (.one 11 .done)))) 10 (.one 5 (.one 8 (.take 9 (.one 11 .done))))) 10 (.one 2 (.one 5 (.one 8 (.take 9 (.one 11 .done)))))) 10 (.two 2 (.two 5 (.one 7 (.one 8 (.take 9 (.one 11 .done)))) 7 (.one 5 (.one 8 (.take 9 (.one 11 .done))))) 7 (.one 2 (.one 5 (.one 8 (.take 9 (.one 11 .done)))))))))))) [6, 7] rfl (by decide +kernel) (by decide +kernel) ?x1 ?h1 (fun Kr hKr => ?all1) ?rest1
  case all1 =>
    simp only [go_sem, happ]
    (repeat (any_goals (first | exact hKr _ (.inl rfl) | exact hKr _ (.inr (by (repeat (first | exact True.intro | refine And.intro (by first | rfl | (simp [look]; done)) ?_)))) | (refine And.intro ?_ ?_) | (first | exact True.intro | omega | rfl | (simp; done) | (simp; omega)))))
    all_goals (first | exact hKr _ (.inl rfl) | exact hKr _ (.inr (by (repeat (first | exact True.intro | refine And.intro (by first | rfl | (simp [look]; done)) ?_)))))
  case rest1 =>
  have htk : (p.st ++ [(⟨s.app, s.id, s.e, true⟩ : Stp)]).take (p.st.length + 1) = p.st ++ [⟨s.app, s.id, s.e, true⟩] := List.take_of_length_le (by simp)
  refine T.sregD 70 [0, 1, 3, 4, 5, 6, 7, 8, 9, 10, 11, 27, 46] fun Kr hKr => ?_
  simp only [go_sem, htk]
  (repeat (refine ⟨by (first | exact True.intro | omega | rfl | (simp; done) | (simp; omega)), ?_⟩)); try (refine hKr _ ?_; clear hKr Kr)
  refine CallK.data (fun _ => Spec.args (sS) (by (first | exact ArgsLe.refl | (repeat (first | exact True.intro | refine And.intro (by first | exact AvLe.refl | exact AvLe.loose | exact AvLe.nil | exact AvLe.nilT | exact AvLe.slk | (refine AvLe.agg ?_; exact ArgsLe.refl) | (refine AvLe.agg ?_; (repeat (first | exact True.intro | refine And.intro (by first | exact AvLe.refl | exact AvLe.loose | exact AvLe.nil | exact AvLe.nilT | exact AvLe.slk) ?_)))) ?_))))) rfl ?_
  simp only [go_sem, htk]
  (repeat (refine ⟨by (first | exact True.intro | omega | rfl | (simp; done) | (simp; omega)), ?_⟩)); try (refine hKr _ ?_; clear hKr Kr)
  refine T.ret (Fin.dataD rfl rfl rfl)
end Go.Proofs
