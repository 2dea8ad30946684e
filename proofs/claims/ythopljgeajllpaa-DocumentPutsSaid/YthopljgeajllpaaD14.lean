/- Documents: marks keep their texts while they are whole. -/
import Derived.Test.YthopljgeajllpaaD12
import Derived.Test.YthopljgeajllpaaD13
set_option linter.unusedVariables false
set_option linter.unusedSimpArgs false
namespace Go.Proofs
open Go Go.Ideal
set_option maxRecDepth 8000
set_option maxHeartbeats 4000000

theorem piece_spec (d : Doc) (m : Mark) (h : 0 ≤ m.f ∧ m.f ≤ m.t ∧ m.t ≤ d.s.length) : Ideal.Spec Try.prog 27 [docA d, mkA m] (.str (sub d.s m.f m.t)) none := by
  obtain ⟨h1, h2, h3⟩ := h
  refine Ideal.Spec.of_TD (n := 12) (fn := Try.f27) rfl rfl rfl rfl rfl rfl rfl fun w ok => ?_
  refine T.sregD 12 [0, 1, 2, 3, 4] fun Kr hKr => ?_
  simp only [go_sem, reduceCtorEq, Nat.reduceEqDiff, Nat.reduceBEq, Nat.reduceAdd, Nat.reduceMul, Nat.reduceLeDiff, Nat.reduceSub, Int.reduceToNat, Int.reduceNeg, Nat.reduceLT, Int.reduceMul, Int.reduceSub, Int.reduceAdd, Int.reduceLT, Int.reduceLE, Int.reduceGE, Int.reduceGT, Int.reduceDiv, Int.reduceMod, Int.reduceEq, Int.reducePow, Nat.reducePow, Nat.reduceDiv, Nat.reduceMod]
  (repeat (refine ⟨by (first | exact True.intro | omega | rfl | (simp; done) | (simp; omega)), ?_⟩)); try (refine hKr _ ?_; clear hKr Kr)
  refine T.sregD 12 [0, 1, 2, 3, 4] fun Kr hKr => ?_
  simp only [go_sem, reduceCtorEq, Nat.reduceEqDiff, Nat.reduceBEq, Nat.reduceAdd, Nat.reduceMul, Nat.reduceLeDiff, Nat.reduceSub, Int.reduceToNat, Int.reduceNeg, Nat.reduceLT, Int.reduceMul, Int.reduceSub, Int.reduceAdd, Int.reduceLT, Int.reduceLE, Int.reduceGE, Int.reduceGT, Int.reduceDiv, Int.reduceMod, Int.reduceEq, Int.reducePow, Nat.reducePow, Nat.reduceDiv, Nat.reduceMod]
  (repeat (refine ⟨by (first | exact True.intro | omega | rfl | (simp; done) | (simp; omega)), ?_⟩)); try (refine hKr _ ?_; clear hKr Kr)
  refine T.ret (Fin.dataD rfl rfl rfl)
theorem fnd_no {l : List Mark} {id : Int} (h : hasId l id = false) : fndF l id = -1 := by
  have := hasId_fnd (l := l) (id := id)
  rw [h] at this
  unfold fndF at this ⊢
  cases hf : l.findIdx? (fun m => decide (m.id = id)) with
  | none => rfl
  | some i => rw [hf] at this; simp at this
theorem fnd_at {l : List Mark} {id : Int} {p : Nat} (hs : Srt l) (hp : p < l.length) (h : (l.getD p default).id = id) : fndF l id = p := by
  unfold fndF
  rw [findIdx_at hp ?_ h]
  rw [List.any_eq_false]
  intro x hx
  obtain ⟨q, hq, rfl⟩ := List.mem_take_iff_getElem.1 hx
  have h1 := hs.get hp (show q < p by omega)
  have : (l.getD q default) = l[q] := by simp [List.getD, show q < l.length by omega]
  rw [this] at h1
  simp; omega
theorem carL_split {l : List Mark} {e : Edit} {i : Nat} (h : i < l.length) : carL l e = carL (l.take i) e ++ ((match carM e (l.getD i default) with | some m => [m] | none => []) ++ carL (l.drop (i + 1)) e) := by
  conv => lhs; rw [show l = l.take i ++ (l.getD i default :: l.drop (i + 1)) by rw [← drop_d h]; simp]
  simp only [carL, List.filterMap_append, List.filterMap_cons]
  cases carM e (l.getD i default) <;> rfl
theorem carL_at {l : List Mark} {e : Edit} {i : Nat} {m' : Mark} (h : i < l.length) (hm : carM e (l.getD i default) = some m') : (carL (l.take i) e).length < (carL l e).length ∧ (carL l e).getD (carL (l.take i) e).length default = m' := by
  rw [carL_split (e := e) h, hm]
  refine ⟨by simp, ?_⟩
  simp [List.getD]
theorem fnd_some {d : Doc} {e : Edit} {i : Nat} {m' : Mark} (hd : OkD d) (hp : possB e d.s.length = true) (h : i < d.m.length) (hm : carM e (d.m.getD i default) = some m') :
    fndF (carL d.m e) (d.m.getD i default).id = ((carL (d.m.take i) e).length : Int) := by
  obtain ⟨h1, h2⟩ := carL_at h hm
  have hmem : d.m.getD i default ∈ d.m := by simp [List.getD, h]
  obtain ⟨_, g⟩ := hd.mks _ hmem
  refine fnd_at (carL_srt hd hp) h1 ?_
  rw [h2]; exact (carM_ok hp g hm).1
theorem fnd_none {d : Doc} {e : Edit} {i : Nat} (hd : OkD d) (hp : possB e d.s.length = true) (h : i < d.m.length) (hm : carM e (d.m.getD i default) = none) :
    fndF (carL d.m e) (d.m.getD i default).id = -1 := by
  refine fnd_no ?_
  simp only [hasId, List.any_eq_false]
  intro x hx
  obtain ⟨m0, h0, h1⟩ := carL_mem hx
  obtain ⟨_, g⟩ := hd.mks m0 h0
  have hid := (carM_ok hp g h1).1
  obtain ⟨q, hq⟩ := List.getElem?_of_mem h0
  obtain ⟨hql, hqe⟩ := List.getElem?_eq_some_iff.1 hq
  have hqd : d.m.getD q default = m0 := by simp [List.getD, hq]
  have : (d.m.getD i default).id ≠ m0.id := by
    rcases Nat.lt_trichotomy q i with hlt | heq | hgt
    · have := hd.srt.get h hlt; rw [hqd] at this; omega
    · subst heq; rw [hqd] at hm; rw [hm] at h1; cases h1
    · have := hd.srt.get hql hgt; rw [hqd] at this; omega
  intro hh
  have := of_decide_eq_true hh
  omega

theorem marks_law (l : List Raw) (x : Raw) : Ideal.Spec Try.prog 9 [.sl false 5 (rawsOf l), rawA x] (.bool true) none := by
  have sm := Made14 l
  obtain ⟨hok, _⟩ := madeN_ok l (min l.length 14)
  have hmd : madeF l 14 = madeN l (min l.length 14) := rfl
  rw [← hmd] at hok
  generalize madeF l 14 = d at *
  have hlen := hok.len
  have hcnt := hok.cnt
  have se := Edit_spec x d.s.length (by omega)
  have hp := editF_poss x d.s.length
  have hel := editF_len x d.s.length
  generalize editF x d.s.length = e at *
  have sd := Do_spec d e hok (by omega)
  have hW := SmW_of hlen hp (by omega : e.s.length ≤ 100000)
  refine Ideal.Spec.of_TD (n := 118) (fn := Try.f9) rfl rfl rfl rfl rfl rfl rfl fun w ok => ?_
  refine T.sregD 118 [0, 1, 3, 4, 5, 6, 7, 8, 9, 10, 11, 12, 13, 14, 30, 38, 43, 67, 69, 107] fun Kr hKr => ?_
  simp only [go_sem, reduceCtorEq, Nat.reduceEqDiff, Nat.reduceBEq, Nat.reduceAdd, Nat.reduceMul, Nat.reduceLeDiff, Nat.reduceSub, Int.reduceToNat, Int.reduceNeg, Nat.reduceLT, Int.reduceMul, Int.reduceSub, Int.reduceAdd, Int.reduceLT, Int.reduceLE, Int.reduceGE, Int.reduceGT, Int.reduceDiv, Int.reduceMod, Int.reduceEq, Int.reducePow, Nat.reducePow, Nat.reduceDiv, Nat.reduceMod]
  (repeat (refine ⟨by (first | exact True.intro | omega | rfl | (simp; done) | (simp; omega)), ?_⟩)); try (refine hKr _ ?_; clear hKr Kr)
  refine T.sregD 118 [0, 1, 3, 4, 5, 6, 7, 8, 9, 10, 11, 12, 13, 14, 30, 38, 43, 67, 69, 107] fun Kr hKr => ?_
  simp only [go_sem, reduceCtorEq, Nat.reduceEqDiff, Nat.reduceBEq, Nat.reduceAdd, Nat.reduceMul, Nat.reduceLeDiff, Nat.reduceSub, Int.reduceToNat, Int.reduceNeg, Nat.reduceLT, Int.reduceMul, Int.reduceSub, Int.reduceAdd, Int.reduceLT, Int.reduceLE, Int.reduceGE, Int.reduceGT, Int.reduceDiv, Int.reduceMod, Int.reduceEq, Int.reducePow, Nat.reducePow, Nat.reduceDiv, Nat.reduceMod]
  (repeat (refine ⟨by (first | exact True.intro | omega | rfl | (simp; done) | (simp; omega)), ?_⟩)); try (refine hKr _ ?_; clear hKr Kr)
  refine CallK.data (fun _ => Spec.args (sanity_spec) (by (first | exact ArgsLe.refl | (repeat (first | exact True.intro | refine And.intro (by first | exact AvLe.refl | exact AvLe.loose | exact AvLe.nil | exact AvLe.nilT | exact AvLe.slk | (refine AvLe.agg ?_; exact ArgsLe.refl) | (refine AvLe.agg ?_; (repeat (first | exact True.intro | refine And.intro (by first | exact AvLe.refl | exact AvLe.loose | exact AvLe.nil | exact AvLe.nilT | exact AvLe.slk) ?_)))) ?_))))) rfl ?_
  simp only [go_sem, reduceCtorEq, Nat.reduceEqDiff, Nat.reduceBEq, Nat.reduceAdd, Nat.reduceMul, Nat.reduceLeDiff, Nat.reduceSub, Int.reduceToNat, Int.reduceNeg, Nat.reduceLT, Int.reduceMul, Int.reduceSub, Int.reduceAdd, Int.reduceLT, Int.reduceLE, Int.reduceGE, Int.reduceGT, Int.reduceDiv, Int.reduceMod, Int.reduceEq, Int.reducePow, Nat.reducePow, Nat.reduceDiv, Nat.reduceMod]
  (repeat (refine ⟨by (first | exact True.intro | omega | rfl | (simp; done) | (simp; omega)), ?_⟩)); try (refine hKr _ ?_; clear hKr Kr)
  refine T.sregD 118 [0, 1, 3, 4, 5, 6, 7, 8, 9, 10, 11, 12, 13, 14, 30, 38, 43, 67, 69, 107] fun Kr hKr => ?_
  simp only [go_sem, reduceCtorEq, Nat.reduceEqDiff, Nat.reduceBEq, Nat.reduceAdd, Nat.reduceMul, Nat.reduceLeDiff, Nat.reduceSub, Int.reduceToNat, Int.reduceNeg, Nat.reduceLT, Int.reduceMul, Int.reduceSub, Int.reduceAdd, Int.reduceLT, Int.reduceLE, Int.reduceGE, Int.reduceGT, Int.reduceDiv, Int.reduceMod, Int.reduceEq, Int.reducePow, Nat.reducePow, Nat.reduceDiv, Nat.reduceMod]
  (repeat (refine ⟨by (first | exact True.intro | omega | rfl | (simp; done) | (simp; omega)), ?_⟩)); try (refine hKr _ ?_; clear hKr Kr)
  refine CallK.data (fun _ => Spec.args (sm) (by (first | exact ArgsLe.refl | (repeat (first | exact True.intro | refine And.intro (by first | exact AvLe.refl | exact AvLe.loose | exact AvLe.nil | exact AvLe.nilT | exact AvLe.slk | (refine AvLe.agg ?_; exact ArgsLe.refl) | (refine AvLe.agg ?_; (repeat (first | exact True.intro | refine And.intro (by first | exact AvLe.refl | exact AvLe.loose | exact AvLe.nil | exact AvLe.nilT | exact AvLe.slk) ?_)))) ?_))))) rfl ?_
  simp only [go_sem, reduceCtorEq, Nat.reduceEqDiff, Nat.reduceBEq, Nat.reduceAdd, Nat.reduceMul, Nat.reduceLeDiff, Nat.reduceSub, Int.reduceToNat, Int.reduceNeg, Nat.reduceLT, Int.reduceMul, Int.reduceSub, Int.reduceAdd, Int.reduceLT, Int.reduceLE, Int.reduceGE, Int.reduceGT, Int.reduceDiv, Int.reduceMod, Int.reduceEq, Int.reducePow, Nat.reducePow, Nat.reduceDiv, Nat.reduceMod]
  (repeat (refine ⟨by (first | exact True.intro | omega | rfl | (simp; done) | (simp; omega)), ?_⟩)); try (refine hKr _ ?_; clear hKr Kr)
  refine T.sregD 118 [0, 1, 3, 4, 5, 6, 7, 8, 9, 10, 11, 12, 13, 14, 30, 38, 43, 67, 69, 107] fun Kr hKr => ?_
  simp only [go_sem, reduceCtorEq, Nat.reduceEqDiff, Nat.reduceBEq, Nat.reduceAdd, Nat.reduceMul, Nat.reduceLeDiff, Nat.reduceSub, Int.reduceToNat, Int.reduceNeg, Nat.reduceLT, Int.reduceMul, Int.reduceSub, Int.reduceAdd, Int.reduceLT, Int.reduceLE, Int.reduceGE, Int.reduceGT, Int.reduceDiv, Int.reduceMod, Int.reduceEq, Int.reducePow, Nat.reducePow, Nat.reduceDiv, Nat.reduceMod]
  (repeat (refine ⟨by (first | exact True.intro | omega | rfl | (simp; done) | (simp; omega)), ?_⟩)); try (refine hKr _ ?_; clear hKr Kr)
  refine CallK.data (fun _ => Spec.args (se) (by (first | exact ArgsLe.refl | (repeat (first | exact True.intro | refine And.intro (by first | exact AvLe.refl | exact AvLe.loose | exact AvLe.nil | exact AvLe.nilT | exact AvLe.slk | (refine AvLe.agg ?_; exact ArgsLe.refl) | (refine AvLe.agg ?_; (repeat (first | exact True.intro | refine And.intro (by first | exact AvLe.refl | exact AvLe.loose | exact AvLe.nil | exact AvLe.nilT | exact AvLe.slk) ?_)))) ?_))))) rfl ?_
  simp only [go_sem, reduceCtorEq, Nat.reduceEqDiff, Nat.reduceBEq, Nat.reduceAdd, Nat.reduceMul, Nat.reduceLeDiff, Nat.reduceSub, Int.reduceToNat, Int.reduceNeg, Nat.reduceLT, Int.reduceMul, Int.reduceSub, Int.reduceAdd, Int.reduceLT, Int.reduceLE, Int.reduceGE, Int.reduceGT, Int.reduceDiv, Int.reduceMod, Int.reduceEq, Int.reducePow, Nat.reducePow, Nat.reduceDiv, Nat.reduceMod]
  (repeat (refine ⟨by (first | exact True.intro | omega | rfl | (simp; done) | (simp; omega)), ?_⟩)); try (refine hKr _ ?_; clear hKr Kr)
  refine T.sregD 118 [0, 1, 3, 4, 5, 6, 7, 8, 9, 10, 11, 12, 13, 14, 30, 38, 43, 67, 69, 107] fun Kr hKr => ?_
  simp only [go_sem, reduceCtorEq, Nat.reduceEqDiff, Nat.reduceBEq, Nat.reduceAdd, Nat.reduceMul, Nat.reduceLeDiff, Nat.reduceSub, Int.reduceToNat, Int.reduceNeg, Nat.reduceLT, Int.reduceMul, Int.reduceSub, Int.reduceAdd, Int.reduceLT, Int.reduceLE, Int.reduceGE, Int.reduceGT, Int.reduceDiv, Int.reduceMod, Int.reduceEq, Int.reducePow, Nat.reducePow, Nat.reduceDiv, Nat.reduceMod]
  (repeat (refine ⟨by (first | exact True.intro | omega | rfl | (simp; done) | (simp; omega)), ?_⟩)); try (refine hKr _ ?_; clear hKr Kr)
  refine CallK.tup (fun _ => Spec.args (sd) (by (first | exact ArgsLe.refl | (repeat (first | exact True.intro | refine And.intro (by first | exact AvLe.refl | exact AvLe.loose | exact AvLe.nil | exact AvLe.nilT | exact AvLe.slk | (refine AvLe.agg ?_; exact ArgsLe.refl) | (refine AvLe.agg ?_; (repeat (first | exact True.intro | refine And.intro (by first | exact AvLe.refl | exact AvLe.loose | exact AvLe.nil | exact AvLe.nilT | exact AvLe.slk) ?_)))) ?_))))) ?_
  simp only [go_sem, reduceCtorEq, Nat.reduceEqDiff, Nat.reduceBEq, Nat.reduceAdd, Nat.reduceMul, Nat.reduceLeDiff, Nat.reduceSub, Int.reduceToNat, Int.reduceNeg, Nat.reduceLT, Int.reduceMul, Int.reduceSub, Int.reduceAdd, Int.reduceLT, Int.reduceLE, Int.reduceGE, Int.reduceGT, Int.reduceDiv, Int.reduceMod, Int.reduceEq, Int.reducePow, Nat.reducePow, Nat.reduceDiv, Nat.reduceMod]
  (repeat (refine ⟨by (first | exact True.intro | omega | rfl | (simp; done) | (simp; omega)), ?_⟩)); try (refine hKr _ ?_; clear hKr Kr)
  refine T.seqK fun K1 hK1 => ?_
  refine T.sregD 118 [0, 1, 3, 4, 5, 6, 7, 8, 9, 10, 11, 12, 13, 14, 30, 38, 43, 67, 69, 107] fun Kr hKr => ?_
  simp only [go_sem, reduceCtorEq, Nat.reduceEqDiff, Nat.reduceBEq, Nat.reduceAdd, Nat.reduceMul, Nat.reduceLeDiff, Nat.reduceSub, Int.reduceToNat, Int.reduceNeg, Nat.reduceLT, Int.reduceMul, Int.reduceSub, Int.reduceAdd, Int.reduceLT, Int.reduceLE, Int.reduceGE, Int.reduceGT, Int.reduceDiv, Int.reduceMod, Int.reduceEq, Int.reducePow, Nat.reducePow, Nat.reduceDiv, Nat.reduceMod]
  (repeat (refine ⟨by (first | exact True.intro | omega | rfl | (simp; done) | (simp; omega)), ?_⟩)); try (refine hKr _ ?_; clear hKr Kr)
  by_cases hbig : e.k = 1 ∧ (d.s.length : Int) + e.s.length > 400
  · have ee : doF d e = (noDoc, 2) := by unfold doF; rw [if_neg (by rw [hp]; decide), if_pos hbig]
    rw [ee]
    refine T.condTD rfl rfl (fun hx => ?_) (fun hx => ?_) <;> try simp at hx
    refine T.sregD 118 [0, 1, 3, 4, 5, 6, 7, 8, 9, 10, 11, 12, 13, 14, 30, 38, 43, 67, 69, 107] fun Kr hKr => ?_
    simp only [go_sem, reduceCtorEq, Nat.reduceEqDiff, Nat.reduceBEq, Nat.reduceAdd, Nat.reduceMul, Nat.reduceLeDiff, Nat.reduceSub, Int.reduceToNat, Int.reduceNeg, Nat.reduceLT, Int.reduceMul, Int.reduceSub, Int.reduceAdd, Int.reduceLT, Int.reduceLE, Int.reduceGE, Int.reduceGT, Int.reduceDiv, Int.reduceMod, Int.reduceEq, Int.reducePow, Nat.reducePow, Nat.reduceDiv, Nat.reduceMod]
    (repeat (refine ⟨by (first | exact True.intro | omega | rfl | (simp; done) | (simp; omega)), ?_⟩)); try (refine hKr _ ?_; clear hKr Kr)
    refine T.ret (Fin.dataD rfl rfl rfl)
  have ee : doF d e = (⟨chg d.s e, carL d.m e⟩, 0) := by unfold doF; rw [if_neg (by rw [hp]; decide), if_neg hbig]
  have hok2 := (doF_ok (e := e) hok (by rw [ee])).1
  rw [ee] at hok2 ⊢
  simp only at hok2
  have hlen2 := hok2.len
  have hcnt2 := hok2.cnt
  simp only at hlen2 hcnt2
  have sv := ValidR_spec ⟨chg d.s e, carL d.m e⟩ (by simp only; omega) (by simp only; omega)
  rw [validB_of hok2] at sv
  have sf := fun id => Find_spec ⟨chg d.s e, carL d.m e⟩ id (by simp only; omega)
  have hsrt := carL_srt hok hp
  refine T.condTD rfl rfl (fun hx => ?_) (fun hx => ?_) <;> try simp at hx
  refine T.skip ?_
  refine hK1 _ ?_
  refine T.seqK fun K2 hK2 => ?_
  refine T.sregD 118 [0, 1, 3, 4, 5, 6, 7, 8, 9, 10, 11, 12, 13, 14, 30, 38, 43, 67, 69, 107] fun Kr hKr => ?_
  simp only [go_sem, reduceCtorEq, Nat.reduceEqDiff, Nat.reduceBEq, Nat.reduceAdd, Nat.reduceMul, Nat.reduceLeDiff, Nat.reduceSub, Int.reduceToNat, Int.reduceNeg, Nat.reduceLT, Int.reduceMul, Int.reduceSub, Int.reduceAdd, Int.reduceLT, Int.reduceLE, Int.reduceGE, Int.reduceGT, Int.reduceDiv, Int.reduceMod, Int.reduceEq, Int.reducePow, Nat.reducePow, Nat.reduceDiv, Nat.reduceMod]
  (repeat (refine ⟨by (first | exact True.intro | omega | rfl | (simp; done) | (simp; omega)), ?_⟩)); try (refine hKr _ ?_; clear hKr Kr)
  refine CallK.data (fun _ => Spec.args (sv) (by (first | exact ArgsLe.refl | (repeat (first | exact True.intro | refine And.intro (by first | exact AvLe.refl | exact AvLe.loose | exact AvLe.nil | exact AvLe.nilT | exact AvLe.slk | (refine AvLe.agg ?_; exact ArgsLe.refl) | (refine AvLe.agg ?_; (repeat (first | exact True.intro | refine And.intro (by first | exact AvLe.refl | exact AvLe.loose | exact AvLe.nil | exact AvLe.nilT | exact AvLe.slk) ?_)))) ?_))))) rfl ?_
  simp only [go_sem, reduceCtorEq, Nat.reduceEqDiff, Nat.reduceBEq, Nat.reduceAdd, Nat.reduceMul, Nat.reduceLeDiff, Nat.reduceSub, Int.reduceToNat, Int.reduceNeg, Nat.reduceLT, Int.reduceMul, Int.reduceSub, Int.reduceAdd, Int.reduceLT, Int.reduceLE, Int.reduceGE, Int.reduceGT, Int.reduceDiv, Int.reduceMod, Int.reduceEq, Int.reducePow, Nat.reducePow, Nat.reduceDiv, Nat.reduceMod]
  (repeat (refine ⟨by (first | exact True.intro | omega | rfl | (simp; done) | (simp; omega)), ?_⟩)); try (refine hKr _ ?_; clear hKr Kr)
  refine T.condTD rfl rfl (fun hx => ?_) (fun hx => ?_) <;> try simp at hx
  refine T.skip ?_
  refine hK2 _ ?_
  refine T.sregD 118 [0, 1, 3, 4, 5, 6, 7, 8, 9, 10, 11, 12, 13, 14, 30, 38, 43, 67, 69, 107] fun Kr hKr => ?_
  simp only [go_sem, reduceCtorEq, Nat.reduceEqDiff, Nat.reduceBEq, Nat.reduceAdd, Nat.reduceMul, Nat.reduceLeDiff, Nat.reduceSub, Int.reduceToNat, Int.reduceNeg, Nat.reduceLT, Int.reduceMul, Int.reduceSub, Int.reduceAdd, Int.reduceLT, Int.reduceLE, Int.reduceGE, Int.reduceGT, Int.reduceDiv, Int.reduceMod, Int.reduceEq, Int.reducePow, Nat.reducePow, Nat.reduceDiv, Nat.reduceMod]
  (repeat (refine ⟨by (first | exact True.intro | omega | rfl | (simp; done) | (simp; omega)), ?_⟩)); try (refine hKr _ ?_; clear hKr Kr)
  refine T.seqK fun K3 hK3 => ?_
  refine T.sregD 118 [0, 1, 3, 4, 5, 6, 7, 8, 9, 10, 11, 12, 13, 14, 30, 38, 43, 67, 69, 107] fun Kr hKr => ?_
  simp only [go_sem, reduceCtorEq, Nat.reduceEqDiff, Nat.reduceBEq, Nat.reduceAdd, Nat.reduceMul, Nat.reduceLeDiff, Nat.reduceSub, Int.reduceToNat, Int.reduceNeg, Nat.reduceLT, Int.reduceMul, Int.reduceSub, Int.reduceAdd, Int.reduceLT, Int.reduceLE, Int.reduceGE, Int.reduceGT, Int.reduceDiv, Int.reduceMod, Int.reduceEq, Int.reducePow, Nat.reducePow, Nat.reduceDiv, Nat.reduceMod]
  (repeat (refine ⟨by (first | exact True.intro | omega | rfl | (simp; done) | (simp; omega)), ?_⟩)); try (refine hKr _ ?_; clear hKr Kr)
  refine T.bloop (fun i : Nat => ⟨dense 118 [(5, .bool true), (6, .op 6 0 0), (7, .op 7 0 0), (8, .op 8 0 0), (10, .int .i64 (carL (d.m.take i) e).length), (11, .int .i64 i)], [(8, ⟨2, 28, true, [docA ⟨chg d.s e, carL d.m e⟩]⟩), (7, ⟨5, 39, true, [editA e]⟩), (6, ⟨2, 28, true, [docA d]⟩)]⟩) (fun i => i ≤ d.m.length) (fun i => d.m.length - i) 0 (by simp) ?_ fun i hi => ?_
  · refine Le.fitS (by (repeat (first | exact DFit.nil | refine DFit.cons (by first | rfl | (simp [slook]; done) | (simp [slook]; omega)) ?_))) (by (repeat (first | exact True.intro | refine And.intro (by first | rfl | (simp [look]; done)) ?_)))
  have hle : (carL (d.m.take i) e).length ≤ i := Nat.le_trans (carL_len _ _) (by simp; omega)
  refine T.seqK fun K4 hK4 => ?_
  refine T.sregD 118 [0, 1, 3, 4, 5, 6, 7, 8, 9, 10, 11, 12, 13, 14, 30, 38, 43, 67, 69, 107] fun Kr hKr => ?_
  simp only [go_sem, reduceCtorEq, Nat.reduceEqDiff, Nat.reduceBEq, Nat.reduceAdd, Nat.reduceMul, Nat.reduceLeDiff, Nat.reduceSub, Int.reduceToNat, Int.reduceNeg, Nat.reduceLT, Int.reduceMul, Int.reduceSub, Int.reduceAdd, Int.reduceLT, Int.reduceLE, Int.reduceGE, Int.reduceGT, Int.reduceDiv, Int.reduceMod, Int.reduceEq, Int.reducePow, Nat.reducePow, Nat.reduceDiv, Nat.reduceMod]
  (repeat (refine ⟨by (first | exact True.intro | omega | rfl | (simp; done) | (simp; omega)), ?_⟩)); try (refine hKr _ ?_; clear hKr Kr)
  refine T.condFD rfl rfl (fun hx => ?_) (fun hx => ?_) <;> simp at hx
  · -- no: exit
    refine T.exit ?_
    simp only [if_true]
    refine hK3 _ ?_
    have : i = d.m.length := by omega
    subst this
    rw [List.take_length]
    refine T.sregD 118 [0, 1, 3, 4, 5, 6, 7, 8, 9, 10, 11, 12, 13, 14, 30, 38, 43, 67, 69, 107] fun Kr hKr => ?_
    simp only [go_sem, reduceCtorEq, Nat.reduceEqDiff, Nat.reduceBEq, Nat.reduceAdd, Nat.reduceMul, Nat.reduceLeDiff, Nat.reduceSub, Int.reduceToNat, Int.reduceNeg, Nat.reduceLT, Int.reduceMul, Int.reduceSub, Int.reduceAdd, Int.reduceLT, Int.reduceLE, Int.reduceGE, Int.reduceGT, Int.reduceDiv, Int.reduceMod, Int.reduceEq, Int.reducePow, Nat.reducePow, Nat.reduceDiv, Nat.reduceMod]
    (repeat (refine ⟨by (first | exact True.intro | omega | rfl | (simp; done) | (simp; omega)), ?_⟩)); try (refine hKr _ ?_; clear hKr Kr)
    refine T.ret (Fin.dataD (by simp [slook]) rfl rfl)
  refine T.skip ?_
  refine hK4 _ ?_
  have hm : d.m.getD i default ∈ d.m := by simp [List.getD, hx]
  have sc := Carry_spec e (d.m.getD i default) (hok.sm _ hm) hW
  have sfi := sf (d.m.getD i default).id
  simp only at sfi
  obtain ⟨_, g⟩ := hok.mks _ hm
  have hstep := carL_take (e := e) hx
  cases hr : carM e (d.m.getD i default) with
  | none =>
    rw [fnd_none hok hp hx hr] at sfi
    rw [hr] at sc hstep
    simp only [List.append_nil] at hstep
    refine T.seqK fun K5 hK5 => ?_
    refine T.block ?_
    refine T.sdraw2D 118 [0, 1, 3, 4, 5, 6, 7, 8, 9, 10, 11, 12, 13, 14, 30, 38, 43, 67, 69, 107] (.take 0 (.take 1 (.take 2 (.take 3 (.take 4 (.take 5 (.two 6 (.take 7 (.take 8 (.take 9 (.one 10 (.one 11 (.take 12 .done)))))) 10 (.one 6 (.take 7 (.take 8 (.take 9 (.one 11 (.take 12 .done))))))))))))) [6, 7] rfl (by decide +kernel) (by decide +kernel) ?x1 ?h1 (fun Kr hKr => ?all1) ?rest1
    case all1 =>
      simp only [go_sem, reduceCtorEq, Nat.reduceEqDiff, Nat.reduceBEq, Nat.reduceAdd, Nat.reduceMul, Nat.reduceLeDiff, Nat.reduceSub, Int.reduceToNat, Int.reduceNeg, Nat.reduceLT, Int.reduceMul, Int.reduceSub, Int.reduceAdd, Int.reduceLT, Int.reduceLE, Int.reduceGE, Int.reduceGT, Int.reduceDiv, Int.reduceMod, Int.reduceEq, Int.reducePow, Nat.reducePow, Nat.reduceDiv, Nat.reduceMod, hx]
      (repeat (any_goals (first | exact hKr _ (.inl rfl) | exact hKr _ (.inr (by (repeat (first | exact True.intro | refine And.intro (by first | rfl | (simp [look]; done)) ?_)))) | (refine CallK.dataA (sc) ?_ rfl ?_; (focus ((first | exact ArgsLe.refl | (repeat (first | exact True.intro | refine And.intro (by first | exact AvLe.refl | exact AvLe.loose | exact AvLe.nil | exact AvLe.nilT | exact AvLe.slk | (refine AvLe.agg ?_; exact ArgsLe.refl) | (refine AvLe.agg ?_; (repeat (first | exact True.intro | refine And.intro (by first | exact AvLe.refl | exact AvLe.loose | exact AvLe.nil | exact AvLe.nilT | exact AvLe.slk) ?_)))) ?_))); done)); simp only [go_sem, reduceCtorEq, Nat.reduceEqDiff, Nat.reduceBEq, Nat.reduceAdd, Nat.reduceMul, Nat.reduceLeDiff, Nat.reduceSub, Int.reduceToNat, Int.reduceNeg, Nat.reduceLT, Int.reduceMul, Int.reduceSub, Int.reduceAdd, Int.reduceLT, Int.reduceLE, Int.reduceGE, Int.reduceGT, Int.reduceDiv, Int.reduceMod, Int.reduceEq, Int.reducePow, Nat.reducePow, Nat.reduceDiv, Nat.reduceMod, hx]) | (refine CallK.tupA (sc) ?_ ?_; (focus ((first | exact ArgsLe.refl | (repeat (first | exact True.intro | refine And.intro (by first | exact AvLe.refl | exact AvLe.loose | exact AvLe.nil | exact AvLe.nilT | exact AvLe.slk | (refine AvLe.agg ?_; exact ArgsLe.refl) | (refine AvLe.agg ?_; (repeat (first | exact True.intro | refine And.intro (by first | exact AvLe.refl | exact AvLe.loose | exact AvLe.nil | exact AvLe.nilT | exact AvLe.slk) ?_)))) ?_))); done)); simp only [go_sem, reduceCtorEq, Nat.reduceEqDiff, Nat.reduceBEq, Nat.reduceAdd, Nat.reduceMul, Nat.reduceLeDiff, Nat.reduceSub, Int.reduceToNat, Int.reduceNeg, Nat.reduceLT, Int.reduceMul, Int.reduceSub, Int.reduceAdd, Int.reduceLT, Int.reduceLE, Int.reduceGE, Int.reduceGT, Int.reduceDiv, Int.reduceMod, Int.reduceEq, Int.reducePow, Nat.reducePow, Nat.reduceDiv, Nat.reduceMod, hx]) | (refine And.intro ?_ ?_) | (first | exact True.intro | omega | rfl | (simp; done) | (simp; omega)))))
      all_goals (first | exact hKr _ (.inl rfl) | exact hKr _ (.inr (by (repeat (first | exact True.intro | refine And.intro (by first | rfl | (simp [look]; done)) ?_)))))
    case rest1 =>
    refine T.sdrawD 118 [0, 1, 3, 4, 5, 6, 7, 8, 9, 10, 11, 12, 13, 14, 30, 38, 43, 67, 69, 107] (.take 0 (.take 1 (.take 2 (.take 3 (.take 4 (.take 5 (.take 6 (.one 7 (.take 8 .done))))))))) [6, 8] rfl (by decide +kernel) (by decide +kernel) fun Kr hKr => ?_
    simp only [go_sem, reduceCtorEq, Nat.reduceEqDiff, Nat.reduceBEq, Nat.reduceAdd, Nat.reduceMul, Nat.reduceLeDiff, Nat.reduceSub, Int.reduceToNat, Int.reduceNeg, Nat.reduceLT, Int.reduceMul, Int.reduceSub, Int.reduceAdd, Int.reduceLT, Int.reduceLE, Int.reduceGE, Int.reduceGT, Int.reduceDiv, Int.reduceMod, Int.reduceEq, Int.reducePow, Nat.reducePow, Nat.reduceDiv, Nat.reduceMod, hx]
    (repeat (refine ⟨by (first | exact True.intro | omega | rfl | (simp; done) | (simp; omega)), ?_⟩)); try (refine hKr _ ?_; clear hKr Kr)
    refine CallK.data (fun _ => Spec.args (sfi) (by (first | exact ArgsLe.refl | (repeat (first | exact True.intro | refine And.intro (by first | exact AvLe.refl | exact AvLe.loose | exact AvLe.nil | exact AvLe.nilT | exact AvLe.slk | (refine AvLe.agg ?_; exact ArgsLe.refl) | (refine AvLe.agg ?_; (repeat (first | exact True.intro | refine And.intro (by first | exact AvLe.refl | exact AvLe.loose | exact AvLe.nil | exact AvLe.nilT | exact AvLe.slk) ?_)))) ?_))))) rfl ?_
    simp only [go_sem, reduceCtorEq, Nat.reduceEqDiff, Nat.reduceBEq, Nat.reduceAdd, Nat.reduceMul, Nat.reduceLeDiff, Nat.reduceSub, Int.reduceToNat, Int.reduceNeg, Nat.reduceLT, Int.reduceMul, Int.reduceSub, Int.reduceAdd, Int.reduceLT, Int.reduceLE, Int.reduceGE, Int.reduceGT, Int.reduceDiv, Int.reduceMod, Int.reduceEq, Int.reducePow, Nat.reducePow, Nat.reduceDiv, Nat.reduceMod]
    (repeat (refine ⟨by (first | exact True.intro | omega | rfl | (simp; done) | (simp; omega)), ?_⟩)); try (refine hKr _ ?_; clear hKr Kr)
    refine T.seqK fun K6 hK6 => ?_
    refine T.sregD 118 [0, 1, 3, 4, 5, 6, 7, 8, 9, 10, 11, 12, 13, 14, 30, 38, 43, 67, 69, 107] fun Kr hKr => ?_
    simp only [go_sem, reduceCtorEq, Nat.reduceEqDiff, Nat.reduceBEq, Nat.reduceAdd, Nat.reduceMul, Nat.reduceLeDiff, Nat.reduceSub, Int.reduceToNat, Int.reduceNeg, Nat.reduceLT, Int.reduceMul, Int.reduceSub, Int.reduceAdd, Int.reduceLT, Int.reduceLE, Int.reduceGE, Int.reduceGT, Int.reduceDiv, Int.reduceMod, Int.reduceEq, Int.reducePow, Nat.reducePow, Nat.reduceDiv, Nat.reduceMod]
    (repeat (refine ⟨by (first | exact True.intro | omega | rfl | (simp; done) | (simp; omega)), ?_⟩)); try (refine hKr _ ?_; clear hKr Kr)
    refine T.condTD rfl rfl (fun hy => ?_) (fun hy => ?_) <;> try simp at hy
    refine T.skip ?_
    refine hK6 _ ?_
    refine T.seqK fun K7 hK7 => ?_
    refine T.sregD 118 [0, 1, 3, 4, 5, 6, 7, 8, 9, 10, 11, 12, 13, 14, 30, 38, 43, 67, 69, 107] fun Kr hKr => ?_
    simp only [go_sem, reduceCtorEq, Nat.reduceEqDiff, Nat.reduceBEq, Nat.reduceAdd, Nat.reduceMul, Nat.reduceLeDiff, Nat.reduceSub, Int.reduceToNat, Int.reduceNeg, Nat.reduceLT, Int.reduceMul, Int.reduceSub, Int.reduceAdd, Int.reduceLT, Int.reduceLE, Int.reduceGE, Int.reduceGT, Int.reduceDiv, Int.reduceMod, Int.reduceEq, Int.reducePow, Nat.reducePow, Nat.reduceDiv, Nat.reduceMod]
    (repeat (refine ⟨by (first | exact True.intro | omega | rfl | (simp; done) | (simp; omega)), ?_⟩)); try (refine hKr _ ?_; clear hKr Kr)
    refine T.condTD rfl rfl (fun hy => ?_) (fun hy => ?_) <;> try simp at hy
    refine T.exit ?_
    simp only [if_true]
    refine hK5 _ ?_
    refine T.regD 118 [0, 1, 3, 4, 5, 6, 7, 8, 9, 10, 11, 12, 13, 14, 30, 38, 43, 67, 69, 107] fun Kr hKr => ?_
    simp only [go_sem, reduceCtorEq, Nat.reduceEqDiff, Nat.reduceBEq, Nat.reduceAdd, Nat.reduceMul, Nat.reduceLeDiff, Nat.reduceSub, Int.reduceToNat, Int.reduceNeg, Nat.reduceLT, Int.reduceMul, Int.reduceSub, Int.reduceAdd, Int.reduceLT, Int.reduceLE, Int.reduceGE, Int.reduceGT, Int.reduceDiv, Int.reduceMod, Int.reduceEq, Int.reducePow, Nat.reducePow, Nat.reduceDiv, Nat.reduceMod]
    (repeat (refine ⟨by (first | exact True.intro | omega | rfl | (simp; done) | (simp; omega)), ?_⟩)); try (refine hKr _ ?_; clear hKr Kr)
    refine ⟨i + 1, ?_, ?_, Le.fitS (by (repeat (first | exact DFit.nil | refine DFit.cons (by first | rfl | (simp [slook, hstep]; done) | (simp [slook, hstep]; omega)) ?_))) ?_⟩
    · omega
    · omega
    · (repeat (first | exact True.intro | refine And.intro (by first | rfl | (simp [look]; done)) ?_))
  | some m' =>
    rw [fnd_some hok hp hx hr] at sfi
    obtain ⟨p1, p2⟩ := carL_at hx hr
    have hwt := whole_text hp g hr
    have hgo := carM_ok hp g hr
    rw [hr] at sc hstep
    simp only at hstep
    have hstep2 : (carL (d.m.take (i + 1)) e).length = (carL (d.m.take i) e).length + 1 := by rw [hstep]; simp
    generalize (carL (d.m.take i) e).length = p at *
    have spa := piece_spec d (d.m.getD i default) ⟨g.1, by omega, g.2.2⟩
    have spb := piece_spec ⟨chg d.s e, carL d.m e⟩ m' ⟨hgo.2.1, by omega, hgo.2.2.2⟩
    simp only at spb
    generalize chg d.s e = s2 at *
    generalize carL d.m e = L2 at *
    refine T.seqK fun K5 hK5 => ?_
    refine T.block ?_
    refine T.sdraw2D 118 [0, 1, 3, 4, 5, 6, 7, 8, 9, 10, 11, 12, 13, 14, 30, 38, 43, 67, 69, 107] (.take 0 (.take 1 (.take 2 (.take 3 (.take 4 (.take 5 (.two 6 (.take 7 (.take 8 (.take 9 (.one 10 (.one 11 (.take 12 .done)))))) 10 (.one 6 (.take 7 (.take 8 (.take 9 (.one 11 (.take 12 .done))))))))))))) [6, 7] rfl (by decide +kernel) (by decide +kernel) ?x2 ?h2 (fun Kr hKr => ?all2) ?rest2
    case all2 =>
      simp only [go_sem, reduceCtorEq, Nat.reduceEqDiff, Nat.reduceBEq, Nat.reduceAdd, Nat.reduceMul, Nat.reduceLeDiff, Nat.reduceSub, Int.reduceToNat, Int.reduceNeg, Nat.reduceLT, Int.reduceMul, Int.reduceSub, Int.reduceAdd, Int.reduceLT, Int.reduceLE, Int.reduceGE, Int.reduceGT, Int.reduceDiv, Int.reduceMod, Int.reduceEq, Int.reducePow, Nat.reducePow, Nat.reduceDiv, Nat.reduceMod, hx]
      (repeat (any_goals (first | exact hKr _ (.inl rfl) | exact hKr _ (.inr (by (repeat (first | exact True.intro | refine And.intro (by first | rfl | (simp [look]; done)) ?_)))) | (refine CallK.dataA (sc) ?_ rfl ?_; (focus ((first | exact ArgsLe.refl | (repeat (first | exact True.intro | refine And.intro (by first | exact AvLe.refl | exact AvLe.loose | exact AvLe.nil | exact AvLe.nilT | exact AvLe.slk | (refine AvLe.agg ?_; exact ArgsLe.refl) | (refine AvLe.agg ?_; (repeat (first | exact True.intro | refine And.intro (by first | exact AvLe.refl | exact AvLe.loose | exact AvLe.nil | exact AvLe.nilT | exact AvLe.slk) ?_)))) ?_))); done)); simp only [go_sem, reduceCtorEq, Nat.reduceEqDiff, Nat.reduceBEq, Nat.reduceAdd, Nat.reduceMul, Nat.reduceLeDiff, Nat.reduceSub, Int.reduceToNat, Int.reduceNeg, Nat.reduceLT, Int.reduceMul, Int.reduceSub, Int.reduceAdd, Int.reduceLT, Int.reduceLE, Int.reduceGE, Int.reduceGT, Int.reduceDiv, Int.reduceMod, Int.reduceEq, Int.reducePow, Nat.reducePow, Nat.reduceDiv, Nat.reduceMod, hx]) | (refine CallK.tupA (sc) ?_ ?_; (focus ((first | exact ArgsLe.refl | (repeat (first | exact True.intro | refine And.intro (by first | exact AvLe.refl | exact AvLe.loose | exact AvLe.nil | exact AvLe.nilT | exact AvLe.slk | (refine AvLe.agg ?_; exact ArgsLe.refl) | (refine AvLe.agg ?_; (repeat (first | exact True.intro | refine And.intro (by first | exact AvLe.refl | exact AvLe.loose | exact AvLe.nil | exact AvLe.nilT | exact AvLe.slk) ?_)))) ?_))); done)); simp only [go_sem, reduceCtorEq, Nat.reduceEqDiff, Nat.reduceBEq, Nat.reduceAdd, Nat.reduceMul, Nat.reduceLeDiff, Nat.reduceSub, Int.reduceToNat, Int.reduceNeg, Nat.reduceLT, Int.reduceMul, Int.reduceSub, Int.reduceAdd, Int.reduceLT, Int.reduceLE, Int.reduceGE, Int.reduceGT, Int.reduceDiv, Int.reduceMod, Int.reduceEq, Int.reducePow, Nat.reducePow, Nat.reduceDiv, Nat.reduceMod, hx]) | (refine And.intro ?_ ?_) | (first | exact True.intro | omega | rfl | (simp; done) | (simp; omega)))))
      all_goals (first | exact hKr _ (.inl rfl) | exact hKr _ (.inr (by (repeat (first | exact True.intro | refine And.intro (by first | rfl | (simp [look]; done)) ?_)))))
    case rest2 =>
    refine T.sdrawD 118 [0, 1, 3, 4, 5, 6, 7, 8, 9, 10, 11, 12, 13, 14, 30, 38, 43, 67, 69, 107] (.take 0 (.take 1 (.take 2 (.take 3 (.take 4 (.take 5 (.take 6 (.one 7 (.take 8 .done))))))))) [6, 8] rfl (by decide +kernel) (by decide +kernel) fun Kr hKr => ?_
    simp only [go_sem, reduceCtorEq, Nat.reduceEqDiff, Nat.reduceBEq, Nat.reduceAdd, Nat.reduceMul, Nat.reduceLeDiff, Nat.reduceSub, Int.reduceToNat, Int.reduceNeg, Nat.reduceLT, Int.reduceMul, Int.reduceSub, Int.reduceAdd, Int.reduceLT, Int.reduceLE, Int.reduceGE, Int.reduceGT, Int.reduceDiv, Int.reduceMod, Int.reduceEq, Int.reducePow, Nat.reducePow, Nat.reduceDiv, Nat.reduceMod, hx]
    (repeat (refine ⟨by (first | exact True.intro | omega | rfl | (simp; done) | (simp; omega)), ?_⟩)); try (refine hKr _ ?_; clear hKr Kr)
    refine CallK.data (fun _ => Spec.args (sfi) (by (first | exact ArgsLe.refl | (repeat (first | exact True.intro | refine And.intro (by first | exact AvLe.refl | exact AvLe.loose | exact AvLe.nil | exact AvLe.nilT | exact AvLe.slk | (refine AvLe.agg ?_; exact ArgsLe.refl) | (refine AvLe.agg ?_; (repeat (first | exact True.intro | refine And.intro (by first | exact AvLe.refl | exact AvLe.loose | exact AvLe.nil | exact AvLe.nilT | exact AvLe.slk) ?_)))) ?_))))) rfl ?_
    simp only [go_sem, reduceCtorEq, Nat.reduceEqDiff, Nat.reduceBEq, Nat.reduceAdd, Nat.reduceMul, Nat.reduceLeDiff, Nat.reduceSub, Int.reduceToNat, Int.reduceNeg, Nat.reduceLT, Int.reduceMul, Int.reduceSub, Int.reduceAdd, Int.reduceLT, Int.reduceLE, Int.reduceGE, Int.reduceGT, Int.reduceDiv, Int.reduceMod, Int.reduceEq, Int.reducePow, Nat.reducePow, Nat.reduceDiv, Nat.reduceMod]
    (repeat (refine ⟨by (first | exact True.intro | omega | rfl | (simp; done) | (simp; omega)), ?_⟩)); try (refine hKr _ ?_; clear hKr Kr)
    refine T.seqK fun K6 hK6 => ?_
    refine T.sregD 118 [0, 1, 3, 4, 5, 6, 7, 8, 9, 10, 11, 12, 13, 14, 30, 38, 43, 67, 69, 107] fun Kr hKr => ?_
    simp only [go_sem, reduceCtorEq, Nat.reduceEqDiff, Nat.reduceBEq, Nat.reduceAdd, Nat.reduceMul, Nat.reduceLeDiff, Nat.reduceSub, Int.reduceToNat, Int.reduceNeg, Nat.reduceLT, Int.reduceMul, Int.reduceSub, Int.reduceAdd, Int.reduceLT, Int.reduceLE, Int.reduceGE, Int.reduceGT, Int.reduceDiv, Int.reduceMod, Int.reduceEq, Int.reducePow, Nat.reducePow, Nat.reduceDiv, Nat.reduceMod]
    (repeat (refine ⟨by (first | exact True.intro | omega | rfl | (simp; done) | (simp; omega)), ?_⟩)); try (refine hKr _ ?_; clear hKr Kr)
    refine T.condTD rfl rfl (fun hy => ?_) (fun hy => ?_) <;> try simp at hy
    refine T.skip ?_
    refine hK6 _ ?_
    refine T.seqK fun K7 hK7 => ?_
    refine T.sregD 118 [0, 1, 3, 4, 5, 6, 7, 8, 9, 10, 11, 12, 13, 14, 30, 38, 43, 67, 69, 107] fun Kr hKr => ?_
    simp only [go_sem, reduceCtorEq, Nat.reduceEqDiff, Nat.reduceBEq, Nat.reduceAdd, Nat.reduceMul, Nat.reduceLeDiff, Nat.reduceSub, Int.reduceToNat, Int.reduceNeg, Nat.reduceLT, Int.reduceMul, Int.reduceSub, Int.reduceAdd, Int.reduceLT, Int.reduceLE, Int.reduceGE, Int.reduceGT, Int.reduceDiv, Int.reduceMod, Int.reduceEq, Int.reducePow, Nat.reducePow, Nat.reduceDiv, Nat.reduceMod]
    (repeat (refine ⟨by (first | exact True.intro | omega | rfl | (simp; done) | (simp; omega)), ?_⟩)); try (refine hKr _ ?_; clear hKr Kr)
    refine T.condTD rfl rfl (fun hy => ?_) (fun hy => ?_) <;> try simp at hy
    refine T.skip ?_
    refine hK7 _ ?_
    refine T.seqK fun K8 hK8 => ?_
    cases hw : m'.w
    · refine T.sdrawD 118 [0, 1, 3, 4, 5, 6, 7, 8, 9, 10, 11, 12, 13, 14, 30, 38, 43, 67, 69, 107] (.take 0 (.take 1 (.take 2 (.take 3 (.take 4 (.take 5 (.take 6 (.take 7 (.take 8 (.take 9 (.take 10 (.take 11 (.take 12 (.take 13 (.take 14 (.take 15 (.take 16 (.take 17 (.take 18 (.take 19 (.take 20 (.take 21 (.take 22 (.take 23 (.take 24 (.take 25 (.take 26 (.take 27 (.take 28 (.take 29 (.take 31 (.take 32 (.one 30 (.one 33 (.take 34 (.take 35 (.take 36 (.take 37 .done)))))))))))))))))))))))))))))))))))))) [6, 8, 12] rfl (by decide +kernel) (by decide +kernel) fun Kr hKr => ?_
      simp only [go_sem, reduceCtorEq, Nat.reduceEqDiff, Nat.reduceBEq, Nat.reduceAdd, Nat.reduceMul, Nat.reduceLeDiff, Nat.reduceSub, Int.reduceToNat, Int.reduceNeg, Nat.reduceLT, Int.reduceMul, Int.reduceSub, Int.reduceAdd, Int.reduceLT, Int.reduceLE, Int.reduceGE, Int.reduceGT, Int.reduceDiv, Int.reduceMod, Int.reduceEq, Int.reducePow, Nat.reducePow, Nat.reduceDiv, Nat.reduceMod, hx, p1, p2, hw, cond_or, beq_self_eq_true]
      (repeat (refine ⟨by (first | exact True.intro | omega | rfl | (simp; done) | (simp; omega)), ?_⟩)); try (refine hKr _ ?_; clear hKr Kr)
      refine CallK.data (r := .bool true) (fun h => by cases h) rfl ?_
      simp only [go_sem, reduceCtorEq, Nat.reduceEqDiff, Nat.reduceBEq, Nat.reduceAdd, Nat.reduceMul, Nat.reduceLeDiff, Nat.reduceSub, Int.reduceToNat, Int.reduceNeg, Nat.reduceLT, Int.reduceMul, Int.reduceSub, Int.reduceAdd, Int.reduceLT, Int.reduceLE, Int.reduceGE, Int.reduceGT, Int.reduceDiv, Int.reduceMod, Int.reduceEq, Int.reducePow, Nat.reducePow, Nat.reduceDiv, Nat.reduceMod, hw, cond_or, beq_self_eq_true]
      (repeat (refine ⟨by (first | exact True.intro | omega | rfl | (simp; done) | (simp; omega)), ?_⟩)); try (refine hKr _ ?_; clear hKr Kr)
      refine CallK.data (r := .bool true) (fun h => by cases h) rfl ?_
      simp only [go_sem, reduceCtorEq, Nat.reduceEqDiff, Nat.reduceBEq, Nat.reduceAdd, Nat.reduceMul, Nat.reduceLeDiff, Nat.reduceSub, Int.reduceToNat, Int.reduceNeg, Nat.reduceLT, Int.reduceMul, Int.reduceSub, Int.reduceAdd, Int.reduceLT, Int.reduceLE, Int.reduceGE, Int.reduceGT, Int.reduceDiv, Int.reduceMod, Int.reduceEq, Int.reducePow, Nat.reducePow, Nat.reduceDiv, Nat.reduceMod, hw, cond_or, beq_self_eq_true]
      (repeat (refine ⟨by (first | exact True.intro | omega | rfl | (simp; done) | (simp; omega)), ?_⟩)); try (refine hKr _ ?_; clear hKr Kr)
      refine T.condTD rfl rfl (fun hy => ?_) (fun hy => ?_) <;> try simp at hy
      refine T.skip ?_
      refine hK8 _ ?_
      refine T.regD 118 [0, 1, 3, 4, 5, 6, 7, 8, 9, 10, 11, 12, 13, 14, 30, 38, 43, 67, 69, 107] fun Kr hKr => ?_
      simp only [go_sem, reduceCtorEq, Nat.reduceEqDiff, Nat.reduceBEq, Nat.reduceAdd, Nat.reduceMul, Nat.reduceLeDiff, Nat.reduceSub, Int.reduceToNat, Int.reduceNeg, Nat.reduceLT, Int.reduceMul, Int.reduceSub, Int.reduceAdd, Int.reduceLT, Int.reduceLE, Int.reduceGE, Int.reduceGT, Int.reduceDiv, Int.reduceMod, Int.reduceEq, Int.reducePow, Nat.reducePow, Nat.reduceDiv, Nat.reduceMod]
      (repeat (refine ⟨by (first | exact True.intro | omega | rfl | (simp; done) | (simp; omega)), ?_⟩)); try (refine hKr _ ?_; clear hKr Kr)
      refine hK5 _ ?_
      refine T.regD 118 [0, 1, 3, 4, 5, 6, 7, 8, 9, 10, 11, 12, 13, 14, 30, 38, 43, 67, 69, 107] fun Kr hKr => ?_
      simp only [go_sem, reduceCtorEq, Nat.reduceEqDiff, Nat.reduceBEq, Nat.reduceAdd, Nat.reduceMul, Nat.reduceLeDiff, Nat.reduceSub, Int.reduceToNat, Int.reduceNeg, Nat.reduceLT, Int.reduceMul, Int.reduceSub, Int.reduceAdd, Int.reduceLT, Int.reduceLE, Int.reduceGE, Int.reduceGT, Int.reduceDiv, Int.reduceMod, Int.reduceEq, Int.reducePow, Nat.reducePow, Nat.reduceDiv, Nat.reduceMod]
      (repeat (refine ⟨by (first | exact True.intro | omega | rfl | (simp; done) | (simp; omega)), ?_⟩)); try (refine hKr _ ?_; clear hKr Kr)
      refine ⟨i + 1, ?_, ?_, Le.fitS (by (repeat (first | exact DFit.nil | refine DFit.cons (by first | rfl | (simp [slook, hstep2]; done) | (simp [slook, hstep2]; omega)) ?_))) ?_⟩
      · omega
      · omega
      · (repeat (first | exact True.intro | refine And.intro (by first | rfl | (simp [look]; done)) ?_))
    · obtain ⟨w1, w2⟩ := hwt hw
      rw [w2] at spb
      simp only [mkA, w1] at spa
      simp only [mkA, hw] at spb
      refine T.sdrawD 118 [0, 1, 3, 4, 5, 6, 7, 8, 9, 10, 11, 12, 13, 14, 30, 38, 43, 67, 69, 107] (.take 0 (.take 1 (.take 2 (.take 3 (.take 4 (.take 5 (.take 6 (.take 7 (.take 8 (.take 9 (.take 10 (.take 11 (.take 12 (.take 13 (.take 14 (.take 15 (.take 16 (.take 17 (.take 18 (.take 19 (.take 20 (.take 21 (.take 22 (.take 23 (.take 24 (.take 25 (.take 26 (.take 27 (.take 28 (.take 29 (.take 31 (.take 32 (.one 30 (.one 33 (.take 34 (.take 35 (.take 36 (.take 37 .done)))))))))))))))))))))))))))))))))))))) [6, 8, 12] rfl (by decide +kernel) (by decide +kernel) fun Kr hKr => ?_
      simp only [go_sem, reduceCtorEq, Nat.reduceEqDiff, Nat.reduceBEq, Nat.reduceAdd, Nat.reduceMul, Nat.reduceLeDiff, Nat.reduceSub, Int.reduceToNat, Int.reduceNeg, Nat.reduceLT, Int.reduceMul, Int.reduceSub, Int.reduceAdd, Int.reduceLT, Int.reduceLE, Int.reduceGE, Int.reduceGT, Int.reduceDiv, Int.reduceMod, Int.reduceEq, Int.reducePow, Nat.reducePow, Nat.reduceDiv, Nat.reduceMod, hx, p1, p2, hw, w1, cond_or, beq_self_eq_true]
      (repeat (refine ⟨by (first | exact True.intro | omega | rfl | (simp; done) | (simp; omega)), ?_⟩)); try (refine hKr _ ?_; clear hKr Kr)
      refine CallK.data (fun _ => Spec.args (spa) (by (first | exact ArgsLe.refl | (repeat (first | exact True.intro | refine And.intro (by first | exact AvLe.refl | exact AvLe.loose | exact AvLe.nil | exact AvLe.nilT | exact AvLe.slk | (refine AvLe.agg ?_; exact ArgsLe.refl) | (refine AvLe.agg ?_; (repeat (first | exact True.intro | refine And.intro (by first | exact AvLe.refl | exact AvLe.loose | exact AvLe.nil | exact AvLe.nilT | exact AvLe.slk) ?_)))) ?_))))) rfl ?_
      simp only [go_sem, reduceCtorEq, Nat.reduceEqDiff, Nat.reduceBEq, Nat.reduceAdd, Nat.reduceMul, Nat.reduceLeDiff, Nat.reduceSub, Int.reduceToNat, Int.reduceNeg, Nat.reduceLT, Int.reduceMul, Int.reduceSub, Int.reduceAdd, Int.reduceLT, Int.reduceLE, Int.reduceGE, Int.reduceGT, Int.reduceDiv, Int.reduceMod, Int.reduceEq, Int.reducePow, Nat.reducePow, Nat.reduceDiv, Nat.reduceMod, hw, cond_or, beq_self_eq_true]
      (repeat (refine ⟨by (first | exact True.intro | omega | rfl | (simp; done) | (simp; omega)), ?_⟩)); try (refine hKr _ ?_; clear hKr Kr)
      refine CallK.data (fun _ => Spec.args (spb) (by (first | exact ArgsLe.refl | (repeat (first | exact True.intro | refine And.intro (by first | exact AvLe.refl | exact AvLe.loose | exact AvLe.nil | exact AvLe.nilT | exact AvLe.slk | (refine AvLe.agg ?_; exact ArgsLe.refl) | (refine AvLe.agg ?_; (repeat (first | exact True.intro | refine And.intro (by first | exact AvLe.refl | exact AvLe.loose | exact AvLe.nil | exact AvLe.nilT | exact AvLe.slk) ?_)))) ?_))))) rfl ?_
      simp only [go_sem, reduceCtorEq, Nat.reduceEqDiff, Nat.reduceBEq, Nat.reduceAdd, Nat.reduceMul, Nat.reduceLeDiff, Nat.reduceSub, Int.reduceToNat, Int.reduceNeg, Nat.reduceLT, Int.reduceMul, Int.reduceSub, Int.reduceAdd, Int.reduceLT, Int.reduceLE, Int.reduceGE, Int.reduceGT, Int.reduceDiv, Int.reduceMod, Int.reduceEq, Int.reducePow, Nat.reducePow, Nat.reduceDiv, Nat.reduceMod, hw, cond_or, beq_self_eq_true]
      (repeat (refine ⟨by (first | exact True.intro | omega | rfl | (simp; done) | (simp; omega)), ?_⟩)); try (refine hKr _ ?_; clear hKr Kr)
      refine T.condTD rfl rfl (fun hy => ?_) (fun hy => ?_) <;> try simp at hy
      refine T.skip ?_
      refine hK8 _ ?_
      refine T.regD 118 [0, 1, 3, 4, 5, 6, 7, 8, 9, 10, 11, 12, 13, 14, 30, 38, 43, 67, 69, 107] fun Kr hKr => ?_
      simp only [go_sem, reduceCtorEq, Nat.reduceEqDiff, Nat.reduceBEq, Nat.reduceAdd, Nat.reduceMul, Nat.reduceLeDiff, Nat.reduceSub, Int.reduceToNat, Int.reduceNeg, Nat.reduceLT, Int.reduceMul, Int.reduceSub, Int.reduceAdd, Int.reduceLT, Int.reduceLE, Int.reduceGE, Int.reduceGT, Int.reduceDiv, Int.reduceMod, Int.reduceEq, Int.reducePow, Nat.reducePow, Nat.reduceDiv, Nat.reduceMod]
      (repeat (refine ⟨by (first | exact True.intro | omega | rfl | (simp; done) | (simp; omega)), ?_⟩)); try (refine hKr _ ?_; clear hKr Kr)
      refine hK5 _ ?_
      refine T.regD 118 [0, 1, 3, 4, 5, 6, 7, 8, 9, 10, 11, 12, 13, 14, 30, 38, 43, 67, 69, 107] fun Kr hKr => ?_
      simp only [go_sem, reduceCtorEq, Nat.reduceEqDiff, Nat.reduceBEq, Nat.reduceAdd, Nat.reduceMul, Nat.reduceLeDiff, Nat.reduceSub, Int.reduceToNat, Int.reduceNeg, Nat.reduceLT, Int.reduceMul, Int.reduceSub, Int.reduceAdd, Int.reduceLT, Int.reduceLE, Int.reduceGE, Int.reduceGT, Int.reduceDiv, Int.reduceMod, Int.reduceEq, Int.reducePow, Nat.reducePow, Nat.reduceDiv, Nat.reduceMod]
      (repeat (refine ⟨by (first | exact True.intro | omega | rfl | (simp; done) | (simp; omega)), ?_⟩)); try (refine hKr _ ?_; clear hKr Kr)
      refine ⟨i + 1, ?_, ?_, Le.fitS (by (repeat (first | exact DFit.nil | refine DFit.cons (by first | rfl | (simp [slook, hstep2]; done) | (simp [slook, hstep2]; omega)) ?_))) ?_⟩
      · omega
      · omega
      · (repeat (first | exact True.intro | refine And.intro (by first | rfl | (simp [look]; done)) ?_))
end Go.Proofs
