/- Documents: taking an insert or a move back. -/
import Derived.Test.YthopljgeajllpaaD14
set_option linter.unusedVariables false
set_option linter.unusedSimpArgs false
namespace Go.Proofs
open Go Go.Ideal
set_option maxRecDepth 8000
set_option maxHeartbeats 4000000

def backE (e : Edit) : Edit := if e.k = 1 then ⟨2, e.a, e.s.length, 0, []⟩ else ⟨3, e.t, e.n, e.a, []⟩
theorem chg_back_ins (s x : List UInt8) (a : Nat) (ha : a ≤ s.length) : (s.take a ++ x ++ s.drop a).take a ++ (s.take a ++ x ++ s.drop a).drop (a + x.length) = s := by
  apply List.ext_getElem?
  intro i
  rw [del_get _ _ _ _ (by simp; omega), ins_get _ _ _ _ ha]
  by_cases h : i < a
  · rw [if_pos h, if_pos h]
  · rw [if_neg h, ins_get _ _ _ _ ha, if_neg (by omega), if_neg (by omega)]
    congr 1; omega
theorem split3 (s : List UInt8) (a n : Nat) (h : a + n ≤ s.length) : s = s.take a ++ (s.take (a + n)).drop a ++ s.drop (a + n) := by
  apply List.ext_getElem?
  intro i
  have h1 : ((s.take (a + n)).drop a).length = n := by simp; omega
  have h2 : s.take a ++ (s.take (a + n)).drop a ++ s.drop (a + n) = s.take a ++ ((s.take (a + n)).drop a ++ s.drop (a + n)) := by rw [List.append_assoc]
  rw [h2, List.getElem?_append, List.getElem?_append, h1, List.length_take, Nat.min_eq_left (by omega : a ≤ s.length), List.getElem?_take, List.getElem?_drop, List.getElem?_take, List.getElem?_drop]
  by_cases h3 : i < a
  · simp [h3]
  · by_cases h4 : i - a < n
    · rw [if_neg h3, if_pos h4, if_pos (by omega)]; congr 1; omega
    · rw [if_neg h3, if_neg h4]; congr 1; omega
theorem chg_back_mov (s : List UInt8) (a n t : Nat) (h : a + n ≤ s.length) (ht : t ≤ s.length - n) :
    chg (chg s ⟨3, a, n, t, []⟩) ⟨3, t, n, a, []⟩ = s := by
  rw [chg_mov, chg_mov]
  have hpl : ((s.take (a + n)).drop a).length = n := by simp; omega
  have hrl : (s.take a ++ s.drop (a + n)).length = s.length - n := by simp; omega
  have hs := split3 s a n h
  have hr : (s.take a ++ s.drop (a + n)).take a = s.take a ∧ (s.take a ++ s.drop (a + n)).drop a = s.drop (a + n) := by
    have : (s.take a).length = a := by simp; omega
    constructor
    · rw [List.take_append_of_le_length (by omega), List.take_of_length_le (by omega)]
    · rw [List.drop_append, this, List.drop_eq_nil_of_le (by omega)]; simp
  generalize s.take a ++ s.drop (a + n) = r at *
  generalize (s.take (a + n)).drop a = p at *
  have e1 := chg_back_ins r p t (by omega)
  rw [hpl] at e1
  rw [e1, hr.1, hr.2]
  have e2 : ((r.take t ++ p ++ r.drop t).take (t + n)).drop t = p := by
    have h1 : (r.take t).length = t := by simp; omega
    rw [List.take_append_of_le_length (by simp; omega), List.take_of_length_le (by simp; omega), List.drop_append, h1, List.drop_eq_nil_of_le (by omega)]; simp
  rw [e2, ← hs]
theorem carM_back {e : Edit} {m : Mark} {n : Nat} (hp : possB e n = true) (hk : e.k = 1 ∨ e.k = 3) (hm : 0 ≤ m.f ∧ m.f < m.t ∧ m.t ≤ n) (h : (e.k = 1 ∧ (m.t ≤ e.a ∨ e.a ≤ m.f)) ∨ (e.k = 3 ∧ e.a ≤ m.f ∧ m.t ≤ e.a + e.n)) :
    ∃ m', carM e m = some m' ∧ carM (backE e) m' = some m := by
  obtain ⟨q1, q2, q3, q4, q5, q6, q7⟩ := possB_smE hp
  rcases h with ⟨h1, h2⟩ | ⟨h3, h2, h4⟩
  · have hx := (q5 h1).1
    refine ⟨insM e.a e.s.length m, by simp only [carM]; rw [if_pos h1], ?_⟩
    have hb : backE e = ⟨2, e.a, e.s.length, 0, []⟩ := by simp only [backE]; rw [if_pos h1]
    rw [hb]
    simp only [carM, delM, delW]
    rw [if_neg (by decide), if_pos trivial]
    have sh : ∀ p : Int, (p ≤ e.a → shutP p e.a e.s.length = p) ∧ (e.a ≤ p → shutP (p + e.s.length) e.a e.s.length = p) := by
      intro p
      unfold shutP
      constructor
      · intro h; rw [if_pos h]
      · intro h
        rw [if_neg (by omega)]
        split <;> omega
    obtain ⟨id, f, t, w⟩ := m
    simp only at hm h2
    rcases h2 with h2 | h2
    · have hi : insM e.a e.s.length ⟨id, f, t, w⟩ = ⟨id, f, t, w⟩ := by simp only [insM]; rw [if_pos h2]
      rw [hi]
      simp only
      rw [(sh f).1 (by omega), (sh t).1 h2, if_neg (by omega)]; simp
    · have hi : insM e.a e.s.length ⟨id, f, t, w⟩ = ⟨id, f + e.s.length, t + e.s.length, w⟩ := by simp only [insM]; rw [if_neg (by omega), if_pos h2]
      rw [hi]
      simp only
      rw [(sh f).2 h2, (sh t).2 (by omega), if_neg (by omega)]
      have : t - f = t + (e.s.length : Int) - (f + e.s.length) := by omega
      simp [this]
  · have hn := q6 (by omega)
    have ht := q7 h3
    have hpos : e.n > 0 := by omega
    have hb : backE e = ⟨3, e.t, e.n, e.a, []⟩ := by simp only [backE]; rw [if_neg (by omega)]
    refine ⟨⟨m.id, m.f + (e.t - e.a), m.t + (e.t - e.a), m.w⟩, ?_, ?_⟩
    · simp only [carM, movM]
      rw [if_neg (by omega), if_neg (by omega), if_pos ⟨h3, hpos⟩, if_pos ⟨h2, by omega⟩]
    · rw [hb]
      simp only [carM, movM]
      rw [if_neg (by decide), if_neg (by decide), if_pos ⟨trivial, hpos⟩, if_pos ⟨by omega, by omega⟩]
      obtain ⟨id, f, t, w⟩ := m
      simp only [Option.some.injEq, Mark.mk.injEq, and_true, true_and]
      omega
theorem mem_carL {l : List Mark} {e : Edit} {m m' : Mark} (hm : m ∈ l) (h : carM e m = some m') : m' ∈ carL l e := by
  simp only [carL, List.mem_filterMap]; exact ⟨m, hm, h⟩
/-- Taking back is possible, restores the text, and the marks that were not torn. -/
theorem restore_ok {d : Doc} {e bk : Edit} (hok : OkD d) (hp : possB e d.s.length = true) (hk : e.k = 1 ∨ e.k = 3) (hbk : bk = backE e) (hbig : ¬ (e.k = 1 ∧ (d.s.length : Int) + e.s.length > 400)) :
    possB bk (chg d.s e).length = true ∧ doF ⟨chg d.s e, carL d.m e⟩ bk = (⟨d.s, carL (carL d.m e) bk⟩, 0) ∧ bk.k ≠ 1 ∧
    ∀ m ∈ d.m, ((e.k = 1 ∧ (m.t ≤ e.a ∨ e.a ≤ m.f)) ∨ (e.k = 3 ∧ e.a ≤ m.f ∧ m.t ≤ e.a + e.n)) → ∃ p : Nat, p < (carL (carL d.m e) bk).length ∧ (carL (carL d.m e) bk).getD p default = m ∧ fndF (carL (carL d.m e) bk) m.id = (p : Int) := by
  subst hbk
  obtain ⟨q1, q2, q3, q4, q5, q6, q7⟩ := possB_smE hp
  have hcl := chg_len hp
  have hpb : possB (backE e) (chg d.s e).length = true := by
    rcases hk with h | h
    · rw [if_pos h] at hcl
      simp only [backE]; rw [if_pos h, hcl]
      simp only [possB, pieceB]
      rw [if_neg (by decide), if_pos (by decide)]
      simp only [Bool.and_eq_true, decide_eq_true_eq]; omega
    · rw [if_neg (by omega), if_neg (by omega)] at hcl
      have := q6 (by omega)
      have := q7 h
      simp only [backE]; rw [if_neg (by omega), hcl]
      simp only [possB, pieceB]
      rw [if_neg (by decide), if_neg (by decide), if_pos trivial]
      simp only [Bool.and_eq_true, decide_eq_true_eq]; omega
  have hbk1 : (backE e).k ≠ 1 := by
    unfold backE; split <;> simp
  have htx : chg (chg d.s e) (backE e) = d.s := by
    obtain ⟨k, a, n, t, x⟩ := e
    simp only at q3 q4 q6 q7 hk
    obtain ⟨a, rfl⟩ : ∃ y : Nat, a = y := ⟨a.toNat, by omega⟩
    rcases hk with h | h
    · subst h
      rw [chg_ins]
      have : backE ⟨1, (a : Int), n, t, x⟩ = ⟨2, (a : Nat), (x.length : Nat), 0, []⟩ := rfl
      rw [this, chg_del]
      exact chg_back_ins _ _ _ (by omega)
    · subst h
      have := q6 (by decide)
      have := q7 rfl
      obtain ⟨n, rfl⟩ : ∃ y : Nat, n = y := ⟨n.toNat, by omega⟩
      obtain ⟨t, rfl⟩ : ∃ y : Nat, t = y := ⟨t.toNat, by omega⟩
      have e1 : chg d.s ⟨3, (a : Int), (n : Int), (t : Int), x⟩ = chg d.s ⟨3, (a : Int), (n : Int), (t : Int), []⟩ := rfl
      have : backE ⟨3, (a : Int), (n : Int), (t : Int), x⟩ = ⟨3, (t : Nat), (n : Nat), (a : Nat), []⟩ := rfl
      rw [e1, this]
      exact chg_back_mov _ _ _ _ (by omega) (by omega)
  have hdo : doF ⟨chg d.s e, carL d.m e⟩ (backE e) = (⟨d.s, carL (carL d.m e) (backE e)⟩, 0) := by
    unfold doF
    rw [if_neg (by simp only; rw [hpb]; decide), if_neg (by intro h; exact hbk1 h.1)]
    simp only [htx]
  refine ⟨hpb, hdo, hbk1, fun m hm hkept => ?_⟩
  have h0 : (doF d e).2 = 0 := by unfold doF; rw [if_neg (by rw [hp]; decide), if_neg hbig]
  have e0 : doF d e = (⟨chg d.s e, carL d.m e⟩, 0) := by unfold doF; rw [if_neg (by rw [hp]; decide), if_neg hbig]
  have hok1 := (doF_ok hok h0).1
  rw [e0] at hok1
  have hok2 := (doF_ok hok1 (by rw [hdo])).1
  rw [hdo] at hok2
  have hsrt := hok2.srt
  simp only at hsrt
  obtain ⟨_, g⟩ := hok.mks m hm
  obtain ⟨m', h1, h2⟩ := carM_back hp hk g hkept
  have hmem := mem_carL (mem_carL hm h1) h2
  obtain ⟨p, hpg⟩ := List.getElem?_of_mem hmem
  obtain ⟨hpl, _⟩ := List.getElem?_eq_some_iff.1 hpg
  have hpd : (carL (carL d.m e) (backE e)).getD p default = m := by simp [List.getD, hpg]
  exact ⟨p, hpl, hpd, fnd_at hsrt hpl (by rw [hpd])⟩

theorem restores_law (l : List Raw) (x : Raw) : Ideal.Spec Try.prog 5 [.sl false 5 (rawsOf l), rawA x] (.bool true) none := by
  have sm := Made14 l
  obtain ⟨hok, _⟩ := madeN_ok l (min l.length 14)
  have hmd : madeF l 14 = madeN l (min l.length 14) := rfl
  rw [← hmd] at hok
  generalize madeF l 14 = d at *
  have hlen := hok.len
  have hcnt := hok.cnt
  have se := Edit_spec x d.s.length (by omega)
  have hp := editF_poss x d.s.length
  have hel := editF_len x d.s.length
  generalize editF x d.s.length = e at *
  have sd1 := Do_spec d e hok (by omega)
  obtain ⟨q1, q2, q3, q4, q5, q6, q7⟩ := possB_smE hp
  refine Ideal.Spec.of_TD (n := 148) (fn := Try.f5) rfl rfl rfl rfl rfl rfl rfl fun w ok => ?_
  refine T.sregD 148 [0, 1, 3, 4, 5, 6, 7, 8, 9, 10, 11, 12, 13, 14, 15, 16, 32, 43, 57, 77, 82, 146] fun Kr hKr => ?_
  simp only [go_sem, reduceCtorEq, Nat.reduceEqDiff, Nat.reduceBEq, Nat.reduceAdd, Nat.reduceMul, Nat.reduceLeDiff, Nat.reduceSub, Int.reduceToNat, Int.reduceNeg, Nat.reduceLT, Int.reduceMul, Int.reduceSub, Int.reduceAdd, Int.reduceLT, Int.reduceLE, Int.reduceGE, Int.reduceGT, Int.reduceDiv, Int.reduceMod, Int.reduceEq, Int.reducePow, Nat.reducePow, Nat.reduceDiv, Nat.reduceMod]
  (repeat (refine ⟨by (first | exact True.intro | omega | rfl | (simp; done) | (simp; omega)), ?_⟩)); try (refine hKr _ ?_; clear hKr Kr)
  refine T.sregD 148 [0, 1, 3, 4, 5, 6, 7, 8, 9, 10, 11, 12, 13, 14, 15, 16, 32, 43, 57, 77, 82, 146] fun Kr hKr => ?_
  simp only [go_sem, reduceCtorEq, Nat.reduceEqDiff, Nat.reduceBEq, Nat.reduceAdd, Nat.reduceMul, Nat.reduceLeDiff, Nat.reduceSub, Int.reduceToNat, Int.reduceNeg, Nat.reduceLT, Int.reduceMul, Int.reduceSub, Int.reduceAdd, Int.reduceLT, Int.reduceLE, Int.reduceGE, Int.reduceGT, Int.reduceDiv, Int.reduceMod, Int.reduceEq, Int.reducePow, Nat.reducePow, Nat.reduceDiv, Nat.reduceMod]
  (repeat (refine ⟨by (first | exact True.intro | omega | rfl | (simp; done) | (simp; omega)), ?_⟩)); try (refine hKr _ ?_; clear hKr Kr)
  refine CallK.data (fun _ => Spec.args (sanity_spec) (by (first | exact ArgsLe.refl | (repeat (first | exact True.intro | refine And.intro (by first | exact AvLe.refl | exact AvLe.loose | exact AvLe.nil | exact AvLe.nilT | exact AvLe.slk | (refine AvLe.agg ?_; exact ArgsLe.refl) | (refine AvLe.agg ?_; (repeat (first | exact True.intro | refine And.intro (by first | exact AvLe.refl | exact AvLe.loose | exact AvLe.nil | exact AvLe.nilT | exact AvLe.slk) ?_)))) ?_))))) rfl ?_
  simp only [go_sem, reduceCtorEq, Nat.reduceEqDiff, Nat.reduceBEq, Nat.reduceAdd, Nat.reduceMul, Nat.reduceLeDiff, Nat.reduceSub, Int.reduceToNat, Int.reduceNeg, Nat.reduceLT, Int.reduceMul, Int.reduceSub, Int.reduceAdd, Int.reduceLT, Int.reduceLE, Int.reduceGE, Int.reduceGT, Int.reduceDiv, Int.reduceMod, Int.reduceEq, Int.reducePow, Nat.reducePow, Nat.reduceDiv, Nat.reduceMod]
  (repeat (refine ⟨by (first | exact True.intro | omega | rfl | (simp; done) | (simp; omega)), ?_⟩)); try (refine hKr _ ?_; clear hKr Kr)
  refine T.sregD 148 [0, 1, 3, 4, 5, 6, 7, 8, 9, 10, 11, 12, 13, 14, 15, 16, 32, 43, 57, 77, 82, 146] fun Kr hKr => ?_
  simp only [go_sem, reduceCtorEq, Nat.reduceEqDiff, Nat.reduceBEq, Nat.reduceAdd, Nat.reduceMul, Nat.reduceLeDiff, Nat.reduceSub, Int.reduceToNat, Int.reduceNeg, Nat.reduceLT, Int.reduceMul, Int.reduceSub, Int.reduceAdd, Int.reduceLT, Int.reduceLE, Int.reduceGE, Int.reduceGT, Int.reduceDiv, Int.reduceMod, Int.reduceEq, Int.reducePow, Nat.reducePow, Nat.reduceDiv, Nat.reduceMod]
  (repeat (refine ⟨by (first | exact True.intro | omega | rfl | (simp; done) | (simp; omega)), ?_⟩)); try (refine hKr _ ?_; clear hKr Kr)
  refine CallK.data (fun _ => Spec.args (sm) (by (first | exact ArgsLe.refl | (repeat (first | exact True.intro | refine And.intro (by first | exact AvLe.refl | exact AvLe.loose | exact AvLe.nil | exact AvLe.nilT | exact AvLe.slk | (refine AvLe.agg ?_; exact ArgsLe.refl) | (refine AvLe.agg ?_; (repeat (first | exact True.intro | refine And.intro (by first | exact AvLe.refl | exact AvLe.loose | exact AvLe.nil | exact AvLe.nilT | exact AvLe.slk) ?_)))) ?_))))) rfl ?_
  simp only [go_sem, reduceCtorEq, Nat.reduceEqDiff, Nat.reduceBEq, Nat.reduceAdd, Nat.reduceMul, Nat.reduceLeDiff, Nat.reduceSub, Int.reduceToNat, Int.reduceNeg, Nat.reduceLT, Int.reduceMul, Int.reduceSub, Int.reduceAdd, Int.reduceLT, Int.reduceLE, Int.reduceGE, Int.reduceGT, Int.reduceDiv, Int.reduceMod, Int.reduceEq, Int.reducePow, Nat.reducePow, Nat.reduceDiv, Nat.reduceMod]
  (repeat (refine ⟨by (first | exact True.intro | omega | rfl | (simp; done) | (simp; omega)), ?_⟩)); try (refine hKr _ ?_; clear hKr Kr)
  refine T.sregD 148 [0, 1, 3, 4, 5, 6, 7, 8, 9, 10, 11, 12, 13, 14, 15, 16, 32, 43, 57, 77, 82, 146] fun Kr hKr => ?_
  simp only [go_sem, reduceCtorEq, Nat.reduceEqDiff, Nat.reduceBEq, Nat.reduceAdd, Nat.reduceMul, Nat.reduceLeDiff, Nat.reduceSub, Int.reduceToNat, Int.reduceNeg, Nat.reduceLT, Int.reduceMul, Int.reduceSub, Int.reduceAdd, Int.reduceLT, Int.reduceLE, Int.reduceGE, Int.reduceGT, Int.reduceDiv, Int.reduceMod, Int.reduceEq, Int.reducePow, Nat.reducePow, Nat.reduceDiv, Nat.reduceMod]
  (repeat (refine ⟨by (first | exact True.intro | omega | rfl | (simp; done) | (simp; omega)), ?_⟩)); try (refine hKr _ ?_; clear hKr Kr)
  refine CallK.data (fun _ => Spec.args (se) (by (first | exact ArgsLe.refl | (repeat (first | exact True.intro | refine And.intro (by first | exact AvLe.refl | exact AvLe.loose | exact AvLe.nil | exact AvLe.nilT | exact AvLe.slk | (refine AvLe.agg ?_; exact ArgsLe.refl) | (refine AvLe.agg ?_; (repeat (first | exact True.intro | refine And.intro (by first | exact AvLe.refl | exact AvLe.loose | exact AvLe.nil | exact AvLe.nilT | exact AvLe.slk) ?_)))) ?_))))) rfl ?_
  simp only [go_sem, reduceCtorEq, Nat.reduceEqDiff, Nat.reduceBEq, Nat.reduceAdd, Nat.reduceMul, Nat.reduceLeDiff, Nat.reduceSub, Int.reduceToNat, Int.reduceNeg, Nat.reduceLT, Int.reduceMul, Int.reduceSub, Int.reduceAdd, Int.reduceLT, Int.reduceLE, Int.reduceGE, Int.reduceGT, Int.reduceDiv, Int.reduceMod, Int.reduceEq, Int.reducePow, Nat.reducePow, Nat.reduceDiv, Nat.reduceMod]
  (repeat (refine ⟨by (first | exact True.intro | omega | rfl | (simp; done) | (simp; omega)), ?_⟩)); try (refine hKr _ ?_; clear hKr Kr)
  refine T.seqK fun K0 hK0 => ?_
  refine T.sregD 148 [0, 1, 3, 4, 5, 6, 7, 8, 9, 10, 11, 12, 13, 14, 15, 16, 32, 43, 57, 77, 82, 146] fun Kr hKr => ?_
  simp only [go_sem, reduceCtorEq, Nat.reduceEqDiff, Nat.reduceBEq, Nat.reduceAdd, Nat.reduceMul, Nat.reduceLeDiff, Nat.reduceSub, Int.reduceToNat, Int.reduceNeg, Nat.reduceLT, Int.reduceMul, Int.reduceSub, Int.reduceAdd, Int.reduceLT, Int.reduceLE, Int.reduceGE, Int.reduceGT, Int.reduceDiv, Int.reduceMod, Int.reduceEq, Int.reducePow, Nat.reducePow, Nat.reduceDiv, Nat.reduceMod, cond_and]
  (repeat (refine ⟨by (first | exact True.intro | omega | rfl | (simp; done) | (simp; omega)), ?_⟩)); try (refine hKr _ ?_; clear hKr Kr)
  refine T.condTD rfl rfl (fun hz => ?_) (fun hz => ?_) <;> simp only [Bool.and_eq_true, Bool.and_eq_false_iff, Bool.not_eq_true', Bool.not_eq_false', decide_eq_true_eq, decide_eq_false_iff_not] at hz
  · refine T.sregD 148 [0, 1, 3, 4, 5, 6, 7, 8, 9, 10, 11, 12, 13, 14, 15, 16, 32, 43, 57, 77, 82, 146] fun Kr hKr => ?_
    simp only [go_sem, reduceCtorEq, Nat.reduceEqDiff, Nat.reduceBEq, Nat.reduceAdd, Nat.reduceMul, Nat.reduceLeDiff, Nat.reduceSub, Int.reduceToNat, Int.reduceNeg, Nat.reduceLT, Int.reduceMul, Int.reduceSub, Int.reduceAdd, Int.reduceLT, Int.reduceLE, Int.reduceGE, Int.reduceGT, Int.reduceDiv, Int.reduceMod, Int.reduceEq, Int.reducePow, Nat.reducePow, Nat.reduceDiv, Nat.reduceMod]
    (repeat (refine ⟨by (first | exact True.intro | omega | rfl | (simp; done) | (simp; omega)), ?_⟩)); try (refine hKr _ ?_; clear hKr Kr)
    refine T.ret (Fin.dataD rfl rfl rfl)
  have hel2 : e.k = 1 ∨ e.k = 3 := hz
  obtain ⟨bk, hbk⟩ : ∃ bk, bk = backE e := ⟨_, rfl⟩
  have hbe : bk.s.length ≤ 100000 := by rw [hbk]; unfold backE; split <;> simp
  refine T.skip ?_
  refine hK0 _ ?_
  refine T.sregD 148 [0, 1, 3, 4, 5, 6, 7, 8, 9, 10, 11, 12, 13, 14, 15, 16, 32, 43, 57, 77, 82, 146] fun Kr hKr => ?_
  simp only [go_sem, reduceCtorEq, Nat.reduceEqDiff, Nat.reduceBEq, Nat.reduceAdd, Nat.reduceMul, Nat.reduceLeDiff, Nat.reduceSub, Int.reduceToNat, Int.reduceNeg, Nat.reduceLT, Int.reduceMul, Int.reduceSub, Int.reduceAdd, Int.reduceLT, Int.reduceLE, Int.reduceGE, Int.reduceGT, Int.reduceDiv, Int.reduceMod, Int.reduceEq, Int.reducePow, Nat.reducePow, Nat.reduceDiv, Nat.reduceMod]
  (repeat (refine ⟨by (first | exact True.intro | omega | rfl | (simp; done) | (simp; omega)), ?_⟩)); try (refine hKr _ ?_; clear hKr Kr)
  refine T.seqK fun K1 hK1 => ?_
  refine T.sregD 148 [0, 1, 3, 4, 5, 6, 7, 8, 9, 10, 11, 12, 13, 14, 15, 16, 32, 43, 57, 77, 82, 146] fun Kr hKr => ?_
  simp only [go_sem, reduceCtorEq, Nat.reduceEqDiff, Nat.reduceBEq, Nat.reduceAdd, Nat.reduceMul, Nat.reduceLeDiff, Nat.reduceSub, Int.reduceToNat, Int.reduceNeg, Nat.reduceLT, Int.reduceMul, Int.reduceSub, Int.reduceAdd, Int.reduceLT, Int.reduceLE, Int.reduceGE, Int.reduceGT, Int.reduceDiv, Int.reduceMod, Int.reduceEq, Int.reducePow, Nat.reducePow, Nat.reduceDiv, Nat.reduceMod]
  (repeat (refine ⟨by (first | exact True.intro | omega | rfl | (simp; done) | (simp; omega)), ?_⟩)); try (refine hKr _ ?_; clear hKr Kr)
  refine T.condTD rfl rfl (fun hk1' => ?_) (fun hk1' => ?_) <;> simp only [decide_eq_true_eq, decide_eq_false_iff_not] at hk1'
  · have hk1 : (e.k = 1) = True := eq_true hk1'
    have hk3 : (e.k = 3) = False := eq_false (by omega)
    have hbk' : bk = ⟨2, e.a, e.s.length, 0, []⟩ := by rw [hbk, backE, if_pos hk1']
    refine T.regD 148 [0, 1, 3, 4, 5, 6, 7, 8, 9, 10, 11, 12, 13, 14, 15, 16, 32, 43, 57, 77, 82, 146] fun Kr hKr => ?_
    simp only [go_sem, reduceCtorEq, Nat.reduceEqDiff, Nat.reduceBEq, Nat.reduceAdd, Nat.reduceMul, Nat.reduceLeDiff, Nat.reduceSub, Int.reduceToNat, Int.reduceNeg, Nat.reduceLT, Int.reduceMul, Int.reduceSub, Int.reduceAdd, Int.reduceLT, Int.reduceLE, Int.reduceGE, Int.reduceGT, Int.reduceDiv, Int.reduceMod, Int.reduceEq, Int.reducePow, Nat.reducePow, Nat.reduceDiv, Nat.reduceMod]
    (repeat (refine ⟨by (first | exact True.intro | omega | rfl | (simp; done) | (simp; omega)), ?_⟩)); try (refine hKr _ ?_; clear hKr Kr)
    refine hK1 _ ?_
    refine T.sregD 148 [0, 1, 3, 4, 5, 6, 7, 8, 9, 10, 11, 12, 13, 14, 15, 16, 32, 43, 57, 77, 82, 146] fun Kr hKr => ?_
    simp only [go_sem, reduceCtorEq, Nat.reduceEqDiff, Nat.reduceBEq, Nat.reduceAdd, Nat.reduceMul, Nat.reduceLeDiff, Nat.reduceSub, Int.reduceToNat, Int.reduceNeg, Nat.reduceLT, Int.reduceMul, Int.reduceSub, Int.reduceAdd, Int.reduceLT, Int.reduceLE, Int.reduceGE, Int.reduceGT, Int.reduceDiv, Int.reduceMod, Int.reduceEq, Int.reducePow, Nat.reducePow, Nat.reduceDiv, Nat.reduceMod]
    (repeat (refine ⟨by (first | exact True.intro | omega | rfl | (simp; done) | (simp; omega)), ?_⟩)); try (refine hKr _ ?_; clear hKr Kr)
    refine CallK.tup (fun _ => Spec.args (sd1) (by (first | exact ArgsLe.refl | (repeat (first | exact True.intro | refine And.intro (by first | exact AvLe.refl | exact AvLe.loose | exact AvLe.nil | exact AvLe.nilT | exact AvLe.slk | (refine AvLe.agg ?_; exact ArgsLe.refl) | (refine AvLe.agg ?_; (repeat (first | exact True.intro | refine And.intro (by first | exact AvLe.refl | exact AvLe.loose | exact AvLe.nil | exact AvLe.nilT | exact AvLe.slk) ?_)))) ?_))))) ?_
    simp only [go_sem, reduceCtorEq, Nat.reduceEqDiff, Nat.reduceBEq, Nat.reduceAdd, Nat.reduceMul, Nat.reduceLeDiff, Nat.reduceSub, Int.reduceToNat, Int.reduceNeg, Nat.reduceLT, Int.reduceMul, Int.reduceSub, Int.reduceAdd, Int.reduceLT, Int.reduceLE, Int.reduceGE, Int.reduceGT, Int.reduceDiv, Int.reduceMod, Int.reduceEq, Int.reducePow, Nat.reducePow, Nat.reduceDiv, Nat.reduceMod]
    (repeat (refine ⟨by (first | exact True.intro | omega | rfl | (simp; done) | (simp; omega)), ?_⟩)); try (refine hKr _ ?_; clear hKr Kr)
    refine T.seqK fun K2 hK2 => ?_
    refine T.sregD 148 [0, 1, 3, 4, 5, 6, 7, 8, 9, 10, 11, 12, 13, 14, 15, 16, 32, 43, 57, 77, 82, 146] fun Kr hKr => ?_
    simp only [go_sem, reduceCtorEq, Nat.reduceEqDiff, Nat.reduceBEq, Nat.reduceAdd, Nat.reduceMul, Nat.reduceLeDiff, Nat.reduceSub, Int.reduceToNat, Int.reduceNeg, Nat.reduceLT, Int.reduceMul, Int.reduceSub, Int.reduceAdd, Int.reduceLT, Int.reduceLE, Int.reduceGE, Int.reduceGT, Int.reduceDiv, Int.reduceMod, Int.reduceEq, Int.reducePow, Nat.reducePow, Nat.reduceDiv, Nat.reduceMod]
    (repeat (refine ⟨by (first | exact True.intro | omega | rfl | (simp; done) | (simp; omega)), ?_⟩)); try (refine hKr _ ?_; clear hKr Kr)
    by_cases hbig : e.k = 1 ∧ (d.s.length : Int) + e.s.length > 400
    · have ee : doF d e = (noDoc, 2) := by unfold doF; rw [if_neg (by rw [hp]; decide), if_pos hbig]
      rw [ee]
      refine T.condTD rfl rfl (fun hx => ?_) (fun hx => ?_) <;> try simp at hx
      refine T.sregD 148 [0, 1, 3, 4, 5, 6, 7, 8, 9, 10, 11, 12, 13, 14, 15, 16, 32, 43, 57, 77, 82, 146] fun Kr hKr => ?_
      simp only [go_sem, reduceCtorEq, Nat.reduceEqDiff, Nat.reduceBEq, Nat.reduceAdd, Nat.reduceMul, Nat.reduceLeDiff, Nat.reduceSub, Int.reduceToNat, Int.reduceNeg, Nat.reduceLT, Int.reduceMul, Int.reduceSub, Int.reduceAdd, Int.reduceLT, Int.reduceLE, Int.reduceGE, Int.reduceGT, Int.reduceDiv, Int.reduceMod, Int.reduceEq, Int.reducePow, Nat.reducePow, Nat.reduceDiv, Nat.reduceMod]
      (repeat (refine ⟨by (first | exact True.intro | omega | rfl | (simp; done) | (simp; omega)), ?_⟩)); try (refine hKr _ ?_; clear hKr Kr)
      refine T.ret (Fin.dataD rfl rfl rfl)
    have ee : doF d e = (⟨chg d.s e, carL d.m e⟩, 0) := by unfold doF; rw [if_neg (by rw [hp]; decide), if_neg hbig]
    have hok1 := (doF_ok (e := e) hok (by rw [ee])).1
    rw [ee] at hok1 ⊢
    simp only at hok1
    obtain ⟨b1, b2, b3, b4⟩ := restore_ok hok hp hel2 hbk hbig
    have sd2 := Do_spec ⟨chg d.s e, carL d.m e⟩ bk hok1 (by omega)
    have ee2 : doF ⟨chg d.s e, carL d.m e⟩ bk = (⟨d.s, carL (carL d.m e) bk⟩, 0) := b2
    have hok2 := (doF_ok (e := bk) hok1 (by rw [ee2])).1
    rw [ee2] at sd2 hok2
    simp only at hok2
    have hcnt2 := hok2.cnt
    simp only at hcnt2
    have sf := fun id => Find_spec ⟨d.s, carL (carL d.m e) bk⟩ id (by simp only; omega)
    simp only at sf
    generalize carL (carL d.m e) bk = L2 at *
    generalize chg d.s e = s1 at *
    generalize carL d.m e = L1 at *
    refine T.condTD rfl rfl (fun hx => ?_) (fun hx => ?_) <;> try simp at hx
    refine T.skip ?_
    refine hK2 _ ?_
    simp only [hbk'] at sd2
    refine T.sregD 148 [0, 1, 3, 4, 5, 6, 7, 8, 9, 10, 11, 12, 13, 14, 15, 16, 32, 43, 57, 77, 82, 146] fun Kr hKr => ?_
    simp only [go_sem, reduceCtorEq, Nat.reduceEqDiff, Nat.reduceBEq, Nat.reduceAdd, Nat.reduceMul, Nat.reduceLeDiff, Nat.reduceSub, Int.reduceToNat, Int.reduceNeg, Nat.reduceLT, Int.reduceMul, Int.reduceSub, Int.reduceAdd, Int.reduceLT, Int.reduceLE, Int.reduceGE, Int.reduceGT, Int.reduceDiv, Int.reduceMod, Int.reduceEq, Int.reducePow, Nat.reducePow, Nat.reduceDiv, Nat.reduceMod]
    (repeat (refine ⟨by (first | exact True.intro | omega | rfl | (simp; done) | (simp; omega)), ?_⟩)); try (refine hKr _ ?_; clear hKr Kr)
    refine CallK.tup (fun _ => Spec.args (sd2) (by (first | exact ArgsLe.refl | (repeat (first | exact True.intro | refine And.intro (by first | exact AvLe.refl | exact AvLe.loose | exact AvLe.nil | exact AvLe.nilT | exact AvLe.slk | (refine AvLe.agg ?_; exact ArgsLe.refl) | (refine AvLe.agg ?_; (repeat (first | exact True.intro | refine And.intro (by first | exact AvLe.refl | exact AvLe.loose | exact AvLe.nil | exact AvLe.nilT | exact AvLe.slk) ?_)))) ?_))))) ?_
    simp only [go_sem, reduceCtorEq, Nat.reduceEqDiff, Nat.reduceBEq, Nat.reduceAdd, Nat.reduceMul, Nat.reduceLeDiff, Nat.reduceSub, Int.reduceToNat, Int.reduceNeg, Nat.reduceLT, Int.reduceMul, Int.reduceSub, Int.reduceAdd, Int.reduceLT, Int.reduceLE, Int.reduceGE, Int.reduceGT, Int.reduceDiv, Int.reduceMod, Int.reduceEq, Int.reducePow, Nat.reducePow, Nat.reduceDiv, Nat.reduceMod]
    (repeat (refine ⟨by (first | exact True.intro | omega | rfl | (simp; done) | (simp; omega)), ?_⟩)); try (refine hKr _ ?_; clear hKr Kr)
    refine T.seqK fun K3 hK3 => ?_
    refine T.sregD 148 [0, 1, 3, 4, 5, 6, 7, 8, 9, 10, 11, 12, 13, 14, 15, 16, 32, 43, 57, 77, 82, 146] fun Kr hKr => ?_
    simp only [go_sem, reduceCtorEq, Nat.reduceEqDiff, Nat.reduceBEq, Nat.reduceAdd, Nat.reduceMul, Nat.reduceLeDiff, Nat.reduceSub, Int.reduceToNat, Int.reduceNeg, Nat.reduceLT, Int.reduceMul, Int.reduceSub, Int.reduceAdd, Int.reduceLT, Int.reduceLE, Int.reduceGE, Int.reduceGT, Int.reduceDiv, Int.reduceMod, Int.reduceEq, Int.reducePow, Nat.reducePow, Nat.reduceDiv, Nat.reduceMod, cond_or, bne_self_eq_false, beq_self_eq_true]
    (repeat (refine ⟨by (first | exact True.intro | omega | rfl | (simp; done) | (simp; omega)), ?_⟩)); try (refine hKr _ ?_; clear hKr Kr)
    refine T.condTD rfl rfl (fun hx => ?_) (fun hx => ?_) <;> try simp at hx
    refine T.skip ?_
    refine hK3 _ ?_
    refine T.seqK fun K4 hK4 => ?_
    refine T.sregD 148 [0, 1, 3, 4, 5, 6, 7, 8, 9, 10, 11, 12, 13, 14, 15, 16, 32, 43, 57, 77, 82, 146] fun Kr hKr => ?_
    simp only [go_sem, reduceCtorEq, Nat.reduceEqDiff, Nat.reduceBEq, Nat.reduceAdd, Nat.reduceMul, Nat.reduceLeDiff, Nat.reduceSub, Int.reduceToNat, Int.reduceNeg, Nat.reduceLT, Int.reduceMul, Int.reduceSub, Int.reduceAdd, Int.reduceLT, Int.reduceLE, Int.reduceGE, Int.reduceGT, Int.reduceDiv, Int.reduceMod, Int.reduceEq, Int.reducePow, Nat.reducePow, Nat.reduceDiv, Nat.reduceMod]
    (repeat (refine ⟨by (first | exact True.intro | omega | rfl | (simp; done) | (simp; omega)), ?_⟩)); try (refine hKr _ ?_; clear hKr Kr)
    refine T.bloop (fun i : Nat => ⟨dense 148 [(5, .bool true), (6, .op 6 0 0), (7, .op 7 0 0), (11, .op 11 0 0), (13, .int .i64 i)], [(11, ⟨2, 28, true, [docA ⟨d.s, L2⟩]⟩), (7, ⟨5, 39, true, [editA e]⟩), (6, ⟨2, 28, true, [docA d]⟩)]⟩) (fun i => i ≤ d.m.length) (fun i => d.m.length - i) 0 (by simp) ?_ fun i hi => ?_
    · refine Le.fitS (by (repeat (first | exact DFit.nil | refine DFit.cons (by first | rfl | (simp [slook]; done) | (simp [slook]; omega)) ?_))) (by (repeat (first | exact True.intro | refine And.intro (by first | rfl | (simp [look]; done)) ?_)))
    refine T.seqK fun K5 hK5 => ?_
    refine T.sregD 148 [0, 1, 3, 4, 5, 6, 7, 8, 9, 10, 11, 12, 13, 14, 15, 16, 32, 43, 57, 77, 82, 146] fun Kr hKr => ?_
    simp only [go_sem, reduceCtorEq, Nat.reduceEqDiff, Nat.reduceBEq, Nat.reduceAdd, Nat.reduceMul, Nat.reduceLeDiff, Nat.reduceSub, Int.reduceToNat, Int.reduceNeg, Nat.reduceLT, Int.reduceMul, Int.reduceSub, Int.reduceAdd, Int.reduceLT, Int.reduceLE, Int.reduceGE, Int.reduceGT, Int.reduceDiv, Int.reduceMod, Int.reduceEq, Int.reducePow, Nat.reducePow, Nat.reduceDiv, Nat.reduceMod]
    (repeat (refine ⟨by (first | exact True.intro | omega | rfl | (simp; done) | (simp; omega)), ?_⟩)); try (refine hKr _ ?_; clear hKr Kr)
    refine T.condFD rfl rfl (fun hx => ?_) (fun hx => ?_) <;> simp at hx
    · -- no: exit
      refine T.exit ?_
      simp only [if_true]
      refine hK4 _ ?_
      refine T.sregD 148 [0, 1, 3, 4, 5, 6, 7, 8, 9, 10, 11, 12, 13, 14, 15, 16, 32, 43, 57, 77, 82, 146] fun Kr hKr => ?_
      simp only [go_sem, reduceCtorEq, Nat.reduceEqDiff, Nat.reduceBEq, Nat.reduceAdd, Nat.reduceMul, Nat.reduceLeDiff, Nat.reduceSub, Int.reduceToNat, Int.reduceNeg, Nat.reduceLT, Int.reduceMul, Int.reduceSub, Int.reduceAdd, Int.reduceLT, Int.reduceLE, Int.reduceGE, Int.reduceGT, Int.reduceDiv, Int.reduceMod, Int.reduceEq, Int.reducePow, Nat.reducePow, Nat.reduceDiv, Nat.reduceMod]
      (repeat (refine ⟨by (first | exact True.intro | omega | rfl | (simp; done) | (simp; omega)), ?_⟩)); try (refine hKr _ ?_; clear hKr Kr)
      refine T.ret (Fin.dataD rfl rfl rfl)
    refine T.skip ?_
    refine hK5 _ ?_
    refine T.seqK fun K6 hK6 => ?_
    refine T.block ?_
    have hm : d.m.getD i default ∈ d.m := by simp [List.getD, hx]
    have hb4 := b4 _ hm
    have sfi := sf (d.m.getD i default).id
    obtain ⟨_, g1, g2, g3⟩ := hok.mks _ hm
    refine T.sregD 148 [0, 1, 3, 4, 5, 6, 7, 8, 9, 10, 11, 12, 13, 14, 15, 16, 32, 43, 57, 77, 82, 146] fun Kr hKr => ?_
    simp only [go_sem, reduceCtorEq, Nat.reduceEqDiff, Nat.reduceBEq, Nat.reduceAdd, Nat.reduceMul, Nat.reduceLeDiff, Nat.reduceSub, Int.reduceToNat, Int.reduceNeg, Nat.reduceLT, Int.reduceMul, Int.reduceSub, Int.reduceAdd, Int.reduceLT, Int.reduceLE, Int.reduceGE, Int.reduceGT, Int.reduceDiv, Int.reduceMod, Int.reduceEq, Int.reducePow, Nat.reducePow, Nat.reduceDiv, Nat.reduceMod, hx]
    (repeat (refine ⟨by (first | exact True.intro | omega | rfl | (simp; done) | (simp; omega)), ?_⟩)); try (refine hKr _ ?_; clear hKr Kr)
    generalize d.m.getD i default = m at *
    refine T.sregD 148 [0, 1, 3, 4, 5, 6, 7, 8, 9, 10, 11, 12, 13, 14, 15, 16, 32, 43, 57, 77, 82, 146] fun Kr hKr => ?_
    simp only [go_sem, reduceCtorEq, Nat.reduceEqDiff, Nat.reduceBEq, Nat.reduceAdd, Nat.reduceMul, Nat.reduceLeDiff, Nat.reduceSub, Int.reduceToNat, Int.reduceNeg, Nat.reduceLT, Int.reduceMul, Int.reduceSub, Int.reduceAdd, Int.reduceLT, Int.reduceLE, Int.reduceGE, Int.reduceGT, Int.reduceDiv, Int.reduceMod, Int.reduceEq, Int.reducePow, Nat.reducePow, Nat.reduceDiv, Nat.reduceMod, hk1, hk3, cond_and, cond_or, Bool.and_eq_true, decide_eq_true_eq, Bool.true_and, Bool.false_and, Bool.or_false, Bool.false_or]
    (repeat (refine ⟨by (first | exact True.intro | omega | rfl | (simp; done) | (simp; omega)), ?_⟩)); try (refine hKr _ ?_; clear hKr Kr)
    refine T.sregD 148 [0, 1, 3, 4, 5, 6, 7, 8, 9, 10, 11, 12, 13, 14, 15, 16, 32, 43, 57, 77, 82, 146] fun Kr hKr => ?_
    simp only [go_sem, reduceCtorEq, Nat.reduceEqDiff, Nat.reduceBEq, Nat.reduceAdd, Nat.reduceMul, Nat.reduceLeDiff, Nat.reduceSub, Int.reduceToNat, Int.reduceNeg, Nat.reduceLT, Int.reduceMul, Int.reduceSub, Int.reduceAdd, Int.reduceLT, Int.reduceLE, Int.reduceGE, Int.reduceGT, Int.reduceDiv, Int.reduceMod, Int.reduceEq, Int.reducePow, Nat.reducePow, Nat.reduceDiv, Nat.reduceMod]
    (repeat (refine ⟨by (first | exact True.intro | omega | rfl | (simp; done) | (simp; omega)), ?_⟩)); try (refine hKr _ ?_; clear hKr Kr)
    refine CallK.data (fun _ => Spec.args (sfi) (by (first | exact ArgsLe.refl | (repeat (first | exact True.intro | refine And.intro (by first | exact AvLe.refl | exact AvLe.loose | exact AvLe.nil | exact AvLe.nilT | exact AvLe.slk | (refine AvLe.agg ?_; exact ArgsLe.refl) | (refine AvLe.agg ?_; (repeat (first | exact True.intro | refine And.intro (by first | exact AvLe.refl | exact AvLe.loose | exact AvLe.nil | exact AvLe.nilT | exact AvLe.slk) ?_)))) ?_))))) rfl ?_
    simp only [go_sem, reduceCtorEq, Nat.reduceEqDiff, Nat.reduceBEq, Nat.reduceAdd, Nat.reduceMul, Nat.reduceLeDiff, Nat.reduceSub, Int.reduceToNat, Int.reduceNeg, Nat.reduceLT, Int.reduceMul, Int.reduceSub, Int.reduceAdd, Int.reduceLT, Int.reduceLE, Int.reduceGE, Int.reduceGT, Int.reduceDiv, Int.reduceMod, Int.reduceEq, Int.reducePow, Nat.reducePow, Nat.reduceDiv, Nat.reduceMod]
    (repeat (refine ⟨by (first | exact True.intro | omega | rfl | (simp; done) | (simp; omega)), ?_⟩)); try (refine hKr _ ?_; clear hKr Kr)
    by_cases hkept : m.t ≤ e.a ∨ e.a ≤ m.f
    · obtain ⟨p, p1, p2, p3⟩ := hb4 (.inl ⟨hk1', hkept⟩)
      have hkb : (decide (m.t ≤ e.a) || decide (m.f ≥ e.a)) = true := by simpa using hkept
      have hp0 : ((p : Int) < 0) = False := eq_false (by omega)
      rw [hkb, p3]
      refine T.sdrawD 148 [0, 1, 3, 4, 5, 6, 7, 8, 9, 10, 11, 12, 13, 14, 15, 16, 32, 43, 57, 77, 82, 146] (.take 0 (.take 1 (.take 2 (.take 3 (.take 4 (.take 5 (.take 6 (.take 7 (.take 8 (.take 9 (.take 10 (.take 11 (.take 12 (.take 13 .done)))))))))))))) [11, 14] rfl (by decide +kernel) (by decide +kernel) fun Kr hKr => ?_
      simp only [go_sem, reduceCtorEq, Nat.reduceEqDiff, Nat.reduceBEq, Nat.reduceAdd, Nat.reduceMul, Nat.reduceLeDiff, Nat.reduceSub, Int.reduceToNat, Int.reduceNeg, Nat.reduceLT, Int.reduceMul, Int.reduceSub, Int.reduceAdd, Int.reduceLT, Int.reduceLE, Int.reduceGE, Int.reduceGT, Int.reduceDiv, Int.reduceMod, Int.reduceEq, Int.reducePow, Nat.reducePow, Nat.reduceDiv, Nat.reduceMod, p1, p2, hp0, cond_and, cond_or, beq_self_eq_true]
      (repeat (refine ⟨by (first | exact True.intro | omega | rfl | (simp; done) | (simp; omega)), ?_⟩)); try (refine hKr _ ?_; clear hKr Kr)
      refine T.condTD rfl rfl (fun hy => ?_) (fun hy => ?_) <;> try simp at hy
      refine T.skip ?_
      refine hK6 _ ?_
      refine T.regD 148 [0, 1, 3, 4, 5, 6, 7, 8, 9, 10, 11, 12, 13, 14, 15, 16, 32, 43, 57, 77, 82, 146] fun Kr hKr => ?_
      simp only [go_sem, reduceCtorEq, Nat.reduceEqDiff, Nat.reduceBEq, Nat.reduceAdd, Nat.reduceMul, Nat.reduceLeDiff, Nat.reduceSub, Int.reduceToNat, Int.reduceNeg, Nat.reduceLT, Int.reduceMul, Int.reduceSub, Int.reduceAdd, Int.reduceLT, Int.reduceLE, Int.reduceGE, Int.reduceGT, Int.reduceDiv, Int.reduceMod, Int.reduceEq, Int.reducePow, Nat.reducePow, Nat.reduceDiv, Nat.reduceMod]
      (repeat (refine ⟨by (first | exact True.intro | omega | rfl | (simp; done) | (simp; omega)), ?_⟩)); try (refine hKr _ ?_; clear hKr Kr)
      refine ⟨i + 1, ?_, ?_, Le.fitS (by (repeat (first | exact DFit.nil | refine DFit.cons (by first | rfl | (simp [slook]; done) | (simp [slook]; omega)) ?_))) ?_⟩
      · omega
      · omega
      · (repeat (first | exact True.intro | refine And.intro (by first | rfl | (simp [look]; done)) ?_))
    · have hkb : (decide (m.t ≤ e.a) || decide (m.f ≥ e.a)) = false := by simpa using hkept
      rw [hkb]
      refine T.sdrawD 148 [0, 1, 3, 4, 5, 6, 7, 8, 9, 10, 11, 12, 13, 14, 15, 16, 32, 43, 57, 77, 82, 146] (.take 0 (.take 1 (.take 2 (.take 3 (.take 4 (.take 5 (.take 6 (.take 7 (.take 8 (.take 9 (.take 10 (.take 11 (.take 12 (.take 13 .done)))))))))))))) [11, 14] rfl (by decide +kernel) (by decide +kernel) fun Kr hKr => ?_
      simp only [go_sem, reduceCtorEq, Nat.reduceEqDiff, Nat.reduceBEq, Nat.reduceAdd, Nat.reduceMul, Nat.reduceLeDiff, Nat.reduceSub, Int.reduceToNat, Int.reduceNeg, Nat.reduceLT, Int.reduceMul, Int.reduceSub, Int.reduceAdd, Int.reduceLT, Int.reduceLE, Int.reduceGE, Int.reduceGT, Int.reduceDiv, Int.reduceMod, Int.reduceEq, Int.reducePow, Nat.reducePow, Nat.reduceDiv, Nat.reduceMod, cond_and, cond_or]
      (repeat (refine ⟨by (first | exact True.intro | omega | rfl | (simp; done) | (simp; omega)), ?_⟩)); try (refine hKr _ ?_; clear hKr Kr)
      refine T.condTD rfl rfl (fun hy => ?_) (fun hy => ?_) <;> try simp at hy
      refine T.skip ?_
      refine hK6 _ ?_
      refine T.regD 148 [0, 1, 3, 4, 5, 6, 7, 8, 9, 10, 11, 12, 13, 14, 15, 16, 32, 43, 57, 77, 82, 146] fun Kr hKr => ?_
      simp only [go_sem, reduceCtorEq, Nat.reduceEqDiff, Nat.reduceBEq, Nat.reduceAdd, Nat.reduceMul, Nat.reduceLeDiff, Nat.reduceSub, Int.reduceToNat, Int.reduceNeg, Nat.reduceLT, Int.reduceMul, Int.reduceSub, Int.reduceAdd, Int.reduceLT, Int.reduceLE, Int.reduceGE, Int.reduceGT, Int.reduceDiv, Int.reduceMod, Int.reduceEq, Int.reducePow, Nat.reducePow, Nat.reduceDiv, Nat.reduceMod]
      (repeat (refine ⟨by (first | exact True.intro | omega | rfl | (simp; done) | (simp; omega)), ?_⟩)); try (refine hKr _ ?_; clear hKr Kr)
      refine ⟨i + 1, ?_, ?_, Le.fitS (by (repeat (first | exact DFit.nil | refine DFit.cons (by first | rfl | (simp [slook]; done) | (simp [slook]; omega)) ?_))) ?_⟩
      · omega
      · omega
      · (repeat (first | exact True.intro | refine And.intro (by first | rfl | (simp [look]; done)) ?_))
  have hk1 : (e.k = 1) = False := eq_false hk1'
  have hk3' : e.k = 3 := by omega
  have hk3 : (e.k = 3) = True := eq_true hk3'
  have hbk' : bk = ⟨3, e.t, e.n, e.a, []⟩ := by rw [hbk, backE, if_neg hk1']
  obtain ⟨r1, r2⟩ := q6 hk1'
  obtain ⟨r3, r4⟩ := q7 hk3'
  refine T.skip ?_
  refine hK1 _ ?_
  refine T.sregD 148 [0, 1, 3, 4, 5, 6, 7, 8, 9, 10, 11, 12, 13, 14, 15, 16, 32, 43, 57, 77, 82, 146] fun Kr hKr => ?_
  simp only [go_sem, reduceCtorEq, Nat.reduceEqDiff, Nat.reduceBEq, Nat.reduceAdd, Nat.reduceMul, Nat.reduceLeDiff, Nat.reduceSub, Int.reduceToNat, Int.reduceNeg, Nat.reduceLT, Int.reduceMul, Int.reduceSub, Int.reduceAdd, Int.reduceLT, Int.reduceLE, Int.reduceGE, Int.reduceGT, Int.reduceDiv, Int.reduceMod, Int.reduceEq, Int.reducePow, Nat.reducePow, Nat.reduceDiv, Nat.reduceMod]
  (repeat (refine ⟨by (first | exact True.intro | omega | rfl | (simp; done) | (simp; omega)), ?_⟩)); try (refine hKr _ ?_; clear hKr Kr)
  refine CallK.tup (fun _ => Spec.args (sd1) (by (first | exact ArgsLe.refl | (repeat (first | exact True.intro | refine And.intro (by first | exact AvLe.refl | exact AvLe.loose | exact AvLe.nil | exact AvLe.nilT | exact AvLe.slk | (refine AvLe.agg ?_; exact ArgsLe.refl) | (refine AvLe.agg ?_; (repeat (first | exact True.intro | refine And.intro (by first | exact AvLe.refl | exact AvLe.loose | exact AvLe.nil | exact AvLe.nilT | exact AvLe.slk) ?_)))) ?_))))) ?_
  simp only [go_sem, reduceCtorEq, Nat.reduceEqDiff, Nat.reduceBEq, Nat.reduceAdd, Nat.reduceMul, Nat.reduceLeDiff, Nat.reduceSub, Int.reduceToNat, Int.reduceNeg, Nat.reduceLT, Int.reduceMul, Int.reduceSub, Int.reduceAdd, Int.reduceLT, Int.reduceLE, Int.reduceGE, Int.reduceGT, Int.reduceDiv, Int.reduceMod, Int.reduceEq, Int.reducePow, Nat.reducePow, Nat.reduceDiv, Nat.reduceMod]
  (repeat (refine ⟨by (first | exact True.intro | omega | rfl | (simp; done) | (simp; omega)), ?_⟩)); try (refine hKr _ ?_; clear hKr Kr)
  refine T.seqK fun K2 hK2 => ?_
  refine T.sregD 148 [0, 1, 3, 4, 5, 6, 7, 8, 9, 10, 11, 12, 13, 14, 15, 16, 32, 43, 57, 77, 82, 146] fun Kr hKr => ?_
  simp only [go_sem, reduceCtorEq, Nat.reduceEqDiff, Nat.reduceBEq, Nat.reduceAdd, Nat.reduceMul, Nat.reduceLeDiff, Nat.reduceSub, Int.reduceToNat, Int.reduceNeg, Nat.reduceLT, Int.reduceMul, Int.reduceSub, Int.reduceAdd, Int.reduceLT, Int.reduceLE, Int.reduceGE, Int.reduceGT, Int.reduceDiv, Int.reduceMod, Int.reduceEq, Int.reducePow, Nat.reducePow, Nat.reduceDiv, Nat.reduceMod]
  (repeat (refine ⟨by (first | exact True.intro | omega | rfl | (simp; done) | (simp; omega)), ?_⟩)); try (refine hKr _ ?_; clear hKr Kr)
  by_cases hbig : e.k = 1 ∧ (d.s.length : Int) + e.s.length > 400
  · have ee : doF d e = (noDoc, 2) := by unfold doF; rw [if_neg (by rw [hp]; decide), if_pos hbig]
    rw [ee]
    refine T.condTD rfl rfl (fun hx => ?_) (fun hx => ?_) <;> try simp at hx
    refine T.sregD 148 [0, 1, 3, 4, 5, 6, 7, 8, 9, 10, 11, 12, 13, 14, 15, 16, 32, 43, 57, 77, 82, 146] fun Kr hKr => ?_
    simp only [go_sem, reduceCtorEq, Nat.reduceEqDiff, Nat.reduceBEq, Nat.reduceAdd, Nat.reduceMul, Nat.reduceLeDiff, Nat.reduceSub, Int.reduceToNat, Int.reduceNeg, Nat.reduceLT, Int.reduceMul, Int.reduceSub, Int.reduceAdd, Int.reduceLT, Int.reduceLE, Int.reduceGE, Int.reduceGT, Int.reduceDiv, Int.reduceMod, Int.reduceEq, Int.reducePow, Nat.reducePow, Nat.reduceDiv, Nat.reduceMod]
    (repeat (refine ⟨by (first | exact True.intro | omega | rfl | (simp; done) | (simp; omega)), ?_⟩)); try (refine hKr _ ?_; clear hKr Kr)
    refine T.ret (Fin.dataD rfl rfl rfl)
  have ee : doF d e = (⟨chg d.s e, carL d.m e⟩, 0) := by unfold doF; rw [if_neg (by rw [hp]; decide), if_neg hbig]
  have hok1 := (doF_ok (e := e) hok (by rw [ee])).1
  rw [ee] at hok1 ⊢
  simp only at hok1
  obtain ⟨b1, b2, b3, b4⟩ := restore_ok hok hp hel2 hbk hbig
  have sd2 := Do_spec ⟨chg d.s e, carL d.m e⟩ bk hok1 (by omega)
  have ee2 : doF ⟨chg d.s e, carL d.m e⟩ bk = (⟨d.s, carL (carL d.m e) bk⟩, 0) := b2
  have hok2 := (doF_ok (e := bk) hok1 (by rw [ee2])).1
  rw [ee2] at sd2 hok2
  simp only at hok2
  have hcnt2 := hok2.cnt
  simp only at hcnt2
  have sf := fun id => Find_spec ⟨d.s, carL (carL d.m e) bk⟩ id (by simp only; omega)
  simp only at sf
  generalize carL (carL d.m e) bk = L2 at *
  generalize chg d.s e = s1 at *
  generalize carL d.m e = L1 at *
  refine T.condTD rfl rfl (fun hx => ?_) (fun hx => ?_) <;> try simp at hx
  refine T.skip ?_
  refine hK2 _ ?_
  simp only [hbk'] at sd2
  refine T.sregD 148 [0, 1, 3, 4, 5, 6, 7, 8, 9, 10, 11, 12, 13, 14, 15, 16, 32, 43, 57, 77, 82, 146] fun Kr hKr => ?_
  simp only [go_sem, reduceCtorEq, Nat.reduceEqDiff, Nat.reduceBEq, Nat.reduceAdd, Nat.reduceMul, Nat.reduceLeDiff, Nat.reduceSub, Int.reduceToNat, Int.reduceNeg, Nat.reduceLT, Int.reduceMul, Int.reduceSub, Int.reduceAdd, Int.reduceLT, Int.reduceLE, Int.reduceGE, Int.reduceGT, Int.reduceDiv, Int.reduceMod, Int.reduceEq, Int.reducePow, Nat.reducePow, Nat.reduceDiv, Nat.reduceMod]
  (repeat (refine ⟨by (first | exact True.intro | omega | rfl | (simp; done) | (simp; omega)), ?_⟩)); try (refine hKr _ ?_; clear hKr Kr)
  refine CallK.tup (fun _ => Spec.args (sd2) (by (first | exact ArgsLe.refl | (repeat (first | exact True.intro | refine And.intro (by first | exact AvLe.refl | exact AvLe.loose | exact AvLe.nil | exact AvLe.nilT | exact AvLe.slk | (refine AvLe.agg ?_; exact ArgsLe.refl) | (refine AvLe.agg ?_; (repeat (first | exact True.intro | refine And.intro (by first | exact AvLe.refl | exact AvLe.loose | exact AvLe.nil | exact AvLe.nilT | exact AvLe.slk) ?_)))) ?_))))) ?_
  simp only [go_sem, reduceCtorEq, Nat.reduceEqDiff, Nat.reduceBEq, Nat.reduceAdd, Nat.reduceMul, Nat.reduceLeDiff, Nat.reduceSub, Int.reduceToNat, Int.reduceNeg, Nat.reduceLT, Int.reduceMul, Int.reduceSub, Int.reduceAdd, Int.reduceLT, Int.reduceLE, Int.reduceGE, Int.reduceGT, Int.reduceDiv, Int.reduceMod, Int.reduceEq, Int.reducePow, Nat.reducePow, Nat.reduceDiv, Nat.reduceMod]
  (repeat (refine ⟨by (first | exact True.intro | omega | rfl | (simp; done) | (simp; omega)), ?_⟩)); try (refine hKr _ ?_; clear hKr Kr)
  refine T.seqK fun K3 hK3 => ?_
  refine T.sregD 148 [0, 1, 3, 4, 5, 6, 7, 8, 9, 10, 11, 12, 13, 14, 15, 16, 32, 43, 57, 77, 82, 146] fun Kr hKr => ?_
  simp only [go_sem, reduceCtorEq, Nat.reduceEqDiff, Nat.reduceBEq, Nat.reduceAdd, Nat.reduceMul, Nat.reduceLeDiff, Nat.reduceSub, Int.reduceToNat, Int.reduceNeg, Nat.reduceLT, Int.reduceMul, Int.reduceSub, Int.reduceAdd, Int.reduceLT, Int.reduceLE, Int.reduceGE, Int.reduceGT, Int.reduceDiv, Int.reduceMod, Int.reduceEq, Int.reducePow, Nat.reducePow, Nat.reduceDiv, Nat.reduceMod, cond_or, bne_self_eq_false, beq_self_eq_true]
  (repeat (refine ⟨by (first | exact True.intro | omega | rfl | (simp; done) | (simp; omega)), ?_⟩)); try (refine hKr _ ?_; clear hKr Kr)
  refine T.condTD rfl rfl (fun hx => ?_) (fun hx => ?_) <;> try simp at hx
  refine T.skip ?_
  refine hK3 _ ?_
  refine T.seqK fun K4 hK4 => ?_
  refine T.sregD 148 [0, 1, 3, 4, 5, 6, 7, 8, 9, 10, 11, 12, 13, 14, 15, 16, 32, 43, 57, 77, 82, 146] fun Kr hKr => ?_
  simp only [go_sem, reduceCtorEq, Nat.reduceEqDiff, Nat.reduceBEq, Nat.reduceAdd, Nat.reduceMul, Nat.reduceLeDiff, Nat.reduceSub, Int.reduceToNat, Int.reduceNeg, Nat.reduceLT, Int.reduceMul, Int.reduceSub, Int.reduceAdd, Int.reduceLT, Int.reduceLE, Int.reduceGE, Int.reduceGT, Int.reduceDiv, Int.reduceMod, Int.reduceEq, Int.reducePow, Nat.reducePow, Nat.reduceDiv, Nat.reduceMod]
  (repeat (refine ⟨by (first | exact True.intro | omega | rfl | (simp; done) | (simp; omega)), ?_⟩)); try (refine hKr _ ?_; clear hKr Kr)
  refine T.bloop (fun i : Nat => ⟨dense 148 [(5, .bool true), (6, .op 6 0 0), (7, .op 7 0 0), (11, .op 11 0 0), (13, .int .i64 i)], [(11, ⟨2, 28, true, [docA ⟨d.s, L2⟩]⟩), (7, ⟨5, 39, true, [editA e]⟩), (6, ⟨2, 28, true, [docA d]⟩)]⟩) (fun i => i ≤ d.m.length) (fun i => d.m.length - i) 0 (by simp) ?_ fun i hi => ?_
  · refine Le.fitS (by (repeat (first | exact DFit.nil | refine DFit.cons (by first | rfl | (simp [slook]; done) | (simp [slook]; omega)) ?_))) (by (repeat (first | exact True.intro | refine And.intro (by first | rfl | (simp [look]; done)) ?_)))
  refine T.seqK fun K5 hK5 => ?_
  refine T.sregD 148 [0, 1, 3, 4, 5, 6, 7, 8, 9, 10, 11, 12, 13, 14, 15, 16, 32, 43, 57, 77, 82, 146] fun Kr hKr => ?_
  simp only [go_sem, reduceCtorEq, Nat.reduceEqDiff, Nat.reduceBEq, Nat.reduceAdd, Nat.reduceMul, Nat.reduceLeDiff, Nat.reduceSub, Int.reduceToNat, Int.reduceNeg, Nat.reduceLT, Int.reduceMul, Int.reduceSub, Int.reduceAdd, Int.reduceLT, Int.reduceLE, Int.reduceGE, Int.reduceGT, Int.reduceDiv, Int.reduceMod, Int.reduceEq, Int.reducePow, Nat.reducePow, Nat.reduceDiv, Nat.reduceMod]
  (repeat (refine ⟨by (first | exact True.intro | omega | rfl | (simp; done) | (simp; omega)), ?_⟩)); try (refine hKr _ ?_; clear hKr Kr)
  refine T.condFD rfl rfl (fun hx => ?_) (fun hx => ?_) <;> simp at hx
  · -- no: exit
    refine T.exit ?_
    simp only [if_true]
    refine hK4 _ ?_
    refine T.sregD 148 [0, 1, 3, 4, 5, 6, 7, 8, 9, 10, 11, 12, 13, 14, 15, 16, 32, 43, 57, 77, 82, 146] fun Kr hKr => ?_
    simp only [go_sem, reduceCtorEq, Nat.reduceEqDiff, Nat.reduceBEq, Nat.reduceAdd, Nat.reduceMul, Nat.reduceLeDiff, Nat.reduceSub, Int.reduceToNat, Int.reduceNeg, Nat.reduceLT, Int.reduceMul, Int.reduceSub, Int.reduceAdd, Int.reduceLT, Int.reduceLE, Int.reduceGE, Int.reduceGT, Int.reduceDiv, Int.reduceMod, Int.reduceEq, Int.reducePow, Nat.reducePow, Nat.reduceDiv, Nat.reduceMod]
    (repeat (refine ⟨by (first | exact True.intro | omega | rfl | (simp; done) | (simp; omega)), ?_⟩)); try (refine hKr _ ?_; clear hKr Kr)
    refine T.ret (Fin.dataD rfl rfl rfl)
  refine T.skip ?_
  refine hK5 _ ?_
  refine T.seqK fun K6 hK6 => ?_
  refine T.block ?_
  have hm : d.m.getD i default ∈ d.m := by simp [List.getD, hx]
  have hb4 := b4 _ hm
  have sfi := sf (d.m.getD i default).id
  obtain ⟨_, g1, g2, g3⟩ := hok.mks _ hm
  refine T.sregD 148 [0, 1, 3, 4, 5, 6, 7, 8, 9, 10, 11, 12, 13, 14, 15, 16, 32, 43, 57, 77, 82, 146] fun Kr hKr => ?_
  simp only [go_sem, reduceCtorEq, Nat.reduceEqDiff, Nat.reduceBEq, Nat.reduceAdd, Nat.reduceMul, Nat.reduceLeDiff, Nat.reduceSub, Int.reduceToNat, Int.reduceNeg, Nat.reduceLT, Int.reduceMul, Int.reduceSub, Int.reduceAdd, Int.reduceLT, Int.reduceLE, Int.reduceGE, Int.reduceGT, Int.reduceDiv, Int.reduceMod, Int.reduceEq, Int.reducePow, Nat.reducePow, Nat.reduceDiv, Nat.reduceMod, hx]
  (repeat (refine ⟨by (first | exact True.intro | omega | rfl | (simp; done) | (simp; omega)), ?_⟩)); try (refine hKr _ ?_; clear hKr Kr)
  generalize d.m.getD i default = m at *
  refine T.sregD 148 [0, 1, 3, 4, 5, 6, 7, 8, 9, 10, 11, 12, 13, 14, 15, 16, 32, 43, 57, 77, 82, 146] fun Kr hKr => ?_
  simp only [go_sem, reduceCtorEq, Nat.reduceEqDiff, Nat.reduceBEq, Nat.reduceAdd, Nat.reduceMul, Nat.reduceLeDiff, Nat.reduceSub, Int.reduceToNat, Int.reduceNeg, Nat.reduceLT, Int.reduceMul, Int.reduceSub, Int.reduceAdd, Int.reduceLT, Int.reduceLE, Int.reduceGE, Int.reduceGT, Int.reduceDiv, Int.reduceMod, Int.reduceEq, Int.reducePow, Nat.reducePow, Nat.reduceDiv, Nat.reduceMod, hk1, hk3, cond_and, cond_or, Bool.and_eq_true, decide_eq_true_eq, Bool.true_and, Bool.false_and, Bool.or_false, Bool.false_or]
  (repeat (refine ⟨by (first | exact True.intro | omega | rfl | (simp; done) | (simp; omega)), ?_⟩)); try (refine hKr _ ?_; clear hKr Kr)
  refine T.sregD 148 [0, 1, 3, 4, 5, 6, 7, 8, 9, 10, 11, 12, 13, 14, 15, 16, 32, 43, 57, 77, 82, 146] fun Kr hKr => ?_
  simp only [go_sem, reduceCtorEq, Nat.reduceEqDiff, Nat.reduceBEq, Nat.reduceAdd, Nat.reduceMul, Nat.reduceLeDiff, Nat.reduceSub, Int.reduceToNat, Int.reduceNeg, Nat.reduceLT, Int.reduceMul, Int.reduceSub, Int.reduceAdd, Int.reduceLT, Int.reduceLE, Int.reduceGE, Int.reduceGT, Int.reduceDiv, Int.reduceMod, Int.reduceEq, Int.reducePow, Nat.reducePow, Nat.reduceDiv, Nat.reduceMod]
  (repeat (refine ⟨by (first | exact True.intro | omega | rfl | (simp; done) | (simp; omega)), ?_⟩)); try (refine hKr _ ?_; clear hKr Kr)
  refine CallK.data (fun _ => Spec.args (sfi) (by (first | exact ArgsLe.refl | (repeat (first | exact True.intro | refine And.intro (by first | exact AvLe.refl | exact AvLe.loose | exact AvLe.nil | exact AvLe.nilT | exact AvLe.slk | (refine AvLe.agg ?_; exact ArgsLe.refl) | (refine AvLe.agg ?_; (repeat (first | exact True.intro | refine And.intro (by first | exact AvLe.refl | exact AvLe.loose | exact AvLe.nil | exact AvLe.nilT | exact AvLe.slk) ?_)))) ?_))))) rfl ?_
  simp only [go_sem, reduceCtorEq, Nat.reduceEqDiff, Nat.reduceBEq, Nat.reduceAdd, Nat.reduceMul, Nat.reduceLeDiff, Nat.reduceSub, Int.reduceToNat, Int.reduceNeg, Nat.reduceLT, Int.reduceMul, Int.reduceSub, Int.reduceAdd, Int.reduceLT, Int.reduceLE, Int.reduceGE, Int.reduceGT, Int.reduceDiv, Int.reduceMod, Int.reduceEq, Int.reducePow, Nat.reducePow, Nat.reduceDiv, Nat.reduceMod]
  (repeat (refine ⟨by (first | exact True.intro | omega | rfl | (simp; done) | (simp; omega)), ?_⟩)); try (refine hKr _ ?_; clear hKr Kr)
  by_cases hkept : e.a ≤ m.f ∧ m.t ≤ e.a + e.n
  · obtain ⟨p, p1, p2, p3⟩ := hb4 (.inr ⟨hk3', hkept⟩)
    have hkb : (decide (m.f ≥ e.a) && decide (m.t ≤ e.a + e.n)) = true := by simpa using hkept
    have hp0 : ((p : Int) < 0) = False := eq_false (by omega)
    rw [hkb, p3]
    refine T.sdrawD 148 [0, 1, 3, 4, 5, 6, 7, 8, 9, 10, 11, 12, 13, 14, 15, 16, 32, 43, 57, 77, 82, 146] (.take 0 (.take 1 (.take 2 (.take 3 (.take 4 (.take 5 (.take 6 (.take 7 (.take 8 (.take 9 (.take 10 (.take 11 (.take 12 (.take 13 .done)))))))))))))) [11, 14] rfl (by decide +kernel) (by decide +kernel) fun Kr hKr => ?_
    simp only [go_sem, reduceCtorEq, Nat.reduceEqDiff, Nat.reduceBEq, Nat.reduceAdd, Nat.reduceMul, Nat.reduceLeDiff, Nat.reduceSub, Int.reduceToNat, Int.reduceNeg, Nat.reduceLT, Int.reduceMul, Int.reduceSub, Int.reduceAdd, Int.reduceLT, Int.reduceLE, Int.reduceGE, Int.reduceGT, Int.reduceDiv, Int.reduceMod, Int.reduceEq, Int.reducePow, Nat.reducePow, Nat.reduceDiv, Nat.reduceMod, p1, p2, hp0, cond_and, cond_or, beq_self_eq_true]
    (repeat (refine ⟨by (first | exact True.intro | omega | rfl | (simp; done) | (simp; omega)), ?_⟩)); try (refine hKr _ ?_; clear hKr Kr)
    refine T.condTD rfl rfl (fun hy => ?_) (fun hy => ?_) <;> try simp at hy
    refine T.skip ?_
    refine hK6 _ ?_
    refine T.regD 148 [0, 1, 3, 4, 5, 6, 7, 8, 9, 10, 11, 12, 13, 14, 15, 16, 32, 43, 57, 77, 82, 146] fun Kr hKr => ?_
    simp only [go_sem, reduceCtorEq, Nat.reduceEqDiff, Nat.reduceBEq, Nat.reduceAdd, Nat.reduceMul, Nat.reduceLeDiff, Nat.reduceSub, Int.reduceToNat, Int.reduceNeg, Nat.reduceLT, Int.reduceMul, Int.reduceSub, Int.reduceAdd, Int.reduceLT, Int.reduceLE, Int.reduceGE, Int.reduceGT, Int.reduceDiv, Int.reduceMod, Int.reduceEq, Int.reducePow, Nat.reducePow, Nat.reduceDiv, Nat.reduceMod]
    (repeat (refine ⟨by (first | exact True.intro | omega | rfl | (simp; done) | (simp; omega)), ?_⟩)); try (refine hKr _ ?_; clear hKr Kr)
    refine ⟨i + 1, ?_, ?_, Le.fitS (by (repeat (first | exact DFit.nil | refine DFit.cons (by first | rfl | (simp [slook]; done) | (simp [slook]; omega)) ?_))) ?_⟩
    · omega
    · omega
    · (repeat (first | exact True.intro | refine And.intro (by first | rfl | (simp [look]; done)) ?_))
  · have hkb : (decide (m.f ≥ e.a) && decide (m.t ≤ e.a + e.n)) = false := by simpa using hkept
    rw [hkb]
    refine T.sdrawD 148 [0, 1, 3, 4, 5, 6, 7, 8, 9, 10, 11, 12, 13, 14, 15, 16, 32, 43, 57, 77, 82, 146] (.take 0 (.take 1 (.take 2 (.take 3 (.take 4 (.take 5 (.take 6 (.take 7 (.take 8 (.take 9 (.take 10 (.take 11 (.take 12 (.take 13 .done)))))))))))))) [11, 14] rfl (by decide +kernel) (by decide +kernel) fun Kr hKr => ?_
    simp only [go_sem, reduceCtorEq, Nat.reduceEqDiff, Nat.reduceBEq, Nat.reduceAdd, Nat.reduceMul, Nat.reduceLeDiff, Nat.reduceSub, Int.reduceToNat, Int.reduceNeg, Nat.reduceLT, Int.reduceMul, Int.reduceSub, Int.reduceAdd, Int.reduceLT, Int.reduceLE, Int.reduceGE, Int.reduceGT, Int.reduceDiv, Int.reduceMod, Int.reduceEq, Int.reducePow, Nat.reducePow, Nat.reduceDiv, Nat.reduceMod, cond_and, cond_or]
    (repeat (refine ⟨by (first | exact True.intro | omega | rfl | (simp; done) | (simp; omega)), ?_⟩)); try (refine hKr _ ?_; clear hKr Kr)
    refine T.condTD rfl rfl (fun hy => ?_) (fun hy => ?_) <;> try simp at hy
    refine T.skip ?_
    refine hK6 _ ?_
    refine T.regD 148 [0, 1, 3, 4, 5, 6, 7, 8, 9, 10, 11, 12, 13, 14, 15, 16, 32, 43, 57, 77, 82, 146] fun Kr hKr => ?_
    simp only [go_sem, reduceCtorEq, Nat.reduceEqDiff, Nat.reduceBEq, Nat.reduceAdd, Nat.reduceMul, Nat.reduceLeDiff, Nat.reduceSub, Int.reduceToNat, Int.reduceNeg, Nat.reduceLT, Int.reduceMul, Int.reduceSub, Int.reduceAdd, Int.reduceLT, Int.reduceLE, Int.reduceGE, Int.reduceGT, Int.reduceDiv, Int.reduceMod, Int.reduceEq, Int.reducePow, Nat.reducePow, Nat.reduceDiv, Nat.reduceMod]
    (repeat (refine ⟨by (first | exact True.intro | omega | rfl | (simp; done) | (simp; omega)), ?_⟩)); try (refine hKr _ ?_; clear hKr Kr)
    refine ⟨i + 1, ?_, ?_, Le.fitS (by (repeat (first | exact DFit.nil | refine DFit.cons (by first | rfl | (simp [slook]; done) | (simp [slook]; omega)) ?_))) ?_⟩
    · omega
    · omega
    · (repeat (first | exact True.intro | refine And.intro (by first | rfl | (simp [look]; done)) ?_))
end Go.Proofs
