/- Documents: two deletions or inserts at once. -/
import Derived.Test.YthopljgeajllpaaD12
import Derived.Test.YthopljgeajllpaaD13
set_option linter.unusedVariables false
set_option linter.unusedSimpArgs false
namespace Go.Proofs
open Go Go.Ideal
set_option maxRecDepth 8000
set_option maxHeartbeats 4000000

/-! ### Plainly -/
theorem shutP_comp (p a n1 n2 : Int) (h1 : 0 ≤ n1) (h2 : 0 ≤ n2) : shutP (shutP p a n1) a n2 = shutP p a (n1 + n2) := by
  have e : ∀ q n : Int, shutP q a n = if q ≤ a then q else if q - a ≤ n then a else q - n := fun _ _ => rfl
  rw [e p n1, e p (n1 + n2)]
  by_cases c1 : p ≤ a
  · rw [if_pos c1, if_pos c1, e, if_pos c1]
  · rw [if_neg c1, if_neg c1]
    by_cases c2 : p - a ≤ n1
    · rw [if_pos c2, if_pos (by omega), e, if_pos (by omega)]
    · rw [if_neg c2, e, if_neg (by omega)]
      by_cases c3 : p - n1 - a ≤ n2
      · rw [if_pos c3, if_pos (by omega)]
      · rw [if_neg c3, if_neg (by omega)]; omega
theorem shutP_mono {p q a n : Int} (h : 0 ≤ n) (hpq : p ≤ q) : shutP p a n ≤ shutP q a n ∧ shutP q a n - shutP p a n ≤ q - p := by
  unfold shutP
  by_cases c1 : p ≤ a
  · rw [if_pos c1]
    by_cases c2 : q ≤ a
    · rw [if_pos c2]; omega
    · rw [if_neg c2]; split <;> omega
  · rw [if_neg c1, if_neg (show ¬ q ≤ a by omega)]
    by_cases c2 : p - a ≤ n
    · rw [if_pos c2]; split <;> omega
    · rw [if_neg c2, if_neg (show ¬ q - a ≤ n by omega)]; omega
theorem delM_comp (a n1 n2 : Int) (m : Mark) (h1 : 0 ≤ n1) (h2 : 0 ≤ n2) (hm : m.f < m.t) : (delM a n1 m).bind (delM a n2) = delM a (n1 + n2) m := by
  have cf := shutP_comp m.f a n1 n2 h1 h2
  have ct := shutP_comp m.t a n1 n2 h1 h2
  obtain ⟨m1, m2⟩ := shutP_mono (a := a) h1 (show m.f ≤ m.t by omega)
  by_cases c : shutP m.t a n1 ≤ shutP m.f a n1
  · have e1 : delM a n1 m = none := by simp only [delM]; rw [if_pos c]
    obtain ⟨m3, _⟩ := shutP_mono (a := a) h2 c
    rw [cf, ct] at m3
    have e2 : delM a (n1 + n2) m = none := by simp only [delM]; rw [if_pos m3]
    rw [e1, e2]; rfl
  · have e1 : delM a n1 m = some (delW a n1 m) := by simp only [delM]; rw [if_neg c]
    rw [e1, Option.bind_some]
    have k1 : (delW a n1 m).f = shutP m.f a n1 := rfl
    have k2 : (delW a n1 m).t = shutP m.t a n1 := rfl
    obtain ⟨m3, m4⟩ := shutP_mono (a := a) h2 (show shutP m.f a n1 ≤ shutP m.t a n1 by omega)
    rw [cf, ct] at m3 m4
    simp only [delM]
    rw [k1, k2, cf, ct]
    by_cases c2 : shutP m.t a (n1 + n2) ≤ shutP m.f a (n1 + n2)
    · rw [if_pos c2, if_pos c2]
    · rw [if_neg c2, if_neg c2]
      simp only [delW, cf, ct, Option.some.injEq, Mark.mk.injEq, true_and]
      rw [Bool.and_assoc]
      congr 1
      rw [Bool.eq_iff_iff]
      simp only [Bool.and_eq_true, decide_eq_true_eq]
      omega
theorem insM_comp (a n1 n2 : Int) (m : Mark) (h1 : 0 ≤ n1) : insM (a + n1) n2 (insM a n1 m) = insM a (n1 + n2) m := by
  obtain ⟨id, f, t, w⟩ := m
  have e : ∀ (a n : Int) (f t : Int) (w : Bool), insM a n ⟨id, f, t, w⟩ = if t ≤ a then ⟨id, f, t, w⟩ else if f ≥ a then ⟨id, f + n, t + n, w⟩ else ⟨id, f, t + n, false⟩ := fun _ _ _ _ _ => rfl
  rw [e a n1, e a (n1 + n2)]
  by_cases c1 : t ≤ a
  · rw [if_pos c1, if_pos c1, e, if_pos (by omega)]
  · rw [if_neg c1, if_neg c1]
    by_cases c2 : f ≥ a
    · rw [if_pos c2, if_pos c2, e, if_neg (by omega), if_pos (by omega)]
      congr 1 <;> omega
    · rw [if_neg c2, if_neg c2, e, if_neg (by omega), if_neg (by omega)]
      congr 1; omega
theorem fmap_congr {f g : Mark → Option Mark} : ∀ {l : List Mark}, (∀ m ∈ l, f m = g m) → l.filterMap f = l.filterMap g
  | [], _ => rfl
  | m :: l, h => by
    rw [List.filterMap_cons, List.filterMap_cons, h m (by simp), fmap_congr (l := l) fun x hx => h x (by simp [hx])]
theorem join_del {d : Doc} (hok : OkD d) {a n1 n2 : Nat} (h : a + (n1 + n2) ≤ d.s.length) :
    ∃ d1, doF d ⟨2, a, n1, 0, []⟩ = (d1, 0) ∧ doF d1 ⟨2, a, n2, 0, []⟩ = (⟨chg d.s ⟨2, a, (n1 + n2 : Nat), 0, []⟩, carL d.m ⟨2, a, (n1 + n2 : Nat), 0, []⟩⟩, 0) := by
  have p1 : possB ⟨2, a, n1, 0, []⟩ d.s.length = true := by
    simp only [possB, pieceB]
    rw [if_neg (by decide), if_pos (.inl trivial)]
    simp only [Bool.and_eq_true, decide_eq_true_eq]; omega
  have e1 : doF d ⟨2, a, n1, 0, []⟩ = (⟨chg d.s ⟨2, a, n1, 0, []⟩, carL d.m ⟨2, a, n1, 0, []⟩⟩, 0) := by
    unfold doF; rw [if_neg (by rw [p1]; decide), if_neg (by intro hh; exact absurd hh.1 (by simp))]
  refine ⟨_, e1, ?_⟩
  have hl : (chg d.s ⟨2, a, n1, 0, []⟩).length = d.s.length - n1 := by rw [chg_del]; simp; omega
  have p2 : possB ⟨2, a, n2, 0, []⟩ (chg d.s ⟨2, a, n1, 0, []⟩).length = true := by
    rw [hl]
    simp only [possB, pieceB]
    rw [if_neg (by decide), if_pos (.inl trivial)]
    simp only [Bool.and_eq_true, decide_eq_true_eq]; omega
  have e2 : doF ⟨chg d.s ⟨2, a, n1, 0, []⟩, carL d.m ⟨2, a, n1, 0, []⟩⟩ ⟨2, a, n2, 0, []⟩ = (⟨chg (chg d.s ⟨2, a, n1, 0, []⟩) ⟨2, a, n2, 0, []⟩, carL (carL d.m ⟨2, a, n1, 0, []⟩) ⟨2, a, n2, 0, []⟩⟩, 0) := by
    unfold doF; rw [if_neg (by rw [p2]; decide), if_neg (by intro hh; exact absurd hh.1 (by simp))]
  rw [e2]
  have t1 : chg (chg d.s ⟨2, a, n1, 0, []⟩) ⟨2, a, n2, 0, []⟩ = chg d.s ⟨2, a, (n1 + n2 : Nat), 0, []⟩ := by
    rw [chg_del, chg_del, chg_del]
    apply List.ext_getElem?
    intro i
    rw [del_get _ _ _ _ (by simp; omega), del_get _ _ _ _ (by omega), del_get _ _ _ _ (by omega), del_get _ _ _ _ (by omega)]
    by_cases c : i < a
    · rw [if_pos c, if_pos c, if_pos c]
    · rw [if_neg c, if_neg c, if_neg (by omega)]; congr 1; omega
  have t2 : carL (carL d.m ⟨2, a, n1, 0, []⟩) ⟨2, a, n2, 0, []⟩ = carL d.m ⟨2, a, (n1 + n2 : Nat), 0, []⟩ := by
    unfold carL
    rw [List.filterMap_filterMap]
    refine fmap_congr fun m hm => ?_
    obtain ⟨_, _, g, _⟩ := hok.mks m hm
    have := delM_comp a n1 n2 m (by omega) (by omega) g
    rw [← Int.natCast_add] at this
    exact this
  rw [t1, t2]
theorem join_ins {d : Doc} {a : Nat} {x y : List UInt8} (ha : a ≤ d.s.length) (hx : 1 ≤ x.length) (hy : 1 ≤ y.length) (hl : (x ++ y).length ≤ 40) (hp : plainB (x ++ y) = true) (hbig : d.s.length + (x ++ y).length ≤ 400) :
    ∃ d1, doF d ⟨1, a, 0, 0, x⟩ = (d1, 0) ∧ doF d1 ⟨1, (a + x.length : Nat), 0, 0, y⟩ = (⟨chg d.s ⟨1, a, 0, 0, x ++ y⟩, carL d.m ⟨1, a, 0, 0, x ++ y⟩⟩, 0) := by
  rw [plainB_app, Bool.and_eq_true] at hp
  rw [List.length_append] at hl hbig
  have p1 : possB ⟨1, a, 0, 0, x⟩ d.s.length = true := by
    simp only [possB]
    rw [if_pos trivial, hp.1]
    simp only [Bool.and_eq_true, decide_eq_true_eq]
    exact ⟨⟨⟨⟨by omega, by omega⟩, by omega⟩, by omega⟩, trivial⟩
  have e1 : doF d ⟨1, a, 0, 0, x⟩ = (⟨chg d.s ⟨1, a, 0, 0, x⟩, carL d.m ⟨1, a, 0, 0, x⟩⟩, 0) := by
    unfold doF; rw [if_neg (by rw [p1]; decide), if_neg (by intro hh; have := hh.2; simp only at this; omega)]
  refine ⟨_, e1, ?_⟩
  have hl1 : (chg d.s ⟨1, a, 0, 0, x⟩).length = d.s.length + x.length := by rw [chg_ins]; simp; omega
  have p2 : possB ⟨1, (a + x.length : Nat), 0, 0, y⟩ (chg d.s ⟨1, a, 0, 0, x⟩).length = true := by
    rw [hl1]
    simp only [possB]
    rw [if_pos trivial, hp.2]
    simp only [Bool.and_eq_true, decide_eq_true_eq]
    exact ⟨⟨⟨⟨by omega, by omega⟩, by omega⟩, by omega⟩, trivial⟩
  have e2 : doF ⟨chg d.s ⟨1, a, 0, 0, x⟩, carL d.m ⟨1, a, 0, 0, x⟩⟩ ⟨1, (a + x.length : Nat), 0, 0, y⟩ = (⟨chg (chg d.s ⟨1, a, 0, 0, x⟩) ⟨1, (a + x.length : Nat), 0, 0, y⟩, carL (carL d.m ⟨1, a, 0, 0, x⟩) ⟨1, (a + x.length : Nat), 0, 0, y⟩⟩, 0) := by
    unfold doF; rw [if_neg (by rw [p2]; decide), if_neg (by intro hh; have := hh.2; simp only [hl1] at this; omega)]
  rw [e2]
  have t1 : chg (chg d.s ⟨1, a, 0, 0, x⟩) ⟨1, (a + x.length : Nat), 0, 0, y⟩ = chg d.s ⟨1, a, 0, 0, x ++ y⟩ := by
    rw [chg_ins, chg_ins, chg_ins]
    have h1 : (d.s.take a ++ x).length = a + x.length := by simp; omega
    have h2 : (d.s.take a ++ x ++ d.s.drop a).take (a + x.length) = d.s.take a ++ x := by rw [← h1]; exact List.take_left
    have h3 : (d.s.take a ++ x ++ d.s.drop a).drop (a + x.length) = d.s.drop a := by rw [← h1]; exact List.drop_left
    rw [h2, h3]; simp
  have t2 : carL (carL d.m ⟨1, a, 0, 0, x⟩) ⟨1, (a + x.length : Nat), 0, 0, y⟩ = carL d.m ⟨1, a, 0, 0, x ++ y⟩ := by
    rw [carL_ins rfl, carL_ins rfl, carL_ins rfl, List.map_map]
    refine List.map_congr_left fun m _ => ?_
    have := insM_comp a x.length y.length m (by omega)
    simp only [Function.comp, List.length_append, Int.natCast_add]
    exact this
  rw [t1, t2]
theorem editF_two (x : Raw) (n : Nat) : (∃ A : Nat, A ≤ n ∧ editF ⟨x.k % 2, x.a, x.n, x.t, x.s⟩ n = ⟨1, (A : Int), 0, 0, wordF x.s⟩) ∨ (∃ A L : Nat, A + L ≤ n ∧ editF ⟨x.k % 2, x.a, x.n, x.t, x.s⟩ n = ⟨2, (A : Int), (L : Int), 0, []⟩) := by
  have ham : x.a.toNat % (n + 1) ≤ n := by have := Nat.mod_lt x.a.toNat (show 0 < n + 1 by omega); omega
  obtain ⟨hL, _⟩ := edLen_le ⟨x.k % 2, x.a, x.n, x.t, x.s⟩ n
  have hk : (x.k % 2).toNat = x.k.toNat % 2 := by simp [UInt8.toNat_mod]
  have h2 : x.k.toNat % 2 < 2 := Nat.mod_lt _ (by decide)
  by_cases h : x.k.toNat % 2 = 0
  · left
    refine ⟨x.a.toNat % (n + 1), ham, ?_⟩
    unfold editF
    simp only [hk, h]
    rfl
  · right
    have h1 : x.k.toNat % 2 = 1 := by omega
    refine ⟨x.a.toNat % (n + 1), edLen ⟨x.k % 2, x.a, x.n, x.t, x.s⟩ n, by simp only at hL; omega, ?_⟩
    unfold editF
    simp only [hk, h1]
    rfl

theorem joins_law (l : List Raw) (x : Raw) (c : UInt8) : Ideal.Spec Try.prog 6 [.sl false 5 (rawsOf l), rawA x, .int .u8 c.toNat] (.bool true) none := by
  have sm := Made14 l
  obtain ⟨hok, _⟩ := madeN_ok l (min l.length 14)
  have hmd : madeF l 14 = madeN l (min l.length 14) := rfl
  rw [← hmd] at hok
  generalize madeF l 14 = d at *
  have hlen := hok.len
  have hcnt := hok.cnt
  have se := Edit_spec ⟨x.k % 2, x.a, x.n, x.t, x.s⟩ d.s.length (by omega)
  have hp := editF_poss ⟨x.k % 2, x.a, x.n, x.t, x.s⟩ d.s.length
  have hel := editF_len ⟨x.k % 2, x.a, x.n, x.t, x.s⟩ d.s.length
  have htwo := editF_two x d.s.length
  have hkk : ((x.k.toNat : Int) % 2) = (((x.k % 2).toNat : Nat) : Int) := by simp [UInt8.toNat_mod]
  generalize editF ⟨x.k % 2, x.a, x.n, x.t, x.s⟩ d.s.length = e at *
  have sd := Do_spec d e hok (by omega)
  obtain ⟨q1, q2, q3, q4, q5, q6, q7⟩ := possB_smE hp
  have hc := c.toNat_lt
  refine Ideal.Spec.of_TD (n := 120) (fn := Try.f6) rfl rfl rfl rfl rfl rfl rfl fun w ok => ?_
  refine T.sregD 120 [0, 1, 2, 4, 6, 7, 8, 9, 10, 11, 12, 13, 14, 15, 16, 17, 18, 19, 39, 49, 66, 103] fun Kr hKr => ?_
  simp only [go_sem, reduceCtorEq, Nat.reduceEqDiff, Nat.reduceBEq, Nat.reduceAdd, Nat.reduceMul, Nat.reduceLeDiff, Nat.reduceSub, Int.reduceToNat, Int.reduceNeg, Nat.reduceLT, Int.reduceMul, Int.reduceSub, Int.reduceAdd, Int.reduceLT, Int.reduceLE, Int.reduceGE, Int.reduceGT, Int.reduceDiv, Int.reduceMod, Int.reduceEq, Int.reducePow, Nat.reducePow, Nat.reduceDiv, Nat.reduceMod]
  (repeat (refine ⟨by (first | exact True.intro | omega | rfl | (simp; done) | (simp; omega)), ?_⟩)); try (refine hKr _ ?_; clear hKr Kr)
  refine T.sregD 120 [0, 1, 2, 4, 6, 7, 8, 9, 10, 11, 12, 13, 14, 15, 16, 17, 18, 19, 39, 49, 66, 103] fun Kr hKr => ?_
  simp only [go_sem, reduceCtorEq, Nat.reduceEqDiff, Nat.reduceBEq, Nat.reduceAdd, Nat.reduceMul, Nat.reduceLeDiff, Nat.reduceSub, Int.reduceToNat, Int.reduceNeg, Nat.reduceLT, Int.reduceMul, Int.reduceSub, Int.reduceAdd, Int.reduceLT, Int.reduceLE, Int.reduceGE, Int.reduceGT, Int.reduceDiv, Int.reduceMod, Int.reduceEq, Int.reducePow, Nat.reducePow, Nat.reduceDiv, Nat.reduceMod]
  (repeat (refine ⟨by (first | exact True.intro | omega | rfl | (simp; done) | (simp; omega)), ?_⟩)); try (refine hKr _ ?_; clear hKr Kr)
  refine CallK.data (fun _ => Spec.args (sanity_spec) (by (first | exact ArgsLe.refl | (repeat (first | exact True.intro | refine And.intro (by first | exact AvLe.refl | exact AvLe.loose | exact AvLe.nil | exact AvLe.nilT | exact AvLe.slk | (refine AvLe.agg ?_; exact ArgsLe.refl) | (refine AvLe.agg ?_; (repeat (first | exact True.intro | refine And.intro (by first | exact AvLe.refl | exact AvLe.loose | exact AvLe.nil | exact AvLe.nilT | exact AvLe.slk) ?_)))) ?_))))) rfl ?_
  simp only [go_sem, reduceCtorEq, Nat.reduceEqDiff, Nat.reduceBEq, Nat.reduceAdd, Nat.reduceMul, Nat.reduceLeDiff, Nat.reduceSub, Int.reduceToNat, Int.reduceNeg, Nat.reduceLT, Int.reduceMul, Int.reduceSub, Int.reduceAdd, Int.reduceLT, Int.reduceLE, Int.reduceGE, Int.reduceGT, Int.reduceDiv, Int.reduceMod, Int.reduceEq, Int.reducePow, Nat.reducePow, Nat.reduceDiv, Nat.reduceMod]
  (repeat (refine ⟨by (first | exact True.intro | omega | rfl | (simp; done) | (simp; omega)), ?_⟩)); try (refine hKr _ ?_; clear hKr Kr)
  refine T.sregD 120 [0, 1, 2, 4, 6, 7, 8, 9, 10, 11, 12, 13, 14, 15, 16, 17, 18, 19, 39, 49, 66, 103] fun Kr hKr => ?_
  simp only [go_sem, reduceCtorEq, Nat.reduceEqDiff, Nat.reduceBEq, Nat.reduceAdd, Nat.reduceMul, Nat.reduceLeDiff, Nat.reduceSub, Int.reduceToNat, Int.reduceNeg, Nat.reduceLT, Int.reduceMul, Int.reduceSub, Int.reduceAdd, Int.reduceLT, Int.reduceLE, Int.reduceGE, Int.reduceGT, Int.reduceDiv, Int.reduceMod, Int.reduceEq, Int.reducePow, Nat.reducePow, Nat.reduceDiv, Nat.reduceMod]
  (repeat (refine ⟨by (first | exact True.intro | omega | rfl | (simp; done) | (simp; omega)), ?_⟩)); try (refine hKr _ ?_; clear hKr Kr)
  refine CallK.data (fun _ => Spec.args (sm) (by (first | exact ArgsLe.refl | (repeat (first | exact True.intro | refine And.intro (by first | exact AvLe.refl | exact AvLe.loose | exact AvLe.nil | exact AvLe.nilT | exact AvLe.slk | (refine AvLe.agg ?_; exact ArgsLe.refl) | (refine AvLe.agg ?_; (repeat (first | exact True.intro | refine And.intro (by first | exact AvLe.refl | exact AvLe.loose | exact AvLe.nil | exact AvLe.nilT | exact AvLe.slk) ?_)))) ?_))))) rfl ?_
  simp only [go_sem, reduceCtorEq, Nat.reduceEqDiff, Nat.reduceBEq, Nat.reduceAdd, Nat.reduceMul, Nat.reduceLeDiff, Nat.reduceSub, Int.reduceToNat, Int.reduceNeg, Nat.reduceLT, Int.reduceMul, Int.reduceSub, Int.reduceAdd, Int.reduceLT, Int.reduceLE, Int.reduceGE, Int.reduceGT, Int.reduceDiv, Int.reduceMod, Int.reduceEq, Int.reducePow, Nat.reducePow, Nat.reduceDiv, Nat.reduceMod]
  (repeat (refine ⟨by (first | exact True.intro | omega | rfl | (simp; done) | (simp; omega)), ?_⟩)); try (refine hKr _ ?_; clear hKr Kr)
  refine T.sregD 120 [0, 1, 2, 4, 6, 7, 8, 9, 10, 11, 12, 13, 14, 15, 16, 17, 18, 19, 39, 49, 66, 103] fun Kr hKr => ?_
  simp only [go_sem, reduceCtorEq, Nat.reduceEqDiff, Nat.reduceBEq, Nat.reduceAdd, Nat.reduceMul, Nat.reduceLeDiff, Nat.reduceSub, Int.reduceToNat, Int.reduceNeg, Nat.reduceLT, Int.reduceMul, Int.reduceSub, Int.reduceAdd, Int.reduceLT, Int.reduceLE, Int.reduceGE, Int.reduceGT, Int.reduceDiv, Int.reduceMod, Int.reduceEq, Int.reducePow, Nat.reducePow, Nat.reduceDiv, Nat.reduceMod, hkk]
  (repeat (refine ⟨by (first | exact True.intro | omega | rfl | (simp; done) | (simp; omega)), ?_⟩)); try (refine hKr _ ?_; clear hKr Kr)
  refine T.sregD 120 [0, 1, 2, 4, 6, 7, 8, 9, 10, 11, 12, 13, 14, 15, 16, 17, 18, 19, 39, 49, 66, 103] fun Kr hKr => ?_
  simp only [go_sem, reduceCtorEq, Nat.reduceEqDiff, Nat.reduceBEq, Nat.reduceAdd, Nat.reduceMul, Nat.reduceLeDiff, Nat.reduceSub, Int.reduceToNat, Int.reduceNeg, Nat.reduceLT, Int.reduceMul, Int.reduceSub, Int.reduceAdd, Int.reduceLT, Int.reduceLE, Int.reduceGE, Int.reduceGT, Int.reduceDiv, Int.reduceMod, Int.reduceEq, Int.reducePow, Nat.reducePow, Nat.reduceDiv, Nat.reduceMod]
  (repeat (refine ⟨by (first | exact True.intro | omega | rfl | (simp; done) | (simp; omega)), ?_⟩)); try (refine hKr _ ?_; clear hKr Kr)
  refine CallK.data (fun _ => Spec.args (se) (by (first | exact ArgsLe.refl | (repeat (first | exact True.intro | refine And.intro (by first | exact AvLe.refl | exact AvLe.loose | exact AvLe.nil | exact AvLe.nilT | exact AvLe.slk | (refine AvLe.agg ?_; exact ArgsLe.refl) | (refine AvLe.agg ?_; (repeat (first | exact True.intro | refine And.intro (by first | exact AvLe.refl | exact AvLe.loose | exact AvLe.nil | exact AvLe.nilT | exact AvLe.slk) ?_)))) ?_))))) rfl ?_
  simp only [go_sem, reduceCtorEq, Nat.reduceEqDiff, Nat.reduceBEq, Nat.reduceAdd, Nat.reduceMul, Nat.reduceLeDiff, Nat.reduceSub, Int.reduceToNat, Int.reduceNeg, Nat.reduceLT, Int.reduceMul, Int.reduceSub, Int.reduceAdd, Int.reduceLT, Int.reduceLE, Int.reduceGE, Int.reduceGT, Int.reduceDiv, Int.reduceMod, Int.reduceEq, Int.reducePow, Nat.reducePow, Nat.reduceDiv, Nat.reduceMod]
  (repeat (refine ⟨by (first | exact True.intro | omega | rfl | (simp; done) | (simp; omega)), ?_⟩)); try (refine hKr _ ?_; clear hKr Kr)
  refine T.sregD 120 [0, 1, 2, 4, 6, 7, 8, 9, 10, 11, 12, 13, 14, 15, 16, 17, 18, 19, 39, 49, 66, 103] fun Kr hKr => ?_
  simp only [go_sem, reduceCtorEq, Nat.reduceEqDiff, Nat.reduceBEq, Nat.reduceAdd, Nat.reduceMul, Nat.reduceLeDiff, Nat.reduceSub, Int.reduceToNat, Int.reduceNeg, Nat.reduceLT, Int.reduceMul, Int.reduceSub, Int.reduceAdd, Int.reduceLT, Int.reduceLE, Int.reduceGE, Int.reduceGT, Int.reduceDiv, Int.reduceMod, Int.reduceEq, Int.reducePow, Nat.reducePow, Nat.reduceDiv, Nat.reduceMod]
  (repeat (refine ⟨by (first | exact True.intro | omega | rfl | (simp; done) | (simp; omega)), ?_⟩)); try (refine hKr _ ?_; clear hKr Kr)
  refine CallK.tup (fun _ => Spec.args (sd) (by (first | exact ArgsLe.refl | (repeat (first | exact True.intro | refine And.intro (by first | exact AvLe.refl | exact AvLe.loose | exact AvLe.nil | exact AvLe.nilT | exact AvLe.slk | (refine AvLe.agg ?_; exact ArgsLe.refl) | (refine AvLe.agg ?_; (repeat (first | exact True.intro | refine And.intro (by first | exact AvLe.refl | exact AvLe.loose | exact AvLe.nil | exact AvLe.nilT | exact AvLe.slk) ?_)))) ?_))))) ?_
  simp only [go_sem, reduceCtorEq, Nat.reduceEqDiff, Nat.reduceBEq, Nat.reduceAdd, Nat.reduceMul, Nat.reduceLeDiff, Nat.reduceSub, Int.reduceToNat, Int.reduceNeg, Nat.reduceLT, Int.reduceMul, Int.reduceSub, Int.reduceAdd, Int.reduceLT, Int.reduceLE, Int.reduceGE, Int.reduceGT, Int.reduceDiv, Int.reduceMod, Int.reduceEq, Int.reducePow, Nat.reducePow, Nat.reduceDiv, Nat.reduceMod]
  (repeat (refine ⟨by (first | exact True.intro | omega | rfl | (simp; done) | (simp; omega)), ?_⟩)); try (refine hKr _ ?_; clear hKr Kr)
  refine T.seqK fun K1 hK1 => ?_
  refine T.sregD 120 [0, 1, 2, 4, 6, 7, 8, 9, 10, 11, 12, 13, 14, 15, 16, 17, 18, 19, 39, 49, 66, 103] fun Kr hKr => ?_
  simp only [go_sem, reduceCtorEq, Nat.reduceEqDiff, Nat.reduceBEq, Nat.reduceAdd, Nat.reduceMul, Nat.reduceLeDiff, Nat.reduceSub, Int.reduceToNat, Int.reduceNeg, Nat.reduceLT, Int.reduceMul, Int.reduceSub, Int.reduceAdd, Int.reduceLT, Int.reduceLE, Int.reduceGE, Int.reduceGT, Int.reduceDiv, Int.reduceMod, Int.reduceEq, Int.reducePow, Nat.reducePow, Nat.reduceDiv, Nat.reduceMod]
  (repeat (refine ⟨by (first | exact True.intro | omega | rfl | (simp; done) | (simp; omega)), ?_⟩)); try (refine hKr _ ?_; clear hKr Kr)
  by_cases hbig : e.k = 1 ∧ (d.s.length : Int) + e.s.length > 400
  · have ee : doF d e = (noDoc, 2) := by unfold doF; rw [if_neg (by rw [hp]; decide), if_pos hbig]
    rw [ee]
    refine T.condTD rfl rfl (fun hx => ?_) (fun hx => ?_) <;> try simp at hx
    refine T.sregD 120 [0, 1, 2, 4, 6, 7, 8, 9, 10, 11, 12, 13, 14, 15, 16, 17, 18, 19, 39, 49, 66, 103] fun Kr hKr => ?_
    simp only [go_sem, reduceCtorEq, Nat.reduceEqDiff, Nat.reduceBEq, Nat.reduceAdd, Nat.reduceMul, Nat.reduceLeDiff, Nat.reduceSub, Int.reduceToNat, Int.reduceNeg, Nat.reduceLT, Int.reduceMul, Int.reduceSub, Int.reduceAdd, Int.reduceLT, Int.reduceLE, Int.reduceGE, Int.reduceGT, Int.reduceDiv, Int.reduceMod, Int.reduceEq, Int.reducePow, Nat.reducePow, Nat.reduceDiv, Nat.reduceMod]
    (repeat (refine ⟨by (first | exact True.intro | omega | rfl | (simp; done) | (simp; omega)), ?_⟩)); try (refine hKr _ ?_; clear hKr Kr)
    refine T.ret (Fin.dataD rfl rfl rfl)
  have ee : doF d e = (⟨chg d.s e, carL d.m e⟩, 0) := by unfold doF; rw [if_neg (by rw [hp]; decide), if_neg hbig]
  have hokD := (doF_ok (e := e) hok (by rw [ee])).1
  rw [ee] at hokD ⊢
  simp only at hokD
  generalize hD : (⟨chg d.s e, carL d.m e⟩ : Doc) = D at *
  have hlenD := hokD.len
  have hcntD := hokD.cnt
  refine T.condTD rfl rfl (fun hx => ?_) (fun hx => ?_) <;> try simp at hx
  refine T.skip ?_
  refine hK1 _ ?_
  rcases htwo with ⟨A, hA, he⟩ | ⟨A, L, hA, he⟩
  · -- Insert
    subst he
    have hb2 : (d.s.length : Int) + (wordF x.s).length ≤ 400 := by
      by_cases h : (d.s.length : Int) + (wordF x.s).length > 400
      · exact absurd ⟨rfl, h⟩ hbig
      · omega
    simp only at *
    have h5 := q5 trivial
    generalize wordF x.s = w0 at *
    refine T.sdraw2D 120 [0, 1, 2, 4, 6, 7, 8, 9, 10, 11, 12, 13, 14, 15, 16, 17, 18, 19, 39, 49, 66, 103] (.take 0 (.take 1 (.two 2 (.one 3 (.one 4 (.one 5 .done))) 3 (.one 2 (.one 4 (.one 5 .done)))))) [9] rfl (by decide +kernel) (by decide +kernel) ?x1 ?h1 (fun Kr hKr => ?all1) ?rest1
    case all1 =>
      simp only [go_sem, reduceCtorEq, Nat.reduceEqDiff, Nat.reduceBEq, Nat.reduceAdd, Nat.reduceMul, Nat.reduceLeDiff, Nat.reduceSub, Int.reduceToNat, Int.reduceNeg, Nat.reduceLT, Int.reduceMul, Int.reduceSub, Int.reduceAdd, Int.reduceLT, Int.reduceLE, Int.reduceGE, Int.reduceGT, Int.reduceDiv, Int.reduceMod, Int.reduceEq, Int.reducePow, Nat.reducePow, Nat.reduceDiv, Nat.reduceMod]
      (repeat (any_goals (first | exact hKr _ (.inl rfl) | exact hKr _ (.inr (by (repeat (first | exact True.intro | refine And.intro (by first | rfl | (simp [look]; done)) ?_)))) | (refine And.intro ?_ ?_) | (first | exact True.intro | omega | rfl | (simp; done) | (simp; omega)))))
      all_goals (first | exact hKr _ (.inl rfl) | exact hKr _ (.inr (by (repeat (first | exact True.intro | refine And.intro (by first | rfl | (simp [look]; done)) ?_)))))
    case rest1 =>
    refine T.seqK fun K2 hK2 => ?_
    refine T.sregD 120 [0, 1, 2, 4, 6, 7, 8, 9, 10, 11, 12, 13, 14, 15, 16, 17, 18, 19, 39, 49, 66, 103] fun Kr hKr => ?_
    simp only [go_sem, reduceCtorEq, Nat.reduceEqDiff, Nat.reduceBEq, Nat.reduceAdd, Nat.reduceMul, Nat.reduceLeDiff, Nat.reduceSub, Int.reduceToNat, Int.reduceNeg, Nat.reduceLT, Int.reduceMul, Int.reduceSub, Int.reduceAdd, Int.reduceLT, Int.reduceLE, Int.reduceGE, Int.reduceGT, Int.reduceDiv, Int.reduceMod, Int.reduceEq, Int.reducePow, Nat.reducePow, Nat.reduceDiv, Nat.reduceMod]
    (repeat (refine ⟨by (first | exact True.intro | omega | rfl | (simp; done) | (simp; omega)), ?_⟩)); try (refine hKr _ ?_; clear hKr Kr)
    refine T.condTD rfl rfl (fun hx => ?_) (fun hx => ?_) <;> try simp at hx
    refine T.sregD 120 [0, 1, 2, 4, 6, 7, 8, 9, 10, 11, 12, 13, 14, 15, 16, 17, 18, 19, 39, 49, 66, 103] fun Kr hKr => ?_
    simp only [go_sem, reduceCtorEq, Nat.reduceEqDiff, Nat.reduceBEq, Nat.reduceAdd, Nat.reduceMul, Nat.reduceLeDiff, Nat.reduceSub, Int.reduceToNat, Int.reduceNeg, Nat.reduceLT, Int.reduceMul, Int.reduceSub, Int.reduceAdd, Int.reduceLT, Int.reduceLE, Int.reduceGE, Int.reduceGT, Int.reduceDiv, Int.reduceMod, Int.reduceEq, Int.reducePow, Nat.reducePow, Nat.reduceDiv, Nat.reduceMod]
    (repeat (refine ⟨by (first | exact True.intro | omega | rfl | (simp; done) | (simp; omega)), ?_⟩)); try (refine hKr _ ?_; clear hKr Kr)
    refine T.condTD rfl rfl (fun hx => ?_) (fun hx => ?_) <;> simp only [decide_eq_true_eq, decide_eq_false_iff_not] at hx
    · refine T.sregD 120 [0, 1, 2, 4, 6, 7, 8, 9, 10, 11, 12, 13, 14, 15, 16, 17, 18, 19, 39, 49, 66, 103] fun Kr hKr => ?_
      simp only [go_sem, reduceCtorEq, Nat.reduceEqDiff, Nat.reduceBEq, Nat.reduceAdd, Nat.reduceMul, Nat.reduceLeDiff, Nat.reduceSub, Int.reduceToNat, Int.reduceNeg, Nat.reduceLT, Int.reduceMul, Int.reduceSub, Int.reduceAdd, Int.reduceLT, Int.reduceLE, Int.reduceGE, Int.reduceGT, Int.reduceDiv, Int.reduceMod, Int.reduceEq, Int.reducePow, Nat.reducePow, Nat.reduceDiv, Nat.reduceMod]
      (repeat (refine ⟨by (first | exact True.intro | omega | rfl | (simp; done) | (simp; omega)), ?_⟩)); try (refine hKr _ ?_; clear hKr Kr)
      refine T.ret (Fin.dataD rfl rfl rfl)
    have hmod := Nat.mod_lt c.toNat (show 0 < w0.length - 1 by omega)
    have hR1 : ((w0.length : Int) - 1) = ((w0.length - 1 : Nat) : Int) := by omega
    have hR2 : ((c.toNat : Int) % ((w0.length - 1 : Nat) : Int)) = ((c.toNat % (w0.length - 1) : Nat) : Int) := rfl
    have hR3 : (1 + ((c.toNat % (w0.length - 1) : Nat) : Int)) = ((1 + c.toNat % (w0.length - 1) : Nat) : Int) := by omega
    obtain ⟨n, hn⟩ : ∃ n : Nat, n = 1 + c.toNat % (w0.length - 1) := ⟨_, rfl⟩
    rw [← hn] at hR3
    have hn1 : 1 ≤ n ∧ n < w0.length := by omega
    have hJ := join_ins (d := d) (a := A) (x := w0.take n) (y := w0.drop n) (by omega) (by simp; omega) (by simp; omega) (by rw [List.take_append_drop]; omega) (by rw [List.take_append_drop]; exact h5.2.2) (by rw [List.take_append_drop]; omega)
    rw [List.take_append_drop] at hJ
    have htl : (w0.take n).length = n := by simp; omega
    rw [htl, hD] at hJ
    have e1l : (w0.take n).length ≤ 100000 := by omega
    have e2l : (w0.drop n).length ≤ 100000 := by simp; omega
    refine T.sregD 120 [0, 1, 2, 4, 6, 7, 8, 9, 10, 11, 12, 13, 14, 15, 16, 17, 18, 19, 39, 49, 66, 103] fun Kr hKr => ?_
    simp only [go_sem, reduceCtorEq, Nat.reduceEqDiff, Nat.reduceBEq, Nat.reduceAdd, Nat.reduceMul, Nat.reduceLeDiff, Nat.reduceSub, Int.reduceToNat, Int.reduceNeg, Nat.reduceLT, Int.reduceMul, Int.reduceSub, Int.reduceAdd, Int.reduceLT, Int.reduceLE, Int.reduceGE, Int.reduceGT, Int.reduceDiv, Int.reduceMod, Int.reduceEq, Int.reducePow, Nat.reducePow, Nat.reduceDiv, Nat.reduceMod, hR1, hR2, hR3]
    (repeat (refine ⟨by (first | exact True.intro | omega | rfl | (simp; done) | (simp; omega)), ?_⟩)); try (refine hKr _ ?_; clear hKr Kr)
    refine T.drawD 120 [0, 1, 2, 4, 6, 7, 8, 9, 10, 11, 12, 13, 14, 15, 16, 17, 18, 19, 39, 49, 66, 103] (.take 0 (.take 1 (.take 2 (.take 3 (.take 4 (.take 5 (.take 6 (.take 7 (.take 8 (.take 9 (.take 10 (.take 11 (.take 12 (.one 13 (.take 14 (.one 15 (.take 16 (.one 17 .done)))))))))))))))))) [9] rfl (by decide +kernel) (by decide +kernel) fun Kr hKr => ?_
    simp only [go_sem, reduceCtorEq, Nat.reduceEqDiff, Nat.reduceBEq, Nat.reduceAdd, Nat.reduceMul, Nat.reduceLeDiff, Nat.reduceSub, Int.reduceToNat, Int.reduceNeg, Nat.reduceLT, Int.reduceMul, Int.reduceSub, Int.reduceAdd, Int.reduceLT, Int.reduceLE, Int.reduceGE, Int.reduceGT, Int.reduceDiv, Int.reduceMod, Int.reduceEq, Int.reducePow, Nat.reducePow, Nat.reduceDiv, Nat.reduceMod, List.drop_zero, List.take_length]
    (repeat (refine ⟨by (first | exact True.intro | omega | rfl | (simp; done) | (simp; omega)), ?_⟩)); try (refine hKr _ ?_; clear hKr Kr)
    refine hK2 _ ?_
    have hadd : ((A : Int) + (n : Int)) = ((A + n : Nat) : Int) := by omega
    rw [hadd]
    obtain ⟨d1, j1, j2⟩ := hJ
    have hok1 := (doF_ok (e := ⟨1, (A : Nat), 0, 0, w0.take n⟩) hok (by rw [j1])).1
    rw [j1] at hok1
    simp only at hok1
    have hlen1 := hok1.len
    have hcnt1 := hok1.cnt
    have sd1 := Do_spec d ⟨1, (A : Nat), 0, 0, w0.take n⟩ hok e1l
    have sd2 := Do_spec d1 ⟨1, (A + n : Nat), 0, 0, w0.drop n⟩ hok1 e2l
    rw [j1] at sd1
    rw [j2] at sd2
    have sv := ValidR_spec d1 (by omega) (by omega)
    rw [validB_of hok1] at sv
    have ss := Same_spec D D (by omega) (by omega) (by omega) (by omega)
    rw [decide_eq_true rfl] at ss
    refine T.sregD 120 [0, 1, 2, 4, 6, 7, 8, 9, 10, 11, 12, 13, 14, 15, 16, 17, 18, 19, 39, 49, 66, 103] fun Kr hKr => ?_
    simp only [go_sem, reduceCtorEq, Nat.reduceEqDiff, Nat.reduceBEq, Nat.reduceAdd, Nat.reduceMul, Nat.reduceLeDiff, Nat.reduceSub, Int.reduceToNat, Int.reduceNeg, Nat.reduceLT, Int.reduceMul, Int.reduceSub, Int.reduceAdd, Int.reduceLT, Int.reduceLE, Int.reduceGE, Int.reduceGT, Int.reduceDiv, Int.reduceMod, Int.reduceEq, Int.reducePow, Nat.reducePow, Nat.reduceDiv, Nat.reduceMod]
    (repeat (refine ⟨by (first | exact True.intro | omega | rfl | (simp; done) | (simp; omega)), ?_⟩)); try (refine hKr _ ?_; clear hKr Kr)
    refine CallK.tup (fun _ => Spec.args (sd1) (by (first | exact ArgsLe.refl | (repeat (first | exact True.intro | refine And.intro (by first | exact AvLe.refl | exact AvLe.loose | exact AvLe.nil | exact AvLe.nilT | exact AvLe.slk | (refine AvLe.agg ?_; exact ArgsLe.refl) | (refine AvLe.agg ?_; (repeat (first | exact True.intro | refine And.intro (by first | exact AvLe.refl | exact AvLe.loose | exact AvLe.nil | exact AvLe.nilT | exact AvLe.slk) ?_)))) ?_))))) ?_
    simp only [go_sem, reduceCtorEq, Nat.reduceEqDiff, Nat.reduceBEq, Nat.reduceAdd, Nat.reduceMul, Nat.reduceLeDiff, Nat.reduceSub, Int.reduceToNat, Int.reduceNeg, Nat.reduceLT, Int.reduceMul, Int.reduceSub, Int.reduceAdd, Int.reduceLT, Int.reduceLE, Int.reduceGE, Int.reduceGT, Int.reduceDiv, Int.reduceMod, Int.reduceEq, Int.reducePow, Nat.reducePow, Nat.reduceDiv, Nat.reduceMod]
    (repeat (refine ⟨by (first | exact True.intro | omega | rfl | (simp; done) | (simp; omega)), ?_⟩)); try (refine hKr _ ?_; clear hKr Kr)
    refine T.seqK fun K4 hK4 => ?_
    refine T.sregD 120 [0, 1, 2, 4, 6, 7, 8, 9, 10, 11, 12, 13, 14, 15, 16, 17, 18, 19, 39, 49, 66, 103] fun Kr hKr => ?_
    simp only [go_sem, reduceCtorEq, Nat.reduceEqDiff, Nat.reduceBEq, Nat.reduceAdd, Nat.reduceMul, Nat.reduceLeDiff, Nat.reduceSub, Int.reduceToNat, Int.reduceNeg, Nat.reduceLT, Int.reduceMul, Int.reduceSub, Int.reduceAdd, Int.reduceLT, Int.reduceLE, Int.reduceGE, Int.reduceGT, Int.reduceDiv, Int.reduceMod, Int.reduceEq, Int.reducePow, Nat.reducePow, Nat.reduceDiv, Nat.reduceMod]
    (repeat (refine ⟨by (first | exact True.intro | omega | rfl | (simp; done) | (simp; omega)), ?_⟩)); try (refine hKr _ ?_; clear hKr Kr)
    refine CallK.data (fun _ => Spec.args (sv) (by (first | exact ArgsLe.refl | (repeat (first | exact True.intro | refine And.intro (by first | exact AvLe.refl | exact AvLe.loose | exact AvLe.nil | exact AvLe.nilT | exact AvLe.slk | (refine AvLe.agg ?_; exact ArgsLe.refl) | (refine AvLe.agg ?_; (repeat (first | exact True.intro | refine And.intro (by first | exact AvLe.refl | exact AvLe.loose | exact AvLe.nil | exact AvLe.nilT | exact AvLe.slk) ?_)))) ?_))))) rfl ?_
    simp only [go_sem, reduceCtorEq, Nat.reduceEqDiff, Nat.reduceBEq, Nat.reduceAdd, Nat.reduceMul, Nat.reduceLeDiff, Nat.reduceSub, Int.reduceToNat, Int.reduceNeg, Nat.reduceLT, Int.reduceMul, Int.reduceSub, Int.reduceAdd, Int.reduceLT, Int.reduceLE, Int.reduceGE, Int.reduceGT, Int.reduceDiv, Int.reduceMod, Int.reduceEq, Int.reducePow, Nat.reducePow, Nat.reduceDiv, Nat.reduceMod, cond_or]
    (repeat (refine ⟨by (first | exact True.intro | omega | rfl | (simp; done) | (simp; omega)), ?_⟩)); try (refine hKr _ ?_; clear hKr Kr)
    refine T.condTD rfl rfl (fun hx => ?_) (fun hx => ?_) <;> try simp at hx
    refine T.skip ?_
    refine hK4 _ ?_
    refine T.sregD 120 [0, 1, 2, 4, 6, 7, 8, 9, 10, 11, 12, 13, 14, 15, 16, 17, 18, 19, 39, 49, 66, 103] fun Kr hKr => ?_
    simp only [go_sem, reduceCtorEq, Nat.reduceEqDiff, Nat.reduceBEq, Nat.reduceAdd, Nat.reduceMul, Nat.reduceLeDiff, Nat.reduceSub, Int.reduceToNat, Int.reduceNeg, Nat.reduceLT, Int.reduceMul, Int.reduceSub, Int.reduceAdd, Int.reduceLT, Int.reduceLE, Int.reduceGE, Int.reduceGT, Int.reduceDiv, Int.reduceMod, Int.reduceEq, Int.reducePow, Nat.reducePow, Nat.reduceDiv, Nat.reduceMod]
    (repeat (refine ⟨by (first | exact True.intro | omega | rfl | (simp; done) | (simp; omega)), ?_⟩)); try (refine hKr _ ?_; clear hKr Kr)
    refine CallK.tup (fun _ => Spec.args (sd2) (by (first | exact ArgsLe.refl | (repeat (first | exact True.intro | refine And.intro (by first | exact AvLe.refl | exact AvLe.loose | exact AvLe.nil | exact AvLe.nilT | exact AvLe.slk | (refine AvLe.agg ?_; exact ArgsLe.refl) | (refine AvLe.agg ?_; (repeat (first | exact True.intro | refine And.intro (by first | exact AvLe.refl | exact AvLe.loose | exact AvLe.nil | exact AvLe.nilT | exact AvLe.slk) ?_)))) ?_))))) ?_
    simp only [go_sem, reduceCtorEq, Nat.reduceEqDiff, Nat.reduceBEq, Nat.reduceAdd, Nat.reduceMul, Nat.reduceLeDiff, Nat.reduceSub, Int.reduceToNat, Int.reduceNeg, Nat.reduceLT, Int.reduceMul, Int.reduceSub, Int.reduceAdd, Int.reduceLT, Int.reduceLE, Int.reduceGE, Int.reduceGT, Int.reduceDiv, Int.reduceMod, Int.reduceEq, Int.reducePow, Nat.reducePow, Nat.reduceDiv, Nat.reduceMod]
    (repeat (refine ⟨by (first | exact True.intro | omega | rfl | (simp; done) | (simp; omega)), ?_⟩)); try (refine hKr _ ?_; clear hKr Kr)
    refine T.sregD 120 [0, 1, 2, 4, 6, 7, 8, 9, 10, 11, 12, 13, 14, 15, 16, 17, 18, 19, 39, 49, 66, 103] fun Kr hKr => ?_
    simp only [go_sem, reduceCtorEq, Nat.reduceEqDiff, Nat.reduceBEq, Nat.reduceAdd, Nat.reduceMul, Nat.reduceLeDiff, Nat.reduceSub, Int.reduceToNat, Int.reduceNeg, Nat.reduceLT, Int.reduceMul, Int.reduceSub, Int.reduceAdd, Int.reduceLT, Int.reduceLE, Int.reduceGE, Int.reduceGT, Int.reduceDiv, Int.reduceMod, Int.reduceEq, Int.reducePow, Nat.reducePow, Nat.reduceDiv, Nat.reduceMod]
    (repeat (refine ⟨by (first | exact True.intro | omega | rfl | (simp; done) | (simp; omega)), ?_⟩)); try (refine hKr _ ?_; clear hKr Kr)
    refine CallK.data (fun _ => Spec.args (ss) (by (first | exact ArgsLe.refl | (repeat (first | exact True.intro | refine And.intro (by first | exact AvLe.refl | exact AvLe.loose | exact AvLe.nil | exact AvLe.nilT | exact AvLe.slk | (refine AvLe.agg ?_; exact ArgsLe.refl) | (refine AvLe.agg ?_; (repeat (first | exact True.intro | refine And.intro (by first | exact AvLe.refl | exact AvLe.loose | exact AvLe.nil | exact AvLe.nilT | exact AvLe.slk) ?_)))) ?_))))) rfl ?_
    simp only [go_sem, reduceCtorEq, Nat.reduceEqDiff, Nat.reduceBEq, Nat.reduceAdd, Nat.reduceMul, Nat.reduceLeDiff, Nat.reduceSub, Int.reduceToNat, Int.reduceNeg, Nat.reduceLT, Int.reduceMul, Int.reduceSub, Int.reduceAdd, Int.reduceLT, Int.reduceLE, Int.reduceGE, Int.reduceGT, Int.reduceDiv, Int.reduceMod, Int.reduceEq, Int.reducePow, Nat.reducePow, Nat.reduceDiv, Nat.reduceMod]
    (repeat (refine ⟨by (first | exact True.intro | omega | rfl | (simp; done) | (simp; omega)), ?_⟩)); try (refine hKr _ ?_; clear hKr Kr)
    refine T.ret (Fin.dataD rfl rfl rfl)
  · -- Delete
    subst he
    simp only at *
    refine T.sdraw2D 120 [0, 1, 2, 4, 6, 7, 8, 9, 10, 11, 12, 13, 14, 15, 16, 17, 18, 19, 39, 49, 66, 103] (.take 0 (.take 1 (.two 2 (.one 3 (.one 4 (.one 5 .done))) 3 (.one 2 (.one 4 (.one 5 .done)))))) [9] rfl (by decide +kernel) (by decide +kernel) ?x2 ?h2 (fun Kr hKr => ?all2) ?rest2
    case all2 =>
      simp only [go_sem, reduceCtorEq, Nat.reduceEqDiff, Nat.reduceBEq, Nat.reduceAdd, Nat.reduceMul, Nat.reduceLeDiff, Nat.reduceSub, Int.reduceToNat, Int.reduceNeg, Nat.reduceLT, Int.reduceMul, Int.reduceSub, Int.reduceAdd, Int.reduceLT, Int.reduceLE, Int.reduceGE, Int.reduceGT, Int.reduceDiv, Int.reduceMod, Int.reduceEq, Int.reducePow, Nat.reducePow, Nat.reduceDiv, Nat.reduceMod]
      (repeat (any_goals (first | exact hKr _ (.inl rfl) | exact hKr _ (.inr (by (repeat (first | exact True.intro | refine And.intro (by first | rfl | (simp [look]; done)) ?_)))) | (refine And.intro ?_ ?_) | (first | exact True.intro | omega | rfl | (simp; done) | (simp; omega)))))
      all_goals (first | exact hKr _ (.inl rfl) | exact hKr _ (.inr (by (repeat (first | exact True.intro | refine And.intro (by first | rfl | (simp [look]; done)) ?_)))))
    case rest2 =>
    refine T.seqK fun K2 hK2 => ?_
    refine T.sregD 120 [0, 1, 2, 4, 6, 7, 8, 9, 10, 11, 12, 13, 14, 15, 16, 17, 18, 19, 39, 49, 66, 103] fun Kr hKr => ?_
    simp only [go_sem, reduceCtorEq, Nat.reduceEqDiff, Nat.reduceBEq, Nat.reduceAdd, Nat.reduceMul, Nat.reduceLeDiff, Nat.reduceSub, Int.reduceToNat, Int.reduceNeg, Nat.reduceLT, Int.reduceMul, Int.reduceSub, Int.reduceAdd, Int.reduceLT, Int.reduceLE, Int.reduceGE, Int.reduceGT, Int.reduceDiv, Int.reduceMod, Int.reduceEq, Int.reducePow, Nat.reducePow, Nat.reduceDiv, Nat.reduceMod]
    (repeat (refine ⟨by (first | exact True.intro | omega | rfl | (simp; done) | (simp; omega)), ?_⟩)); try (refine hKr _ ?_; clear hKr Kr)
    refine T.condTD rfl rfl (fun hx => ?_) (fun hx => ?_) <;> try simp at hx
    have hmod := Nat.mod_lt c.toNat (show 0 < L + 1 by omega)
    have hR1 : ((L : Int) + 1) = ((L + 1 : Nat) : Int) := by omega
    have hR2 : ((c.toNat : Int) % ((L + 1 : Nat) : Int)) = ((c.toNat % (L + 1) : Nat) : Int) := rfl
    have hJ := join_del hok (a := A) (n1 := c.toNat % (L + 1)) (n2 := L - c.toNat % (L + 1)) (by omega)
    have hsum : c.toNat % (L + 1) + (L - c.toNat % (L + 1)) = L := by omega
    rw [hsum, hD] at hJ
    have hsub : ((L : Int) - ((c.toNat % (L + 1) : Nat) : Int)) = ((L - c.toNat % (L + 1) : Nat) : Int) := by omega
    generalize c.toNat % (L + 1) = n at *
    refine T.sregD 120 [0, 1, 2, 4, 6, 7, 8, 9, 10, 11, 12, 13, 14, 15, 16, 17, 18, 19, 39, 49, 66, 103] fun Kr hKr => ?_
    simp only [go_sem, reduceCtorEq, Nat.reduceEqDiff, Nat.reduceBEq, Nat.reduceAdd, Nat.reduceMul, Nat.reduceLeDiff, Nat.reduceSub, Int.reduceToNat, Int.reduceNeg, Nat.reduceLT, Int.reduceMul, Int.reduceSub, Int.reduceAdd, Int.reduceLT, Int.reduceLE, Int.reduceGE, Int.reduceGT, Int.reduceDiv, Int.reduceMod, Int.reduceEq, Int.reducePow, Nat.reducePow, Nat.reduceDiv, Nat.reduceMod, hR1, hR2]
    (repeat (refine ⟨by (first | exact True.intro | omega | rfl | (simp; done) | (simp; omega)), ?_⟩)); try (refine hKr _ ?_; clear hKr Kr)
    refine T.drawD 120 [0, 1, 2, 4, 6, 7, 8, 9, 10, 11, 12, 13, 14, 15, 16, 17, 18, 19, 39, 49, 66, 103] (.take 0 (.take 1 (.take 2 (.take 3 (.take 4 (.take 5 (.one 6 (.take 7 (.one 8 .done))))))))) [9] rfl (by decide +kernel) (by decide +kernel) fun Kr hKr => ?_
    simp only [go_sem, reduceCtorEq, Nat.reduceEqDiff, Nat.reduceBEq, Nat.reduceAdd, Nat.reduceMul, Nat.reduceLeDiff, Nat.reduceSub, Int.reduceToNat, Int.reduceNeg, Nat.reduceLT, Int.reduceMul, Int.reduceSub, Int.reduceAdd, Int.reduceLT, Int.reduceLE, Int.reduceGE, Int.reduceGT, Int.reduceDiv, Int.reduceMod, Int.reduceEq, Int.reducePow, Nat.reducePow, Nat.reduceDiv, Nat.reduceMod, hsub]
    (repeat (refine ⟨by (first | exact True.intro | omega | rfl | (simp; done) | (simp; omega)), ?_⟩)); try (refine hKr _ ?_; clear hKr Kr)
    refine hK2 _ ?_
    obtain ⟨d1, j1, j2⟩ := hJ
    have hok1 := (doF_ok (e := ⟨2, (A : Nat), (n : Nat), 0, []⟩) hok (by rw [j1])).1
    rw [j1] at hok1
    simp only at hok1
    have hlen1 := hok1.len
    have hcnt1 := hok1.cnt
    have sd1 := Do_spec d ⟨2, (A : Nat), (n : Nat), 0, []⟩ hok (by simp)
    have sd2 := Do_spec d1 ⟨2, (A : Nat), (L - n : Nat), 0, []⟩ hok1 (by simp)
    rw [j1] at sd1
    rw [j2] at sd2
    have sv := ValidR_spec d1 (by omega) (by omega)
    rw [validB_of hok1] at sv
    have ss := Same_spec D D (by omega) (by omega) (by omega) (by omega)
    rw [decide_eq_true rfl] at ss
    refine T.sregD 120 [0, 1, 2, 4, 6, 7, 8, 9, 10, 11, 12, 13, 14, 15, 16, 17, 18, 19, 39, 49, 66, 103] fun Kr hKr => ?_
    simp only [go_sem, reduceCtorEq, Nat.reduceEqDiff, Nat.reduceBEq, Nat.reduceAdd, Nat.reduceMul, Nat.reduceLeDiff, Nat.reduceSub, Int.reduceToNat, Int.reduceNeg, Nat.reduceLT, Int.reduceMul, Int.reduceSub, Int.reduceAdd, Int.reduceLT, Int.reduceLE, Int.reduceGE, Int.reduceGT, Int.reduceDiv, Int.reduceMod, Int.reduceEq, Int.reducePow, Nat.reducePow, Nat.reduceDiv, Nat.reduceMod]
    (repeat (refine ⟨by (first | exact True.intro | omega | rfl | (simp; done) | (simp; omega)), ?_⟩)); try (refine hKr _ ?_; clear hKr Kr)
    refine CallK.tup (fun _ => Spec.args (sd1) (by (first | exact ArgsLe.refl | (repeat (first | exact True.intro | refine And.intro (by first | exact AvLe.refl | exact AvLe.loose | exact AvLe.nil | exact AvLe.nilT | exact AvLe.slk | (refine AvLe.agg ?_; exact ArgsLe.refl) | (refine AvLe.agg ?_; (repeat (first | exact True.intro | refine And.intro (by first | exact AvLe.refl | exact AvLe.loose | exact AvLe.nil | exact AvLe.nilT | exact AvLe.slk) ?_)))) ?_))))) ?_
    simp only [go_sem, reduceCtorEq, Nat.reduceEqDiff, Nat.reduceBEq, Nat.reduceAdd, Nat.reduceMul, Nat.reduceLeDiff, Nat.reduceSub, Int.reduceToNat, Int.reduceNeg, Nat.reduceLT, Int.reduceMul, Int.reduceSub, Int.reduceAdd, Int.reduceLT, Int.reduceLE, Int.reduceGE, Int.reduceGT, Int.reduceDiv, Int.reduceMod, Int.reduceEq, Int.reducePow, Nat.reducePow, Nat.reduceDiv, Nat.reduceMod]
    (repeat (refine ⟨by (first | exact True.intro | omega | rfl | (simp; done) | (simp; omega)), ?_⟩)); try (refine hKr _ ?_; clear hKr Kr)
    refine T.seqK fun K4 hK4 => ?_
    refine T.sregD 120 [0, 1, 2, 4, 6, 7, 8, 9, 10, 11, 12, 13, 14, 15, 16, 17, 18, 19, 39, 49, 66, 103] fun Kr hKr => ?_
    simp only [go_sem, reduceCtorEq, Nat.reduceEqDiff, Nat.reduceBEq, Nat.reduceAdd, Nat.reduceMul, Nat.reduceLeDiff, Nat.reduceSub, Int.reduceToNat, Int.reduceNeg, Nat.reduceLT, Int.reduceMul, Int.reduceSub, Int.reduceAdd, Int.reduceLT, Int.reduceLE, Int.reduceGE, Int.reduceGT, Int.reduceDiv, Int.reduceMod, Int.reduceEq, Int.reducePow, Nat.reducePow, Nat.reduceDiv, Nat.reduceMod]
    (repeat (refine ⟨by (first | exact True.intro | omega | rfl | (simp; done) | (simp; omega)), ?_⟩)); try (refine hKr _ ?_; clear hKr Kr)
    refine CallK.data (fun _ => Spec.args (sv) (by (first | exact ArgsLe.refl | (repeat (first | exact True.intro | refine And.intro (by first | exact AvLe.refl | exact AvLe.loose | exact AvLe.nil | exact AvLe.nilT | exact AvLe.slk | (refine AvLe.agg ?_; exact ArgsLe.refl) | (refine AvLe.agg ?_; (repeat (first | exact True.intro | refine And.intro (by first | exact AvLe.refl | exact AvLe.loose | exact AvLe.nil | exact AvLe.nilT | exact AvLe.slk) ?_)))) ?_))))) rfl ?_
    simp only [go_sem, reduceCtorEq, Nat.reduceEqDiff, Nat.reduceBEq, Nat.reduceAdd, Nat.reduceMul, Nat.reduceLeDiff, Nat.reduceSub, Int.reduceToNat, Int.reduceNeg, Nat.reduceLT, Int.reduceMul, Int.reduceSub, Int.reduceAdd, Int.reduceLT, Int.reduceLE, Int.reduceGE, Int.reduceGT, Int.reduceDiv, Int.reduceMod, Int.reduceEq, Int.reducePow, Nat.reducePow, Nat.reduceDiv, Nat.reduceMod, cond_or]
    (repeat (refine ⟨by (first | exact True.intro | omega | rfl | (simp; done) | (simp; omega)), ?_⟩)); try (refine hKr _ ?_; clear hKr Kr)
    refine T.condTD rfl rfl (fun hx => ?_) (fun hx => ?_) <;> try simp at hx
    refine T.skip ?_
    refine hK4 _ ?_
    refine T.sregD 120 [0, 1, 2, 4, 6, 7, 8, 9, 10, 11, 12, 13, 14, 15, 16, 17, 18, 19, 39, 49, 66, 103] fun Kr hKr => ?_
    simp only [go_sem, reduceCtorEq, Nat.reduceEqDiff, Nat.reduceBEq, Nat.reduceAdd, Nat.reduceMul, Nat.reduceLeDiff, Nat.reduceSub, Int.reduceToNat, Int.reduceNeg, Nat.reduceLT, Int.reduceMul, Int.reduceSub, Int.reduceAdd, Int.reduceLT, Int.reduceLE, Int.reduceGE, Int.reduceGT, Int.reduceDiv, Int.reduceMod, Int.reduceEq, Int.reducePow, Nat.reducePow, Nat.reduceDiv, Nat.reduceMod]
    (repeat (refine ⟨by (first | exact True.intro | omega | rfl | (simp; done) | (simp; omega)), ?_⟩)); try (refine hKr _ ?_; clear hKr Kr)
    refine CallK.tup (fun _ => Spec.args (sd2) (by (first | exact ArgsLe.refl | (repeat (first | exact True.intro | refine And.intro (by first | exact AvLe.refl | exact AvLe.loose | exact AvLe.nil | exact AvLe.nilT | exact AvLe.slk | (refine AvLe.agg ?_; exact ArgsLe.refl) | (refine AvLe.agg ?_; (repeat (first | exact True.intro | refine And.intro (by first | exact AvLe.refl | exact AvLe.loose | exact AvLe.nil | exact AvLe.nilT | exact AvLe.slk) ?_)))) ?_))))) ?_
    simp only [go_sem, reduceCtorEq, Nat.reduceEqDiff, Nat.reduceBEq, Nat.reduceAdd, Nat.reduceMul, Nat.reduceLeDiff, Nat.reduceSub, Int.reduceToNat, Int.reduceNeg, Nat.reduceLT, Int.reduceMul, Int.reduceSub, Int.reduceAdd, Int.reduceLT, Int.reduceLE, Int.reduceGE, Int.reduceGT, Int.reduceDiv, Int.reduceMod, Int.reduceEq, Int.reducePow, Nat.reducePow, Nat.reduceDiv, Nat.reduceMod]
    (repeat (refine ⟨by (first | exact True.intro | omega | rfl | (simp; done) | (simp; omega)), ?_⟩)); try (refine hKr _ ?_; clear hKr Kr)
    refine T.sregD 120 [0, 1, 2, 4, 6, 7, 8, 9, 10, 11, 12, 13, 14, 15, 16, 17, 18, 19, 39, 49, 66, 103] fun Kr hKr => ?_
    simp only [go_sem, reduceCtorEq, Nat.reduceEqDiff, Nat.reduceBEq, Nat.reduceAdd, Nat.reduceMul, Nat.reduceLeDiff, Nat.reduceSub, Int.reduceToNat, Int.reduceNeg, Nat.reduceLT, Int.reduceMul, Int.reduceSub, Int.reduceAdd, Int.reduceLT, Int.reduceLE, Int.reduceGE, Int.reduceGT, Int.reduceDiv, Int.reduceMod, Int.reduceEq, Int.reducePow, Nat.reducePow, Nat.reduceDiv, Nat.reduceMod]
    (repeat (refine ⟨by (first | exact True.intro | omega | rfl | (simp; done) | (simp; omega)), ?_⟩)); try (refine hKr _ ?_; clear hKr Kr)
    refine CallK.data (fun _ => Spec.args (ss) (by (first | exact ArgsLe.refl | (repeat (first | exact True.intro | refine And.intro (by first | exact AvLe.refl | exact AvLe.loose | exact AvLe.nil | exact AvLe.nilT | exact AvLe.slk | (refine AvLe.agg ?_; exact ArgsLe.refl) | (refine AvLe.agg ?_; (repeat (first | exact True.intro | refine And.intro (by first | exact AvLe.refl | exact AvLe.loose | exact AvLe.nil | exact AvLe.nilT | exact AvLe.slk) ?_)))) ?_))))) rfl ?_
    simp only [go_sem, reduceCtorEq, Nat.reduceEqDiff, Nat.reduceBEq, Nat.reduceAdd, Nat.reduceMul, Nat.reduceLeDiff, Nat.reduceSub, Int.reduceToNat, Int.reduceNeg, Nat.reduceLT, Int.reduceMul, Int.reduceSub, Int.reduceAdd, Int.reduceLT, Int.reduceLE, Int.reduceGE, Int.reduceGT, Int.reduceDiv, Int.reduceMod, Int.reduceEq, Int.reducePow, Nat.reducePow, Nat.reduceDiv, Nat.reduceMod]
    (repeat (refine ⟨by (first | exact True.intro | omega | rfl | (simp; done) | (simp; omega)), ?_⟩)); try (refine hKr _ ?_; clear hKr Kr)
    refine T.ret (Fin.dataD rfl rfl rfl)
end Go.Proofs
