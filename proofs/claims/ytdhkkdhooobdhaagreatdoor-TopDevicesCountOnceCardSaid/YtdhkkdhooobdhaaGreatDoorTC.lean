/- TopDevicesCountOnce. -/
import Derived.Test.YtdhkkdhooobdhaaGreatDoorTB
set_option linter.unusedVariables false
set_option linter.unusedSimpArgs false
namespace Go.Proofs
open Go Go.Ideal
set_option maxRecDepth 8000
set_option maxHeartbeats 4000000

/-- The cells of a team. -/
structure Cells3 (t : List Usr) (TL : List AV) : Prop where
  len : TL.length = 30
  all : TL.all AV.data0 = true
  sto : TL.all AV.sto = true
  nm : TL.flatMap AV.nm0 = []
  any : ∀ k, TL.any (AV.names0 k) = false
  kill : ∀ k, TL.map (AV.kill0 k) = TL
  frz : ∀ k sz xs, TL.map (frz0 k sz xs) = TL
  at_ : ∀ i, i < 3 → List.take 10 (List.drop (i * 10) TL) = usrL (t.getD i default)
theorem team_cells {t : List Usr} (h : TeamOk t) : Cells3 t (t.flatMap usrL) := by
  obtain ⟨ar, ao, a0, a1, a2, a3, a4, a5, a6, a7, br, bo, b0, b1, b2, b3, b4, b5, b6, b7, cr, co, c0, c1, c2, c3, c4, c5, c6, c7, rfl⟩ := team_lit h
  refine ⟨rfl, rfl, rfl, rfl, fun k => rfl, fun k => rfl, fun k sz xs => rfl, fun i hi => ?_⟩
  rcases (by omega : i = 0 ∨ i = 1 ∨ i = 2) with rfl | rfl | rfl <;> rfl
def gA (OP : List Ord) (wd : List UInt8) (ep : Int) (x : Rec) : Int := if (bif (x.w == wd) then !meantB OP x else false) = true then valF x ep else 0
def gB (OP : List Ord) (ar : List Rec) (wd : List UInt8) (ep : Int) (x : Rec) : Int := if (bif (bif (x.w == wd) then !decide (x ∈ ar) else false) then !meantB OP x else false) = true then valF x ep else 0
theorem S_gA (OP : List Ord) (wd : List UInt8) (ep : Int) : ∀ l : List Rec, S (gA OP wd ep) l = S (cntF wd ep) (l.filter fun x => !meantB OP x)
  | [] => rfl
  | x :: l => by
    have hx : gA OP wd ep x = if (bif (x.w == wd) then !meantB OP x else false) = true then valF x ep else 0 := rfl
    have hc : cntF wd ep x = if x.w = wd then valF x ep else 0 := rfl
    rw [S_cons, S_gA OP wd ep l, hx]
    cases hm : meantB OP x with
    | true =>
      rw [List.filter_cons_of_neg (by simp [hm])]
      cases x.w == wd <;> simp
    | false =>
      rw [List.filter_cons_of_pos (by simp [hm]), S_cons, hc]
      by_cases hw : x.w = wd
      · rw [if_pos hw, if_pos (by simp [hw])]
      · rw [if_neg hw, if_neg (by simp [hw])]
theorem S_gB (OP : List Ord) (ar : List Rec) (wd : List UInt8) (ep : Int) : ∀ l : List Rec, S (gB OP ar wd ep) l = S (cntF wd ep) (l.filter fun x => !decide (x ∈ ar) && !meantB OP x)
  | [] => rfl
  | x :: l => by
    have hx : gB OP ar wd ep x = if (bif (bif (x.w == wd) then !decide (x ∈ ar) else false) then !meantB OP x else false) = true then valF x ep else 0 := rfl
    have hc : cntF wd ep x = if x.w = wd then valF x ep else 0 := rfl
    rw [S_cons, S_gB OP ar wd ep l, hx]
    by_cases hp : (!decide (x ∈ ar) && !meantB OP x) = true
    · rw [List.filter_cons_of_pos (p := fun x => !decide (x ∈ ar) && !meantB OP x) hp, S_cons, hc]
      rw [Bool.and_eq_true] at hp
      rw [hp.1, hp.2]
      by_cases hw : x.w = wd
      · rw [if_pos hw, if_pos (by simp [hw])]
      · rw [if_neg hw, if_neg (by simp [hw])]
    · rw [List.filter_cons_of_neg (p := fun x => !decide (x ∈ ar) && !meantB OP x) hp, if_neg, Int.zero_add]
      intro h
      apply hp
      rw [cond_and, cond_and, Bool.and_eq_true, Bool.and_eq_true] at h
      rw [Bool.and_eq_true]; exact ⟨h.1.2, h.2⟩
theorem mem_nextT {α : Type} [DecidableEq α] [Inhabited α] {l : List α} {j : Nat} (h : j < l.length) (r : α) : (bif decide (r ∈ l.take j) then true else decide (l.getD j default = r)) = decide (r ∈ l.take (j + 1)) := by
  rw [cond_or, Bool.eq_iff_iff, Bool.or_eq_true, decide_eq_true_eq, decide_eq_true_eq, decide_eq_true_eq, take_succ_d h, List.mem_append, List.mem_singleton]
  constructor
  · rintro (h | h)
    · exact .inl h
    · exact .inr h.symm
  · rintro (h | h)
    · exact .inl h
    · exact .inr h.symm
theorem S_bound {f : Rec → Int} : ∀ l : List Rec, (∀ x ∈ l, 0 ≤ f x ∧ f x ≤ 1000) → 0 ≤ S f l ∧ S f l ≤ 1000 * l.length
  | [], _ => by simp [S]
  | r :: l, h => by
    have h1 := S_bound l fun x hx => h x (by simp [hx])
    have h2 := h r (by simp)
    rw [S_cons]; simp only [List.length_cons]; omega
theorem gA_range (OP : List Ord) (wd : List UInt8) (ep : Int) {x : Rec} (h : RightR x) : 0 ≤ gA OP wd ep x ∧ gA OP wd ep x ≤ 1000 := by
  have := valF_range h ep
  unfold gA; split <;> omega
theorem gB_range (OP : List Ord) (ar : List Rec) (wd : List UInt8) (ep : Int) {x : Rec} (h : RightR x) : 0 ≤ gB OP ar wd ep x ∧ gB OP ar wd ep x ≤ 1000 := by
  have := valF_range h ep
  unfold gB; split <;> omega
theorem once_law (l : List RawT) (hl : ∀ r ∈ l, OkRawT r) (x y z : Int) (hx : 0 ≤ x ∧ x < 256) (hy : 0 ≤ y ∧ y < 256) (hz : 0 ≤ z ∧ z < 256) : Ideal.Spec Tryz.prog 3 [.sl false 8 (rawTs l), .agg [.int .u8 x, .int .u8 y, .int .u8 z]] (.bool true) none := by
  have q0 := sanity27_spec
  have q1 := Made26_spec l hl
  obtain ⟨k, hk, ht⟩ := TInv.made' false l (by simp) 20 (by omega)
  have hT := ht.teamOk (by omega)
  obtain ⟨i, hi3, hi⟩ : ∃ i : Nat, i < 3 ∧ x % 3 = i := ⟨(x % 3).toNat, by omega, by omega⟩
  obtain ⟨j, hj3, hj⟩ : ∃ j : Nat, j < 3 ∧ y % 3 = j := ⟨(y % 3).toNat, by omega, by omega⟩
  have r0 : remv x 3 = i := by rw [remv_nn hx.1, hi]
  have r1 : remv y 3 = j := by rw [remv_nn hy.1, hj]
  have r2 : remv z 20 = z % 20 := remv_nn hz.1
  obtain ⟨u, g1, g2, g3, vu, hS⟩ := once_plain ht (by omega) hi3 hj3
  clear ht
  have hC := team_cells hT
  have va := hT.val i hi3
  have vb := hT.val j hj3
  have ca := hC.at_ i hi3
  have cb := hC.at_ j hj3
  have t1 := hC.len
  have t2 := hC.all
  have t3 := hC.sto
  have t4 := hC.nm
  have t5 := hC.any
  have t6 := hC.kill
  have t7 := hC.frz
  clear hC hT
  simp only [teamA] at q1
  generalize (madeN l 20).flatMap usrL = TL at *
  generalize (madeN l 20).getD i default = a at *
  generalize (madeN l 20).getD j default = b at *
  obtain ⟨ar, ao, a0, a1, a2, a3, a4, a5, a6, a7, rfl⟩ := usr_lit va.l
  obtain ⟨br, bo, b0, b1, b2, b3, b4, b5, b6, b7, rfl⟩ := usr_lit vb.l
  obtain ⟨mr, mo, m0, m1, m2, m3, m4, m5, m6, m7, rfl⟩ := usr_lit vu.l
  simp only [usrL, intsOf_cons, intsOf_nil] at ca cb
  have e1 := Merge_spec _ _ va.ok vb.ok
  have e2 := Merge_spec _ _ vb.ok va.ok
  have e3 := Merge_spec _ _ vu.ok vb.ok
  rw [g1] at e1
  rw [g2] at e2
  rw [g3] at e3
  have e4 := Same_spec _ vu.l (by have := vu.rl; omega) (by have := vu.ol; omega)
  have hcu := fun wd => CountL_spec _ vu.l (fun x hx => (vu.rr x hx).1) (by have := vu.rl; omega) wd (z % 20) (by omega)
  have hOPr : ∀ o ∈ ao ++ bo, RightO o := fun o ho => (List.mem_append.1 ho).elim (fun h => (va.oo o h).1) (fun h => (vb.oo o h).1)
  have hOPl : (ao ++ bo).length ≤ 400 := by
    have h1 := va.ol
    have h2 := vb.ol
    simp only at h1 h2
    rw [List.length_append]; omega
  have hra : ∀ r ∈ ar, RightR r := fun r h => (va.rr r h).1
  have hrb : ∀ r ∈ br, RightR r := fun r h => (vb.rr r h).1
  have nla : ar.length ≤ 200 := va.rl
  have nlb : br.length ≤ 200 := vb.rl
  have hru : ∀ r ∈ mr, RightR r := fun r h => (vu.rr r h).1
  simp only [usrA, intsOf_cons, intsOf_nil] at e1 e2 e3 e4 hcu hS
  have x2 : ordsOf ao ++ ordsOf bo = ordsOf (ao ++ bo) := (ordsOf_app ao bo).symm
  have y2 : ao.length + bo.length = (ao ++ bo).length := by rw [List.length_append]
  clear va vb vu g1 g2 g3
  have hib : i * 10 + 10 ≤ 30 := by omega
  have hjb : j * 10 + 10 ≤ 30 := by omega
  refine Ideal.Spec.of_TD (n := 200) (fn := Tryz.f3) rfl rfl rfl rfl rfl rfl rfl fun w ok => ?_
  refine T.sregD 200 [0, 1, 3, 4, 5, 6, 7, 8, 9, 10, 11, 12, 13, 14, 15, 16, 17, 18, 19, 20, 21, 22, 23, 53, 55, 80, 94, 104, 124, 138, 145, 183, 198] fun Kr hKr => ?_
  simp only [go_sem]
  (repeat (refine ⟨by (first | exact True.intro | omega | rfl | (simp; done) | (simp; omega)), ?_⟩)); try (refine hKr _ ?_; clear hKr Kr)
  refine T.sregD 200 [0, 1, 3, 4, 5, 6, 7, 8, 9, 10, 11, 12, 13, 14, 15, 16, 17, 18, 19, 20, 21, 22, 23, 53, 55, 80, 94, 104, 124, 138, 145, 183, 198] fun Kr hKr => ?_
  simp only [go_sem]
  (repeat (refine ⟨by (first | exact True.intro | omega | rfl | (simp; done) | (simp; omega)), ?_⟩)); try (refine hKr _ ?_; clear hKr Kr)
  refine CallK.data (fun _ => Spec.args (q0) (by (first | exact ArgsLe.refl | (repeat (first | exact True.intro | refine And.intro (by first | exact AvLe.refl | exact AvLe.loose | exact AvLe.nil | exact AvLe.nilT | exact AvLe.slk | (refine AvLe.agg ?_; exact ArgsLe.refl) | (refine AvLe.agg ?_; (repeat (first | exact True.intro | refine And.intro (by first | exact AvLe.refl | exact AvLe.loose | exact AvLe.nil | exact AvLe.nilT | exact AvLe.slk) ?_)))) ?_))))) rfl ?_
  simp only [go_sem]
  (repeat (refine ⟨by (first | exact True.intro | omega | rfl | (simp; done) | (simp; omega)), ?_⟩)); try (refine hKr _ ?_; clear hKr Kr)
  refine T.sregD 200 [0, 1, 3, 4, 5, 6, 7, 8, 9, 10, 11, 12, 13, 14, 15, 16, 17, 18, 19, 20, 21, 22, 23, 53, 55, 80, 94, 104, 124, 138, 145, 183, 198] fun Kr hKr => ?_
  simp only [go_sem, t1, t2, t3, t4, t5, t6, t7]
  (repeat (refine ⟨by (first | exact True.intro | omega | rfl | (simp; done) | (simp; omega)), ?_⟩)); try (refine hKr _ ?_; clear hKr Kr)
  refine CallK.data (fun _ => Spec.args (q1) (by (first | exact ArgsLe.refl | (repeat (first | exact True.intro | refine And.intro (by first | exact AvLe.refl | exact AvLe.loose | exact AvLe.nil | exact AvLe.nilT | exact AvLe.slk | (refine AvLe.agg ?_; exact ArgsLe.refl) | (refine AvLe.agg ?_; (repeat (first | exact True.intro | refine And.intro (by first | exact AvLe.refl | exact AvLe.loose | exact AvLe.nil | exact AvLe.nilT | exact AvLe.slk) ?_)))) ?_))))) rfl ?_
  simp only [go_sem, t1, t2, t3, t4, t5, t6, t7]
  (repeat (refine ⟨by (first | exact True.intro | omega | rfl | (simp; done) | (simp; omega)), ?_⟩)); try (refine hKr _ ?_; clear hKr Kr)
  refine T.sdraw2D 200 [0, 1, 3, 4, 5, 6, 7, 8, 9, 10, 11, 12, 13, 14, 15, 16, 17, 18, 19, 20, 21, 22, 23, 53, 55, 80, 94, 104, 124, 138, 145, 183, 198] (.take 0 (.take 1 (.take 2 (.take 3 (.take 4 (.take 5 (.take 6 (.take 7 (.take 8 (.take 9 (.take 10 (.take 11 (.two 12 (.one 13 (.one 14 (.one 15 .done))) 13 (.one 12 (.one 14 (.one 15 .done)))))))))))))))) [3, 6] rfl (by decide +kernel) (by decide +kernel) ?x1 ?h1 (fun Kr hKr => ?all1) ?rest1
  case all1 =>
    simp only [go_sem, r0, r1, t1, t2, t3, t4, t5, t6, t7, ca, cb]
    (repeat (any_goals (first | exact hKr _ (.inl rfl) | exact hKr _ (.inr (by (repeat (first | exact True.intro | refine And.intro (by first | rfl | (simp [look]; done)) ?_)))) | (refine And.intro ?_ ?_) | (first | exact True.intro | omega | rfl | (simp; done) | (simp; omega)))))
    all_goals (first | exact hKr _ (.inl rfl) | exact hKr _ (.inr (by (repeat (first | exact True.intro | refine And.intro (by first | rfl | (simp [look]; done)) ?_)))))
  case rest1 =>
  refine T.sregD 200 [0, 1, 3, 4, 5, 6, 7, 8, 9, 10, 11, 12, 13, 14, 15, 16, 17, 18, 19, 20, 21, 22, 23, 53, 55, 80, 94, 104, 124, 138, 145, 183, 198] fun Kr hKr => ?_
  simp only [go_sem]
  (repeat (refine ⟨by (first | exact True.intro | omega | rfl | (simp; done) | (simp; omega)), ?_⟩)); try (refine hKr _ ?_; clear hKr Kr)
  refine CallK.tup (fun _ => Spec.args (e1) (by (first | exact ArgsLe.refl | (repeat (first | exact True.intro | refine And.intro (by first | exact AvLe.refl | exact AvLe.loose | exact AvLe.nil | exact AvLe.nilT | exact AvLe.slk | (refine AvLe.agg ?_; exact ArgsLe.refl) | (refine AvLe.agg ?_; (repeat (first | exact True.intro | refine And.intro (by first | exact AvLe.refl | exact AvLe.loose | exact AvLe.nil | exact AvLe.nilT | exact AvLe.slk) ?_)))) ?_))))) ?_
  simp only [go_sem]
  (repeat (refine ⟨by (first | exact True.intro | omega | rfl | (simp; done) | (simp; omega)), ?_⟩)); try (refine hKr _ ?_; clear hKr Kr)
  refine T.sregD 200 [0, 1, 3, 4, 5, 6, 7, 8, 9, 10, 11, 12, 13, 14, 15, 16, 17, 18, 19, 20, 21, 22, 23, 53, 55, 80, 94, 104, 124, 138, 145, 183, 198] fun Kr hKr => ?_
  simp only [go_sem]
  (repeat (refine ⟨by (first | exact True.intro | omega | rfl | (simp; done) | (simp; omega)), ?_⟩)); try (refine hKr _ ?_; clear hKr Kr)
  refine CallK.tup (fun _ => Spec.args (e2) (by (first | exact ArgsLe.refl | (repeat (first | exact True.intro | refine And.intro (by first | exact AvLe.refl | exact AvLe.loose | exact AvLe.nil | exact AvLe.nilT | exact AvLe.slk | (refine AvLe.agg ?_; exact ArgsLe.refl) | (refine AvLe.agg ?_; (repeat (first | exact True.intro | refine And.intro (by first | exact AvLe.refl | exact AvLe.loose | exact AvLe.nil | exact AvLe.nilT | exact AvLe.slk) ?_)))) ?_))))) ?_
  simp only [go_sem]
  (repeat (refine ⟨by (first | exact True.intro | omega | rfl | (simp; done) | (simp; omega)), ?_⟩)); try (refine hKr _ ?_; clear hKr Kr)
  refine T.seqK fun K1 hK1 => ?_
  refine T.sregD 200 [0, 1, 3, 4, 5, 6, 7, 8, 9, 10, 11, 12, 13, 14, 15, 16, 17, 18, 19, 20, 21, 22, 23, 53, 55, 80, 94, 104, 124, 138, 145, 183, 198] fun Kr hKr => ?_
  simp only [go_sem]
  (repeat (refine ⟨by (first | exact True.intro | omega | rfl | (simp; done) | (simp; omega)), ?_⟩)); try (refine hKr _ ?_; clear hKr Kr)
  refine T.condTD rfl rfl (fun hb => ?_) (fun hb => ?_) <;> try simp at hb
  refine T.skip ?_
  refine hK1 _ ?_
  refine T.seqK fun K2 hK2 => ?_
  refine T.sregD 200 [0, 1, 3, 4, 5, 6, 7, 8, 9, 10, 11, 12, 13, 14, 15, 16, 17, 18, 19, 20, 21, 22, 23, 53, 55, 80, 94, 104, 124, 138, 145, 183, 198] fun Kr hKr => ?_
  simp only [go_sem]
  (repeat (refine ⟨by (first | exact True.intro | omega | rfl | (simp; done) | (simp; omega)), ?_⟩)); try (refine hKr _ ?_; clear hKr Kr)
  refine T.condTD rfl rfl (fun hb => ?_) (fun hb => ?_) <;> try simp at hb
  refine T.skip ?_
  refine hK2 _ ?_
  refine T.sregD 200 [0, 1, 3, 4, 5, 6, 7, 8, 9, 10, 11, 12, 13, 14, 15, 16, 17, 18, 19, 20, 21, 22, 23, 53, 55, 80, 94, 104, 124, 138, 145, 183, 198] fun Kr hKr => ?_
  simp only [go_sem]
  (repeat (refine ⟨by (first | exact True.intro | omega | rfl | (simp; done) | (simp; omega)), ?_⟩)); try (refine hKr _ ?_; clear hKr Kr)
  refine CallK.tup (fun _ => Spec.args (e3) (by (first | exact ArgsLe.refl | (repeat (first | exact True.intro | refine And.intro (by first | exact AvLe.refl | exact AvLe.loose | exact AvLe.nil | exact AvLe.nilT | exact AvLe.slk | (refine AvLe.agg ?_; exact ArgsLe.refl) | (refine AvLe.agg ?_; (repeat (first | exact True.intro | refine And.intro (by first | exact AvLe.refl | exact AvLe.loose | exact AvLe.nil | exact AvLe.nilT | exact AvLe.slk) ?_)))) ?_))))) ?_
  simp only [go_sem]
  (repeat (refine ⟨by (first | exact True.intro | omega | rfl | (simp; done) | (simp; omega)), ?_⟩)); try (refine hKr _ ?_; clear hKr Kr)
  refine T.seqK fun K3 hK3 => ?_
  refine T.sregD 200 [0, 1, 3, 4, 5, 6, 7, 8, 9, 10, 11, 12, 13, 14, 15, 16, 17, 18, 19, 20, 21, 22, 23, 53, 55, 80, 94, 104, 124, 138, 145, 183, 198] fun Kr hKr => ?_
  simp only [go_sem]
  (repeat (refine ⟨by (first | exact True.intro | omega | rfl | (simp; done) | (simp; omega)), ?_⟩)); try (refine hKr _ ?_; clear hKr Kr)
  refine CallK.data (fun _ => Spec.args (e4) (by (first | exact ArgsLe.refl | (repeat (first | exact True.intro | refine And.intro (by first | exact AvLe.refl | exact AvLe.loose | exact AvLe.nil | exact AvLe.nilT | exact AvLe.slk | (refine AvLe.agg ?_; exact ArgsLe.refl) | (refine AvLe.agg ?_; (repeat (first | exact True.intro | refine And.intro (by first | exact AvLe.refl | exact AvLe.loose | exact AvLe.nil | exact AvLe.nilT | exact AvLe.slk) ?_)))) ?_))))) rfl ?_
  simp only [go_sem]
  (repeat (refine ⟨by (first | exact True.intro | omega | rfl | (simp; done) | (simp; omega)), ?_⟩)); try (refine hKr _ ?_; clear hKr Kr)
  refine CallK.data (fun _ => Spec.args (e4) (by (first | exact ArgsLe.refl | (repeat (first | exact True.intro | refine And.intro (by first | exact AvLe.refl | exact AvLe.loose | exact AvLe.nil | exact AvLe.nilT | exact AvLe.slk | (refine AvLe.agg ?_; exact ArgsLe.refl) | (refine AvLe.agg ?_; (repeat (first | exact True.intro | refine And.intro (by first | exact AvLe.refl | exact AvLe.loose | exact AvLe.nil | exact AvLe.nilT | exact AvLe.slk) ?_)))) ?_))))) rfl ?_
  simp only [go_sem]
  (repeat (refine ⟨by (first | exact True.intro | omega | rfl | (simp; done) | (simp; omega)), ?_⟩)); try (refine hKr _ ?_; clear hKr Kr)
  refine T.condTD rfl rfl (fun hb => ?_) (fun hb => ?_) <;> try simp at hb
  refine T.skip ?_
  refine hK3 _ ?_
  refine T.sregD 200 [0, 1, 3, 4, 5, 6, 7, 8, 9, 10, 11, 12, 13, 14, 15, 16, 17, 18, 19, 20, 21, 22, 23, 53, 55, 80, 94, 104, 124, 138, 145, 183, 198] fun Kr hKr => ?_
  simp only [go_sem, ordsOf_nil, List.nil_append]
  (repeat (refine ⟨by (first | exact True.intro | omega | rfl | (simp; done) | (simp; omega)), ?_⟩)); try (refine hKr _ ?_; clear hKr Kr)
  refine T.sregD 200 [0, 1, 3, 4, 5, 6, 7, 8, 9, 10, 11, 12, 13, 14, 15, 16, 17, 18, 19, 20, 21, 22, 23, 53, 55, 80, 94, 104, 124, 138, 145, 183, 198] fun Kr hKr => ?_
  simp only [go_sem]
  (repeat (refine ⟨by (first | exact True.intro | omega | rfl | (simp; done) | (simp; omega)), ?_⟩)); try (refine hKr _ ?_; clear hKr Kr)
  rw [x2, y2]
  generalize hOP : ao ++ bo = OP at *
  refine T.weaken (Le.frz 81) ?_
  simp only [go_sem]
  have tO : OP.take OP.length = OP := List.take_length
  refine T.sregD 200 [0, 1, 3, 4, 5, 6, 7, 8, 9, 10, 11, 12, 13, 14, 15, 16, 17, 18, 19, 20, 21, 22, 23, 53, 55, 80, 94, 104, 124, 138, 145, 183, 198] fun Kr hKr => ?_
  simp only [go_sem, r2, tO]
  (repeat (refine ⟨by (first | exact True.intro | omega | rfl | (simp; done) | (simp; omega)), ?_⟩)); try (refine hKr _ ?_; clear hKr Kr)
  refine T.seqK fun K4 hK4 => ?_
  refine T.sregD 200 [0, 1, 3, 4, 5, 6, 7, 8, 9, 10, 11, 12, 13, 14, 15, 16, 17, 18, 19, 20, 21, 22, 23, 53, 55, 80, 94, 104, 124, 138, 145, 183, 198] fun Kr hKr => ?_
  simp only [go_sem, tO]
  (repeat (refine ⟨by (first | exact True.intro | omega | rfl | (simp; done) | (simp; omega)), ?_⟩)); try (refine hKr _ ?_; clear hKr Kr)
  have hep : 0 ≤ z % 20 ∧ z % 20 ≤ 40 := by omega
  generalize z % 20 = ep at *
  refine T.bloop (fun n : Nat => ⟨dense 200 [(5, .bool true), (7, .op 7 0 0), (8, .op 8 0 0), (9, .op 9 0 0), (15, .sl false 7 (ordsOf OP)), (16, .int .i64 ep), (17, .int .i64 n)], [(9, ⟨10, 29, true, [.agg [.sl false 6 (recsOf mr), .sl false 7 (ordsOf mo), .int .i64 m0, .int .i64 m1, .int .i64 m2, .int .i64 m3, .int .i64 m4, .int .i64 m5, .int .i64 m6, .int .i64 m7]]⟩), (8, ⟨10, 29, true, [.agg [.sl false 6 (recsOf br), .sl false 7 (ordsOf bo), .int .i64 b0, .int .i64 b1, .int .i64 b2, .int .i64 b3, .int .i64 b4, .int .i64 b5, .int .i64 b6, .int .i64 b7]]⟩), (7, ⟨10, 29, true, [.agg [.sl false 6 (recsOf ar), .sl false 7 (ordsOf ao), .int .i64 a0, .int .i64 a1, .int .i64 a2, .int .i64 a3, .int .i64 a4, .int .i64 a5, .int .i64 a6, .int .i64 a7]]⟩)]⟩) (fun n => n ≤ 4) (fun n => 4 - n) 0 (by simp) ?_ fun n hn => ?_
  · refine Le.fitS (by (repeat (first | exact DFit.nil | refine DFit.cons (by first | rfl | (simp [slook]; done) | (simp [slook]; omega)) ?_))) (by (repeat (first | exact True.intro | refine And.intro (by first | rfl | (simp [look]; done)) ?_)))
  refine T.seqK fun K5 hK5 => ?_
  refine T.sregD 200 [0, 1, 3, 4, 5, 6, 7, 8, 9, 10, 11, 12, 13, 14, 15, 16, 17, 18, 19, 20, 21, 22, 23, 53, 55, 80, 94, 104, 124, 138, 145, 183, 198] fun Kr hKr => ?_
  simp only [go_sem]
  (repeat (refine ⟨by (first | exact True.intro | omega | rfl | (simp; done) | (simp; omega)), ?_⟩)); try (refine hKr _ ?_; clear hKr Kr)
  refine T.condFD rfl rfl (fun hb => ?_) (fun hb => ?_) <;> simp only [decide_eq_true_eq, decide_eq_false_iff_not] at hb
  · -- no: exit
    refine T.exit ?_
    simp only [if_true]
    refine hK4 _ ?_
    refine T.sregD 200 [0, 1, 3, 4, 5, 6, 7, 8, 9, 10, 11, 12, 13, 14, 15, 16, 17, 18, 19, 20, 21, 22, 23, 53, 55, 80, 94, 104, 124, 138, 145, 183, 198] fun Kr hKr => ?_
    simp only [go_sem]
    (repeat (refine ⟨by (first | exact True.intro | omega | rfl | (simp; done) | (simp; omega)), ?_⟩)); try (refine hKr _ ?_; clear hKr Kr)
    refine T.ret (Fin.dataD rfl rfl rfl)
  refine T.skip ?_
  refine hK5 _ ?_
  refine T.seqK fun K6 hK6 => ?_
  refine T.block ?_
  have sW := Word24_spec (n : Int) (by omega)
  have kU := hcu (wordT n)
  have hs := hS (cntF (wordT n) ep)
  rw [← S_gA, ← S_gB] at hs
  generalize wordT (n : Int) = wd at *
  have hwr : (n : Int) % 256 = n := by omega
  refine T.sregD 200 [0, 1, 3, 4, 5, 6, 7, 8, 9, 10, 11, 12, 13, 14, 15, 16, 17, 18, 19, 20, 21, 22, 23, 53, 55, 80, 94, 104, 124, 138, 145, 183, 198] fun Kr hKr => ?_
  simp only [go_sem, hwr]
  (repeat (refine ⟨by (first | exact True.intro | omega | rfl | (simp; done) | (simp; omega)), ?_⟩)); try (refine hKr _ ?_; clear hKr Kr)
  refine CallK.data (fun _ => Spec.args (sW) (by (first | exact ArgsLe.refl | (repeat (first | exact True.intro | refine And.intro (by first | exact AvLe.refl | exact AvLe.loose | exact AvLe.nil | exact AvLe.nilT | exact AvLe.slk | (refine AvLe.agg ?_; exact ArgsLe.refl) | (refine AvLe.agg ?_; (repeat (first | exact True.intro | refine And.intro (by first | exact AvLe.refl | exact AvLe.loose | exact AvLe.nil | exact AvLe.nilT | exact AvLe.slk) ?_)))) ?_))))) rfl ?_
  simp only [go_sem]
  (repeat (refine ⟨by (first | exact True.intro | omega | rfl | (simp; done) | (simp; omega)), ?_⟩)); try (refine hKr _ ?_; clear hKr Kr)
  refine T.seqK fun K7 hK7 => ?_
  refine T.sregD 200 [0, 1, 3, 4, 5, 6, 7, 8, 9, 10, 11, 12, 13, 14, 15, 16, 17, 18, 19, 20, 21, 22, 23, 53, 55, 80, 94, 104, 124, 138, 145, 183, 198] fun Kr hKr => ?_
  simp only [go_sem]
  (repeat (refine ⟨by (first | exact True.intro | omega | rfl | (simp; done) | (simp; omega)), ?_⟩)); try (refine hKr _ ?_; clear hKr Kr)
  have hbA : ∀ i : Nat, 0 ≤ S (gA OP wd ep) (ar.take i) ∧ S (gA OP wd ep) (ar.take i) ≤ 200000 := fun i => by
    have h := S_bound (f := gA OP wd ep) (ar.take i) fun x hx => gA_range OP wd ep (hra x (List.mem_of_mem_take hx))
    rw [List.length_take] at h; omega
  have hbB : ∀ i : Nat, 0 ≤ S (gB OP ar wd ep) (br.take i) ∧ S (gB OP ar wd ep) (br.take i) ≤ 200000 := fun i => by
    have h := S_bound (f := gB OP ar wd ep) (br.take i) fun x hx => gB_range OP ar wd ep (hrb x (List.mem_of_mem_take hx))
    rw [List.length_take] at h; omega
  have hbb : 0 ≤ S (gA OP wd ep) ar ∧ S (gA OP wd ep) ar ≤ 200000 := by
    have h := hbA ar.length
    rwa [List.take_length] at h
  refine T.bloop (fun i : Nat => ⟨dense 200 [(5, .bool true), (7, .op 7 0 0), (8, .op 8 0 0), (9, .op 9 0 0), (15, .sl false 7 (ordsOf OP)), (16, .int .i64 ep), (17, .int .i64 n), (18, .str wd), (19, .int .i64 (S (gA OP wd ep) (ar.take i))), (20, .int .i64 i)], [(9, ⟨10, 29, true, [.agg [.sl false 6 (recsOf mr), .sl false 7 (ordsOf mo), .int .i64 m0, .int .i64 m1, .int .i64 m2, .int .i64 m3, .int .i64 m4, .int .i64 m5, .int .i64 m6, .int .i64 m7]]⟩), (8, ⟨10, 29, true, [.agg [.sl false 6 (recsOf br), .sl false 7 (ordsOf bo), .int .i64 b0, .int .i64 b1, .int .i64 b2, .int .i64 b3, .int .i64 b4, .int .i64 b5, .int .i64 b6, .int .i64 b7]]⟩), (7, ⟨10, 29, true, [.agg [.sl false 6 (recsOf ar), .sl false 7 (ordsOf ao), .int .i64 a0, .int .i64 a1, .int .i64 a2, .int .i64 a3, .int .i64 a4, .int .i64 a5, .int .i64 a6, .int .i64 a7]]⟩)]⟩) (fun i => i ≤ ar.length) (fun i => ar.length - i) 0 (by simp) ?_ fun i hi => ?_
  · refine Le.fitS (by (repeat (first | exact DFit.nil | refine DFit.cons (by first | rfl | (simp [slook, List.take_zero, S, List.foldr_nil]; done) | (simp [slook, List.take_zero, S, List.foldr_nil]; omega)) ?_))) (by (repeat (first | exact True.intro | refine And.intro (by first | rfl | (simp [look]; done)) ?_)))
  refine T.seqK fun K8 hK8 => ?_
  refine T.sregD 200 [0, 1, 3, 4, 5, 6, 7, 8, 9, 10, 11, 12, 13, 14, 15, 16, 17, 18, 19, 20, 21, 22, 23, 53, 55, 80, 94, 104, 124, 138, 145, 183, 198] fun Kr hKr => ?_
  simp only [go_sem]
  (repeat (refine ⟨by (first | exact True.intro | omega | rfl | (simp; done) | (simp; omega)), ?_⟩)); try (refine hKr _ ?_; clear hKr Kr)
  refine T.condFD rfl rfl (fun hb => ?_) (fun hb => ?_) <;> simp only [decide_eq_true_eq, decide_eq_false_iff_not] at hb
  · -- no: exit
    refine T.exit ?_
    simp only [if_true]
    refine hK7 _ ?_
    have hie : i = ar.length := by omega
    subst hie
    rw [List.take_length]
    refine T.seqK fun K9 hK9 => ?_
    refine T.sregD 200 [0, 1, 3, 4, 5, 6, 7, 8, 9, 10, 11, 12, 13, 14, 15, 16, 17, 18, 19, 20, 21, 22, 23, 53, 55, 80, 94, 104, 124, 138, 145, 183, 198] fun Kr hKr => ?_
    simp only [go_sem]
    (repeat (refine ⟨by (first | exact True.intro | omega | rfl | (simp; done) | (simp; omega)), ?_⟩)); try (refine hKr _ ?_; clear hKr Kr)
    refine T.bloop (fun j : Nat => ⟨dense 200 [(5, .bool true), (7, .op 7 0 0), (8, .op 8 0 0), (9, .op 9 0 0), (15, .sl false 7 (ordsOf OP)), (16, .int .i64 ep), (17, .int .i64 n), (18, .str wd), (19, .int .i64 (S (gA OP wd ep) ar + S (gB OP ar wd ep) (br.take j))), (21, .int .i64 j)], [(9, ⟨10, 29, true, [.agg [.sl false 6 (recsOf mr), .sl false 7 (ordsOf mo), .int .i64 m0, .int .i64 m1, .int .i64 m2, .int .i64 m3, .int .i64 m4, .int .i64 m5, .int .i64 m6, .int .i64 m7]]⟩), (8, ⟨10, 29, true, [.agg [.sl false 6 (recsOf br), .sl false 7 (ordsOf bo), .int .i64 b0, .int .i64 b1, .int .i64 b2, .int .i64 b3, .int .i64 b4, .int .i64 b5, .int .i64 b6, .int .i64 b7]]⟩), (7, ⟨10, 29, true, [.agg [.sl false 6 (recsOf ar), .sl false 7 (ordsOf ao), .int .i64 a0, .int .i64 a1, .int .i64 a2, .int .i64 a3, .int .i64 a4, .int .i64 a5, .int .i64 a6, .int .i64 a7]]⟩)]⟩) (fun j => j ≤ br.length) (fun j => br.length - j) 0 (by simp) ?_ fun j hj => ?_
    · refine Le.fitS (by (repeat (first | exact DFit.nil | refine DFit.cons (by first | rfl | (simp [slook, List.take_zero, S, List.foldr_nil, Int.add_zero]; done) | (simp [slook, List.take_zero, S, List.foldr_nil, Int.add_zero]; omega)) ?_))) (by (repeat (first | exact True.intro | refine And.intro (by first | rfl | (simp [look]; done)) ?_)))
    refine T.seqK fun K10 hK10 => ?_
    refine T.sregD 200 [0, 1, 3, 4, 5, 6, 7, 8, 9, 10, 11, 12, 13, 14, 15, 16, 17, 18, 19, 20, 21, 22, 23, 53, 55, 80, 94, 104, 124, 138, 145, 183, 198] fun Kr hKr => ?_
    simp only [go_sem]
    (repeat (refine ⟨by (first | exact True.intro | omega | rfl | (simp; done) | (simp; omega)), ?_⟩)); try (refine hKr _ ?_; clear hKr Kr)
    refine T.condFD rfl rfl (fun hc => ?_) (fun hc => ?_) <;> simp only [decide_eq_true_eq, decide_eq_false_iff_not] at hc
    · -- no: exit
      refine T.exit ?_
      simp only [if_true]
      refine hK9 _ ?_
      have hje : j = br.length := by omega
      subst hje
      rw [List.take_length]
      rw [hs] at kU
      refine T.sregD 200 [0, 1, 3, 4, 5, 6, 7, 8, 9, 10, 11, 12, 13, 14, 15, 16, 17, 18, 19, 20, 21, 22, 23, 53, 55, 80, 94, 104, 124, 138, 145, 183, 198] fun Kr hKr => ?_
      simp only [go_sem]
      (repeat (refine ⟨by (first | exact True.intro | omega | rfl | (simp; done) | (simp; omega)), ?_⟩)); try (refine hKr _ ?_; clear hKr Kr)
      refine CallK.data (fun _ => Spec.args (kU) (by (first | exact ArgsLe.refl | (repeat (first | exact True.intro | refine And.intro (by first | exact AvLe.refl | exact AvLe.loose | exact AvLe.nil | exact AvLe.nilT | exact AvLe.slk | (refine AvLe.agg ?_; exact ArgsLe.refl) | (refine AvLe.agg ?_; (repeat (first | exact True.intro | refine And.intro (by first | exact AvLe.refl | exact AvLe.loose | exact AvLe.nil | exact AvLe.nilT | exact AvLe.slk) ?_)))) ?_))))) rfl ?_
      simp only [go_sem]
      (repeat (refine ⟨by (first | exact True.intro | omega | rfl | (simp; done) | (simp; omega)), ?_⟩)); try (refine hKr _ ?_; clear hKr Kr)
      refine T.condTD rfl rfl (fun hz => ?_) (fun hz => ?_) <;> try simp at hz
      refine T.skip ?_
      refine hK6 _ ?_
      refine T.regD 200 [0, 1, 3, 4, 5, 6, 7, 8, 9, 10, 11, 12, 13, 14, 15, 16, 17, 18, 19, 20, 21, 22, 23, 53, 55, 80, 94, 104, 124, 138, 145, 183, 198] fun Kr hKr => ?_
      simp only [go_sem]
      (repeat (refine ⟨by (first | exact True.intro | omega | rfl | (simp; done) | (simp; omega)), ?_⟩)); try (refine hKr _ ?_; clear hKr Kr)
      refine ⟨n + 1, ?_, ?_, Le.fitS (by (repeat (first | exact DFit.nil | refine DFit.cons (by first | rfl | (simp [slook]; done) | (simp [slook]; omega)) ?_))) ?_⟩
      · omega
      · omega
      · (repeat (first | exact True.intro | refine And.intro (by first | rfl | (simp [look]; done)) ?_))
    refine T.skip ?_
    refine hK10 _ ?_
    refine T.seqK fun K11 hK11 => ?_
    refine T.block ?_
    refine T.sregD 200 [0, 1, 3, 4, 5, 6, 7, 8, 9, 10, 11, 12, 13, 14, 15, 16, 17, 18, 19, 20, 21, 22, 23, 53, 55, 80, 94, 104, 124, 138, 145, 183, 198] fun Kr hKr => ?_
    simp only [go_sem]
    (repeat (refine ⟨by (first | exact True.intro | omega | rfl | (simp; done) | (simp; omega)), ?_⟩)); try (refine hKr _ ?_; clear hKr Kr)
    refine T.seqK fun K12 hK12 => ?_
    refine T.sregD 200 [0, 1, 3, 4, 5, 6, 7, 8, 9, 10, 11, 12, 13, 14, 15, 16, 17, 18, 19, 20, 21, 22, 23, 53, 55, 80, 94, 104, 124, 138, 145, 183, 198] fun Kr hKr => ?_
    simp only [go_sem]
    (repeat (refine ⟨by (first | exact True.intro | omega | rfl | (simp; done) | (simp; omega)), ?_⟩)); try (refine hKr _ ?_; clear hKr Kr)
    refine T.bloop (fun k : Nat => ⟨dense 200 [(5, .bool true), (7, .op 7 0 0), (8, .op 8 0 0), (9, .op 9 0 0), (15, .sl false 7 (ordsOf OP)), (16, .int .i64 ep), (17, .int .i64 n), (18, .str wd), (19, .int .i64 (S (gA OP wd ep) ar + S (gB OP ar wd ep) (br.take j))), (21, .int .i64 j), (22, .bool (decide (br.getD j default ∈ ar.take k))), (23, .int .i64 k)], [(9, ⟨10, 29, true, [.agg [.sl false 6 (recsOf mr), .sl false 7 (ordsOf mo), .int .i64 m0, .int .i64 m1, .int .i64 m2, .int .i64 m3, .int .i64 m4, .int .i64 m5, .int .i64 m6, .int .i64 m7]]⟩), (8, ⟨10, 29, true, [.agg [.sl false 6 (recsOf br), .sl false 7 (ordsOf bo), .int .i64 b0, .int .i64 b1, .int .i64 b2, .int .i64 b3, .int .i64 b4, .int .i64 b5, .int .i64 b6, .int .i64 b7]]⟩), (7, ⟨10, 29, true, [.agg [.sl false 6 (recsOf ar), .sl false 7 (ordsOf ao), .int .i64 a0, .int .i64 a1, .int .i64 a2, .int .i64 a3, .int .i64 a4, .int .i64 a5, .int .i64 a6, .int .i64 a7]]⟩)]⟩) (fun k => k ≤ ar.length) (fun k => ar.length - k) 0 (by simp) ?_ fun k hk => ?_
    · refine Le.fitS (by (repeat (first | exact DFit.nil | refine DFit.cons (by first | rfl | (simp [slook, List.take_zero, List.not_mem_nil, decide_false]; done) | (simp [slook, List.take_zero, List.not_mem_nil, decide_false]; omega)) ?_))) (by (repeat (first | exact True.intro | refine And.intro (by first | rfl | (simp [look]; done)) ?_)))
    have hcn : j < br.length := by omega
    have hin : br.getD j default ∈ br := by simp [List.getD, hcn]
    refine T.seqK fun K13 hK13 => ?_
    refine T.sregD 200 [0, 1, 3, 4, 5, 6, 7, 8, 9, 10, 11, 12, 13, 14, 15, 16, 17, 18, 19, 20, 21, 22, 23, 53, 55, 80, 94, 104, 124, 138, 145, 183, 198] fun Kr hKr => ?_
    simp only [go_sem]
    (repeat (refine ⟨by (first | exact True.intro | omega | rfl | (simp; done) | (simp; omega)), ?_⟩)); try (refine hKr _ ?_; clear hKr Kr)
    refine T.condFD rfl rfl (fun hd => ?_) (fun hd => ?_) <;> simp only [decide_eq_true_eq, decide_eq_false_iff_not] at hd
    · -- no: exit
      refine T.exit ?_
      simp only [if_true]
      refine hK12 _ ?_
      have hke : k = ar.length := by omega
      subst hke
      rw [List.take_length]
      have hst := S_take (gB OP ar wd ep) hcn
      have hgx : gB OP ar wd ep (br.getD j default) = if (bif (bif ((br.getD j default).w == wd) then !decide (br.getD j default ∈ ar) else false) then !meantB OP (br.getD j default) else false) = true then valF (br.getD j default) ep else 0 := rfl
      have s1 := Meant_spec OP (br.getD j default) (hOPr) (hrb _ hin) (by omega)
      have s2 := Value_spec (br.getD j default) ep (hrb _ hin) (by omega)
      have hvr := valF_range (hrb _ hin) ep
      have hgr := hbB j
      generalize decide (br.getD j default ∈ ar) = bf at *
      refine T.sregD 200 [0, 1, 3, 4, 5, 6, 7, 8, 9, 10, 11, 12, 13, 14, 15, 16, 17, 18, 19, 20, 21, 22, 23, 53, 55, 80, 94, 104, 124, 138, 145, 183, 198] fun Kr hKr => ?_
      simp only [go_sem, hcn]
      (repeat (refine ⟨by (first | exact True.intro | omega | rfl | (simp; done) | (simp; omega)), ?_⟩)); try (refine hKr _ ?_; clear hKr Kr)
      refine CallK.data (fun _ => Spec.args (s1) (by (first | exact ArgsLe.refl | (repeat (first | exact True.intro | refine And.intro (by first | exact AvLe.refl | exact AvLe.loose | exact AvLe.nil | exact AvLe.nilT | exact AvLe.slk | (refine AvLe.agg ?_; exact ArgsLe.refl) | (refine AvLe.agg ?_; (repeat (first | exact True.intro | refine And.intro (by first | exact AvLe.refl | exact AvLe.loose | exact AvLe.nil | exact AvLe.nilT | exact AvLe.slk) ?_)))) ?_))))) rfl ?_
      simp only [go_sem, hcn]
      (repeat (refine ⟨by (first | exact True.intro | omega | rfl | (simp; done) | (simp; omega)), ?_⟩)); try (refine hKr _ ?_; clear hKr Kr)
      rw [hgx] at hst
      generalize (bif (bif ((br.getD j default).w == wd) then !bf else false) then !meantB OP (br.getD j default) else false) = c at *
      cases c with
      | true =>
        rw [if_pos rfl] at hst
        have hst2 : S (gA OP wd ep) ar + S (gB OP ar wd ep) (br.take (j + 1)) = S (gA OP wd ep) ar + S (gB OP ar wd ep) (br.take j) + valF (br.getD j default) ep := by rw [hst, Int.add_assoc]
        clear hst
        refine T.condTD rfl rfl (fun hz => ?_) (fun hz => ?_) <;> try simp at hz
        generalize S (gB OP ar wd ep) (br.take j) = s at *
        generalize S (gA OP wd ep) ar = sa at *
        generalize valF (br.getD j default) ep = v at *
        refine T.regD 200 [0, 1, 3, 4, 5, 6, 7, 8, 9, 10, 11, 12, 13, 14, 15, 16, 17, 18, 19, 20, 21, 22, 23, 53, 55, 80, 94, 104, 124, 138, 145, 183, 198] fun Kr hKr => ?_
        simp only [go_sem, hcn]
        (repeat (refine ⟨by (first | exact True.intro | omega | rfl | (simp; done) | (simp; omega)), ?_⟩)); try (refine hKr _ ?_; clear hKr Kr)
        refine CallK.data (fun _ => Spec.args (s2) (by (first | exact ArgsLe.refl | (repeat (first | exact True.intro | refine And.intro (by first | exact AvLe.refl | exact AvLe.loose | exact AvLe.nil | exact AvLe.nilT | exact AvLe.slk | (refine AvLe.agg ?_; exact ArgsLe.refl) | (refine AvLe.agg ?_; (repeat (first | exact True.intro | refine And.intro (by first | exact AvLe.refl | exact AvLe.loose | exact AvLe.nil | exact AvLe.nilT | exact AvLe.slk) ?_)))) ?_))))) rfl ?_
        simp only [go_sem]
        (repeat (refine ⟨by (first | exact True.intro | omega | rfl | (simp; done) | (simp; omega)), ?_⟩)); try (refine hKr _ ?_; clear hKr Kr)
        refine hK11 _ ?_
        refine T.regD 200 [0, 1, 3, 4, 5, 6, 7, 8, 9, 10, 11, 12, 13, 14, 15, 16, 17, 18, 19, 20, 21, 22, 23, 53, 55, 80, 94, 104, 124, 138, 145, 183, 198] fun Kr hKr => ?_
        simp only [go_sem]
        (repeat (refine ⟨by (first | exact True.intro | omega | rfl | (simp; done) | (simp; omega)), ?_⟩)); try (refine hKr _ ?_; clear hKr Kr)
        refine ⟨j + 1, ?_, ?_, Le.fitS (by (repeat (first | exact DFit.nil | refine DFit.cons (by first | rfl | (simp [slook, hst2]; done) | (simp [slook, hst2]; omega)) ?_))) ?_⟩
        · omega
        · omega
        · (repeat (first | exact True.intro | refine And.intro (by first | rfl | (simp [look]; done)) ?_))
      | false =>
        rw [if_neg (by decide), Int.add_zero] at hst
        refine T.condTD rfl rfl (fun hz => ?_) (fun hz => ?_) <;> try simp at hz
        refine T.skip ?_
        refine hK11 _ ?_
        refine T.regD 200 [0, 1, 3, 4, 5, 6, 7, 8, 9, 10, 11, 12, 13, 14, 15, 16, 17, 18, 19, 20, 21, 22, 23, 53, 55, 80, 94, 104, 124, 138, 145, 183, 198] fun Kr hKr => ?_
        simp only [go_sem]
        (repeat (refine ⟨by (first | exact True.intro | omega | rfl | (simp; done) | (simp; omega)), ?_⟩)); try (refine hKr _ ?_; clear hKr Kr)
        refine ⟨j + 1, ?_, ?_, Le.fitS (by (repeat (first | exact DFit.nil | refine DFit.cons (by first | rfl | (simp [slook, hst]; done) | (simp [slook, hst]; omega)) ?_))) ?_⟩
        · omega
        · omega
        · (repeat (first | exact True.intro | refine And.intro (by first | rfl | (simp [look]; done)) ?_))
    refine T.skip ?_
    refine hK13 _ ?_
    refine T.seqK fun K14 hK14 => ?_
    refine T.block ?_
    have hdn : k < ar.length := by omega
    have hnx := mem_nextT hdn (br.getD j default)
    generalize decide (br.getD j default ∈ ar.take k) = bf at *
    refine T.drawD 200 [0, 1, 3, 4, 5, 6, 7, 8, 9, 10, 11, 12, 13, 14, 15, 16, 17, 18, 19, 20, 21, 22, 23, 53, 55, 80, 94, 104, 124, 138, 145, 183, 198] (.take 0 (.take 1 (.take 2 (.take 3 (.take 4 (.take 5 (.take 6 (.take 7 (.take 8 (.take 9 (.take 10 (.take 11 (.take 12 (.take 13 (.take 14 .done))))))))))))))) [7, 8] rfl (by decide +kernel) (by decide +kernel) fun Kr hKr => ?_
    simp only [go_sem, hcn, hdn]
    (repeat (refine ⟨by (first | exact True.intro | omega | rfl | (simp; done) | (simp; omega)), ?_⟩)); try (refine hKr _ ?_; clear hKr Kr)
    rw [eqR_eq, hnx]
    refine hK14 _ ?_
    refine T.regD 200 [0, 1, 3, 4, 5, 6, 7, 8, 9, 10, 11, 12, 13, 14, 15, 16, 17, 18, 19, 20, 21, 22, 23, 53, 55, 80, 94, 104, 124, 138, 145, 183, 198] fun Kr hKr => ?_
    simp only [go_sem]
    (repeat (refine ⟨by (first | exact True.intro | omega | rfl | (simp; done) | (simp; omega)), ?_⟩)); try (refine hKr _ ?_; clear hKr Kr)
    refine ⟨k + 1, ?_, ?_, Le.fitS (by (repeat (first | exact DFit.nil | refine DFit.cons (by first | rfl | (simp [slook]; done) | (simp [slook]; omega)) ?_))) ?_⟩
    · omega
    · omega
    · (repeat (first | exact True.intro | refine And.intro (by first | rfl | (simp [look]; done)) ?_))
  refine T.skip ?_
  refine hK8 _ ?_
  refine T.seqK fun K15 hK15 => ?_
  refine T.block ?_
  have hbn : i < ar.length := by omega
  have hin : ar.getD i default ∈ ar := by simp [List.getD, hbn]
  have hst := S_take (gA OP wd ep) hbn
  have hgx : gA OP wd ep (ar.getD i default) = if (bif ((ar.getD i default).w == wd) then !meantB OP (ar.getD i default) else false) = true then valF (ar.getD i default) ep else 0 := rfl
  have s1 := Meant_spec OP (ar.getD i default) (hOPr) (hra _ hin) (by omega)
  have s2 := Value_spec (ar.getD i default) ep (hra _ hin) (by omega)
  have hvr := valF_range (hra _ hin) ep
  have hgr := hbA i
  refine T.sregD 200 [0, 1, 3, 4, 5, 6, 7, 8, 9, 10, 11, 12, 13, 14, 15, 16, 17, 18, 19, 20, 21, 22, 23, 53, 55, 80, 94, 104, 124, 138, 145, 183, 198] fun Kr hKr => ?_
  simp only [go_sem, hbn]
  (repeat (refine ⟨by (first | exact True.intro | omega | rfl | (simp; done) | (simp; omega)), ?_⟩)); try (refine hKr _ ?_; clear hKr Kr)
  refine CallK.data (fun _ => Spec.args (s1) (by (first | exact ArgsLe.refl | (repeat (first | exact True.intro | refine And.intro (by first | exact AvLe.refl | exact AvLe.loose | exact AvLe.nil | exact AvLe.nilT | exact AvLe.slk | (refine AvLe.agg ?_; exact ArgsLe.refl) | (refine AvLe.agg ?_; (repeat (first | exact True.intro | refine And.intro (by first | exact AvLe.refl | exact AvLe.loose | exact AvLe.nil | exact AvLe.nilT | exact AvLe.slk) ?_)))) ?_))))) rfl ?_
  simp only [go_sem, hbn]
  (repeat (refine ⟨by (first | exact True.intro | omega | rfl | (simp; done) | (simp; omega)), ?_⟩)); try (refine hKr _ ?_; clear hKr Kr)
  rw [hgx] at hst
  generalize (bif ((ar.getD i default).w == wd) then !meantB OP (ar.getD i default) else false) = c at *
  cases c with
  | true =>
    rw [if_pos rfl] at hst
    refine T.condTD rfl rfl (fun hd => ?_) (fun hd => ?_) <;> try simp at hd
    generalize S (gA OP wd ep) (ar.take i) = s at *
    generalize valF (ar.getD i default) ep = v at *
    refine T.regD 200 [0, 1, 3, 4, 5, 6, 7, 8, 9, 10, 11, 12, 13, 14, 15, 16, 17, 18, 19, 20, 21, 22, 23, 53, 55, 80, 94, 104, 124, 138, 145, 183, 198] fun Kr hKr => ?_
    simp only [go_sem, hbn]
    (repeat (refine ⟨by (first | exact True.intro | omega | rfl | (simp; done) | (simp; omega)), ?_⟩)); try (refine hKr _ ?_; clear hKr Kr)
    refine CallK.data (fun _ => Spec.args (s2) (by (first | exact ArgsLe.refl | (repeat (first | exact True.intro | refine And.intro (by first | exact AvLe.refl | exact AvLe.loose | exact AvLe.nil | exact AvLe.nilT | exact AvLe.slk | (refine AvLe.agg ?_; exact ArgsLe.refl) | (refine AvLe.agg ?_; (repeat (first | exact True.intro | refine And.intro (by first | exact AvLe.refl | exact AvLe.loose | exact AvLe.nil | exact AvLe.nilT | exact AvLe.slk) ?_)))) ?_))))) rfl ?_
    simp only [go_sem]
    (repeat (refine ⟨by (first | exact True.intro | omega | rfl | (simp; done) | (simp; omega)), ?_⟩)); try (refine hKr _ ?_; clear hKr Kr)
    refine hK15 _ ?_
    refine T.regD 200 [0, 1, 3, 4, 5, 6, 7, 8, 9, 10, 11, 12, 13, 14, 15, 16, 17, 18, 19, 20, 21, 22, 23, 53, 55, 80, 94, 104, 124, 138, 145, 183, 198] fun Kr hKr => ?_
    simp only [go_sem]
    (repeat (refine ⟨by (first | exact True.intro | omega | rfl | (simp; done) | (simp; omega)), ?_⟩)); try (refine hKr _ ?_; clear hKr Kr)
    refine ⟨i + 1, ?_, ?_, Le.fitS (by (repeat (first | exact DFit.nil | refine DFit.cons (by first | rfl | (simp [slook, hst]; done) | (simp [slook, hst]; omega)) ?_))) ?_⟩
    · omega
    · omega
    · (repeat (first | exact True.intro | refine And.intro (by first | rfl | (simp [look]; done)) ?_))
  | false =>
    rw [if_neg (by decide), Int.add_zero] at hst
    refine T.condTD rfl rfl (fun hd => ?_) (fun hd => ?_) <;> try simp at hd
    refine T.skip ?_
    refine hK15 _ ?_
    refine T.regD 200 [0, 1, 3, 4, 5, 6, 7, 8, 9, 10, 11, 12, 13, 14, 15, 16, 17, 18, 19, 20, 21, 22, 23, 53, 55, 80, 94, 104, 124, 138, 145, 183, 198] fun Kr hKr => ?_
    simp only [go_sem]
    (repeat (refine ⟨by (first | exact True.intro | omega | rfl | (simp; done) | (simp; omega)), ?_⟩)); try (refine hKr _ ?_; clear hKr Kr)
    refine ⟨i + 1, ?_, ?_, Le.fitS (by (repeat (first | exact DFit.nil | refine DFit.cons (by first | rfl | (simp [slook, hst]; done) | (simp [slook, hst]; omega)) ?_))) ?_⟩
    · omega
    · omega
    · (repeat (first | exact True.intro | refine And.intro (by first | rfl | (simp [look]; done)) ?_))
end Go.Proofs
