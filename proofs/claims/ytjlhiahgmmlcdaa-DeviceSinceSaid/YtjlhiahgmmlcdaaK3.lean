/- Devices: the law DeviceSince. -/
import Derived.Test.YtjlhiahgmmlcdaaK2
set_option linter.unusedVariables false
set_option linter.unusedSimpArgs false
namespace Go.Proofs
open Go Go.Ideal
set_option maxRecDepth 8000
set_option maxHeartbeats 4000000

theorem dsince_law (l : List RawT) (hl : ∀ r ∈ l, OkRawT r) (x y : Int) (hx : 0 ≤ x ∧ x < 256) (hy : 0 ≤ y ∧ y < 256) : Ideal.Spec Try.prog 5 [.sl false 8 (rawTs l), .agg [.int .u8 x, .int .u8 y]] (.bool true) none := by
  have q0 := sanity_spec
  have q1 := Made26_spec l hl
  obtain ⟨k, hk, ht⟩ := TInv.made' false l (by simp) 20 (by omega)
  have hT := ht.teamOk (by omega)
  have r0 : remv x 3 = x % 3 := remv_nn hx.1
  have r1 : remv y 3 = y % 3 := remv_nn hy.1
  have hi : x % 3 = 0 ∨ x % 3 = 1 ∨ x % 3 = 2 := by omega
  have hj : y % 3 = 0 ∨ y % 3 = 1 ∨ y % 3 = 2 := by omega
  obtain ⟨m, vm, vn, g1, g2⟩ := since_plain ht (by omega) (i := (x % 3).toNat) (j := (y % 3).toNat) (by omega) (by omega)
  clear ht
  generalize madeN l 20 = t at *
  have vi := hT.val (x % 3).toNat (by omega)
  have vj := hT.val (y % 3).toNat (by omega)
  have p1 := Clock_spec _ vi.ok
  have n1 := Since_spec _ vj.ok _ vi.l
  have m1 := Merge_spec _ _ vi.ok vj.ok
  have m2 := Merge_spec _ _ vi.ok vn.ok
  rw [g1] at m1
  rw [g2] at m2
  have w1 := Valid_spec _ vn
  have e1 := vm.same
  obtain ⟨nr, no, n0, n1', n2, n3, n4, n5, n6, n7, en⟩ := usr_lit vn.l
  rw [en] at n1 m2 w1
  obtain ⟨pr, po, p0, p1', p2, p3, p4, p5, p6, p7, rfl⟩ := usr_lit vm.l
  clear vi vj vn en vm g1 g2
  obtain ⟨ar, ao, a0, a1, a2, a3, a4, a5, a6, a7, br, bo, b0, b1, b2, b3, b4, b5, b6, b7, cr, co, c0, c1, c2, c3, c4, c5, c6, c7, rfl⟩ := team_lit hT
  clear hT
  rcases hi with hi | hi | hi
  · rcases hj with hj | hj | hj
    · rw [hi, hj] at n1 m1
      rw [hi] at p1 m2 r0
      rw [hj] at r1
      clear hi hj
      simp only [Int.toNat_zero, Int.toNat_one, Int.reduceToNat, teamA, usrL, usrA, List.flatMap_cons, List.flatMap_nil, intsOf_cons, intsOf_nil, List.cons_append, List.nil_append, List.append_nil, List.getD_cons_zero, List.getD_cons_succ] at q1 p1 n1 m1 m2 w1 e1
      refine Ideal.Spec.of_TD (n := 68) (fn := Try.f5) rfl rfl rfl rfl rfl rfl rfl fun w ok => ?_
      refine T.sregD 68 [0, 1, 3, 4, 5, 6, 7, 8, 9, 10, 11, 12, 13, 35] fun Kr hKr => ?_
      simp only [go_sem]
      (repeat (refine ⟨by (first | exact True.intro | omega | rfl | (simp; done) | (simp; omega)), ?_⟩)); try (refine hKr _ ?_; clear hKr Kr)
      refine T.sregD 68 [0, 1, 3, 4, 5, 6, 7, 8, 9, 10, 11, 12, 13, 35] fun Kr hKr => ?_
      simp only [go_sem]
      (repeat (refine ⟨by (first | exact True.intro | omega | rfl | (simp; done) | (simp; omega)), ?_⟩)); try (refine hKr _ ?_; clear hKr Kr)
      refine CallK.data (fun _ => Spec.args (q0) (by (first | exact ArgsLe.refl | (repeat (first | exact True.intro | refine And.intro (by first | exact AvLe.refl | exact AvLe.loose | exact AvLe.nil | exact AvLe.nilT | exact AvLe.slk | (refine AvLe.agg ?_; exact ArgsLe.refl) | (refine AvLe.agg ?_; (repeat (first | exact True.intro | refine And.intro (by first | exact AvLe.refl | exact AvLe.loose | exact AvLe.nil | exact AvLe.nilT | exact AvLe.slk) ?_)))) ?_))))) rfl ?_
      simp only [go_sem]
      (repeat (refine ⟨by (first | exact True.intro | omega | rfl | (simp; done) | (simp; omega)), ?_⟩)); try (refine hKr _ ?_; clear hKr Kr)
      refine T.sregD 68 [0, 1, 3, 4, 5, 6, 7, 8, 9, 10, 11, 12, 13, 35] fun Kr hKr => ?_
      simp only [go_sem]
      (repeat (refine ⟨by (first | exact True.intro | omega | rfl | (simp; done) | (simp; omega)), ?_⟩)); try (refine hKr _ ?_; clear hKr Kr)
      refine CallK.data (fun _ => Spec.args (q1) (by (first | exact ArgsLe.refl | (repeat (first | exact True.intro | refine And.intro (by first | exact AvLe.refl | exact AvLe.loose | exact AvLe.nil | exact AvLe.nilT | exact AvLe.slk | (refine AvLe.agg ?_; exact ArgsLe.refl) | (refine AvLe.agg ?_; (repeat (first | exact True.intro | refine And.intro (by first | exact AvLe.refl | exact AvLe.loose | exact AvLe.nil | exact AvLe.nilT | exact AvLe.slk) ?_)))) ?_))))) rfl ?_
      simp only [go_sem]
      (repeat (refine ⟨by (first | exact True.intro | omega | rfl | (simp; done) | (simp; omega)), ?_⟩)); try (refine hKr _ ?_; clear hKr Kr)
      refine T.sdrawD 68 [0, 1, 3, 4, 5, 6, 7, 8, 9, 10, 11, 12, 13, 35] (.take 0 (.take 1 (.take 2 (.take 3 (.take 4 (.take 5 (.take 6 (.take 7 (.take 8 (.take 9 .done)))))))))) [3] rfl (by decide +kernel) (by decide +kernel) fun Kr hKr => ?_
      simp only [go_sem, r0, r1]
      (repeat (refine ⟨by (first | exact True.intro | omega | rfl | (simp; done) | (simp; omega)), ?_⟩)); try (refine hKr _ ?_; clear hKr Kr)
      refine T.sdraw2D 68 [0, 1, 3, 4, 5, 6, 7, 8, 9, 10, 11, 12, 13, 35] (.take 0 (.take 1 (.take 2 (.take 3 (.take 4 (.take 5 (.two 6 (.two 7 (.one 8 (.one 9 .done)) 8 (.one 7 (.one 9 .done))) 8 (.one 6 (.one 7 (.one 9 .done)))))))))) [6] rfl (by decide +kernel) (by decide +kernel) ?x1 ?h1 (fun Kr hKr => ?all1) ?rest1
      case all1 =>
        simp only [go_sem]
        (repeat (any_goals (first | exact hKr _ (.inl rfl) | exact hKr _ (.inr (by (repeat (first | exact True.intro | refine And.intro (by first | rfl | (simp [look]; done)) ?_)))) | ((first | refine CallK.dataA (p1) ?_ rfl ?_ | refine CallK.tupA (p1) ?_ ?_ | refine CallK.ownA (p1) ?_ ?_); (focus (exact ArgsLe.refl)); simp only [go_sem]) | ((first | refine CallK.dataA (n1) ?_ rfl ?_ | refine CallK.tupA (n1) ?_ ?_ | refine CallK.ownA (n1) ?_ ?_); (focus (exact ArgsLe.refl)); simp only [go_sem]) | (refine And.intro ?_ ?_) | (first | exact True.intro | omega | rfl | (simp; done) | (simp; omega)))))
        all_goals (first | exact hKr _ (.inl rfl) | exact hKr _ (.inr (by (repeat (first | exact True.intro | refine And.intro (by first | rfl | (simp [look]; done)) ?_)))))
      case rest1 =>
      refine T.seqK fun K1 hK1 => ?_
      refine T.sregD 68 [0, 1, 3, 4, 5, 6, 7, 8, 9, 10, 11, 12, 13, 35] fun Kr hKr => ?_
      simp only [go_sem]
      (repeat (refine ⟨by (first | exact True.intro | omega | rfl | (simp; done) | (simp; omega)), ?_⟩)); try (refine hKr _ ?_; clear hKr Kr)
      refine CallK.data (fun _ => Spec.args (w1) (by (first | exact ArgsLe.refl | (repeat (first | exact True.intro | refine And.intro (by first | exact AvLe.refl | exact AvLe.loose | exact AvLe.nil | exact AvLe.nilT | exact AvLe.slk | (refine AvLe.agg ?_; exact ArgsLe.refl) | (refine AvLe.agg ?_; (repeat (first | exact True.intro | refine And.intro (by first | exact AvLe.refl | exact AvLe.loose | exact AvLe.nil | exact AvLe.nilT | exact AvLe.slk) ?_)))) ?_))))) rfl ?_
      simp only [go_sem]
      (repeat (refine ⟨by (first | exact True.intro | omega | rfl | (simp; done) | (simp; omega)), ?_⟩)); try (refine hKr _ ?_; clear hKr Kr)
      refine T.condTD rfl rfl (fun hz => ?_) (fun hz => ?_) <;> try simp at hz
      refine T.skip ?_
      refine hK1 _ ?_
      refine T.sdraw2D 68 [0, 1, 3, 4, 5, 6, 7, 8, 9, 10, 11, 12, 13, 35] (.take 0 (.take 1 (.take 2 (.take 3 (.take 4 (.take 5 (.two 6 (.take 7 (.take 8 (.take 9 (.one 10 (.one 11 (.take 12 .done)))))) 10 (.one 6 (.take 7 (.take 8 (.take 9 (.one 11 (.take 12 .done))))))))))))) [6] rfl (by decide +kernel) (by decide +kernel) ?x2 ?h2 (fun Kr hKr => ?all2) ?rest2
      case all2 =>
        simp only [go_sem]
        (repeat (any_goals (first | exact hKr _ (.inl rfl) | exact hKr _ (.inr (by (repeat (first | exact True.intro | refine And.intro (by first | rfl | (simp [look]; done)) ?_)))) | ((first | refine CallK.dataA (m1) ?_ rfl ?_ | refine CallK.tupA (m1) ?_ ?_ | refine CallK.ownA (m1) ?_ ?_); (focus ((first | exact ArgsLe.refl | (repeat (first | exact True.intro | refine And.intro (by first | exact AvLe.refl | exact AvLe.loose | exact AvLe.nil | exact AvLe.nilT | exact AvLe.slk | (refine AvLe.agg ?_; exact ArgsLe.refl) | (refine AvLe.agg ?_; (repeat (first | exact True.intro | refine And.intro (by first | exact AvLe.refl | exact AvLe.loose | exact AvLe.nil | exact AvLe.nilT | exact AvLe.slk) ?_)))) ?_))); done)); simp only [go_sem]) | (refine And.intro ?_ ?_) | (first | exact True.intro | omega | rfl | (simp; done) | (simp; omega)))))
        all_goals (first | exact hKr _ (.inl rfl) | exact hKr _ (.inr (by (repeat (first | exact True.intro | refine And.intro (by first | rfl | (simp [look]; done)) ?_)))))
      case rest2 =>
      refine T.sdraw2D 68 [0, 1, 3, 4, 5, 6, 7, 8, 9, 10, 11, 12, 13, 35] (.take 0 (.take 1 (.take 2 (.take 3 (.two 4 (.take 5 (.take 6 (.take 7 (.one 8 (.one 9 (.take 10 .done)))))) 8 (.one 4 (.take 5 (.take 6 (.take 7 (.one 9 (.take 10 .done))))))))))) [6, 9] rfl (by decide +kernel) (by decide +kernel) ?x3 ?h3 (fun Kr hKr => ?all3) ?rest3
      case all3 =>
        simp only [go_sem]
        (repeat (any_goals (first | exact hKr _ (.inl rfl) | exact hKr _ (.inr (by (repeat (first | exact True.intro | refine And.intro (by first | rfl | (simp [look]; done)) ?_)))) | ((first | refine CallK.dataA (m2) ?_ rfl ?_ | refine CallK.tupA (m2) ?_ ?_ | refine CallK.ownA (m2) ?_ ?_); (focus ((first | exact ArgsLe.refl | (repeat (first | exact True.intro | refine And.intro (by first | exact AvLe.refl | exact AvLe.loose | exact AvLe.nil | exact AvLe.nilT | exact AvLe.slk | (refine AvLe.agg ?_; exact ArgsLe.refl) | (refine AvLe.agg ?_; (repeat (first | exact True.intro | refine And.intro (by first | exact AvLe.refl | exact AvLe.loose | exact AvLe.nil | exact AvLe.nilT | exact AvLe.slk) ?_)))) ?_))); done)); simp only [go_sem]) | (refine And.intro ?_ ?_) | (first | exact True.intro | omega | rfl | (simp; done) | (simp; omega)))))
        all_goals (first | exact hKr _ (.inl rfl) | exact hKr _ (.inr (by (repeat (first | exact True.intro | refine And.intro (by first | rfl | (simp [look]; done)) ?_)))))
      case rest3 =>
      refine T.sregD 68 [0, 1, 3, 4, 5, 6, 7, 8, 9, 10, 11, 12, 13, 35] fun Kr hKr => ?_
      simp only [go_sem]
      (repeat (refine ⟨by (first | exact True.intro | omega | rfl | (simp; done) | (simp; omega)), ?_⟩)); try (refine hKr _ ?_; clear hKr Kr)
      refine CallK.data (fun _ => Spec.args (e1) (by (first | exact ArgsLe.refl | (repeat (first | exact True.intro | refine And.intro (by first | exact AvLe.refl | exact AvLe.loose | exact AvLe.nil | exact AvLe.nilT | exact AvLe.slk | (refine AvLe.agg ?_; exact ArgsLe.refl) | (refine AvLe.agg ?_; (repeat (first | exact True.intro | refine And.intro (by first | exact AvLe.refl | exact AvLe.loose | exact AvLe.nil | exact AvLe.nilT | exact AvLe.slk) ?_)))) ?_))))) rfl ?_
      simp only [go_sem]
      (repeat (refine ⟨by (first | exact True.intro | omega | rfl | (simp; done) | (simp; omega)), ?_⟩)); try (refine hKr _ ?_; clear hKr Kr)
      refine T.ret (Fin.dataD rfl rfl rfl)
    · rw [hi, hj] at n1 m1
      rw [hi] at p1 m2 r0
      rw [hj] at r1
      clear hi hj
      simp only [Int.toNat_zero, Int.toNat_one, Int.reduceToNat, teamA, usrL, usrA, List.flatMap_cons, List.flatMap_nil, intsOf_cons, intsOf_nil, List.cons_append, List.nil_append, List.append_nil, List.getD_cons_zero, List.getD_cons_succ] at q1 p1 n1 m1 m2 w1 e1
      refine Ideal.Spec.of_TD (n := 68) (fn := Try.f5) rfl rfl rfl rfl rfl rfl rfl fun w ok => ?_
      refine T.sregD 68 [0, 1, 3, 4, 5, 6, 7, 8, 9, 10, 11, 12, 13, 35] fun Kr hKr => ?_
      simp only [go_sem]
      (repeat (refine ⟨by (first | exact True.intro | omega | rfl | (simp; done) | (simp; omega)), ?_⟩)); try (refine hKr _ ?_; clear hKr Kr)
      refine T.sregD 68 [0, 1, 3, 4, 5, 6, 7, 8, 9, 10, 11, 12, 13, 35] fun Kr hKr => ?_
      simp only [go_sem]
      (repeat (refine ⟨by (first | exact True.intro | omega | rfl | (simp; done) | (simp; omega)), ?_⟩)); try (refine hKr _ ?_; clear hKr Kr)
      refine CallK.data (fun _ => Spec.args (q0) (by (first | exact ArgsLe.refl | (repeat (first | exact True.intro | refine And.intro (by first | exact AvLe.refl | exact AvLe.loose | exact AvLe.nil | exact AvLe.nilT | exact AvLe.slk | (refine AvLe.agg ?_; exact ArgsLe.refl) | (refine AvLe.agg ?_; (repeat (first | exact True.intro | refine And.intro (by first | exact AvLe.refl | exact AvLe.loose | exact AvLe.nil | exact AvLe.nilT | exact AvLe.slk) ?_)))) ?_))))) rfl ?_
      simp only [go_sem]
      (repeat (refine ⟨by (first | exact True.intro | omega | rfl | (simp; done) | (simp; omega)), ?_⟩)); try (refine hKr _ ?_; clear hKr Kr)
      refine T.sregD 68 [0, 1, 3, 4, 5, 6, 7, 8, 9, 10, 11, 12, 13, 35] fun Kr hKr => ?_
      simp only [go_sem]
      (repeat (refine ⟨by (first | exact True.intro | omega | rfl | (simp; done) | (simp; omega)), ?_⟩)); try (refine hKr _ ?_; clear hKr Kr)
      refine CallK.data (fun _ => Spec.args (q1) (by (first | exact ArgsLe.refl | (repeat (first | exact True.intro | refine And.intro (by first | exact AvLe.refl | exact AvLe.loose | exact AvLe.nil | exact AvLe.nilT | exact AvLe.slk | (refine AvLe.agg ?_; exact ArgsLe.refl) | (refine AvLe.agg ?_; (repeat (first | exact True.intro | refine And.intro (by first | exact AvLe.refl | exact AvLe.loose | exact AvLe.nil | exact AvLe.nilT | exact AvLe.slk) ?_)))) ?_))))) rfl ?_
      simp only [go_sem]
      (repeat (refine ⟨by (first | exact True.intro | omega | rfl | (simp; done) | (simp; omega)), ?_⟩)); try (refine hKr _ ?_; clear hKr Kr)
      refine T.sdrawD 68 [0, 1, 3, 4, 5, 6, 7, 8, 9, 10, 11, 12, 13, 35] (.take 0 (.take 1 (.take 2 (.take 3 (.take 4 (.take 5 (.take 6 (.take 7 (.take 8 (.take 9 .done)))))))))) [3] rfl (by decide +kernel) (by decide +kernel) fun Kr hKr => ?_
      simp only [go_sem, r0, r1]
      (repeat (refine ⟨by (first | exact True.intro | omega | rfl | (simp; done) | (simp; omega)), ?_⟩)); try (refine hKr _ ?_; clear hKr Kr)
      refine T.sdraw2D 68 [0, 1, 3, 4, 5, 6, 7, 8, 9, 10, 11, 12, 13, 35] (.take 0 (.take 1 (.take 2 (.take 3 (.take 4 (.take 5 (.two 6 (.two 7 (.one 8 (.one 9 .done)) 8 (.one 7 (.one 9 .done))) 8 (.one 6 (.one 7 (.one 9 .done)))))))))) [6] rfl (by decide +kernel) (by decide +kernel) ?x4 ?h4 (fun Kr hKr => ?all4) ?rest4
      case all4 =>
        simp only [go_sem]
        (repeat (any_goals (first | exact hKr _ (.inl rfl) | exact hKr _ (.inr (by (repeat (first | exact True.intro | refine And.intro (by first | rfl | (simp [look]; done)) ?_)))) | ((first | refine CallK.dataA (p1) ?_ rfl ?_ | refine CallK.tupA (p1) ?_ ?_ | refine CallK.ownA (p1) ?_ ?_); (focus (exact ArgsLe.refl)); simp only [go_sem]) | ((first | refine CallK.dataA (n1) ?_ rfl ?_ | refine CallK.tupA (n1) ?_ ?_ | refine CallK.ownA (n1) ?_ ?_); (focus (exact ArgsLe.refl)); simp only [go_sem]) | (refine And.intro ?_ ?_) | (first | exact True.intro | omega | rfl | (simp; done) | (simp; omega)))))
        all_goals (first | exact hKr _ (.inl rfl) | exact hKr _ (.inr (by (repeat (first | exact True.intro | refine And.intro (by first | rfl | (simp [look]; done)) ?_)))))
      case rest4 =>
      refine T.seqK fun K1 hK1 => ?_
      refine T.sregD 68 [0, 1, 3, 4, 5, 6, 7, 8, 9, 10, 11, 12, 13, 35] fun Kr hKr => ?_
      simp only [go_sem]
      (repeat (refine ⟨by (first | exact True.intro | omega | rfl | (simp; done) | (simp; omega)), ?_⟩)); try (refine hKr _ ?_; clear hKr Kr)
      refine CallK.data (fun _ => Spec.args (w1) (by (first | exact ArgsLe.refl | (repeat (first | exact True.intro | refine And.intro (by first | exact AvLe.refl | exact AvLe.loose | exact AvLe.nil | exact AvLe.nilT | exact AvLe.slk | (refine AvLe.agg ?_; exact ArgsLe.refl) | (refine AvLe.agg ?_; (repeat (first | exact True.intro | refine And.intro (by first | exact AvLe.refl | exact AvLe.loose | exact AvLe.nil | exact AvLe.nilT | exact AvLe.slk) ?_)))) ?_))))) rfl ?_
      simp only [go_sem]
      (repeat (refine ⟨by (first | exact True.intro | omega | rfl | (simp; done) | (simp; omega)), ?_⟩)); try (refine hKr _ ?_; clear hKr Kr)
      refine T.condTD rfl rfl (fun hz => ?_) (fun hz => ?_) <;> try simp at hz
      refine T.skip ?_
      refine hK1 _ ?_
      refine T.sdraw2D 68 [0, 1, 3, 4, 5, 6, 7, 8, 9, 10, 11, 12, 13, 35] (.take 0 (.take 1 (.take 2 (.take 3 (.take 4 (.take 5 (.two 6 (.take 7 (.take 8 (.take 9 (.one 10 (.one 11 (.take 12 .done)))))) 10 (.one 6 (.take 7 (.take 8 (.take 9 (.one 11 (.take 12 .done))))))))))))) [6] rfl (by decide +kernel) (by decide +kernel) ?x5 ?h5 (fun Kr hKr => ?all5) ?rest5
      case all5 =>
        simp only [go_sem]
        (repeat (any_goals (first | exact hKr _ (.inl rfl) | exact hKr _ (.inr (by (repeat (first | exact True.intro | refine And.intro (by first | rfl | (simp [look]; done)) ?_)))) | ((first | refine CallK.dataA (m1) ?_ rfl ?_ | refine CallK.tupA (m1) ?_ ?_ | refine CallK.ownA (m1) ?_ ?_); (focus ((first | exact ArgsLe.refl | (repeat (first | exact True.intro | refine And.intro (by first | exact AvLe.refl | exact AvLe.loose | exact AvLe.nil | exact AvLe.nilT | exact AvLe.slk | (refine AvLe.agg ?_; exact ArgsLe.refl) | (refine AvLe.agg ?_; (repeat (first | exact True.intro | refine And.intro (by first | exact AvLe.refl | exact AvLe.loose | exact AvLe.nil | exact AvLe.nilT | exact AvLe.slk) ?_)))) ?_))); done)); simp only [go_sem]) | (refine And.intro ?_ ?_) | (first | exact True.intro | omega | rfl | (simp; done) | (simp; omega)))))
        all_goals (first | exact hKr _ (.inl rfl) | exact hKr _ (.inr (by (repeat (first | exact True.intro | refine And.intro (by first | rfl | (simp [look]; done)) ?_)))))
      case rest5 =>
      refine T.sdraw2D 68 [0, 1, 3, 4, 5, 6, 7, 8, 9, 10, 11, 12, 13, 35] (.take 0 (.take 1 (.take 2 (.take 3 (.two 4 (.take 5 (.take 6 (.take 7 (.one 8 (.one 9 (.take 10 .done)))))) 8 (.one 4 (.take 5 (.take 6 (.take 7 (.one 9 (.take 10 .done))))))))))) [6, 9] rfl (by decide +kernel) (by decide +kernel) ?x6 ?h6 (fun Kr hKr => ?all6) ?rest6
      case all6 =>
        simp only [go_sem]
        (repeat (any_goals (first | exact hKr _ (.inl rfl) | exact hKr _ (.inr (by (repeat (first | exact True.intro | refine And.intro (by first | rfl | (simp [look]; done)) ?_)))) | ((first | refine CallK.dataA (m2) ?_ rfl ?_ | refine CallK.tupA (m2) ?_ ?_ | refine CallK.ownA (m2) ?_ ?_); (focus ((first | exact ArgsLe.refl | (repeat (first | exact True.intro | refine And.intro (by first | exact AvLe.refl | exact AvLe.loose | exact AvLe.nil | exact AvLe.nilT | exact AvLe.slk | (refine AvLe.agg ?_; exact ArgsLe.refl) | (refine AvLe.agg ?_; (repeat (first | exact True.intro | refine And.intro (by first | exact AvLe.refl | exact AvLe.loose | exact AvLe.nil | exact AvLe.nilT | exact AvLe.slk) ?_)))) ?_))); done)); simp only [go_sem]) | (refine And.intro ?_ ?_) | (first | exact True.intro | omega | rfl | (simp; done) | (simp; omega)))))
        all_goals (first | exact hKr _ (.inl rfl) | exact hKr _ (.inr (by (repeat (first | exact True.intro | refine And.intro (by first | rfl | (simp [look]; done)) ?_)))))
      case rest6 =>
      refine T.sregD 68 [0, 1, 3, 4, 5, 6, 7, 8, 9, 10, 11, 12, 13, 35] fun Kr hKr => ?_
      simp only [go_sem]
      (repeat (refine ⟨by (first | exact True.intro | omega | rfl | (simp; done) | (simp; omega)), ?_⟩)); try (refine hKr _ ?_; clear hKr Kr)
      refine CallK.data (fun _ => Spec.args (e1) (by (first | exact ArgsLe.refl | (repeat (first | exact True.intro | refine And.intro (by first | exact AvLe.refl | exact AvLe.loose | exact AvLe.nil | exact AvLe.nilT | exact AvLe.slk | (refine AvLe.agg ?_; exact ArgsLe.refl) | (refine AvLe.agg ?_; (repeat (first | exact True.intro | refine And.intro (by first | exact AvLe.refl | exact AvLe.loose | exact AvLe.nil | exact AvLe.nilT | exact AvLe.slk) ?_)))) ?_))))) rfl ?_
      simp only [go_sem]
      (repeat (refine ⟨by (first | exact True.intro | omega | rfl | (simp; done) | (simp; omega)), ?_⟩)); try (refine hKr _ ?_; clear hKr Kr)
      refine T.ret (Fin.dataD rfl rfl rfl)
    · rw [hi, hj] at n1 m1
      rw [hi] at p1 m2 r0
      rw [hj] at r1
      clear hi hj
      simp only [Int.toNat_zero, Int.toNat_one, Int.reduceToNat, teamA, usrL, usrA, List.flatMap_cons, List.flatMap_nil, intsOf_cons, intsOf_nil, List.cons_append, List.nil_append, List.append_nil, List.getD_cons_zero, List.getD_cons_succ] at q1 p1 n1 m1 m2 w1 e1
      refine Ideal.Spec.of_TD (n := 68) (fn := Try.f5) rfl rfl rfl rfl rfl rfl rfl fun w ok => ?_
      refine T.sregD 68 [0, 1, 3, 4, 5, 6, 7, 8, 9, 10, 11, 12, 13, 35] fun Kr hKr => ?_
      simp only [go_sem]
      (repeat (refine ⟨by (first | exact True.intro | omega | rfl | (simp; done) | (simp; omega)), ?_⟩)); try (refine hKr _ ?_; clear hKr Kr)
      refine T.sregD 68 [0, 1, 3, 4, 5, 6, 7, 8, 9, 10, 11, 12, 13, 35] fun Kr hKr => ?_
      simp only [go_sem]
      (repeat (refine ⟨by (first | exact True.intro | omega | rfl | (simp; done) | (simp; omega)), ?_⟩)); try (refine hKr _ ?_; clear hKr Kr)
      refine CallK.data (fun _ => Spec.args (q0) (by (first | exact ArgsLe.refl | (repeat (first | exact True.intro | refine And.intro (by first | exact AvLe.refl | exact AvLe.loose | exact AvLe.nil | exact AvLe.nilT | exact AvLe.slk | (refine AvLe.agg ?_; exact ArgsLe.refl) | (refine AvLe.agg ?_; (repeat (first | exact True.intro | refine And.intro (by first | exact AvLe.refl | exact AvLe.loose | exact AvLe.nil | exact AvLe.nilT | exact AvLe.slk) ?_)))) ?_))))) rfl ?_
      simp only [go_sem]
      (repeat (refine ⟨by (first | exact True.intro | omega | rfl | (simp; done) | (simp; omega)), ?_⟩)); try (refine hKr _ ?_; clear hKr Kr)
      refine T.sregD 68 [0, 1, 3, 4, 5, 6, 7, 8, 9, 10, 11, 12, 13, 35] fun Kr hKr => ?_
      simp only [go_sem]
      (repeat (refine ⟨by (first | exact True.intro | omega | rfl | (simp; done) | (simp; omega)), ?_⟩)); try (refine hKr _ ?_; clear hKr Kr)
      refine CallK.data (fun _ => Spec.args (q1) (by (first | exact ArgsLe.refl | (repeat (first | exact True.intro | refine And.intro (by first | exact AvLe.refl | exact AvLe.loose | exact AvLe.nil | exact AvLe.nilT | exact AvLe.slk | (refine AvLe.agg ?_; exact ArgsLe.refl) | (refine AvLe.agg ?_; (repeat (first | exact True.intro | refine And.intro (by first | exact AvLe.refl | exact AvLe.loose | exact AvLe.nil | exact AvLe.nilT | exact AvLe.slk) ?_)))) ?_))))) rfl ?_
      simp only [go_sem]
      (repeat (refine ⟨by (first | exact True.intro | omega | rfl | (simp; done) | (simp; omega)), ?_⟩)); try (refine hKr _ ?_; clear hKr Kr)
      refine T.sdrawD 68 [0, 1, 3, 4, 5, 6, 7, 8, 9, 10, 11, 12, 13, 35] (.take 0 (.take 1 (.take 2 (.take 3 (.take 4 (.take 5 (.take 6 (.take 7 (.take 8 (.take 9 .done)))))))))) [3] rfl (by decide +kernel) (by decide +kernel) fun Kr hKr => ?_
      simp only [go_sem, r0, r1]
      (repeat (refine ⟨by (first | exact True.intro | omega | rfl | (simp; done) | (simp; omega)), ?_⟩)); try (refine hKr _ ?_; clear hKr Kr)
      refine T.sdraw2D 68 [0, 1, 3, 4, 5, 6, 7, 8, 9, 10, 11, 12, 13, 35] (.take 0 (.take 1 (.take 2 (.take 3 (.take 4 (.take 5 (.two 6 (.two 7 (.one 8 (.one 9 .done)) 8 (.one 7 (.one 9 .done))) 8 (.one 6 (.one 7 (.one 9 .done)))))))))) [6] rfl (by decide +kernel) (by decide +kernel) ?x7 ?h7 (fun Kr hKr => ?all7) ?rest7
      case all7 =>
        simp only [go_sem]
        (repeat (any_goals (first | exact hKr _ (.inl rfl) | exact hKr _ (.inr (by (repeat (first | exact True.intro | refine And.intro (by first | rfl | (simp [look]; done)) ?_)))) | ((first | refine CallK.dataA (p1) ?_ rfl ?_ | refine CallK.tupA (p1) ?_ ?_ | refine CallK.ownA (p1) ?_ ?_); (focus (exact ArgsLe.refl)); simp only [go_sem]) | ((first | refine CallK.dataA (n1) ?_ rfl ?_ | refine CallK.tupA (n1) ?_ ?_ | refine CallK.ownA (n1) ?_ ?_); (focus (exact ArgsLe.refl)); simp only [go_sem]) | (refine And.intro ?_ ?_) | (first | exact True.intro | omega | rfl | (simp; done) | (simp; omega)))))
        all_goals (first | exact hKr _ (.inl rfl) | exact hKr _ (.inr (by (repeat (first | exact True.intro | refine And.intro (by first | rfl | (simp [look]; done)) ?_)))))
      case rest7 =>
      refine T.seqK fun K1 hK1 => ?_
      refine T.sregD 68 [0, 1, 3, 4, 5, 6, 7, 8, 9, 10, 11, 12, 13, 35] fun Kr hKr => ?_
      simp only [go_sem]
      (repeat (refine ⟨by (first | exact True.intro | omega | rfl | (simp; done) | (simp; omega)), ?_⟩)); try (refine hKr _ ?_; clear hKr Kr)
      refine CallK.data (fun _ => Spec.args (w1) (by (first | exact ArgsLe.refl | (repeat (first | exact True.intro | refine And.intro (by first | exact AvLe.refl | exact AvLe.loose | exact AvLe.nil | exact AvLe.nilT | exact AvLe.slk | (refine AvLe.agg ?_; exact ArgsLe.refl) | (refine AvLe.agg ?_; (repeat (first | exact True.intro | refine And.intro (by first | exact AvLe.refl | exact AvLe.loose | exact AvLe.nil | exact AvLe.nilT | exact AvLe.slk) ?_)))) ?_))))) rfl ?_
      simp only [go_sem]
      (repeat (refine ⟨by (first | exact True.intro | omega | rfl | (simp; done) | (simp; omega)), ?_⟩)); try (refine hKr _ ?_; clear hKr Kr)
      refine T.condTD rfl rfl (fun hz => ?_) (fun hz => ?_) <;> try simp at hz
      refine T.skip ?_
      refine hK1 _ ?_
      refine T.sdraw2D 68 [0, 1, 3, 4, 5, 6, 7, 8, 9, 10, 11, 12, 13, 35] (.take 0 (.take 1 (.take 2 (.take 3 (.take 4 (.take 5 (.two 6 (.take 7 (.take 8 (.take 9 (.one 10 (.one 11 (.take 12 .done)))))) 10 (.one 6 (.take 7 (.take 8 (.take 9 (.one 11 (.take 12 .done))))))))))))) [6] rfl (by decide +kernel) (by decide +kernel) ?x8 ?h8 (fun Kr hKr => ?all8) ?rest8
      case all8 =>
        simp only [go_sem]
        (repeat (any_goals (first | exact hKr _ (.inl rfl) | exact hKr _ (.inr (by (repeat (first | exact True.intro | refine And.intro (by first | rfl | (simp [look]; done)) ?_)))) | ((first | refine CallK.dataA (m1) ?_ rfl ?_ | refine CallK.tupA (m1) ?_ ?_ | refine CallK.ownA (m1) ?_ ?_); (focus ((first | exact ArgsLe.refl | (repeat (first | exact True.intro | refine And.intro (by first | exact AvLe.refl | exact AvLe.loose | exact AvLe.nil | exact AvLe.nilT | exact AvLe.slk | (refine AvLe.agg ?_; exact ArgsLe.refl) | (refine AvLe.agg ?_; (repeat (first | exact True.intro | refine And.intro (by first | exact AvLe.refl | exact AvLe.loose | exact AvLe.nil | exact AvLe.nilT | exact AvLe.slk) ?_)))) ?_))); done)); simp only [go_sem]) | (refine And.intro ?_ ?_) | (first | exact True.intro | omega | rfl | (simp; done) | (simp; omega)))))
        all_goals (first | exact hKr _ (.inl rfl) | exact hKr _ (.inr (by (repeat (first | exact True.intro | refine And.intro (by first | rfl | (simp [look]; done)) ?_)))))
      case rest8 =>
      refine T.sdraw2D 68 [0, 1, 3, 4, 5, 6, 7, 8, 9, 10, 11, 12, 13, 35] (.take 0 (.take 1 (.take 2 (.take 3 (.two 4 (.take 5 (.take 6 (.take 7 (.one 8 (.one 9 (.take 10 .done)))))) 8 (.one 4 (.take 5 (.take 6 (.take 7 (.one 9 (.take 10 .done))))))))))) [6, 9] rfl (by decide +kernel) (by decide +kernel) ?x9 ?h9 (fun Kr hKr => ?all9) ?rest9
      case all9 =>
        simp only [go_sem]
        (repeat (any_goals (first | exact hKr _ (.inl rfl) | exact hKr _ (.inr (by (repeat (first | exact True.intro | refine And.intro (by first | rfl | (simp [look]; done)) ?_)))) | ((first | refine CallK.dataA (m2) ?_ rfl ?_ | refine CallK.tupA (m2) ?_ ?_ | refine CallK.ownA (m2) ?_ ?_); (focus ((first | exact ArgsLe.refl | (repeat (first | exact True.intro | refine And.intro (by first | exact AvLe.refl | exact AvLe.loose | exact AvLe.nil | exact AvLe.nilT | exact AvLe.slk | (refine AvLe.agg ?_; exact ArgsLe.refl) | (refine AvLe.agg ?_; (repeat (first | exact True.intro | refine And.intro (by first | exact AvLe.refl | exact AvLe.loose | exact AvLe.nil | exact AvLe.nilT | exact AvLe.slk) ?_)))) ?_))); done)); simp only [go_sem]) | (refine And.intro ?_ ?_) | (first | exact True.intro | omega | rfl | (simp; done) | (simp; omega)))))
        all_goals (first | exact hKr _ (.inl rfl) | exact hKr _ (.inr (by (repeat (first | exact True.intro | refine And.intro (by first | rfl | (simp [look]; done)) ?_)))))
      case rest9 =>
      refine T.sregD 68 [0, 1, 3, 4, 5, 6, 7, 8, 9, 10, 11, 12, 13, 35] fun Kr hKr => ?_
      simp only [go_sem]
      (repeat (refine ⟨by (first | exact True.intro | omega | rfl | (simp; done) | (simp; omega)), ?_⟩)); try (refine hKr _ ?_; clear hKr Kr)
      refine CallK.data (fun _ => Spec.args (e1) (by (first | exact ArgsLe.refl | (repeat (first | exact True.intro | refine And.intro (by first | exact AvLe.refl | exact AvLe.loose | exact AvLe.nil | exact AvLe.nilT | exact AvLe.slk | (refine AvLe.agg ?_; exact ArgsLe.refl) | (refine AvLe.agg ?_; (repeat (first | exact True.intro | refine And.intro (by first | exact AvLe.refl | exact AvLe.loose | exact AvLe.nil | exact AvLe.nilT | exact AvLe.slk) ?_)))) ?_))))) rfl ?_
      simp only [go_sem]
      (repeat (refine ⟨by (first | exact True.intro | omega | rfl | (simp; done) | (simp; omega)), ?_⟩)); try (refine hKr _ ?_; clear hKr Kr)
      refine T.ret (Fin.dataD rfl rfl rfl)
  · rcases hj with hj | hj | hj
    · rw [hi, hj] at n1 m1
      rw [hi] at p1 m2 r0
      rw [hj] at r1
      clear hi hj
      simp only [Int.toNat_zero, Int.toNat_one, Int.reduceToNat, teamA, usrL, usrA, List.flatMap_cons, List.flatMap_nil, intsOf_cons, intsOf_nil, List.cons_append, List.nil_append, List.append_nil, List.getD_cons_zero, List.getD_cons_succ] at q1 p1 n1 m1 m2 w1 e1
      refine Ideal.Spec.of_TD (n := 68) (fn := Try.f5) rfl rfl rfl rfl rfl rfl rfl fun w ok => ?_
      refine T.sregD 68 [0, 1, 3, 4, 5, 6, 7, 8, 9, 10, 11, 12, 13, 35] fun Kr hKr => ?_
      simp only [go_sem]
      (repeat (refine ⟨by (first | exact True.intro | omega | rfl | (simp; done) | (simp; omega)), ?_⟩)); try (refine hKr _ ?_; clear hKr Kr)
      refine T.sregD 68 [0, 1, 3, 4, 5, 6, 7, 8, 9, 10, 11, 12, 13, 35] fun Kr hKr => ?_
      simp only [go_sem]
      (repeat (refine ⟨by (first | exact True.intro | omega | rfl | (simp; done) | (simp; omega)), ?_⟩)); try (refine hKr _ ?_; clear hKr Kr)
      refine CallK.data (fun _ => Spec.args (q0) (by (first | exact ArgsLe.refl | (repeat (first | exact True.intro | refine And.intro (by first | exact AvLe.refl | exact AvLe.loose | exact AvLe.nil | exact AvLe.nilT | exact AvLe.slk | (refine AvLe.agg ?_; exact ArgsLe.refl) | (refine AvLe.agg ?_; (repeat (first | exact True.intro | refine And.intro (by first | exact AvLe.refl | exact AvLe.loose | exact AvLe.nil | exact AvLe.nilT | exact AvLe.slk) ?_)))) ?_))))) rfl ?_
      simp only [go_sem]
      (repeat (refine ⟨by (first | exact True.intro | omega | rfl | (simp; done) | (simp; omega)), ?_⟩)); try (refine hKr _ ?_; clear hKr Kr)
      refine T.sregD 68 [0, 1, 3, 4, 5, 6, 7, 8, 9, 10, 11, 12, 13, 35] fun Kr hKr => ?_
      simp only [go_sem]
      (repeat (refine ⟨by (first | exact True.intro | omega | rfl | (simp; done) | (simp; omega)), ?_⟩)); try (refine hKr _ ?_; clear hKr Kr)
      refine CallK.data (fun _ => Spec.args (q1) (by (first | exact ArgsLe.refl | (repeat (first | exact True.intro | refine And.intro (by first | exact AvLe.refl | exact AvLe.loose | exact AvLe.nil | exact AvLe.nilT | exact AvLe.slk | (refine AvLe.agg ?_; exact ArgsLe.refl) | (refine AvLe.agg ?_; (repeat (first | exact True.intro | refine And.intro (by first | exact AvLe.refl | exact AvLe.loose | exact AvLe.nil | exact AvLe.nilT | exact AvLe.slk) ?_)))) ?_))))) rfl ?_
      simp only [go_sem]
      (repeat (refine ⟨by (first | exact True.intro | omega | rfl | (simp; done) | (simp; omega)), ?_⟩)); try (refine hKr _ ?_; clear hKr Kr)
      refine T.sdrawD 68 [0, 1, 3, 4, 5, 6, 7, 8, 9, 10, 11, 12, 13, 35] (.take 0 (.take 1 (.take 2 (.take 3 (.take 4 (.take 5 (.take 6 (.take 7 (.take 8 (.take 9 .done)))))))))) [3] rfl (by decide +kernel) (by decide +kernel) fun Kr hKr => ?_
      simp only [go_sem, r0, r1]
      (repeat (refine ⟨by (first | exact True.intro | omega | rfl | (simp; done) | (simp; omega)), ?_⟩)); try (refine hKr _ ?_; clear hKr Kr)
      refine T.sdraw2D 68 [0, 1, 3, 4, 5, 6, 7, 8, 9, 10, 11, 12, 13, 35] (.take 0 (.take 1 (.take 2 (.take 3 (.take 4 (.take 5 (.two 6 (.two 7 (.one 8 (.one 9 .done)) 8 (.one 7 (.one 9 .done))) 8 (.one 6 (.one 7 (.one 9 .done)))))))))) [6] rfl (by decide +kernel) (by decide +kernel) ?x10 ?h10 (fun Kr hKr => ?all10) ?rest10
      case all10 =>
        simp only [go_sem]
        (repeat (any_goals (first | exact hKr _ (.inl rfl) | exact hKr _ (.inr (by (repeat (first | exact True.intro | refine And.intro (by first | rfl | (simp [look]; done)) ?_)))) | ((first | refine CallK.dataA (p1) ?_ rfl ?_ | refine CallK.tupA (p1) ?_ ?_ | refine CallK.ownA (p1) ?_ ?_); (focus (exact ArgsLe.refl)); simp only [go_sem]) | ((first | refine CallK.dataA (n1) ?_ rfl ?_ | refine CallK.tupA (n1) ?_ ?_ | refine CallK.ownA (n1) ?_ ?_); (focus (exact ArgsLe.refl)); simp only [go_sem]) | (refine And.intro ?_ ?_) | (first | exact True.intro | omega | rfl | (simp; done) | (simp; omega)))))
        all_goals (first | exact hKr _ (.inl rfl) | exact hKr _ (.inr (by (repeat (first | exact True.intro | refine And.intro (by first | rfl | (simp [look]; done)) ?_)))))
      case rest10 =>
      refine T.seqK fun K1 hK1 => ?_
      refine T.sregD 68 [0, 1, 3, 4, 5, 6, 7, 8, 9, 10, 11, 12, 13, 35] fun Kr hKr => ?_
      simp only [go_sem]
      (repeat (refine ⟨by (first | exact True.intro | omega | rfl | (simp; done) | (simp; omega)), ?_⟩)); try (refine hKr _ ?_; clear hKr Kr)
      refine CallK.data (fun _ => Spec.args (w1) (by (first | exact ArgsLe.refl | (repeat (first | exact True.intro | refine And.intro (by first | exact AvLe.refl | exact AvLe.loose | exact AvLe.nil | exact AvLe.nilT | exact AvLe.slk | (refine AvLe.agg ?_; exact ArgsLe.refl) | (refine AvLe.agg ?_; (repeat (first | exact True.intro | refine And.intro (by first | exact AvLe.refl | exact AvLe.loose | exact AvLe.nil | exact AvLe.nilT | exact AvLe.slk) ?_)))) ?_))))) rfl ?_
      simp only [go_sem]
      (repeat (refine ⟨by (first | exact True.intro | omega | rfl | (simp; done) | (simp; omega)), ?_⟩)); try (refine hKr _ ?_; clear hKr Kr)
      refine T.condTD rfl rfl (fun hz => ?_) (fun hz => ?_) <;> try simp at hz
      refine T.skip ?_
      refine hK1 _ ?_
      refine T.sdraw2D 68 [0, 1, 3, 4, 5, 6, 7, 8, 9, 10, 11, 12, 13, 35] (.take 0 (.take 1 (.take 2 (.take 3 (.take 4 (.take 5 (.two 6 (.take 7 (.take 8 (.take 9 (.one 10 (.one 11 (.take 12 .done)))))) 10 (.one 6 (.take 7 (.take 8 (.take 9 (.one 11 (.take 12 .done))))))))))))) [6] rfl (by decide +kernel) (by decide +kernel) ?x11 ?h11 (fun Kr hKr => ?all11) ?rest11
      case all11 =>
        simp only [go_sem]
        (repeat (any_goals (first | exact hKr _ (.inl rfl) | exact hKr _ (.inr (by (repeat (first | exact True.intro | refine And.intro (by first | rfl | (simp [look]; done)) ?_)))) | ((first | refine CallK.dataA (m1) ?_ rfl ?_ | refine CallK.tupA (m1) ?_ ?_ | refine CallK.ownA (m1) ?_ ?_); (focus ((first | exact ArgsLe.refl | (repeat (first | exact True.intro | refine And.intro (by first | exact AvLe.refl | exact AvLe.loose | exact AvLe.nil | exact AvLe.nilT | exact AvLe.slk | (refine AvLe.agg ?_; exact ArgsLe.refl) | (refine AvLe.agg ?_; (repeat (first | exact True.intro | refine And.intro (by first | exact AvLe.refl | exact AvLe.loose | exact AvLe.nil | exact AvLe.nilT | exact AvLe.slk) ?_)))) ?_))); done)); simp only [go_sem]) | (refine And.intro ?_ ?_) | (first | exact True.intro | omega | rfl | (simp; done) | (simp; omega)))))
        all_goals (first | exact hKr _ (.inl rfl) | exact hKr _ (.inr (by (repeat (first | exact True.intro | refine And.intro (by first | rfl | (simp [look]; done)) ?_)))))
      case rest11 =>
      refine T.sdraw2D 68 [0, 1, 3, 4, 5, 6, 7, 8, 9, 10, 11, 12, 13, 35] (.take 0 (.take 1 (.take 2 (.take 3 (.two 4 (.take 5 (.take 6 (.take 7 (.one 8 (.one 9 (.take 10 .done)))))) 8 (.one 4 (.take 5 (.take 6 (.take 7 (.one 9 (.take 10 .done))))))))))) [6, 9] rfl (by decide +kernel) (by decide +kernel) ?x12 ?h12 (fun Kr hKr => ?all12) ?rest12
      case all12 =>
        simp only [go_sem]
        (repeat (any_goals (first | exact hKr _ (.inl rfl) | exact hKr _ (.inr (by (repeat (first | exact True.intro | refine And.intro (by first | rfl | (simp [look]; done)) ?_)))) | ((first | refine CallK.dataA (m2) ?_ rfl ?_ | refine CallK.tupA (m2) ?_ ?_ | refine CallK.ownA (m2) ?_ ?_); (focus ((first | exact ArgsLe.refl | (repeat (first | exact True.intro | refine And.intro (by first | exact AvLe.refl | exact AvLe.loose | exact AvLe.nil | exact AvLe.nilT | exact AvLe.slk | (refine AvLe.agg ?_; exact ArgsLe.refl) | (refine AvLe.agg ?_; (repeat (first | exact True.intro | refine And.intro (by first | exact AvLe.refl | exact AvLe.loose | exact AvLe.nil | exact AvLe.nilT | exact AvLe.slk) ?_)))) ?_))); done)); simp only [go_sem]) | (refine And.intro ?_ ?_) | (first | exact True.intro | omega | rfl | (simp; done) | (simp; omega)))))
        all_goals (first | exact hKr _ (.inl rfl) | exact hKr _ (.inr (by (repeat (first | exact True.intro | refine And.intro (by first | rfl | (simp [look]; done)) ?_)))))
      case rest12 =>
      refine T.sregD 68 [0, 1, 3, 4, 5, 6, 7, 8, 9, 10, 11, 12, 13, 35] fun Kr hKr => ?_
      simp only [go_sem]
      (repeat (refine ⟨by (first | exact True.intro | omega | rfl | (simp; done) | (simp; omega)), ?_⟩)); try (refine hKr _ ?_; clear hKr Kr)
      refine CallK.data (fun _ => Spec.args (e1) (by (first | exact ArgsLe.refl | (repeat (first | exact True.intro | refine And.intro (by first | exact AvLe.refl | exact AvLe.loose | exact AvLe.nil | exact AvLe.nilT | exact AvLe.slk | (refine AvLe.agg ?_; exact ArgsLe.refl) | (refine AvLe.agg ?_; (repeat (first | exact True.intro | refine And.intro (by first | exact AvLe.refl | exact AvLe.loose | exact AvLe.nil | exact AvLe.nilT | exact AvLe.slk) ?_)))) ?_))))) rfl ?_
      simp only [go_sem]
      (repeat (refine ⟨by (first | exact True.intro | omega | rfl | (simp; done) | (simp; omega)), ?_⟩)); try (refine hKr _ ?_; clear hKr Kr)
      refine T.ret (Fin.dataD rfl rfl rfl)
    · rw [hi, hj] at n1 m1
      rw [hi] at p1 m2 r0
      rw [hj] at r1
      clear hi hj
      simp only [Int.toNat_zero, Int.toNat_one, Int.reduceToNat, teamA, usrL, usrA, List.flatMap_cons, List.flatMap_nil, intsOf_cons, intsOf_nil, List.cons_append, List.nil_append, List.append_nil, List.getD_cons_zero, List.getD_cons_succ] at q1 p1 n1 m1 m2 w1 e1
      refine Ideal.Spec.of_TD (n := 68) (fn := Try.f5) rfl rfl rfl rfl rfl rfl rfl fun w ok => ?_
      refine T.sregD 68 [0, 1, 3, 4, 5, 6, 7, 8, 9, 10, 11, 12, 13, 35] fun Kr hKr => ?_
      simp only [go_sem]
      (repeat (refine ⟨by (first | exact True.intro | omega | rfl | (simp; done) | (simp; omega)), ?_⟩)); try (refine hKr _ ?_; clear hKr Kr)
      refine T.sregD 68 [0, 1, 3, 4, 5, 6, 7, 8, 9, 10, 11, 12, 13, 35] fun Kr hKr => ?_
      simp only [go_sem]
      (repeat (refine ⟨by (first | exact True.intro | omega | rfl | (simp; done) | (simp; omega)), ?_⟩)); try (refine hKr _ ?_; clear hKr Kr)
      refine CallK.data (fun _ => Spec.args (q0) (by (first | exact ArgsLe.refl | (repeat (first | exact True.intro | refine And.intro (by first | exact AvLe.refl | exact AvLe.loose | exact AvLe.nil | exact AvLe.nilT | exact AvLe.slk | (refine AvLe.agg ?_; exact ArgsLe.refl) | (refine AvLe.agg ?_; (repeat (first | exact True.intro | refine And.intro (by first | exact AvLe.refl | exact AvLe.loose | exact AvLe.nil | exact AvLe.nilT | exact AvLe.slk) ?_)))) ?_))))) rfl ?_
      simp only [go_sem]
      (repeat (refine ⟨by (first | exact True.intro | omega | rfl | (simp; done) | (simp; omega)), ?_⟩)); try (refine hKr _ ?_; clear hKr Kr)
      refine T.sregD 68 [0, 1, 3, 4, 5, 6, 7, 8, 9, 10, 11, 12, 13, 35] fun Kr hKr => ?_
      simp only [go_sem]
      (repeat (refine ⟨by (first | exact True.intro | omega | rfl | (simp; done) | (simp; omega)), ?_⟩)); try (refine hKr _ ?_; clear hKr Kr)
      refine CallK.data (fun _ => Spec.args (q1) (by (first | exact ArgsLe.refl | (repeat (first | exact True.intro | refine And.intro (by first | exact AvLe.refl | exact AvLe.loose | exact AvLe.nil | exact AvLe.nilT | exact AvLe.slk | (refine AvLe.agg ?_; exact ArgsLe.refl) | (refine AvLe.agg ?_; (repeat (first | exact True.intro | refine And.intro (by first | exact AvLe.refl | exact AvLe.loose | exact AvLe.nil | exact AvLe.nilT | exact AvLe.slk) ?_)))) ?_))))) rfl ?_
      simp only [go_sem]
      (repeat (refine ⟨by (first | exact True.intro | omega | rfl | (simp; done) | (simp; omega)), ?_⟩)); try (refine hKr _ ?_; clear hKr Kr)
      refine T.sdrawD 68 [0, 1, 3, 4, 5, 6, 7, 8, 9, 10, 11, 12, 13, 35] (.take 0 (.take 1 (.take 2 (.take 3 (.take 4 (.take 5 (.take 6 (.take 7 (.take 8 (.take 9 .done)))))))))) [3] rfl (by decide +kernel) (by decide +kernel) fun Kr hKr => ?_
      simp only [go_sem, r0, r1]
      (repeat (refine ⟨by (first | exact True.intro | omega | rfl | (simp; done) | (simp; omega)), ?_⟩)); try (refine hKr _ ?_; clear hKr Kr)
      refine T.sdraw2D 68 [0, 1, 3, 4, 5, 6, 7, 8, 9, 10, 11, 12, 13, 35] (.take 0 (.take 1 (.take 2 (.take 3 (.take 4 (.take 5 (.two 6 (.two 7 (.one 8 (.one 9 .done)) 8 (.one 7 (.one 9 .done))) 8 (.one 6 (.one 7 (.one 9 .done)))))))))) [6] rfl (by decide +kernel) (by decide +kernel) ?x13 ?h13 (fun Kr hKr => ?all13) ?rest13
      case all13 =>
        simp only [go_sem]
        (repeat (any_goals (first | exact hKr _ (.inl rfl) | exact hKr _ (.inr (by (repeat (first | exact True.intro | refine And.intro (by first | rfl | (simp [look]; done)) ?_)))) | ((first | refine CallK.dataA (p1) ?_ rfl ?_ | refine CallK.tupA (p1) ?_ ?_ | refine CallK.ownA (p1) ?_ ?_); (focus (exact ArgsLe.refl)); simp only [go_sem]) | ((first | refine CallK.dataA (n1) ?_ rfl ?_ | refine CallK.tupA (n1) ?_ ?_ | refine CallK.ownA (n1) ?_ ?_); (focus (exact ArgsLe.refl)); simp only [go_sem]) | (refine And.intro ?_ ?_) | (first | exact True.intro | omega | rfl | (simp; done) | (simp; omega)))))
        all_goals (first | exact hKr _ (.inl rfl) | exact hKr _ (.inr (by (repeat (first | exact True.intro | refine And.intro (by first | rfl | (simp [look]; done)) ?_)))))
      case rest13 =>
      refine T.seqK fun K1 hK1 => ?_
      refine T.sregD 68 [0, 1, 3, 4, 5, 6, 7, 8, 9, 10, 11, 12, 13, 35] fun Kr hKr => ?_
      simp only [go_sem]
      (repeat (refine ⟨by (first | exact True.intro | omega | rfl | (simp; done) | (simp; omega)), ?_⟩)); try (refine hKr _ ?_; clear hKr Kr)
      refine CallK.data (fun _ => Spec.args (w1) (by (first | exact ArgsLe.refl | (repeat (first | exact True.intro | refine And.intro (by first | exact AvLe.refl | exact AvLe.loose | exact AvLe.nil | exact AvLe.nilT | exact AvLe.slk | (refine AvLe.agg ?_; exact ArgsLe.refl) | (refine AvLe.agg ?_; (repeat (first | exact True.intro | refine And.intro (by first | exact AvLe.refl | exact AvLe.loose | exact AvLe.nil | exact AvLe.nilT | exact AvLe.slk) ?_)))) ?_))))) rfl ?_
      simp only [go_sem]
      (repeat (refine ⟨by (first | exact True.intro | omega | rfl | (simp; done) | (simp; omega)), ?_⟩)); try (refine hKr _ ?_; clear hKr Kr)
      refine T.condTD rfl rfl (fun hz => ?_) (fun hz => ?_) <;> try simp at hz
      refine T.skip ?_
      refine hK1 _ ?_
      refine T.sdraw2D 68 [0, 1, 3, 4, 5, 6, 7, 8, 9, 10, 11, 12, 13, 35] (.take 0 (.take 1 (.take 2 (.take 3 (.take 4 (.take 5 (.two 6 (.take 7 (.take 8 (.take 9 (.one 10 (.one 11 (.take 12 .done)))))) 10 (.one 6 (.take 7 (.take 8 (.take 9 (.one 11 (.take 12 .done))))))))))))) [6] rfl (by decide +kernel) (by decide +kernel) ?x14 ?h14 (fun Kr hKr => ?all14) ?rest14
      case all14 =>
        simp only [go_sem]
        (repeat (any_goals (first | exact hKr _ (.inl rfl) | exact hKr _ (.inr (by (repeat (first | exact True.intro | refine And.intro (by first | rfl | (simp [look]; done)) ?_)))) | ((first | refine CallK.dataA (m1) ?_ rfl ?_ | refine CallK.tupA (m1) ?_ ?_ | refine CallK.ownA (m1) ?_ ?_); (focus ((first | exact ArgsLe.refl | (repeat (first | exact True.intro | refine And.intro (by first | exact AvLe.refl | exact AvLe.loose | exact AvLe.nil | exact AvLe.nilT | exact AvLe.slk | (refine AvLe.agg ?_; exact ArgsLe.refl) | (refine AvLe.agg ?_; (repeat (first | exact True.intro | refine And.intro (by first | exact AvLe.refl | exact AvLe.loose | exact AvLe.nil | exact AvLe.nilT | exact AvLe.slk) ?_)))) ?_))); done)); simp only [go_sem]) | (refine And.intro ?_ ?_) | (first | exact True.intro | omega | rfl | (simp; done) | (simp; omega)))))
        all_goals (first | exact hKr _ (.inl rfl) | exact hKr _ (.inr (by (repeat (first | exact True.intro | refine And.intro (by first | rfl | (simp [look]; done)) ?_)))))
      case rest14 =>
      refine T.sdraw2D 68 [0, 1, 3, 4, 5, 6, 7, 8, 9, 10, 11, 12, 13, 35] (.take 0 (.take 1 (.take 2 (.take 3 (.two 4 (.take 5 (.take 6 (.take 7 (.one 8 (.one 9 (.take 10 .done)))))) 8 (.one 4 (.take 5 (.take 6 (.take 7 (.one 9 (.take 10 .done))))))))))) [6, 9] rfl (by decide +kernel) (by decide +kernel) ?x15 ?h15 (fun Kr hKr => ?all15) ?rest15
      case all15 =>
        simp only [go_sem]
        (repeat (any_goals (first | exact hKr _ (.inl rfl) | exact hKr _ (.inr (by (repeat (first | exact True.intro | refine And.intro (by first | rfl | (simp [look]; done)) ?_)))) | ((first | refine CallK.dataA (m2) ?_ rfl ?_ | refine CallK.tupA (m2) ?_ ?_ | refine CallK.ownA (m2) ?_ ?_); (focus ((first | exact ArgsLe.refl | (repeat (first | exact True.intro | refine And.intro (by first | exact AvLe.refl | exact AvLe.loose | exact AvLe.nil | exact AvLe.nilT | exact AvLe.slk | (refine AvLe.agg ?_; exact ArgsLe.refl) | (refine AvLe.agg ?_; (repeat (first | exact True.intro | refine And.intro (by first | exact AvLe.refl | exact AvLe.loose | exact AvLe.nil | exact AvLe.nilT | exact AvLe.slk) ?_)))) ?_))); done)); simp only [go_sem]) | (refine And.intro ?_ ?_) | (first | exact True.intro | omega | rfl | (simp; done) | (simp; omega)))))
        all_goals (first | exact hKr _ (.inl rfl) | exact hKr _ (.inr (by (repeat (first | exact True.intro | refine And.intro (by first | rfl | (simp [look]; done)) ?_)))))
      case rest15 =>
      refine T.sregD 68 [0, 1, 3, 4, 5, 6, 7, 8, 9, 10, 11, 12, 13, 35] fun Kr hKr => ?_
      simp only [go_sem]
      (repeat (refine ⟨by (first | exact True.intro | omega | rfl | (simp; done) | (simp; omega)), ?_⟩)); try (refine hKr _ ?_; clear hKr Kr)
      refine CallK.data (fun _ => Spec.args (e1) (by (first | exact ArgsLe.refl | (repeat (first | exact True.intro | refine And.intro (by first | exact AvLe.refl | exact AvLe.loose | exact AvLe.nil | exact AvLe.nilT | exact AvLe.slk | (refine AvLe.agg ?_; exact ArgsLe.refl) | (refine AvLe.agg ?_; (repeat (first | exact True.intro | refine And.intro (by first | exact AvLe.refl | exact AvLe.loose | exact AvLe.nil | exact AvLe.nilT | exact AvLe.slk) ?_)))) ?_))))) rfl ?_
      simp only [go_sem]
      (repeat (refine ⟨by (first | exact True.intro | omega | rfl | (simp; done) | (simp; omega)), ?_⟩)); try (refine hKr _ ?_; clear hKr Kr)
      refine T.ret (Fin.dataD rfl rfl rfl)
    · rw [hi, hj] at n1 m1
      rw [hi] at p1 m2 r0
      rw [hj] at r1
      clear hi hj
      simp only [Int.toNat_zero, Int.toNat_one, Int.reduceToNat, teamA, usrL, usrA, List.flatMap_cons, List.flatMap_nil, intsOf_cons, intsOf_nil, List.cons_append, List.nil_append, List.append_nil, List.getD_cons_zero, List.getD_cons_succ] at q1 p1 n1 m1 m2 w1 e1
      refine Ideal.Spec.of_TD (n := 68) (fn := Try.f5) rfl rfl rfl rfl rfl rfl rfl fun w ok => ?_
      refine T.sregD 68 [0, 1, 3, 4, 5, 6, 7, 8, 9, 10, 11, 12, 13, 35] fun Kr hKr => ?_
      simp only [go_sem]
      (repeat (refine ⟨by (first | exact True.intro | omega | rfl | (simp; done) | (simp; omega)), ?_⟩)); try (refine hKr _ ?_; clear hKr Kr)
      refine T.sregD 68 [0, 1, 3, 4, 5, 6, 7, 8, 9, 10, 11, 12, 13, 35] fun Kr hKr => ?_
      simp only [go_sem]
      (repeat (refine ⟨by (first | exact True.intro | omega | rfl | (simp; done) | (simp; omega)), ?_⟩)); try (refine hKr _ ?_; clear hKr Kr)
      refine CallK.data (fun _ => Spec.args (q0) (by (first | exact ArgsLe.refl | (repeat (first | exact True.intro | refine And.intro (by first | exact AvLe.refl | exact AvLe.loose | exact AvLe.nil | exact AvLe.nilT | exact AvLe.slk | (refine AvLe.agg ?_; exact ArgsLe.refl) | (refine AvLe.agg ?_; (repeat (first | exact True.intro | refine And.intro (by first | exact AvLe.refl | exact AvLe.loose | exact AvLe.nil | exact AvLe.nilT | exact AvLe.slk) ?_)))) ?_))))) rfl ?_
      simp only [go_sem]
      (repeat (refine ⟨by (first | exact True.intro | omega | rfl | (simp; done) | (simp; omega)), ?_⟩)); try (refine hKr _ ?_; clear hKr Kr)
      refine T.sregD 68 [0, 1, 3, 4, 5, 6, 7, 8, 9, 10, 11, 12, 13, 35] fun Kr hKr => ?_
      simp only [go_sem]
      (repeat (refine ⟨by (first | exact True.intro | omega | rfl | (simp; done) | (simp; omega)), ?_⟩)); try (refine hKr _ ?_; clear hKr Kr)
      refine CallK.data (fun _ => Spec.args (q1) (by (first | exact ArgsLe.refl | (repeat (first | exact True.intro | refine And.intro (by first | exact AvLe.refl | exact AvLe.loose | exact AvLe.nil | exact AvLe.nilT | exact AvLe.slk | (refine AvLe.agg ?_; exact ArgsLe.refl) | (refine AvLe.agg ?_; (repeat (first | exact True.intro | refine And.intro (by first | exact AvLe.refl | exact AvLe.loose | exact AvLe.nil | exact AvLe.nilT | exact AvLe.slk) ?_)))) ?_))))) rfl ?_
      simp only [go_sem]
      (repeat (refine ⟨by (first | exact True.intro | omega | rfl | (simp; done) | (simp; omega)), ?_⟩)); try (refine hKr _ ?_; clear hKr Kr)
      refine T.sdrawD 68 [0, 1, 3, 4, 5, 6, 7, 8, 9, 10, 11, 12, 13, 35] (.take 0 (.take 1 (.take 2 (.take 3 (.take 4 (.take 5 (.take 6 (.take 7 (.take 8 (.take 9 .done)))))))))) [3] rfl (by decide +kernel) (by decide +kernel) fun Kr hKr => ?_
      simp only [go_sem, r0, r1]
      (repeat (refine ⟨by (first | exact True.intro | omega | rfl | (simp; done) | (simp; omega)), ?_⟩)); try (refine hKr _ ?_; clear hKr Kr)
      refine T.sdraw2D 68 [0, 1, 3, 4, 5, 6, 7, 8, 9, 10, 11, 12, 13, 35] (.take 0 (.take 1 (.take 2 (.take 3 (.take 4 (.take 5 (.two 6 (.two 7 (.one 8 (.one 9 .done)) 8 (.one 7 (.one 9 .done))) 8 (.one 6 (.one 7 (.one 9 .done)))))))))) [6] rfl (by decide +kernel) (by decide +kernel) ?x16 ?h16 (fun Kr hKr => ?all16) ?rest16
      case all16 =>
        simp only [go_sem]
        (repeat (any_goals (first | exact hKr _ (.inl rfl) | exact hKr _ (.inr (by (repeat (first | exact True.intro | refine And.intro (by first | rfl | (simp [look]; done)) ?_)))) | ((first | refine CallK.dataA (p1) ?_ rfl ?_ | refine CallK.tupA (p1) ?_ ?_ | refine CallK.ownA (p1) ?_ ?_); (focus (exact ArgsLe.refl)); simp only [go_sem]) | ((first | refine CallK.dataA (n1) ?_ rfl ?_ | refine CallK.tupA (n1) ?_ ?_ | refine CallK.ownA (n1) ?_ ?_); (focus (exact ArgsLe.refl)); simp only [go_sem]) | (refine And.intro ?_ ?_) | (first | exact True.intro | omega | rfl | (simp; done) | (simp; omega)))))
        all_goals (first | exact hKr _ (.inl rfl) | exact hKr _ (.inr (by (repeat (first | exact True.intro | refine And.intro (by first | rfl | (simp [look]; done)) ?_)))))
      case rest16 =>
      refine T.seqK fun K1 hK1 => ?_
      refine T.sregD 68 [0, 1, 3, 4, 5, 6, 7, 8, 9, 10, 11, 12, 13, 35] fun Kr hKr => ?_
      simp only [go_sem]
      (repeat (refine ⟨by (first | exact True.intro | omega | rfl | (simp; done) | (simp; omega)), ?_⟩)); try (refine hKr _ ?_; clear hKr Kr)
      refine CallK.data (fun _ => Spec.args (w1) (by (first | exact ArgsLe.refl | (repeat (first | exact True.intro | refine And.intro (by first | exact AvLe.refl | exact AvLe.loose | exact AvLe.nil | exact AvLe.nilT | exact AvLe.slk | (refine AvLe.agg ?_; exact ArgsLe.refl) | (refine AvLe.agg ?_; (repeat (first | exact True.intro | refine And.intro (by first | exact AvLe.refl | exact AvLe.loose | exact AvLe.nil | exact AvLe.nilT | exact AvLe.slk) ?_)))) ?_))))) rfl ?_
      simp only [go_sem]
      (repeat (refine ⟨by (first | exact True.intro | omega | rfl | (simp; done) | (simp; omega)), ?_⟩)); try (refine hKr _ ?_; clear hKr Kr)
      refine T.condTD rfl rfl (fun hz => ?_) (fun hz => ?_) <;> try simp at hz
      refine T.skip ?_
      refine hK1 _ ?_
      refine T.sdraw2D 68 [0, 1, 3, 4, 5, 6, 7, 8, 9, 10, 11, 12, 13, 35] (.take 0 (.take 1 (.take 2 (.take 3 (.take 4 (.take 5 (.two 6 (.take 7 (.take 8 (.take 9 (.one 10 (.one 11 (.take 12 .done)))))) 10 (.one 6 (.take 7 (.take 8 (.take 9 (.one 11 (.take 12 .done))))))))))))) [6] rfl (by decide +kernel) (by decide +kernel) ?x17 ?h17 (fun Kr hKr => ?all17) ?rest17
      case all17 =>
        simp only [go_sem]
        (repeat (any_goals (first | exact hKr _ (.inl rfl) | exact hKr _ (.inr (by (repeat (first | exact True.intro | refine And.intro (by first | rfl | (simp [look]; done)) ?_)))) | ((first | refine CallK.dataA (m1) ?_ rfl ?_ | refine CallK.tupA (m1) ?_ ?_ | refine CallK.ownA (m1) ?_ ?_); (focus ((first | exact ArgsLe.refl | (repeat (first | exact True.intro | refine And.intro (by first | exact AvLe.refl | exact AvLe.loose | exact AvLe.nil | exact AvLe.nilT | exact AvLe.slk | (refine AvLe.agg ?_; exact ArgsLe.refl) | (refine AvLe.agg ?_; (repeat (first | exact True.intro | refine And.intro (by first | exact AvLe.refl | exact AvLe.loose | exact AvLe.nil | exact AvLe.nilT | exact AvLe.slk) ?_)))) ?_))); done)); simp only [go_sem]) | (refine And.intro ?_ ?_) | (first | exact True.intro | omega | rfl | (simp; done) | (simp; omega)))))
        all_goals (first | exact hKr _ (.inl rfl) | exact hKr _ (.inr (by (repeat (first | exact True.intro | refine And.intro (by first | rfl | (simp [look]; done)) ?_)))))
      case rest17 =>
      refine T.sdraw2D 68 [0, 1, 3, 4, 5, 6, 7, 8, 9, 10, 11, 12, 13, 35] (.take 0 (.take 1 (.take 2 (.take 3 (.two 4 (.take 5 (.take 6 (.take 7 (.one 8 (.one 9 (.take 10 .done)))))) 8 (.one 4 (.take 5 (.take 6 (.take 7 (.one 9 (.take 10 .done))))))))))) [6, 9] rfl (by decide +kernel) (by decide +kernel) ?x18 ?h18 (fun Kr hKr => ?all18) ?rest18
      case all18 =>
        simp only [go_sem]
        (repeat (any_goals (first | exact hKr _ (.inl rfl) | exact hKr _ (.inr (by (repeat (first | exact True.intro | refine And.intro (by first | rfl | (simp [look]; done)) ?_)))) | ((first | refine CallK.dataA (m2) ?_ rfl ?_ | refine CallK.tupA (m2) ?_ ?_ | refine CallK.ownA (m2) ?_ ?_); (focus ((first | exact ArgsLe.refl | (repeat (first | exact True.intro | refine And.intro (by first | exact AvLe.refl | exact AvLe.loose | exact AvLe.nil | exact AvLe.nilT | exact AvLe.slk | (refine AvLe.agg ?_; exact ArgsLe.refl) | (refine AvLe.agg ?_; (repeat (first | exact True.intro | refine And.intro (by first | exact AvLe.refl | exact AvLe.loose | exact AvLe.nil | exact AvLe.nilT | exact AvLe.slk) ?_)))) ?_))); done)); simp only [go_sem]) | (refine And.intro ?_ ?_) | (first | exact True.intro | omega | rfl | (simp; done) | (simp; omega)))))
        all_goals (first | exact hKr _ (.inl rfl) | exact hKr _ (.inr (by (repeat (first | exact True.intro | refine And.intro (by first | rfl | (simp [look]; done)) ?_)))))
      case rest18 =>
      refine T.sregD 68 [0, 1, 3, 4, 5, 6, 7, 8, 9, 10, 11, 12, 13, 35] fun Kr hKr => ?_
      simp only [go_sem]
      (repeat (refine ⟨by (first | exact True.intro | omega | rfl | (simp; done) | (simp; omega)), ?_⟩)); try (refine hKr _ ?_; clear hKr Kr)
      refine CallK.data (fun _ => Spec.args (e1) (by (first | exact ArgsLe.refl | (repeat (first | exact True.intro | refine And.intro (by first | exact AvLe.refl | exact AvLe.loose | exact AvLe.nil | exact AvLe.nilT | exact AvLe.slk | (refine AvLe.agg ?_; exact ArgsLe.refl) | (refine AvLe.agg ?_; (repeat (first | exact True.intro | refine And.intro (by first | exact AvLe.refl | exact AvLe.loose | exact AvLe.nil | exact AvLe.nilT | exact AvLe.slk) ?_)))) ?_))))) rfl ?_
      simp only [go_sem]
      (repeat (refine ⟨by (first | exact True.intro | omega | rfl | (simp; done) | (simp; omega)), ?_⟩)); try (refine hKr _ ?_; clear hKr Kr)
      refine T.ret (Fin.dataD rfl rfl rfl)
  · rcases hj with hj | hj | hj
    · rw [hi, hj] at n1 m1
      rw [hi] at p1 m2 r0
      rw [hj] at r1
      clear hi hj
      simp only [Int.toNat_zero, Int.toNat_one, Int.reduceToNat, teamA, usrL, usrA, List.flatMap_cons, List.flatMap_nil, intsOf_cons, intsOf_nil, List.cons_append, List.nil_append, List.append_nil, List.getD_cons_zero, List.getD_cons_succ] at q1 p1 n1 m1 m2 w1 e1
      refine Ideal.Spec.of_TD (n := 68) (fn := Try.f5) rfl rfl rfl rfl rfl rfl rfl fun w ok => ?_
      refine T.sregD 68 [0, 1, 3, 4, 5, 6, 7, 8, 9, 10, 11, 12, 13, 35] fun Kr hKr => ?_
      simp only [go_sem]
      (repeat (refine ⟨by (first | exact True.intro | omega | rfl | (simp; done) | (simp; omega)), ?_⟩)); try (refine hKr _ ?_; clear hKr Kr)
      refine T.sregD 68 [0, 1, 3, 4, 5, 6, 7, 8, 9, 10, 11, 12, 13, 35] fun Kr hKr => ?_
      simp only [go_sem]
      (repeat (refine ⟨by (first | exact True.intro | omega | rfl | (simp; done) | (simp; omega)), ?_⟩)); try (refine hKr _ ?_; clear hKr Kr)
      refine CallK.data (fun _ => Spec.args (q0) (by (first | exact ArgsLe.refl | (repeat (first | exact True.intro | refine And.intro (by first | exact AvLe.refl | exact AvLe.loose | exact AvLe.nil | exact AvLe.nilT | exact AvLe.slk | (refine AvLe.agg ?_; exact ArgsLe.refl) | (refine AvLe.agg ?_; (repeat (first | exact True.intro | refine And.intro (by first | exact AvLe.refl | exact AvLe.loose | exact AvLe.nil | exact AvLe.nilT | exact AvLe.slk) ?_)))) ?_))))) rfl ?_
      simp only [go_sem]
      (repeat (refine ⟨by (first | exact True.intro | omega | rfl | (simp; done) | (simp; omega)), ?_⟩)); try (refine hKr _ ?_; clear hKr Kr)
      refine T.sregD 68 [0, 1, 3, 4, 5, 6, 7, 8, 9, 10, 11, 12, 13, 35] fun Kr hKr => ?_
      simp only [go_sem]
      (repeat (refine ⟨by (first | exact True.intro | omega | rfl | (simp; done) | (simp; omega)), ?_⟩)); try (refine hKr _ ?_; clear hKr Kr)
      refine CallK.data (fun _ => Spec.args (q1) (by (first | exact ArgsLe.refl | (repeat (first | exact True.intro | refine And.intro (by first | exact AvLe.refl | exact AvLe.loose | exact AvLe.nil | exact AvLe.nilT | exact AvLe.slk | (refine AvLe.agg ?_; exact ArgsLe.refl) | (refine AvLe.agg ?_; (repeat (first | exact True.intro | refine And.intro (by first | exact AvLe.refl | exact AvLe.loose | exact AvLe.nil | exact AvLe.nilT | exact AvLe.slk) ?_)))) ?_))))) rfl ?_
      simp only [go_sem]
      (repeat (refine ⟨by (first | exact True.intro | omega | rfl | (simp; done) | (simp; omega)), ?_⟩)); try (refine hKr _ ?_; clear hKr Kr)
      refine T.sdrawD 68 [0, 1, 3, 4, 5, 6, 7, 8, 9, 10, 11, 12, 13, 35] (.take 0 (.take 1 (.take 2 (.take 3 (.take 4 (.take 5 (.take 6 (.take 7 (.take 8 (.take 9 .done)))))))))) [3] rfl (by decide +kernel) (by decide +kernel) fun Kr hKr => ?_
      simp only [go_sem, r0, r1]
      (repeat (refine ⟨by (first | exact True.intro | omega | rfl | (simp; done) | (simp; omega)), ?_⟩)); try (refine hKr _ ?_; clear hKr Kr)
      refine T.sdraw2D 68 [0, 1, 3, 4, 5, 6, 7, 8, 9, 10, 11, 12, 13, 35] (.take 0 (.take 1 (.take 2 (.take 3 (.take 4 (.take 5 (.two 6 (.two 7 (.one 8 (.one 9 .done)) 8 (.one 7 (.one 9 .done))) 8 (.one 6 (.one 7 (.one 9 .done)))))))))) [6] rfl (by decide +kernel) (by decide +kernel) ?x19 ?h19 (fun Kr hKr => ?all19) ?rest19
      case all19 =>
        simp only [go_sem]
        (repeat (any_goals (first | exact hKr _ (.inl rfl) | exact hKr _ (.inr (by (repeat (first | exact True.intro | refine And.intro (by first | rfl | (simp [look]; done)) ?_)))) | ((first | refine CallK.dataA (p1) ?_ rfl ?_ | refine CallK.tupA (p1) ?_ ?_ | refine CallK.ownA (p1) ?_ ?_); (focus (exact ArgsLe.refl)); simp only [go_sem]) | ((first | refine CallK.dataA (n1) ?_ rfl ?_ | refine CallK.tupA (n1) ?_ ?_ | refine CallK.ownA (n1) ?_ ?_); (focus (exact ArgsLe.refl)); simp only [go_sem]) | (refine And.intro ?_ ?_) | (first | exact True.intro | omega | rfl | (simp; done) | (simp; omega)))))
        all_goals (first | exact hKr _ (.inl rfl) | exact hKr _ (.inr (by (repeat (first | exact True.intro | refine And.intro (by first | rfl | (simp [look]; done)) ?_)))))
      case rest19 =>
      refine T.seqK fun K1 hK1 => ?_
      refine T.sregD 68 [0, 1, 3, 4, 5, 6, 7, 8, 9, 10, 11, 12, 13, 35] fun Kr hKr => ?_
      simp only [go_sem]
      (repeat (refine ⟨by (first | exact True.intro | omega | rfl | (simp; done) | (simp; omega)), ?_⟩)); try (refine hKr _ ?_; clear hKr Kr)
      refine CallK.data (fun _ => Spec.args (w1) (by (first | exact ArgsLe.refl | (repeat (first | exact True.intro | refine And.intro (by first | exact AvLe.refl | exact AvLe.loose | exact AvLe.nil | exact AvLe.nilT | exact AvLe.slk | (refine AvLe.agg ?_; exact ArgsLe.refl) | (refine AvLe.agg ?_; (repeat (first | exact True.intro | refine And.intro (by first | exact AvLe.refl | exact AvLe.loose | exact AvLe.nil | exact AvLe.nilT | exact AvLe.slk) ?_)))) ?_))))) rfl ?_
      simp only [go_sem]
      (repeat (refine ⟨by (first | exact True.intro | omega | rfl | (simp; done) | (simp; omega)), ?_⟩)); try (refine hKr _ ?_; clear hKr Kr)
      refine T.condTD rfl rfl (fun hz => ?_) (fun hz => ?_) <;> try simp at hz
      refine T.skip ?_
      refine hK1 _ ?_
      refine T.sdraw2D 68 [0, 1, 3, 4, 5, 6, 7, 8, 9, 10, 11, 12, 13, 35] (.take 0 (.take 1 (.take 2 (.take 3 (.take 4 (.take 5 (.two 6 (.take 7 (.take 8 (.take 9 (.one 10 (.one 11 (.take 12 .done)))))) 10 (.one 6 (.take 7 (.take 8 (.take 9 (.one 11 (.take 12 .done))))))))))))) [6] rfl (by decide +kernel) (by decide +kernel) ?x20 ?h20 (fun Kr hKr => ?all20) ?rest20
      case all20 =>
        simp only [go_sem]
        (repeat (any_goals (first | exact hKr _ (.inl rfl) | exact hKr _ (.inr (by (repeat (first | exact True.intro | refine And.intro (by first | rfl | (simp [look]; done)) ?_)))) | ((first | refine CallK.dataA (m1) ?_ rfl ?_ | refine CallK.tupA (m1) ?_ ?_ | refine CallK.ownA (m1) ?_ ?_); (focus ((first | exact ArgsLe.refl | (repeat (first | exact True.intro | refine And.intro (by first | exact AvLe.refl | exact AvLe.loose | exact AvLe.nil | exact AvLe.nilT | exact AvLe.slk | (refine AvLe.agg ?_; exact ArgsLe.refl) | (refine AvLe.agg ?_; (repeat (first | exact True.intro | refine And.intro (by first | exact AvLe.refl | exact AvLe.loose | exact AvLe.nil | exact AvLe.nilT | exact AvLe.slk) ?_)))) ?_))); done)); simp only [go_sem]) | (refine And.intro ?_ ?_) | (first | exact True.intro | omega | rfl | (simp; done) | (simp; omega)))))
        all_goals (first | exact hKr _ (.inl rfl) | exact hKr _ (.inr (by (repeat (first | exact True.intro | refine And.intro (by first | rfl | (simp [look]; done)) ?_)))))
      case rest20 =>
      refine T.sdraw2D 68 [0, 1, 3, 4, 5, 6, 7, 8, 9, 10, 11, 12, 13, 35] (.take 0 (.take 1 (.take 2 (.take 3 (.two 4 (.take 5 (.take 6 (.take 7 (.one 8 (.one 9 (.take 10 .done)))))) 8 (.one 4 (.take 5 (.take 6 (.take 7 (.one 9 (.take 10 .done))))))))))) [6, 9] rfl (by decide +kernel) (by decide +kernel) ?x21 ?h21 (fun Kr hKr => ?all21) ?rest21
      case all21 =>
        simp only [go_sem]
        (repeat (any_goals (first | exact hKr _ (.inl rfl) | exact hKr _ (.inr (by (repeat (first | exact True.intro | refine And.intro (by first | rfl | (simp [look]; done)) ?_)))) | ((first | refine CallK.dataA (m2) ?_ rfl ?_ | refine CallK.tupA (m2) ?_ ?_ | refine CallK.ownA (m2) ?_ ?_); (focus ((first | exact ArgsLe.refl | (repeat (first | exact True.intro | refine And.intro (by first | exact AvLe.refl | exact AvLe.loose | exact AvLe.nil | exact AvLe.nilT | exact AvLe.slk | (refine AvLe.agg ?_; exact ArgsLe.refl) | (refine AvLe.agg ?_; (repeat (first | exact True.intro | refine And.intro (by first | exact AvLe.refl | exact AvLe.loose | exact AvLe.nil | exact AvLe.nilT | exact AvLe.slk) ?_)))) ?_))); done)); simp only [go_sem]) | (refine And.intro ?_ ?_) | (first | exact True.intro | omega | rfl | (simp; done) | (simp; omega)))))
        all_goals (first | exact hKr _ (.inl rfl) | exact hKr _ (.inr (by (repeat (first | exact True.intro | refine And.intro (by first | rfl | (simp [look]; done)) ?_)))))
      case rest21 =>
      refine T.sregD 68 [0, 1, 3, 4, 5, 6, 7, 8, 9, 10, 11, 12, 13, 35] fun Kr hKr => ?_
      simp only [go_sem]
      (repeat (refine ⟨by (first | exact True.intro | omega | rfl | (simp; done) | (simp; omega)), ?_⟩)); try (refine hKr _ ?_; clear hKr Kr)
      refine CallK.data (fun _ => Spec.args (e1) (by (first | exact ArgsLe.refl | (repeat (first | exact True.intro | refine And.intro (by first | exact AvLe.refl | exact AvLe.loose | exact AvLe.nil | exact AvLe.nilT | exact AvLe.slk | (refine AvLe.agg ?_; exact ArgsLe.refl) | (refine AvLe.agg ?_; (repeat (first | exact True.intro | refine And.intro (by first | exact AvLe.refl | exact AvLe.loose | exact AvLe.nil | exact AvLe.nilT | exact AvLe.slk) ?_)))) ?_))))) rfl ?_
      simp only [go_sem]
      (repeat (refine ⟨by (first | exact True.intro | omega | rfl | (simp; done) | (simp; omega)), ?_⟩)); try (refine hKr _ ?_; clear hKr Kr)
      refine T.ret (Fin.dataD rfl rfl rfl)
    · rw [hi, hj] at n1 m1
      rw [hi] at p1 m2 r0
      rw [hj] at r1
      clear hi hj
      simp only [Int.toNat_zero, Int.toNat_one, Int.reduceToNat, teamA, usrL, usrA, List.flatMap_cons, List.flatMap_nil, intsOf_cons, intsOf_nil, List.cons_append, List.nil_append, List.append_nil, List.getD_cons_zero, List.getD_cons_succ] at q1 p1 n1 m1 m2 w1 e1
      refine Ideal.Spec.of_TD (n := 68) (fn := Try.f5) rfl rfl rfl rfl rfl rfl rfl fun w ok => ?_
      refine T.sregD 68 [0, 1, 3, 4, 5, 6, 7, 8, 9, 10, 11, 12, 13, 35] fun Kr hKr => ?_
      simp only [go_sem]
      (repeat (refine ⟨by (first | exact True.intro | omega | rfl | (simp; done) | (simp; omega)), ?_⟩)); try (refine hKr _ ?_; clear hKr Kr)
      refine T.sregD 68 [0, 1, 3, 4, 5, 6, 7, 8, 9, 10, 11, 12, 13, 35] fun Kr hKr => ?_
      simp only [go_sem]
      (repeat (refine ⟨by (first | exact True.intro | omega | rfl | (simp; done) | (simp; omega)), ?_⟩)); try (refine hKr _ ?_; clear hKr Kr)
      refine CallK.data (fun _ => Spec.args (q0) (by (first | exact ArgsLe.refl | (repeat (first | exact True.intro | refine And.intro (by first | exact AvLe.refl | exact AvLe.loose | exact AvLe.nil | exact AvLe.nilT | exact AvLe.slk | (refine AvLe.agg ?_; exact ArgsLe.refl) | (refine AvLe.agg ?_; (repeat (first | exact True.intro | refine And.intro (by first | exact AvLe.refl | exact AvLe.loose | exact AvLe.nil | exact AvLe.nilT | exact AvLe.slk) ?_)))) ?_))))) rfl ?_
      simp only [go_sem]
      (repeat (refine ⟨by (first | exact True.intro | omega | rfl | (simp; done) | (simp; omega)), ?_⟩)); try (refine hKr _ ?_; clear hKr Kr)
      refine T.sregD 68 [0, 1, 3, 4, 5, 6, 7, 8, 9, 10, 11, 12, 13, 35] fun Kr hKr => ?_
      simp only [go_sem]
      (repeat (refine ⟨by (first | exact True.intro | omega | rfl | (simp; done) | (simp; omega)), ?_⟩)); try (refine hKr _ ?_; clear hKr Kr)
      refine CallK.data (fun _ => Spec.args (q1) (by (first | exact ArgsLe.refl | (repeat (first | exact True.intro | refine And.intro (by first | exact AvLe.refl | exact AvLe.loose | exact AvLe.nil | exact AvLe.nilT | exact AvLe.slk | (refine AvLe.agg ?_; exact ArgsLe.refl) | (refine AvLe.agg ?_; (repeat (first | exact True.intro | refine And.intro (by first | exact AvLe.refl | exact AvLe.loose | exact AvLe.nil | exact AvLe.nilT | exact AvLe.slk) ?_)))) ?_))))) rfl ?_
      simp only [go_sem]
      (repeat (refine ⟨by (first | exact True.intro | omega | rfl | (simp; done) | (simp; omega)), ?_⟩)); try (refine hKr _ ?_; clear hKr Kr)
      refine T.sdrawD 68 [0, 1, 3, 4, 5, 6, 7, 8, 9, 10, 11, 12, 13, 35] (.take 0 (.take 1 (.take 2 (.take 3 (.take 4 (.take 5 (.take 6 (.take 7 (.take 8 (.take 9 .done)))))))))) [3] rfl (by decide +kernel) (by decide +kernel) fun Kr hKr => ?_
      simp only [go_sem, r0, r1]
      (repeat (refine ⟨by (first | exact True.intro | omega | rfl | (simp; done) | (simp; omega)), ?_⟩)); try (refine hKr _ ?_; clear hKr Kr)
      refine T.sdraw2D 68 [0, 1, 3, 4, 5, 6, 7, 8, 9, 10, 11, 12, 13, 35] (.take 0 (.take 1 (.take 2 (.take 3 (.take 4 (.take 5 (.two 6 (.two 7 (.one 8 (.one 9 .done)) 8 (.one 7 (.one 9 .done))) 8 (.one 6 (.one 7 (.one 9 .done)))))))))) [6] rfl (by decide +kernel) (by decide +kernel) ?x22 ?h22 (fun Kr hKr => ?all22) ?rest22
      case all22 =>
        simp only [go_sem]
        (repeat (any_goals (first | exact hKr _ (.inl rfl) | exact hKr _ (.inr (by (repeat (first | exact True.intro | refine And.intro (by first | rfl | (simp [look]; done)) ?_)))) | ((first | refine CallK.dataA (p1) ?_ rfl ?_ | refine CallK.tupA (p1) ?_ ?_ | refine CallK.ownA (p1) ?_ ?_); (focus (exact ArgsLe.refl)); simp only [go_sem]) | ((first | refine CallK.dataA (n1) ?_ rfl ?_ | refine CallK.tupA (n1) ?_ ?_ | refine CallK.ownA (n1) ?_ ?_); (focus (exact ArgsLe.refl)); simp only [go_sem]) | (refine And.intro ?_ ?_) | (first | exact True.intro | omega | rfl | (simp; done) | (simp; omega)))))
        all_goals (first | exact hKr _ (.inl rfl) | exact hKr _ (.inr (by (repeat (first | exact True.intro | refine And.intro (by first | rfl | (simp [look]; done)) ?_)))))
      case rest22 =>
      refine T.seqK fun K1 hK1 => ?_
      refine T.sregD 68 [0, 1, 3, 4, 5, 6, 7, 8, 9, 10, 11, 12, 13, 35] fun Kr hKr => ?_
      simp only [go_sem]
      (repeat (refine ⟨by (first | exact True.intro | omega | rfl | (simp; done) | (simp; omega)), ?_⟩)); try (refine hKr _ ?_; clear hKr Kr)
      refine CallK.data (fun _ => Spec.args (w1) (by (first | exact ArgsLe.refl | (repeat (first | exact True.intro | refine And.intro (by first | exact AvLe.refl | exact AvLe.loose | exact AvLe.nil | exact AvLe.nilT | exact AvLe.slk | (refine AvLe.agg ?_; exact ArgsLe.refl) | (refine AvLe.agg ?_; (repeat (first | exact True.intro | refine And.intro (by first | exact AvLe.refl | exact AvLe.loose | exact AvLe.nil | exact AvLe.nilT | exact AvLe.slk) ?_)))) ?_))))) rfl ?_
      simp only [go_sem]
      (repeat (refine ⟨by (first | exact True.intro | omega | rfl | (simp; done) | (simp; omega)), ?_⟩)); try (refine hKr _ ?_; clear hKr Kr)
      refine T.condTD rfl rfl (fun hz => ?_) (fun hz => ?_) <;> try simp at hz
      refine T.skip ?_
      refine hK1 _ ?_
      refine T.sdraw2D 68 [0, 1, 3, 4, 5, 6, 7, 8, 9, 10, 11, 12, 13, 35] (.take 0 (.take 1 (.take 2 (.take 3 (.take 4 (.take 5 (.two 6 (.take 7 (.take 8 (.take 9 (.one 10 (.one 11 (.take 12 .done)))))) 10 (.one 6 (.take 7 (.take 8 (.take 9 (.one 11 (.take 12 .done))))))))))))) [6] rfl (by decide +kernel) (by decide +kernel) ?x23 ?h23 (fun Kr hKr => ?all23) ?rest23
      case all23 =>
        simp only [go_sem]
        (repeat (any_goals (first | exact hKr _ (.inl rfl) | exact hKr _ (.inr (by (repeat (first | exact True.intro | refine And.intro (by first | rfl | (simp [look]; done)) ?_)))) | ((first | refine CallK.dataA (m1) ?_ rfl ?_ | refine CallK.tupA (m1) ?_ ?_ | refine CallK.ownA (m1) ?_ ?_); (focus ((first | exact ArgsLe.refl | (repeat (first | exact True.intro | refine And.intro (by first | exact AvLe.refl | exact AvLe.loose | exact AvLe.nil | exact AvLe.nilT | exact AvLe.slk | (refine AvLe.agg ?_; exact ArgsLe.refl) | (refine AvLe.agg ?_; (repeat (first | exact True.intro | refine And.intro (by first | exact AvLe.refl | exact AvLe.loose | exact AvLe.nil | exact AvLe.nilT | exact AvLe.slk) ?_)))) ?_))); done)); simp only [go_sem]) | (refine And.intro ?_ ?_) | (first | exact True.intro | omega | rfl | (simp; done) | (simp; omega)))))
        all_goals (first | exact hKr _ (.inl rfl) | exact hKr _ (.inr (by (repeat (first | exact True.intro | refine And.intro (by first | rfl | (simp [look]; done)) ?_)))))
      case rest23 =>
      refine T.sdraw2D 68 [0, 1, 3, 4, 5, 6, 7, 8, 9, 10, 11, 12, 13, 35] (.take 0 (.take 1 (.take 2 (.take 3 (.two 4 (.take 5 (.take 6 (.take 7 (.one 8 (.one 9 (.take 10 .done)))))) 8 (.one 4 (.take 5 (.take 6 (.take 7 (.one 9 (.take 10 .done))))))))))) [6, 9] rfl (by decide +kernel) (by decide +kernel) ?x24 ?h24 (fun Kr hKr => ?all24) ?rest24
      case all24 =>
        simp only [go_sem]
        (repeat (any_goals (first | exact hKr _ (.inl rfl) | exact hKr _ (.inr (by (repeat (first | exact True.intro | refine And.intro (by first | rfl | (simp [look]; done)) ?_)))) | ((first | refine CallK.dataA (m2) ?_ rfl ?_ | refine CallK.tupA (m2) ?_ ?_ | refine CallK.ownA (m2) ?_ ?_); (focus ((first | exact ArgsLe.refl | (repeat (first | exact True.intro | refine And.intro (by first | exact AvLe.refl | exact AvLe.loose | exact AvLe.nil | exact AvLe.nilT | exact AvLe.slk | (refine AvLe.agg ?_; exact ArgsLe.refl) | (refine AvLe.agg ?_; (repeat (first | exact True.intro | refine And.intro (by first | exact AvLe.refl | exact AvLe.loose | exact AvLe.nil | exact AvLe.nilT | exact AvLe.slk) ?_)))) ?_))); done)); simp only [go_sem]) | (refine And.intro ?_ ?_) | (first | exact True.intro | omega | rfl | (simp; done) | (simp; omega)))))
        all_goals (first | exact hKr _ (.inl rfl) | exact hKr _ (.inr (by (repeat (first | exact True.intro | refine And.intro (by first | rfl | (simp [look]; done)) ?_)))))
      case rest24 =>
      refine T.sregD 68 [0, 1, 3, 4, 5, 6, 7, 8, 9, 10, 11, 12, 13, 35] fun Kr hKr => ?_
      simp only [go_sem]
      (repeat (refine ⟨by (first | exact True.intro | omega | rfl | (simp; done) | (simp; omega)), ?_⟩)); try (refine hKr _ ?_; clear hKr Kr)
      refine CallK.data (fun _ => Spec.args (e1) (by (first | exact ArgsLe.refl | (repeat (first | exact True.intro | refine And.intro (by first | exact AvLe.refl | exact AvLe.loose | exact AvLe.nil | exact AvLe.nilT | exact AvLe.slk | (refine AvLe.agg ?_; exact ArgsLe.refl) | (refine AvLe.agg ?_; (repeat (first | exact True.intro | refine And.intro (by first | exact AvLe.refl | exact AvLe.loose | exact AvLe.nil | exact AvLe.nilT | exact AvLe.slk) ?_)))) ?_))))) rfl ?_
      simp only [go_sem]
      (repeat (refine ⟨by (first | exact True.intro | omega | rfl | (simp; done) | (simp; omega)), ?_⟩)); try (refine hKr _ ?_; clear hKr Kr)
      refine T.ret (Fin.dataD rfl rfl rfl)
    · rw [hi, hj] at n1 m1
      rw [hi] at p1 m2 r0
      rw [hj] at r1
      clear hi hj
      simp only [Int.toNat_zero, Int.toNat_one, Int.reduceToNat, teamA, usrL, usrA, List.flatMap_cons, List.flatMap_nil, intsOf_cons, intsOf_nil, List.cons_append, List.nil_append, List.append_nil, List.getD_cons_zero, List.getD_cons_succ] at q1 p1 n1 m1 m2 w1 e1
      refine Ideal.Spec.of_TD (n := 68) (fn := Try.f5) rfl rfl rfl rfl rfl rfl rfl fun w ok => ?_
      refine T.sregD 68 [0, 1, 3, 4, 5, 6, 7, 8, 9, 10, 11, 12, 13, 35] fun Kr hKr => ?_
      simp only [go_sem]
      (repeat (refine ⟨by (first | exact True.intro | omega | rfl | (simp; done) | (simp; omega)), ?_⟩)); try (refine hKr _ ?_; clear hKr Kr)
      refine T.sregD 68 [0, 1, 3, 4, 5, 6, 7, 8, 9, 10, 11, 12, 13, 35] fun Kr hKr => ?_
      simp only [go_sem]
      (repeat (refine ⟨by (first | exact True.intro | omega | rfl | (simp; done) | (simp; omega)), ?_⟩)); try (refine hKr _ ?_; clear hKr Kr)
      refine CallK.data (fun _ => Spec.args (q0) (by (first | exact ArgsLe.refl | (repeat (first | exact True.intro | refine And.intro (by first | exact AvLe.refl | exact AvLe.loose | exact AvLe.nil | exact AvLe.nilT | exact AvLe.slk | (refine AvLe.agg ?_; exact ArgsLe.refl) | (refine AvLe.agg ?_; (repeat (first | exact True.intro | refine And.intro (by first | exact AvLe.refl | exact AvLe.loose | exact AvLe.nil | exact AvLe.nilT | exact AvLe.slk) ?_)))) ?_))))) rfl ?_
      simp only [go_sem]
      (repeat (refine ⟨by (first | exact True.intro | omega | rfl | (simp; done) | (simp; omega)), ?_⟩)); try (refine hKr _ ?_; clear hKr Kr)
      refine T.sregD 68 [0, 1, 3, 4, 5, 6, 7, 8, 9, 10, 11, 12, 13, 35] fun Kr hKr => ?_
      simp only [go_sem]
      (repeat (refine ⟨by (first | exact True.intro | omega | rfl | (simp; done) | (simp; omega)), ?_⟩)); try (refine hKr _ ?_; clear hKr Kr)
      refine CallK.data (fun _ => Spec.args (q1) (by (first | exact ArgsLe.refl | (repeat (first | exact True.intro | refine And.intro (by first | exact AvLe.refl | exact AvLe.loose | exact AvLe.nil | exact AvLe.nilT | exact AvLe.slk | (refine AvLe.agg ?_; exact ArgsLe.refl) | (refine AvLe.agg ?_; (repeat (first | exact True.intro | refine And.intro (by first | exact AvLe.refl | exact AvLe.loose | exact AvLe.nil | exact AvLe.nilT | exact AvLe.slk) ?_)))) ?_))))) rfl ?_
      simp only [go_sem]
      (repeat (refine ⟨by (first | exact True.intro | omega | rfl | (simp; done) | (simp; omega)), ?_⟩)); try (refine hKr _ ?_; clear hKr Kr)
      refine T.sdrawD 68 [0, 1, 3, 4, 5, 6, 7, 8, 9, 10, 11, 12, 13, 35] (.take 0 (.take 1 (.take 2 (.take 3 (.take 4 (.take 5 (.take 6 (.take 7 (.take 8 (.take 9 .done)))))))))) [3] rfl (by decide +kernel) (by decide +kernel) fun Kr hKr => ?_
      simp only [go_sem, r0, r1]
      (repeat (refine ⟨by (first | exact True.intro | omega | rfl | (simp; done) | (simp; omega)), ?_⟩)); try (refine hKr _ ?_; clear hKr Kr)
      refine T.sdraw2D 68 [0, 1, 3, 4, 5, 6, 7, 8, 9, 10, 11, 12, 13, 35] (.take 0 (.take 1 (.take 2 (.take 3 (.take 4 (.take 5 (.two 6 (.two 7 (.one 8 (.one 9 .done)) 8 (.one 7 (.one 9 .done))) 8 (.one 6 (.one 7 (.one 9 .done)))))))))) [6] rfl (by decide +kernel) (by decide +kernel) ?x25 ?h25 (fun Kr hKr => ?all25) ?rest25
      case all25 =>
        simp only [go_sem]
        (repeat (any_goals (first | exact hKr _ (.inl rfl) | exact hKr _ (.inr (by (repeat (first | exact True.intro | refine And.intro (by first | rfl | (simp [look]; done)) ?_)))) | ((first | refine CallK.dataA (p1) ?_ rfl ?_ | refine CallK.tupA (p1) ?_ ?_ | refine CallK.ownA (p1) ?_ ?_); (focus (exact ArgsLe.refl)); simp only [go_sem]) | ((first | refine CallK.dataA (n1) ?_ rfl ?_ | refine CallK.tupA (n1) ?_ ?_ | refine CallK.ownA (n1) ?_ ?_); (focus (exact ArgsLe.refl)); simp only [go_sem]) | (refine And.intro ?_ ?_) | (first | exact True.intro | omega | rfl | (simp; done) | (simp; omega)))))
        all_goals (first | exact hKr _ (.inl rfl) | exact hKr _ (.inr (by (repeat (first | exact True.intro | refine And.intro (by first | rfl | (simp [look]; done)) ?_)))))
      case rest25 =>
      refine T.seqK fun K1 hK1 => ?_
      refine T.sregD 68 [0, 1, 3, 4, 5, 6, 7, 8, 9, 10, 11, 12, 13, 35] fun Kr hKr => ?_
      simp only [go_sem]
      (repeat (refine ⟨by (first | exact True.intro | omega | rfl | (simp; done) | (simp; omega)), ?_⟩)); try (refine hKr _ ?_; clear hKr Kr)
      refine CallK.data (fun _ => Spec.args (w1) (by (first | exact ArgsLe.refl | (repeat (first | exact True.intro | refine And.intro (by first | exact AvLe.refl | exact AvLe.loose | exact AvLe.nil | exact AvLe.nilT | exact AvLe.slk | (refine AvLe.agg ?_; exact ArgsLe.refl) | (refine AvLe.agg ?_; (repeat (first | exact True.intro | refine And.intro (by first | exact AvLe.refl | exact AvLe.loose | exact AvLe.nil | exact AvLe.nilT | exact AvLe.slk) ?_)))) ?_))))) rfl ?_
      simp only [go_sem]
      (repeat (refine ⟨by (first | exact True.intro | omega | rfl | (simp; done) | (simp; omega)), ?_⟩)); try (refine hKr _ ?_; clear hKr Kr)
      refine T.condTD rfl rfl (fun hz => ?_) (fun hz => ?_) <;> try simp at hz
      refine T.skip ?_
      refine hK1 _ ?_
      refine T.sdraw2D 68 [0, 1, 3, 4, 5, 6, 7, 8, 9, 10, 11, 12, 13, 35] (.take 0 (.take 1 (.take 2 (.take 3 (.take 4 (.take 5 (.two 6 (.take 7 (.take 8 (.take 9 (.one 10 (.one 11 (.take 12 .done)))))) 10 (.one 6 (.take 7 (.take 8 (.take 9 (.one 11 (.take 12 .done))))))))))))) [6] rfl (by decide +kernel) (by decide +kernel) ?x26 ?h26 (fun Kr hKr => ?all26) ?rest26
      case all26 =>
        simp only [go_sem]
        (repeat (any_goals (first | exact hKr _ (.inl rfl) | exact hKr _ (.inr (by (repeat (first | exact True.intro | refine And.intro (by first | rfl | (simp [look]; done)) ?_)))) | ((first | refine CallK.dataA (m1) ?_ rfl ?_ | refine CallK.tupA (m1) ?_ ?_ | refine CallK.ownA (m1) ?_ ?_); (focus ((first | exact ArgsLe.refl | (repeat (first | exact True.intro | refine And.intro (by first | exact AvLe.refl | exact AvLe.loose | exact AvLe.nil | exact AvLe.nilT | exact AvLe.slk | (refine AvLe.agg ?_; exact ArgsLe.refl) | (refine AvLe.agg ?_; (repeat (first | exact True.intro | refine And.intro (by first | exact AvLe.refl | exact AvLe.loose | exact AvLe.nil | exact AvLe.nilT | exact AvLe.slk) ?_)))) ?_))); done)); simp only [go_sem]) | (refine And.intro ?_ ?_) | (first | exact True.intro | omega | rfl | (simp; done) | (simp; omega)))))
        all_goals (first | exact hKr _ (.inl rfl) | exact hKr _ (.inr (by (repeat (first | exact True.intro | refine And.intro (by first | rfl | (simp [look]; done)) ?_)))))
      case rest26 =>
      refine T.sdraw2D 68 [0, 1, 3, 4, 5, 6, 7, 8, 9, 10, 11, 12, 13, 35] (.take 0 (.take 1 (.take 2 (.take 3 (.two 4 (.take 5 (.take 6 (.take 7 (.one 8 (.one 9 (.take 10 .done)))))) 8 (.one 4 (.take 5 (.take 6 (.take 7 (.one 9 (.take 10 .done))))))))))) [6, 9] rfl (by decide +kernel) (by decide +kernel) ?x27 ?h27 (fun Kr hKr => ?all27) ?rest27
      case all27 =>
        simp only [go_sem]
        (repeat (any_goals (first | exact hKr _ (.inl rfl) | exact hKr _ (.inr (by (repeat (first | exact True.intro | refine And.intro (by first | rfl | (simp [look]; done)) ?_)))) | ((first | refine CallK.dataA (m2) ?_ rfl ?_ | refine CallK.tupA (m2) ?_ ?_ | refine CallK.ownA (m2) ?_ ?_); (focus ((first | exact ArgsLe.refl | (repeat (first | exact True.intro | refine And.intro (by first | exact AvLe.refl | exact AvLe.loose | exact AvLe.nil | exact AvLe.nilT | exact AvLe.slk | (refine AvLe.agg ?_; exact ArgsLe.refl) | (refine AvLe.agg ?_; (repeat (first | exact True.intro | refine And.intro (by first | exact AvLe.refl | exact AvLe.loose | exact AvLe.nil | exact AvLe.nilT | exact AvLe.slk) ?_)))) ?_))); done)); simp only [go_sem]) | (refine And.intro ?_ ?_) | (first | exact True.intro | omega | rfl | (simp; done) | (simp; omega)))))
        all_goals (first | exact hKr _ (.inl rfl) | exact hKr _ (.inr (by (repeat (first | exact True.intro | refine And.intro (by first | rfl | (simp [look]; done)) ?_)))))
      case rest27 =>
      refine T.sregD 68 [0, 1, 3, 4, 5, 6, 7, 8, 9, 10, 11, 12, 13, 35] fun Kr hKr => ?_
      simp only [go_sem]
      (repeat (refine ⟨by (first | exact True.intro | omega | rfl | (simp; done) | (simp; omega)), ?_⟩)); try (refine hKr _ ?_; clear hKr Kr)
      refine CallK.data (fun _ => Spec.args (e1) (by (first | exact ArgsLe.refl | (repeat (first | exact True.intro | refine And.intro (by first | exact AvLe.refl | exact AvLe.loose | exact AvLe.nil | exact AvLe.nilT | exact AvLe.slk | (refine AvLe.agg ?_; exact ArgsLe.refl) | (refine AvLe.agg ?_; (repeat (first | exact True.intro | refine And.intro (by first | exact AvLe.refl | exact AvLe.loose | exact AvLe.nil | exact AvLe.nilT | exact AvLe.slk) ?_)))) ?_))))) rfl ?_
      simp only [go_sem]
      (repeat (refine ⟨by (first | exact True.intro | omega | rfl | (simp; done) | (simp; omega)), ?_⟩)); try (refine hKr _ ?_; clear hKr Kr)
      refine T.ret (Fin.dataD rfl rfl rfl)
end Go.Proofs
