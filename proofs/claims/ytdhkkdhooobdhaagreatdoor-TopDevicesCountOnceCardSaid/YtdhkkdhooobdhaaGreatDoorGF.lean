/- Devices: the reference's Order, Forget, Learn. -/
import Derived.Test.YtdhkkdhooobdhaaGreatDoorGE
set_option linter.unusedVariables false
set_option linter.unusedSimpArgs false
namespace Go.Proofs
open Go Go.Ideal
set_option maxRecDepth 8000
set_option maxHeartbeats 4000000

theorem intsOf_put {x y : AV} {l : List Int} {n : Nat} (h : n < l.length) (v : Int) : List.take (2 + n) (x :: y :: intsOf l) ++ AV.int .i64 v :: List.drop (2 + n) (y :: intsOf l) = x :: y :: intsOf (l.set n v) := by
  have hl : n < (intsOf l).length := by rw [intsOf_len]; exact h
  rw [← intsOf_set, Nat.add_comm 2 n, List.take_succ_cons, List.take_succ_cons, show n + 2 = (n + 1) + 1 by omega, List.drop_succ_cons, List.set_eq_take_append_cons_drop, if_pos hl]
  rfl
theorem Order24_spec (x : Raw) (h : OkRaw x) : Ideal.Spec Tryz.prog 79 [rawA x] (ordA (ordOf x)) none := by
  have s1 := Word24_spec x.wd h.wd
  have e1 : remv x.dev 3 = x.dev % 3 := remv_nn h.dev.1
  have e2 : remv x.ep 10 = x.ep % 10 := remv_nn h.ep.1
  have e3 : remv x.app 3 = x.app % 3 := remv_nn h.app.1
  have e4 : remv x.n 6 = x.n % 6 := remv_nn h.n.1
  have e5 : remv x.n (x.ep % 10 + 1) = x.n % (x.ep % 10 + 1) := remv_nn h.n.1
  have e6 : remv (x.kind / 3) 5 = x.kind / 3 % 5 := remv_nn (by have := h.kind.1; omega)
  obtain ⟨k1, k2, k3, k4, k5, k6⟩ := h
  have eo : ordOf x = (if 1 + x.kind / 3 % 5 = 1 then ⟨x.dev % 3, 1, x.ep % 10, 1 + x.kind / 3 % 5, wordT x.wd, 0, 0⟩
    else if 1 + x.kind / 3 % 5 = 2 ∨ 1 + x.kind / 3 % 5 = 3 then ⟨x.dev % 3, 1, x.ep % 10, 1 + x.kind / 3 % 5, [], x.app % 3, 0⟩
    else if 1 + x.kind / 3 % 5 = 4 then ⟨x.dev % 3, 1, x.ep % 10, 1 + x.kind / 3 % 5, [], x.n % (x.ep % 10 + 1), 0⟩
    else ⟨x.dev % 3, 1, x.ep % 10, 1 + x.kind / 3 % 5, [], 1 + x.n % 6, x.app % 3⟩) := rfl
  have hm := mod_le x.n (x.ep % 10) (by omega)
  refine Ideal.Spec.of_CD (n := 57) (fn := Tryz.f79) rfl rfl rfl rfl rfl rfl rfl fun w ok => ?_
  refine T.post [.tmp 2] ?_
  refine T.sregD 57 [0, 1, 2, 3, 20, 32, 38, 46] fun Kr hKr => ?_
  simp only [go_sem]
  (repeat (refine ⟨by (first | exact True.intro | omega | rfl | (simp; done) | (simp; omega)), ?_⟩)); try (refine hKr _ ?_; clear hKr Kr)
  refine T.sregD 57 [0, 1, 2, 3, 20, 32, 38, 46] fun Kr hKr => ?_
  simp only [go_sem, e1, e2, e6]
  (repeat (refine ⟨by (first | exact True.intro | omega | rfl | (simp; done) | (simp; omega)), ?_⟩)); try (refine hKr _ ?_; clear hKr Kr)
  refine T.seqK fun K156 hK156 => ?_
  refine T.sregD 57 [0, 1, 2, 3, 20, 32, 38, 46] fun Kr hKr => ?_
  simp only [go_sem]
  (repeat (refine ⟨by (first | exact True.intro | omega | rfl | (simp; done) | (simp; omega)), ?_⟩)); try (refine hKr _ ?_; clear hKr Kr)
  refine T.block ?_
  have hk5 : 1 + x.kind / 3 % 5 = 1 ∨ 1 + x.kind / 3 % 5 = 2 ∨ 1 + x.kind / 3 % 5 = 3 ∨ 1 + x.kind / 3 % 5 = 4 ∨ 1 + x.kind / 3 % 5 = 5 := by omega
  generalize 1 + x.kind / 3 % 5 = k at *
  generalize remv (x.kind / 3) 5 = kk at *
  rcases hk5 with rfl | rfl | rfl | rfl | rfl <;> simp only [Int.reduceEq, if_true, if_false, true_or, or_true, or_false, false_or] at eo
  · refine T.sregD 57 [0, 1, 2, 3, 20, 32, 38, 46] fun Kr hKr => ?_
    simp only [go_sem]
    (repeat (refine ⟨by (first | exact True.intro | omega | rfl | (simp; done) | (simp; omega)), ?_⟩)); try (refine hKr _ ?_; clear hKr Kr)
    refine T.condTD rfl rfl (fun hb => ?_) (fun hb => ?_) <;> try simp at hb
    refine T.regD 57 [0, 1, 2, 3, 20, 32, 38, 46] fun Kr hKr => ?_
    simp only [go_sem]
    (repeat (refine ⟨by (first | exact True.intro | omega | rfl | (simp; done) | (simp; omega)), ?_⟩)); try (refine hKr _ ?_; clear hKr Kr)
    refine CallK.data (fun _ => Spec.args (s1) (by (first | exact ArgsLe.refl | (repeat (first | exact True.intro | refine And.intro (by first | exact AvLe.refl | exact AvLe.loose | exact AvLe.nil | exact AvLe.nilT | exact AvLe.slk | (refine AvLe.agg ?_; exact ArgsLe.refl) | (refine AvLe.agg ?_; (repeat (first | exact True.intro | refine And.intro (by first | exact AvLe.refl | exact AvLe.loose | exact AvLe.nil | exact AvLe.nilT | exact AvLe.slk) ?_)))) ?_))))) rfl ?_
    simp only [go_sem]
    (repeat (refine ⟨by (first | exact True.intro | omega | rfl | (simp; done) | (simp; omega)), ?_⟩)); try (refine hKr _ ?_; clear hKr Kr)
    refine hK156 _ ?_
    refine T.sregD 57 [0, 1, 2, 3, 20, 32, 38, 46] fun Kr hKr => ?_
    simp only [go_sem]
    (repeat (refine ⟨by (first | exact True.intro | omega | rfl | (simp; done) | (simp; omega)), ?_⟩)); try (refine hKr _ ?_; clear hKr Kr)
    refine T.ret ?_
    simp only [go_sem]
    exact ⟨ResCellD rfl rfl rfl rfl (by simp only [go_sem]) (by rw [eo]; simp only [go_sem]) (by rw [eo]; rfl), trivial⟩
  · refine T.sregD 57 [0, 1, 2, 3, 20, 32, 38, 46] fun Kr hKr => ?_
    simp only [go_sem]
    (repeat (refine ⟨by (first | exact True.intro | omega | rfl | (simp; done) | (simp; omega)), ?_⟩)); try (refine hKr _ ?_; clear hKr Kr)
    refine T.condTD rfl rfl (fun hb => ?_) (fun hb => ?_) <;> try simp at hb
    refine T.seqK fun K157 hK157 => ?_
    refine T.sregD 57 [0, 1, 2, 3, 20, 32, 38, 46] fun Kr hKr => ?_
    simp only [go_sem]
    (repeat (refine ⟨by (first | exact True.intro | omega | rfl | (simp; done) | (simp; omega)), ?_⟩)); try (refine hKr _ ?_; clear hKr Kr)
    refine T.condTD rfl rfl (fun hb => ?_) (fun hb => ?_) <;> try simp at hb
    refine T.skip ?_
    refine hK157 _ ?_
    refine T.condTD rfl rfl (fun hb => ?_) (fun hb => ?_) <;> try simp at hb
    refine T.regD 57 [0, 1, 2, 3, 20, 32, 38, 46] fun Kr hKr => ?_
    simp only [go_sem, e3]
    (repeat (refine ⟨by (first | exact True.intro | omega | rfl | (simp; done) | (simp; omega)), ?_⟩)); try (refine hKr _ ?_; clear hKr Kr)
    refine hK156 _ ?_
    refine T.sregD 57 [0, 1, 2, 3, 20, 32, 38, 46] fun Kr hKr => ?_
    simp only [go_sem]
    (repeat (refine ⟨by (first | exact True.intro | omega | rfl | (simp; done) | (simp; omega)), ?_⟩)); try (refine hKr _ ?_; clear hKr Kr)
    refine T.ret ?_
    simp only [go_sem]
    exact ⟨ResCellD rfl rfl rfl rfl (by simp only [go_sem]) (by rw [eo]; simp only [go_sem]) (by rw [eo]; rfl), trivial⟩
  · refine T.sregD 57 [0, 1, 2, 3, 20, 32, 38, 46] fun Kr hKr => ?_
    simp only [go_sem]
    (repeat (refine ⟨by (first | exact True.intro | omega | rfl | (simp; done) | (simp; omega)), ?_⟩)); try (refine hKr _ ?_; clear hKr Kr)
    refine T.condTD rfl rfl (fun hb => ?_) (fun hb => ?_) <;> try simp at hb
    refine T.seqK fun K157 hK157 => ?_
    refine T.sregD 57 [0, 1, 2, 3, 20, 32, 38, 46] fun Kr hKr => ?_
    simp only [go_sem]
    (repeat (refine ⟨by (first | exact True.intro | omega | rfl | (simp; done) | (simp; omega)), ?_⟩)); try (refine hKr _ ?_; clear hKr Kr)
    refine T.condTD rfl rfl (fun hb => ?_) (fun hb => ?_) <;> try simp at hb
    refine T.regD 57 [0, 1, 2, 3, 20, 32, 38, 46] fun Kr hKr => ?_
    simp only [go_sem]
    (repeat (refine ⟨by (first | exact True.intro | omega | rfl | (simp; done) | (simp; omega)), ?_⟩)); try (refine hKr _ ?_; clear hKr Kr)
    refine hK157 _ ?_
    refine T.condTD rfl rfl (fun hb => ?_) (fun hb => ?_) <;> try simp at hb
    refine T.regD 57 [0, 1, 2, 3, 20, 32, 38, 46] fun Kr hKr => ?_
    simp only [go_sem, e3]
    (repeat (refine ⟨by (first | exact True.intro | omega | rfl | (simp; done) | (simp; omega)), ?_⟩)); try (refine hKr _ ?_; clear hKr Kr)
    refine hK156 _ ?_
    refine T.sregD 57 [0, 1, 2, 3, 20, 32, 38, 46] fun Kr hKr => ?_
    simp only [go_sem]
    (repeat (refine ⟨by (first | exact True.intro | omega | rfl | (simp; done) | (simp; omega)), ?_⟩)); try (refine hKr _ ?_; clear hKr Kr)
    refine T.ret ?_
    simp only [go_sem]
    exact ⟨ResCellD rfl rfl rfl rfl (by simp only [go_sem]) (by rw [eo]; simp only [go_sem]) (by rw [eo]; rfl), trivial⟩
  · refine T.sregD 57 [0, 1, 2, 3, 20, 32, 38, 46] fun Kr hKr => ?_
    simp only [go_sem]
    (repeat (refine ⟨by (first | exact True.intro | omega | rfl | (simp; done) | (simp; omega)), ?_⟩)); try (refine hKr _ ?_; clear hKr Kr)
    refine T.condTD rfl rfl (fun hb => ?_) (fun hb => ?_) <;> try simp at hb
    refine T.seqK fun K157 hK157 => ?_
    refine T.sregD 57 [0, 1, 2, 3, 20, 32, 38, 46] fun Kr hKr => ?_
    simp only [go_sem]
    (repeat (refine ⟨by (first | exact True.intro | omega | rfl | (simp; done) | (simp; omega)), ?_⟩)); try (refine hKr _ ?_; clear hKr Kr)
    refine T.condTD rfl rfl (fun hb => ?_) (fun hb => ?_) <;> try simp at hb
    refine T.regD 57 [0, 1, 2, 3, 20, 32, 38, 46] fun Kr hKr => ?_
    simp only [go_sem]
    (repeat (refine ⟨by (first | exact True.intro | omega | rfl | (simp; done) | (simp; omega)), ?_⟩)); try (refine hKr _ ?_; clear hKr Kr)
    refine hK157 _ ?_
    refine T.condTD rfl rfl (fun hb => ?_) (fun hb => ?_) <;> try simp at hb
    refine T.sregD 57 [0, 1, 2, 3, 20, 32, 38, 46] fun Kr hKr => ?_
    simp only [go_sem]
    (repeat (refine ⟨by (first | exact True.intro | omega | rfl | (simp; done) | (simp; omega)), ?_⟩)); try (refine hKr _ ?_; clear hKr Kr)
    refine T.condTD rfl rfl (fun hb => ?_) (fun hb => ?_) <;> try simp at hb
    refine T.regD 57 [0, 1, 2, 3, 20, 32, 38, 46] fun Kr hKr => ?_
    simp only [go_sem, e5]
    (repeat (refine ⟨by (first | exact True.intro | omega | rfl | (simp; done) | (simp; omega)), ?_⟩)); try (refine hKr _ ?_; clear hKr Kr)
    refine hK156 _ ?_
    refine T.sregD 57 [0, 1, 2, 3, 20, 32, 38, 46] fun Kr hKr => ?_
    simp only [go_sem]
    (repeat (refine ⟨by (first | exact True.intro | omega | rfl | (simp; done) | (simp; omega)), ?_⟩)); try (refine hKr _ ?_; clear hKr Kr)
    refine T.ret ?_
    simp only [go_sem]
    exact ⟨ResCellD rfl rfl rfl rfl (by simp only [go_sem]) (by rw [eo]; simp only [go_sem]) (by rw [eo]; rfl), trivial⟩
  · refine T.sregD 57 [0, 1, 2, 3, 20, 32, 38, 46] fun Kr hKr => ?_
    simp only [go_sem]
    (repeat (refine ⟨by (first | exact True.intro | omega | rfl | (simp; done) | (simp; omega)), ?_⟩)); try (refine hKr _ ?_; clear hKr Kr)
    refine T.condTD rfl rfl (fun hb => ?_) (fun hb => ?_) <;> try simp at hb
    refine T.seqK fun K157 hK157 => ?_
    refine T.sregD 57 [0, 1, 2, 3, 20, 32, 38, 46] fun Kr hKr => ?_
    simp only [go_sem]
    (repeat (refine ⟨by (first | exact True.intro | omega | rfl | (simp; done) | (simp; omega)), ?_⟩)); try (refine hKr _ ?_; clear hKr Kr)
    refine T.condTD rfl rfl (fun hb => ?_) (fun hb => ?_) <;> try simp at hb
    refine T.regD 57 [0, 1, 2, 3, 20, 32, 38, 46] fun Kr hKr => ?_
    simp only [go_sem]
    (repeat (refine ⟨by (first | exact True.intro | omega | rfl | (simp; done) | (simp; omega)), ?_⟩)); try (refine hKr _ ?_; clear hKr Kr)
    refine hK157 _ ?_
    refine T.condTD rfl rfl (fun hb => ?_) (fun hb => ?_) <;> try simp at hb
    refine T.sregD 57 [0, 1, 2, 3, 20, 32, 38, 46] fun Kr hKr => ?_
    simp only [go_sem]
    (repeat (refine ⟨by (first | exact True.intro | omega | rfl | (simp; done) | (simp; omega)), ?_⟩)); try (refine hKr _ ?_; clear hKr Kr)
    refine T.condTD rfl rfl (fun hb => ?_) (fun hb => ?_) <;> try simp at hb
    refine T.drawD 57 [0, 1, 2, 3, 20, 32, 38, 46] (.take 0 (.take 1 (.take 2 (.take 3 (.take 4 (.take 5 (.take 6 (.take 7 (.take 8 (.take 9 (.one 10 (.take 11 (.one 12 .done))))))))))))) [1] rfl (by decide +kernel) (by decide +kernel) fun Kr hKr => ?_
    simp only [go_sem, e3, e4]
    (repeat (refine ⟨by (first | exact True.intro | omega | rfl | (simp; done) | (simp; omega)), ?_⟩)); try (refine hKr _ ?_; clear hKr Kr)
    refine hK156 _ ?_
    refine T.sregD 57 [0, 1, 2, 3, 20, 32, 38, 46] fun Kr hKr => ?_
    simp only [go_sem]
    (repeat (refine ⟨by (first | exact True.intro | omega | rfl | (simp; done) | (simp; omega)), ?_⟩)); try (refine hKr _ ?_; clear hKr Kr)
    refine T.ret ?_
    simp only [go_sem]
    exact ⟨ResCellD rfl rfl rfl rfl (by simp only [go_sem]) (by rw [eo]; simp only [go_sem]) (by rw [eo]; rfl), trivial⟩
theorem Forget24_spec (u : Usr) (o : Ord) (hu : OkU u) (ho : NewO o) (h0 : 0 ≤ lst u.l o.d ∧ lst u.l o.d ≤ 1000) (hr : u.r.length ≤ 300) (hol : u.o.length ≤ 300) : Ideal.Spec Tryz.prog 78 [usrA u, ordA o] (.tup [usrA (forgetF u o), .int .i64 0]) none := by
  have l8 := hu.l
  have hd7 := ho.d
  have hd0 : 0 ≤ o.d := ho.r.d.1
  have s1 := RightOrder_spec (ordAt o 1) ho.r
  have hin := insO_mem (ordAt o (lst u.l o.d + 1)) u.o
  have hq : RightO (ordAt o (lst u.l o.d + 1)) := ho.right (by omega)
  have s2 := InsertO_spec u.o (ordAt o (lst u.l o.d + 1)) (by omega)
  have hil : (insO (ordAt o (lst u.l o.d + 1)) u.o).length = u.o.length + 1 := by
    have e : (u.o.takeWhile (befOO (ordAt o (lst u.l o.d + 1)))).length + (u.o.dropWhile (befOO (ordAt o (lst u.l o.d + 1)))).length = u.o.length := by rw [← List.length_append, List.takeWhile_append_dropWhile]
    unfold insO; simp only [List.length_append, List.length_cons]; omega
  have s3 := KeptR_spec u.r (insO (ordAt o (lst u.l o.d + 1)) u.o) (by omega) (by omega) hu.r (fun x hx => ((hin x).1 hx).elim (fun e => e ▸ hq) (hu.o x))
  have ef : forgetF u o = ⟨keptF (insO (ordAt o (lst u.l o.d + 1)) u.o) u.r, insO (ordAt o (lst u.l o.d + 1)) u.o, lstUp u.l o.d⟩ := rfl
  generalize keptF (insO (ordAt o (lst u.l o.d + 1)) u.o) u.r = K at *
  generalize hI : insO (ordAt o (lst u.l o.d + 1)) u.o = I at *
  obtain ⟨d, s, e, k, wd, n, f⟩ := o
  simp only at *
  obtain ⟨m, rfl⟩ : ∃ m : Nat, d = m := ⟨d.toNat, by omega⟩
  have hm : m < u.l.length := by omega
  have ev : lst u.l (m : Int) = u.l.getD m default := rfl
  have eu : lstUp u.l (m : Int) = u.l.set m (u.l.getD m default + 1) := rfl
  rw [eu] at ef
  simp only [ordAt, ev] at s1 s2 h0
  have g1 : ((u.o.length : Int) = 400) = False := eq_false (by omega)
  have g2 : (u.l.getD m default = 1000000) = False := eq_false (by omega)
  have hset : (u.l.set m (u.l.getD m default + 1)).getD m default = u.l.getD m default + 1 := by simp [List.getD, hm]
  have hg : (intsOf u.l).getD m .junk = .int .i64 (u.l.getD m default) := intsOf_get hm
  have hm8 : m < 8 := by omega
  generalize u.l.getD m default = v at *
  have hp : ∀ x y : AV, List.take (2 + m) (x :: y :: intsOf u.l) ++ AV.int .i64 (v + 1) :: List.drop (2 + m) (y :: intsOf u.l) = x :: y :: intsOf (u.l.set m (v + 1)) := fun x y => intsOf_put hm (v + 1)
  have hL : (u.l.set m (v + 1)).length = 8 := by rw [List.length_set, l8]
  have hT : (u.l.set m (v + 1)).take 8 = u.l.set m (v + 1) := List.take_of_length_le (by omega)
  rw [ef]
  refine Ideal.Spec.of_MD (n := 50) (fn := Tryz.f78) rfl rfl rfl rfl (by rfl) rfl rfl fun w ok => ?_
  refine T.post [.tmp 4] ?_
  refine T.sregD 50 [0, 1, 2, 3, 4, 5, 9, 22] fun Kr hKr => ?_
  simp only [go_sem, l8]
  (repeat (refine ⟨by (first | exact True.intro | omega | rfl | (simp; done) | (simp; omega)), ?_⟩)); try (refine hKr _ ?_; clear hKr Kr)
  refine T.sregD 50 [0, 1, 2, 3, 4, 5, 9, 22] fun Kr hKr => ?_
  simp only [go_sem]
  (repeat (refine ⟨by (first | exact True.intro | omega | rfl | (simp; done) | (simp; omega)), ?_⟩)); try (refine hKr _ ?_; clear hKr Kr)
  refine T.seqK fun K1 hK1 => ?_
  refine T.sregD 50 [0, 1, 2, 3, 4, 5, 9, 22] fun Kr hKr => ?_
  simp only [go_sem]
  (repeat (refine ⟨by (first | exact True.intro | omega | rfl | (simp; done) | (simp; omega)), ?_⟩)); try (refine hKr _ ?_; clear hKr Kr)
  refine CallK.data (fun _ => Spec.args (s1) (by (first | exact ArgsLe.refl | (repeat (first | exact True.intro | refine And.intro (by first | exact AvLe.refl | exact AvLe.loose | exact AvLe.nil | exact AvLe.nilT | exact AvLe.slk | (refine AvLe.agg ?_; exact ArgsLe.refl) | (refine AvLe.agg ?_; (repeat (first | exact True.intro | refine And.intro (by first | exact AvLe.refl | exact AvLe.loose | exact AvLe.nil | exact AvLe.nilT | exact AvLe.slk) ?_)))) ?_))))) rfl ?_
  simp only [go_sem]
  (repeat (refine ⟨by (first | exact True.intro | omega | rfl | (simp; done) | (simp; omega)), ?_⟩)); try (refine hKr _ ?_; clear hKr Kr)
  refine T.condTD rfl rfl (fun hb => ?_) (fun hb => ?_) <;> try simp at hb
  refine T.skip ?_
  refine hK1 _ ?_
  refine T.seqK fun K2 hK2 => ?_
  refine T.sregD 50 [0, 1, 2, 3, 4, 5, 9, 22] fun Kr hKr => ?_
  simp only [go_sem, hm8, g1, g2, l8, hg]
  (repeat (refine ⟨by (first | exact True.intro | omega | rfl | (simp; done) | (simp; omega)), ?_⟩)); try (refine hKr _ ?_; clear hKr Kr)
  refine T.condTD rfl rfl (fun hb => ?_) (fun hb => ?_) <;> try simp at hb
  refine T.skip ?_
  refine hK2 _ ?_
  have hg2 : (intsOf (u.l.set m (v + 1))).getD m .junk = .int .i64 (v + 1) := by rw [intsOf_get (by omega), hset]
  generalize u.l.set m (v + 1) = L at *
  refine T.sregD 50 [0, 1, 2, 3, 4, 5, 9, 22] fun Kr hKr => ?_
  simp only [go_sem, hm8, l8, hg, hp]
  (repeat (refine ⟨by (first | exact True.intro | omega | rfl | (simp; done) | (simp; omega)), ?_⟩)); try (refine hKr _ ?_; clear hKr Kr)
  refine T.sregD 50 [0, 1, 2, 3, 4, 5, 9, 22] fun Kr hKr => ?_
  simp only [go_sem, hm8, hL, hg2]
  (repeat (refine ⟨by (first | exact True.intro | omega | rfl | (simp; done) | (simp; omega)), ?_⟩)); try (refine hKr _ ?_; clear hKr Kr)
  refine T.sregD 50 [0, 1, 2, 3, 4, 5, 9, 22] fun Kr hKr => ?_
  simp only [go_sem, hL]
  (repeat (refine ⟨by (first | exact True.intro | omega | rfl | (simp; done) | (simp; omega)), ?_⟩)); try (refine hKr _ ?_; clear hKr Kr)
  refine CallK.data (fun _ => Spec.args (s2) (by (first | exact ArgsLe.refl | (repeat (first | exact True.intro | refine And.intro (by first | exact AvLe.refl | exact AvLe.loose | exact AvLe.nil | exact AvLe.nilT | exact AvLe.slk | (refine AvLe.agg ?_; exact ArgsLe.refl) | (refine AvLe.agg ?_; (repeat (first | exact True.intro | refine And.intro (by first | exact AvLe.refl | exact AvLe.loose | exact AvLe.nil | exact AvLe.nilT | exact AvLe.slk) ?_)))) ?_))))) rfl ?_
  simp only [go_sem, hL]
  (repeat (refine ⟨by (first | exact True.intro | omega | rfl | (simp; done) | (simp; omega)), ?_⟩)); try (refine hKr _ ?_; clear hKr Kr)
  refine T.sregD 50 [0, 1, 2, 3, 4, 5, 9, 22] fun Kr hKr => ?_
  simp only [go_sem, hL]
  (repeat (refine ⟨by (first | exact True.intro | omega | rfl | (simp; done) | (simp; omega)), ?_⟩)); try (refine hKr _ ?_; clear hKr Kr)
  refine CallK.data (fun _ => Spec.args (s3) (by (first | exact ArgsLe.refl | (repeat (first | exact True.intro | refine And.intro (by first | exact AvLe.refl | exact AvLe.loose | exact AvLe.nil | exact AvLe.nilT | exact AvLe.slk | (refine AvLe.agg ?_; exact ArgsLe.refl) | (refine AvLe.agg ?_; (repeat (first | exact True.intro | refine And.intro (by first | exact AvLe.refl | exact AvLe.loose | exact AvLe.nil | exact AvLe.nilT | exact AvLe.slk) ?_)))) ?_))))) rfl ?_
  simp only [go_sem, hL]
  (repeat (refine ⟨by (first | exact True.intro | omega | rfl | (simp; done) | (simp; omega)), ?_⟩)); try (refine hKr _ ?_; clear hKr Kr)
  refine T.sregD 50 [0, 1, 2, 3, 4, 5, 9, 22] fun Kr hKr => ?_
  simp only [go_sem, hL, hT]
  (repeat (refine ⟨by (first | exact True.intro | omega | rfl | (simp; done) | (simp; omega)), ?_⟩)); try (refine hKr _ ?_; clear hKr Kr)
  refine T.ret ?_
  simp only [go_sem, hL, hT]
  exact ⟨ResCellD rfl rfl rfl rfl (by simp only [go_sem, hL]) (by simp only [go_sem, hL, hT]; try rfl) rfl, ResAtD (by simp only [go_sem]) rfl rfl, trivial⟩
@[go_sem] def lrnA (u : Usr) (n : Int) : AV := .agg (.sl false 6 (recsOf u.r) :: .sl false 7 (ordsOf u.o) :: (intsOf u.l ++ [.int .i64 n, .int .i64 0]))
theorem Learn24_spec (u : Usr) (o : Rec) (hu : OkU u) (ho : NewR o) (h0 : 0 ≤ lst u.l o.d ∧ lst u.l o.d ≤ 1000) (hr : u.r.length ≤ 300) (hol : u.o.length ≤ 300) : Ideal.Spec Tryz.prog 80 [usrA u, recA o] (lrnA (learnF u o) (lst u.l o.d + 1)) none := by
  have l8 := hu.l
  have hd7 := ho.d
  have s1 := Right_spec (recAt o 1) (ho.right (by omega))
  have hq : RightR (recAt o (lst u.l o.d + 1)) := ho.right (by omega)
  have s2 := Meant_spec u.o (recAt o (lst u.l o.d + 1)) hu.o hq (by omega)
  have s3 := InsertR_spec u.r (recAt o (lst u.l o.d + 1)) (by omega)
  have ef : learnF u o = ⟨if meantB u.o (recAt o (lst u.l o.d + 1)) = true then u.r else insR (recAt o (lst u.l o.d + 1)) u.r, u.o, lstUp u.l o.d⟩ := rfl
  generalize meantB u.o (recAt o (lst u.l o.d + 1)) = mb at *
  generalize insR (recAt o (lst u.l o.d + 1)) u.r = I at *
  obtain ⟨d, s, e, wd, a, n⟩ := o
  simp only at *
  obtain ⟨m, rfl⟩ : ∃ m : Nat, d = m := ⟨d.toNat, by omega⟩
  have hm : m < u.l.length := by omega
  have ev : lst u.l (m : Int) = u.l.getD m default := rfl
  have eu : lstUp u.l (m : Int) = u.l.set m (u.l.getD m default + 1) := rfl
  rw [eu] at ef
  simp only [recAt, ev] at s1 s2 s3 h0
  rw [ev]
  have g1 : ((u.r.length : Int) = 400) = False := eq_false (by omega)
  have g2 : (u.l.getD m default = 1000000) = False := eq_false (by omega)
  have hset : (u.l.set m (u.l.getD m default + 1)).getD m default = u.l.getD m default + 1 := by simp [List.getD, hm]
  have hg : (intsOf u.l).getD m .junk = .int .i64 (u.l.getD m default) := intsOf_get hm
  have hm8 : m < 8 := by omega
  generalize u.l.getD m default = v at *
  have hp : ∀ x y : AV, List.take (2 + m) (x :: y :: intsOf u.l) ++ AV.int .i64 (v + 1) :: List.drop (2 + m) (y :: intsOf u.l) = x :: y :: intsOf (u.l.set m (v + 1)) := fun x y => intsOf_put hm (v + 1)
  have hL : (u.l.set m (v + 1)).length = 8 := by rw [List.length_set, l8]
  have hT : (u.l.set m (v + 1)).take 8 = u.l.set m (v + 1) := List.take_of_length_le (by omega)
  have hg2 : (intsOf (u.l.set m (v + 1))).getD m .junk = .int .i64 (v + 1) := by rw [intsOf_get (by omega), hset]
  rw [ef]
  refine Ideal.Spec.of_CD (n := 53) (fn := Tryz.f80) rfl rfl rfl rfl rfl rfl rfl fun w ok => ?_
  refine T.post [.tmp 4] ?_
  refine T.sregD 53 [0, 1, 2, 3, 4, 8, 22, 43] fun Kr hKr => ?_
  simp only [go_sem, l8]
  (repeat (refine ⟨by (first | exact True.intro | omega | rfl | (simp; done) | (simp; omega)), ?_⟩)); try (refine hKr _ ?_; clear hKr Kr)
  refine T.sregD 53 [0, 1, 2, 3, 4, 8, 22, 43] fun Kr hKr => ?_
  simp only [go_sem]
  (repeat (refine ⟨by (first | exact True.intro | omega | rfl | (simp; done) | (simp; omega)), ?_⟩)); try (refine hKr _ ?_; clear hKr Kr)
  refine T.seqK fun K1 hK1 => ?_
  refine T.sregD 53 [0, 1, 2, 3, 4, 8, 22, 43] fun Kr hKr => ?_
  simp only [go_sem]
  (repeat (refine ⟨by (first | exact True.intro | omega | rfl | (simp; done) | (simp; omega)), ?_⟩)); try (refine hKr _ ?_; clear hKr Kr)
  refine CallK.data (fun _ => Spec.args (s1) (by (first | exact ArgsLe.refl | (repeat (first | exact True.intro | refine And.intro (by first | exact AvLe.refl | exact AvLe.loose | exact AvLe.nil | exact AvLe.nilT | exact AvLe.slk | (refine AvLe.agg ?_; exact ArgsLe.refl) | (refine AvLe.agg ?_; (repeat (first | exact True.intro | refine And.intro (by first | exact AvLe.refl | exact AvLe.loose | exact AvLe.nil | exact AvLe.nilT | exact AvLe.slk) ?_)))) ?_))))) rfl ?_
  simp only [go_sem]
  (repeat (refine ⟨by (first | exact True.intro | omega | rfl | (simp; done) | (simp; omega)), ?_⟩)); try (refine hKr _ ?_; clear hKr Kr)
  refine T.condTD rfl rfl (fun hb => ?_) (fun hb => ?_) <;> try simp at hb
  refine T.skip ?_
  refine hK1 _ ?_
  refine T.seqK fun K2 hK2 => ?_
  refine T.sregD 53 [0, 1, 2, 3, 4, 8, 22, 43] fun Kr hKr => ?_
  simp only [go_sem, hm8, g1, g2, l8, hg]
  (repeat (refine ⟨by (first | exact True.intro | omega | rfl | (simp; done) | (simp; omega)), ?_⟩)); try (refine hKr _ ?_; clear hKr Kr)
  refine T.condTD rfl rfl (fun hb => ?_) (fun hb => ?_) <;> try simp at hb
  refine T.skip ?_
  refine hK2 _ ?_
  generalize u.l.set m (v + 1) = L at *
  refine T.sregD 53 [0, 1, 2, 3, 4, 8, 22, 43] fun Kr hKr => ?_
  simp only [go_sem, hm8, l8, hg, hp]
  (repeat (refine ⟨by (first | exact True.intro | omega | rfl | (simp; done) | (simp; omega)), ?_⟩)); try (refine hKr _ ?_; clear hKr Kr)
  refine T.sregD 53 [0, 1, 2, 3, 4, 8, 22, 43] fun Kr hKr => ?_
  simp only [go_sem, hm8, hL, hg2]
  (repeat (refine ⟨by (first | exact True.intro | omega | rfl | (simp; done) | (simp; omega)), ?_⟩)); try (refine hKr _ ?_; clear hKr Kr)
  refine T.seqK fun K3 hK3 => ?_
  refine T.sregD 53 [0, 1, 2, 3, 4, 8, 22, 43] fun Kr hKr => ?_
  simp only [go_sem, hL]
  (repeat (refine ⟨by (first | exact True.intro | omega | rfl | (simp; done) | (simp; omega)), ?_⟩)); try (refine hKr _ ?_; clear hKr Kr)
  refine CallK.data (fun _ => Spec.args (s2) (by (first | exact ArgsLe.refl | (repeat (first | exact True.intro | refine And.intro (by first | exact AvLe.refl | exact AvLe.loose | exact AvLe.nil | exact AvLe.nilT | exact AvLe.slk | (refine AvLe.agg ?_; exact ArgsLe.refl) | (refine AvLe.agg ?_; (repeat (first | exact True.intro | refine And.intro (by first | exact AvLe.refl | exact AvLe.loose | exact AvLe.nil | exact AvLe.nilT | exact AvLe.slk) ?_)))) ?_))))) rfl ?_
  simp only [go_sem, hL]
  (repeat (refine ⟨by (first | exact True.intro | omega | rfl | (simp; done) | (simp; omega)), ?_⟩)); try (refine hKr _ ?_; clear hKr Kr)
  cases mb with
  | false =>
    refine T.condTD rfl rfl (fun hb => ?_) (fun hb => ?_) <;> try simp at hb
    refine T.regD 53 [0, 1, 2, 3, 4, 8, 22, 43] fun Kr hKr => ?_
    simp only [go_sem, hL]
    (repeat (refine ⟨by (first | exact True.intro | omega | rfl | (simp; done) | (simp; omega)), ?_⟩)); try (refine hKr _ ?_; clear hKr Kr)
    refine CallK.data (fun _ => Spec.args (s3) (by (first | exact ArgsLe.refl | (repeat (first | exact True.intro | refine And.intro (by first | exact AvLe.refl | exact AvLe.loose | exact AvLe.nil | exact AvLe.nilT | exact AvLe.slk | (refine AvLe.agg ?_; exact ArgsLe.refl) | (refine AvLe.agg ?_; (repeat (first | exact True.intro | refine And.intro (by first | exact AvLe.refl | exact AvLe.loose | exact AvLe.nil | exact AvLe.nilT | exact AvLe.slk) ?_)))) ?_))))) rfl ?_
    simp only [go_sem, hL]
    (repeat (refine ⟨by (first | exact True.intro | omega | rfl | (simp; done) | (simp; omega)), ?_⟩)); try (refine hKr _ ?_; clear hKr Kr)
    refine hK3 _ ?_
    clear hg2 hp hT hset
    obtain ⟨b0, b1, b2, b3, b4, b5, b6, b7, rfl⟩ := l8_lit hL
    refine T.sregD 53 [0, 1, 2, 3, 4, 8, 22, 43] fun Kr hKr => ?_
    simp only [go_sem, intsOf_cons]
    (repeat (refine ⟨by (first | exact True.intro | omega | rfl | (simp; done) | (simp; omega)), ?_⟩)); try (refine hKr _ ?_; clear hKr Kr)
    refine T.ret ?_
    simp only [go_sem]
    exact ⟨ResCellD rfl rfl rfl rfl (by simp only [go_sem, intsOf_cons, List.cons_append, List.nil_append]) (by simp only [go_sem, intsOf_cons, List.cons_append, List.nil_append]; try rfl) rfl, trivial⟩
  | true =>
    refine T.condTD rfl rfl (fun hb => ?_) (fun hb => ?_) <;> try simp at hb
    refine T.skip ?_
    refine hK3 _ ?_
    clear hg2 hp hT hset
    obtain ⟨b0, b1, b2, b3, b4, b5, b6, b7, rfl⟩ := l8_lit hL
    refine T.sregD 53 [0, 1, 2, 3, 4, 8, 22, 43] fun Kr hKr => ?_
    simp only [go_sem, intsOf_cons]
    (repeat (refine ⟨by (first | exact True.intro | omega | rfl | (simp; done) | (simp; omega)), ?_⟩)); try (refine hKr _ ?_; clear hKr Kr)
    refine T.ret ?_
    simp only [go_sem]
    exact ⟨ResCellD rfl rfl rfl rfl (by simp only [go_sem, intsOf_cons, List.cons_append, List.nil_append]) (by simp only [go_sem, intsOf_cons, List.cons_append, List.nil_append]; try rfl) rfl, trivial⟩
end Go.Proofs
