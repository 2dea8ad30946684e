/- Messages: a packet that arrives a second time changes nothing. -/
import Derived.Test.YtomdfdppfhkbjaaM8
import Derived.Test.YtomdfdppfhkbjaaM9
set_option linter.unusedVariables false
set_option linter.unusedSimpArgs false
namespace Go.Proofs
open Go Go.Ideal
set_option maxRecDepth 8000
set_option maxHeartbeats 4000000

theorem recv_ok {c : Client} {a : Int} {p : Packet} (h : OkC c) (hh : c.has.length ≤ 80000) (hr : c.ref.length ≤ 80000) : OkC (recvF c a p).1 := by
  unfold recvF
  split
  · unfold decF
    split
    · exact h
    · split
      · exact h
      · split
        · exact ⟨h.d, by show c.has.length ≤ _; omega, by show (withL _ _).length ≤ _; rw [withL_len]; omega⟩
        · rename_i z
          exact ⟨(putF_ok h.d (by omega)).1, by show (withL _ _).length ≤ _; rw [withL_len]; omega, by show c.ref.length ≤ _; omega⟩
  · exact h
theorem recv_len {c : Client} {a : Int} {p : Packet} : (recvF c a p).2.length ≤ 1 ∧ (recvF c a p).1.has.length ≤ c.has.length + 1 ∧ (recvF c a p).1.ref.length ≤ c.ref.length + 1 := by
  unfold recvF
  split
  · unfold decF
    split
    · simp
    · split
      · simp
      · split
        · simp [withL_len]
        · simp [withL_len]
  · simp
theorem recv_twice (c : Client) (a : Int) (p : Packet) : recvF (recvF c a p).1 a p = recvF c a p := by
  by_cases hs : subB a p = true
  rotate_left
  · have e : ∀ c : Client, recvF c a p = (c, []) := fun c => by unfold recvF; rw [if_neg hs]
    rw [e, e]
  have e : ∀ c : Client, recvF c a p = ((decF c p.app p.id p.s).1, [(decF c p.app p.id p.s).2]) := fun c => by unfold recvF; rw [if_pos hs]
  rw [e c]
  simp only
  rw [e]
  have key : decF (decF c p.app p.id p.s).1 p.app p.id p.s = decF c p.app p.id p.s := by
    by_cases h1 : hasN c.has p.id = true
    · have q : decF c p.app p.id p.s = (c, ackP p.app p.id) := by unfold decF; rw [if_pos h1]
      rw [q]; exact q
    by_cases h2 : hasN c.ref p.id = true
    · have q : decF c p.app p.id p.s = (c, rejP p.app p.id) := by unfold decF; rw [if_neg h1, if_pos h2]
      rw [q]; exact q
    by_cases h3 : (putF c.d p.id c.d.s.length p.s).2 ≠ 0
    · have q : decF c p.app p.id p.s = (⟨c.d, c.has, withL c.ref p.id⟩, rejP p.app p.id) := by unfold decF; rw [if_neg h1, if_neg h2, if_pos h3]
      rw [q]
      unfold decF
      rw [if_neg h1, if_pos (hasN_mem.2 (mem_withL.2 (.inl rfl)))]
    · have q : decF c p.app p.id p.s = (⟨(putF c.d p.id c.d.s.length p.s).1, withL c.has p.id, c.ref⟩, ackP p.app p.id) := by unfold decF; rw [if_neg h1, if_neg h2, if_neg h3]
      rw [q]
      unfold decF
      rw [if_pos (hasN_mem.2 (mem_withL.2 (.inl rfl)))]
  rw [key]
theorem hear_twice {i : Nat} {s : MSt} (h : MInv i s) {p : Packet} (hp : p ∈ s.w) : hearF (hearF s.l p) p = hearF s.l p := by
  by_cases hk : p.k = 1
  · have e : ∀ l, hearF l p = l := fun l => by unfold hearF; rw [if_neg (by omega), if_neg (by omega)]
    rw [e, e]
  · obtain ⟨h1, _⟩ := hear_inv h hp hk
    have e1 := hear_eq (core_ids h.k) p
    have e2 := hear_eq (core_ids h1.k) p
    simp only at e2
    rw [← e2, ← e1]
    unfold hearR
    rw [List.map_map]
    refine List.map_congr_left fun x _ => ?_
    simp only [Function.comp]
    unfold hrX
    by_cases g : x.id ≠ p.id ∨ x.app ≠ p.app ∨ x.st ≠ 1
    · rw [if_pos g, if_pos g]
    · rw [if_neg g]
      by_cases g2 : p.k = 2
      · rw [if_pos g2]; simp
      · rw [if_neg g2]
        by_cases g3 : p.k = 3
        · rw [if_pos g3]; simp
        · rw [if_neg g3]; simp [g, g2, g3]
theorem repeats_law (l : List MRaw) (x : MRaw) : Ideal.Spec Try.prog 5 [.sl false 4 (mrawsOf l), mrawA x] (.bool true) none := by
  have s0 := sanityM_spec
  have sB := Begin_spec
  have hx := x.app.toNat_lt
  refine Ideal.Spec.of_TD (n := 87) (fn := Try.f5) rfl rfl rfl rfl rfl rfl rfl fun w ok => ?_
  refine T.sregD 87 [0, 1, 3, 4, 5, 6, 7, 8, 9, 10, 11, 12, 13, 14, 15, 25, 41] fun Kr hKr => ?_
  simp only [go_sem]
  (repeat (refine ⟨by (first | exact True.intro | omega | rfl | (simp; done) | (simp; omega)), ?_⟩)); try (refine hKr _ ?_; clear hKr Kr)
  refine T.sregD 87 [0, 1, 3, 4, 5, 6, 7, 8, 9, 10, 11, 12, 13, 14, 15, 25, 41] fun Kr hKr => ?_
  simp only [go_sem]
  (repeat (refine ⟨by (first | exact True.intro | omega | rfl | (simp; done) | (simp; omega)), ?_⟩)); try (refine hKr _ ?_; clear hKr Kr)
  refine CallK.data (fun _ => Spec.args (s0) (by (first | exact ArgsLe.refl | (repeat (first | exact True.intro | refine And.intro (by first | exact AvLe.refl | exact AvLe.loose | exact AvLe.nil | exact AvLe.nilT | exact AvLe.slk | (refine AvLe.agg ?_; exact ArgsLe.refl) | (refine AvLe.agg ?_; (repeat (first | exact True.intro | refine And.intro (by first | exact AvLe.refl | exact AvLe.loose | exact AvLe.nil | exact AvLe.nilT | exact AvLe.slk) ?_)))) ?_))))) rfl ?_
  simp only [go_sem]
  (repeat (refine ⟨by (first | exact True.intro | omega | rfl | (simp; done) | (simp; omega)), ?_⟩)); try (refine hKr _ ?_; clear hKr Kr)
  refine T.sregD 87 [0, 1, 3, 4, 5, 6, 7, 8, 9, 10, 11, 12, 13, 14, 15, 25, 41] fun Kr hKr => ?_
  simp only [go_sem]
  (repeat (refine ⟨by (first | exact True.intro | omega | rfl | (simp; done) | (simp; omega)), ?_⟩)); try (refine hKr _ ?_; clear hKr Kr)
  refine CallK.data (fun _ => Spec.args (sB) (by (first | exact ArgsLe.refl | (repeat (first | exact True.intro | refine And.intro (by first | exact AvLe.refl | exact AvLe.loose | exact AvLe.nil | exact AvLe.nilT | exact AvLe.slk | (refine AvLe.agg ?_; exact ArgsLe.refl) | (refine AvLe.agg ?_; (repeat (first | exact True.intro | refine And.intro (by first | exact AvLe.refl | exact AvLe.loose | exact AvLe.nil | exact AvLe.nilT | exact AvLe.slk) ?_)))) ?_))))) rfl ?_
  simp only [go_sem]
  (repeat (refine ⟨by (first | exact True.intro | omega | rfl | (simp; done) | (simp; omega)), ?_⟩)); try (refine hKr _ ?_; clear hKr Kr)
  refine T.seqK fun K22 hK22 => ?_
  refine T.sregD 87 [0, 1, 3, 4, 5, 6, 7, 8, 9, 10, 11, 12, 13, 14, 15, 25, 41] fun Kr hKr => ?_
  simp only [go_sem]
  (repeat (refine ⟨by (first | exact True.intro | omega | rfl | (simp; done) | (simp; omega)), ?_⟩)); try (refine hKr _ ?_; clear hKr Kr)
  refine T.bloop (fun i : Nat => ⟨dense 87 [(0, .sl false 4 (mrawsOf l)), (3, .op 3 0 0), (5, .bool true), (6, .op 6 0 0), (7, .int .i64 i)], [(6, ⟨3, 28, true, [mstA (runM l i)]⟩), (3, ⟨4, 32, true, [mrawA x]⟩)]⟩)
    (fun i => i ≤ l.length ∧ i ≤ 12) (fun i => l.length - i) 0 ⟨by omega, by omega⟩ ?_ fun i hi => ?_
  · refine Le.fitS (by (repeat (first | exact DFit.nil | refine DFit.cons (by first | rfl | (simp [slook]; done) | (simp [slook]; omega)) ?_))) (by (repeat (first | exact True.intro | refine And.intro (by first | rfl | (simp [look]; done)) ?_)))
  obtain ⟨hi1, hi2⟩ := hi
  have hinv := runM_inv l i (by omega)
  refine T.seqK fun K23 hK23 => ?_
  refine T.sregD 87 [0, 1, 3, 4, 5, 6, 7, 8, 9, 10, 11, 12, 13, 14, 15, 25, 41] fun Kr hKr => ?_
  simp only [go_sem, cond_and]
  (repeat (refine ⟨by (first | exact True.intro | omega | rfl | (simp; done) | (simp; omega)), ?_⟩)); try (refine hKr _ ?_; clear hKr Kr)
  refine T.condFD rfl rfl (fun hb => ?_) (fun hb => ?_) <;> simp only [Bool.and_eq_true, Bool.and_eq_false_iff, decide_eq_true_eq, decide_eq_false_iff_not] at hb
  · -- no: exit
    refine T.exit ?_
    simp only [if_true]
    refine hK22 _ ?_
    clear hb
    generalize runM l i = s at *
    have hok := hinv.okM (by omega)
    have hl := hok.l
    have hc := hok.c
    have sP := Picked_spec s x (by have := hok.w; omega)
    have hpt := pick_txt hok x
    have hpm := pick_mem (s := s) (x := x)
    generalize pickF s x = Q at *
    obtain ⟨p, q⟩ := Q
    simp only at sP hpt hpm
    refine T.sregD 87 [0, 1, 3, 4, 5, 6, 7, 8, 9, 10, 11, 12, 13, 14, 15, 25, 41] fun Kr hKr => ?_
    simp only [go_sem]
    (repeat (refine ⟨by (first | exact True.intro | omega | rfl | (simp; done) | (simp; omega)), ?_⟩)); try (refine hKr _ ?_; clear hKr Kr)
    refine CallK.tup (fun _ => Spec.args (sP) (by (first | exact ArgsLe.refl | (repeat (first | exact True.intro | refine And.intro (by first | exact AvLe.refl | exact AvLe.loose | exact AvLe.nil | exact AvLe.nilT | exact AvLe.slk | (refine AvLe.agg ?_; exact ArgsLe.refl) | (refine AvLe.agg ?_; (repeat (first | exact True.intro | refine And.intro (by first | exact AvLe.refl | exact AvLe.loose | exact AvLe.nil | exact AvLe.nilT | exact AvLe.slk) ?_)))) ?_))))) ?_
    simp only [go_sem]
    (repeat (refine ⟨by (first | exact True.intro | omega | rfl | (simp; done) | (simp; omega)), ?_⟩)); try (refine hKr _ ?_; clear hKr Kr)
    refine T.seqK fun K24 hK24 => ?_
    cases q with
    | false =>
      refine T.sregD 87 [0, 1, 3, 4, 5, 6, 7, 8, 9, 10, 11, 12, 13, 14, 15, 25, 41] fun Kr hKr => ?_
      simp only [go_sem]
      (repeat (refine ⟨by (first | exact True.intro | omega | rfl | (simp; done) | (simp; omega)), ?_⟩)); try (refine hKr _ ?_; clear hKr Kr)
      refine T.condTD rfl rfl (fun hb => ?_) (fun hb => ?_) <;> try simp at hb
      refine T.sregD 87 [0, 1, 3, 4, 5, 6, 7, 8, 9, 10, 11, 12, 13, 14, 15, 25, 41] fun Kr hKr => ?_
      simp only [go_sem]
      (repeat (refine ⟨by (first | exact True.intro | omega | rfl | (simp; done) | (simp; omega)), ?_⟩)); try (refine hKr _ ?_; clear hKr Kr)
      refine T.ret (Fin.dataD rfl rfl rfl)
    | true =>
      have hpw := hpm rfl
      obtain ⟨a, hae, hal⟩ : ∃ a : Nat, (x.app.toNat : Int) % 2 = a ∧ a < 2 := ⟨x.app.toNat % 2, by omega, by omega⟩
      have hcl := hok.cl hal
      have hC := hinv.cl a hal
      have hh := hC.hasL
      have hr := hC.refL
      have s1 := Receive_spec (s.c.getD a default) a p hcl (by omega)
      have ok1 := recv_ok (a := (a : Int)) (p := p) hcl (by omega) (by omega)
      have s2 := Receive_spec (recvF (s.c.getD a default) a p).1 a p ok1 (by omega)
      rw [recv_twice] at s2
      have hrl := (recv_len (c := s.c.getD a default) (a := (a : Int)) (p := p)).1
      have s3 := Hear_spec s.l p (by omega)
      have hhl : (hearF s.l p).length = s.l.length := by
        by_cases hk : p.k = 1
        · unfold hearF; rw [if_neg (by omega), if_neg (by omega)]
        · have := congrArg List.length (hear_inv hinv hpw hk).2
          simpa [coreL] using this
      have s4 := Hear_spec (hearF s.l p) p (by omega)
      rw [hear_twice hinv hpw] at s4
      generalize recvF (s.c.getD a default) (a : Int) p = R at *
      generalize hearF s.l p = H at *
      have s5 := SameClient_spec R.1 R.1 ok1 ok1
      rw [decide_eq_true rfl] at s5
      have s6 := SamePk_spec R.2 R.2 (by omega) (by omega)
      rw [decide_eq_true rfl] at s6
      have s7 := SameSent_spec H H (by omega) (by omega)
      rw [decide_eq_true rfl] at s7
      refine T.sregD 87 [0, 1, 3, 4, 5, 6, 7, 8, 9, 10, 11, 12, 13, 14, 15, 25, 41] fun Kr hKr => ?_
      simp only [go_sem]
      (repeat (refine ⟨by (first | exact True.intro | omega | rfl | (simp; done) | (simp; omega)), ?_⟩)); try (refine hKr _ ?_; clear hKr Kr)
      refine T.condTD rfl rfl (fun hb => ?_) (fun hb => ?_) <;> try simp at hb
      refine T.skip ?_
      refine hK24 _ ?_
      refine T.sregD 87 [0, 1, 3, 4, 5, 6, 7, 8, 9, 10, 11, 12, 13, 14, 15, 25, 41] fun Kr hKr => ?_
      simp only [go_sem, hae]
      (repeat (refine ⟨by (first | exact True.intro | omega | rfl | (simp; done) | (simp; omega)), ?_⟩)); try (refine hKr _ ?_; clear hKr Kr)
      refine T.sdraw2D 87 [0, 1, 3, 4, 5, 6, 7, 8, 9, 10, 11, 12, 13, 14, 15, 25, 41] (.take 0 (.take 1 (.take 2 (.take 3 (.take 4 (.take 5 (.take 6 (.two 7 (.take 8 (.take 9 (.take 10 (.one 11 (.one 12 (.take 13 .done)))))) 11 (.one 7 (.take 8 (.take 9 (.take 10 (.one 12 (.take 13 .done)))))))))))))) [6, 8] rfl (by decide +kernel) (by decide +kernel) ?x1 ?h1 (fun Kr hKr => ?all1) ?rest1
      case all1 =>
        simp only [go_sem, hal, hc]
        (repeat (any_goals (first | exact hKr _ (.inl rfl) | exact hKr _ (.inr (by (repeat (first | exact True.intro | refine And.intro (by first | rfl | (simp [look]; done)) ?_)))) | ((first | refine CallK.dataA (s1) ?_ rfl ?_ | refine CallK.tupA (s1) ?_ ?_ | refine CallK.ownA (s1) ?_ ?_); (focus ((first | exact ArgsLe.refl | (repeat (first | exact True.intro | refine And.intro (by first | exact AvLe.refl | exact AvLe.loose | exact AvLe.nil | exact AvLe.nilT | exact AvLe.slk | (refine AvLe.agg ?_; exact ArgsLe.refl) | (refine AvLe.agg ?_; (repeat (first | exact True.intro | refine And.intro (by first | exact AvLe.refl | exact AvLe.loose | exact AvLe.nil | exact AvLe.nilT | exact AvLe.slk) ?_)))) ?_))); done)); simp only [go_sem, hal, hc]) | (refine And.intro ?_ ?_) | (first | exact True.intro | omega | rfl | (simp; done) | (simp; omega)))))
        all_goals (first | exact hKr _ (.inl rfl) | exact hKr _ (.inr (by (repeat (first | exact True.intro | refine And.intro (by first | rfl | (simp [look]; done)) ?_)))))
      case rest1 =>
      refine T.sregD 87 [0, 1, 3, 4, 5, 6, 7, 8, 9, 10, 11, 12, 13, 14, 15, 25, 41] fun Kr hKr => ?_
      simp only [go_sem]
      (repeat (refine ⟨by (first | exact True.intro | omega | rfl | (simp; done) | (simp; omega)), ?_⟩)); try (refine hKr _ ?_; clear hKr Kr)
      refine CallK.tup (fun _ => Spec.args (s2) (by (first | exact ArgsLe.refl | (repeat (first | exact True.intro | refine And.intro (by first | exact AvLe.refl | exact AvLe.loose | exact AvLe.nil | exact AvLe.nilT | exact AvLe.slk | (refine AvLe.agg ?_; exact ArgsLe.refl) | (refine AvLe.agg ?_; (repeat (first | exact True.intro | refine And.intro (by first | exact AvLe.refl | exact AvLe.loose | exact AvLe.nil | exact AvLe.nilT | exact AvLe.slk) ?_)))) ?_))))) ?_
      simp only [go_sem]
      (repeat (refine ⟨by (first | exact True.intro | omega | rfl | (simp; done) | (simp; omega)), ?_⟩)); try (refine hKr _ ?_; clear hKr Kr)
      refine T.sregD 87 [0, 1, 3, 4, 5, 6, 7, 8, 9, 10, 11, 12, 13, 14, 15, 25, 41] fun Kr hKr => ?_
      simp only [go_sem]
      (repeat (refine ⟨by (first | exact True.intro | omega | rfl | (simp; done) | (simp; omega)), ?_⟩)); try (refine hKr _ ?_; clear hKr Kr)
      refine CallK.data (fun _ => Spec.args (s3) (by (first | exact ArgsLe.refl | (repeat (first | exact True.intro | refine And.intro (by first | exact AvLe.refl | exact AvLe.loose | exact AvLe.nil | exact AvLe.nilT | exact AvLe.slk | (refine AvLe.agg ?_; exact ArgsLe.refl) | (refine AvLe.agg ?_; (repeat (first | exact True.intro | refine And.intro (by first | exact AvLe.refl | exact AvLe.loose | exact AvLe.nil | exact AvLe.nilT | exact AvLe.slk) ?_)))) ?_))))) rfl ?_
      simp only [go_sem]
      (repeat (refine ⟨by (first | exact True.intro | omega | rfl | (simp; done) | (simp; omega)), ?_⟩)); try (refine hKr _ ?_; clear hKr Kr)
      refine T.sregD 87 [0, 1, 3, 4, 5, 6, 7, 8, 9, 10, 11, 12, 13, 14, 15, 25, 41] fun Kr hKr => ?_
      simp only [go_sem]
      (repeat (refine ⟨by (first | exact True.intro | omega | rfl | (simp; done) | (simp; omega)), ?_⟩)); try (refine hKr _ ?_; clear hKr Kr)
      refine CallK.data (fun _ => Spec.args (s5) (by (first | exact ArgsLe.refl | (repeat (first | exact True.intro | refine And.intro (by first | exact AvLe.refl | exact AvLe.loose | exact AvLe.nil | exact AvLe.nilT | exact AvLe.slk | (refine AvLe.agg ?_; exact ArgsLe.refl) | (refine AvLe.agg ?_; (repeat (first | exact True.intro | refine And.intro (by first | exact AvLe.refl | exact AvLe.loose | exact AvLe.nil | exact AvLe.nilT | exact AvLe.slk) ?_)))) ?_))))) rfl ?_
      simp only [go_sem]
      (repeat (refine ⟨by (first | exact True.intro | omega | rfl | (simp; done) | (simp; omega)), ?_⟩)); try (refine hKr _ ?_; clear hKr Kr)
      refine CallK.data (fun _ => Spec.args (s6) (by (first | exact ArgsLe.refl | (repeat (first | exact True.intro | refine And.intro (by first | exact AvLe.refl | exact AvLe.loose | exact AvLe.nil | exact AvLe.nilT | exact AvLe.slk | (refine AvLe.agg ?_; exact ArgsLe.refl) | (refine AvLe.agg ?_; (repeat (first | exact True.intro | refine And.intro (by first | exact AvLe.refl | exact AvLe.loose | exact AvLe.nil | exact AvLe.nilT | exact AvLe.slk) ?_)))) ?_))))) rfl ?_
      simp only [go_sem]
      (repeat (refine ⟨by (first | exact True.intro | omega | rfl | (simp; done) | (simp; omega)), ?_⟩)); try (refine hKr _ ?_; clear hKr Kr)
      refine CallK.data (fun _ => Spec.args (s4) (by (first | exact ArgsLe.refl | (repeat (first | exact True.intro | refine And.intro (by first | exact AvLe.refl | exact AvLe.loose | exact AvLe.nil | exact AvLe.nilT | exact AvLe.slk | (refine AvLe.agg ?_; exact ArgsLe.refl) | (refine AvLe.agg ?_; (repeat (first | exact True.intro | refine And.intro (by first | exact AvLe.refl | exact AvLe.loose | exact AvLe.nil | exact AvLe.nilT | exact AvLe.slk) ?_)))) ?_))))) rfl ?_
      simp only [go_sem]
      (repeat (refine ⟨by (first | exact True.intro | omega | rfl | (simp; done) | (simp; omega)), ?_⟩)); try (refine hKr _ ?_; clear hKr Kr)
      refine CallK.data (fun _ => Spec.args (s7) (by (first | exact ArgsLe.refl | (repeat (first | exact True.intro | refine And.intro (by first | exact AvLe.refl | exact AvLe.loose | exact AvLe.nil | exact AvLe.nilT | exact AvLe.slk | (refine AvLe.agg ?_; exact ArgsLe.refl) | (refine AvLe.agg ?_; (repeat (first | exact True.intro | refine And.intro (by first | exact AvLe.refl | exact AvLe.loose | exact AvLe.nil | exact AvLe.nilT | exact AvLe.slk) ?_)))) ?_))))) rfl ?_
      simp only [go_sem]
      (repeat (refine ⟨by (first | exact True.intro | omega | rfl | (simp; done) | (simp; omega)), ?_⟩)); try (refine hKr _ ?_; clear hKr Kr)
      refine T.ret (Fin.dataD rfl rfl rfl)
  obtain ⟨hb1, hb2⟩ : i < l.length ∧ i < 12 := ⟨by omega, by omega⟩
  have sN := Next_spec (runM l i) (l.getD i default) (hinv.okM (by omega))
  rw [next_eq (l.getD i default) hinv] at sN
  have hst : stepG hearF (runM l i) (l.getD i default) = runM l (i + 1) := rfl
  rw [hst] at sN
  refine T.skip ?_
  refine hK23 _ ?_
  refine T.seqK fun K25 hK25 => ?_
  refine T.block ?_
  refine T.drawD 87 [0, 1, 3, 4, 5, 6, 7, 8, 9, 10, 11, 12, 13, 14, 15, 25, 41] (.take 1 (.take 2 (.take 3 (.take 4 (.one 0 (.one 5 (.one 6 .done))))))) [] rfl (by decide +kernel) (by decide +kernel) fun Kr hKr => ?_
  simp only [go_sem, hb1]
  (repeat (refine ⟨by (first | exact True.intro | omega | rfl | (simp; done) | (simp; omega)), ?_⟩)); try (refine hKr _ ?_; clear hKr Kr)
  refine CallK.data (fun _ => Spec.args (sN) (by (first | exact ArgsLe.refl | (repeat (first | exact True.intro | refine And.intro (by first | exact AvLe.refl | exact AvLe.loose | exact AvLe.nil | exact AvLe.nilT | exact AvLe.slk | (refine AvLe.agg ?_; exact ArgsLe.refl) | (refine AvLe.agg ?_; (repeat (first | exact True.intro | refine And.intro (by first | exact AvLe.refl | exact AvLe.loose | exact AvLe.nil | exact AvLe.nilT | exact AvLe.slk) ?_)))) ?_))))) rfl ?_
  simp only [go_sem]
  (repeat (refine ⟨by (first | exact True.intro | omega | rfl | (simp; done) | (simp; omega)), ?_⟩)); try (refine hKr _ ?_; clear hKr Kr)
  refine hK25 _ ?_
  refine T.regD 87 [0, 1, 3, 4, 5, 6, 7, 8, 9, 10, 11, 12, 13, 14, 15, 25, 41] fun Kr hKr => ?_
  simp only [go_sem]
  (repeat (refine ⟨by (first | exact True.intro | omega | rfl | (simp; done) | (simp; omega)), ?_⟩)); try (refine hKr _ ?_; clear hKr Kr)
  refine ⟨i + 1, ?_, ?_, Le.fitS (by (repeat (first | exact DFit.nil | refine DFit.cons (by first | rfl | (simp [slook]; done) | (simp [slook]; omega)) ?_))) ?_⟩
  · exact ⟨by omega, by omega⟩
  · omega
  · (repeat (first | exact True.intro | refine And.intro (by first | rfl | (simp [look]; done)) ?_))
end Go.Proofs
