/- Messages: arguments: commits and packets with any fields. -/
import Derived.Test.YtomdfdppfhkbjaaMC
set_option linter.unusedVariables false
set_option linter.unusedSimpArgs false
namespace Go.Proofs
open Go Go.Ideal
set_option maxRecDepth 8000
set_option maxHeartbeats 4000000

/-- The list of commits of the statement. -/
def argE (i : Nat) : Sent := ⟨1000 + i, (i : Int) % 8, 1 + (i : Int) % 3, [120]⟩
def argL (n : Nat) : List Sent := (List.range n).map argE
theorem argL_len (n : Nat) : (argL n).length = n := by simp [argL]
theorem argL_succ (n : Nat) : argL (n + 1) = argL n ++ [argE n] := by simp [argL, List.range_succ]
theorem argL_ids (n : Nat) : (argL n).Pairwise fun x y => x.id ≠ y.id := by
  unfold argL
  rw [List.pairwise_map]
  refine List.Pairwise.imp ?_ (List.pairwise_lt_range (n := n))
  intro a b h; simp only [argE]; omega
theorem sub_len (l : List Sent) (c : Cmt) : (subF l c).1.length ≤ l.length + 1 ∧ (subF l c).2.1.length ≤ 1 := by
  unfold subF
  split
  · simp
  · split
    · simp
    · simp
theorem setF_lenM (l : List Sent) (a i s : Int) : (setF l a i s).length = l.length := by
  unfold setF; split
  · rfl
  · simp
theorem hear_lenM (l : List Sent) (p : Packet) : (hearF l p).length = l.length := by
  unfold hearF; (repeat' split) <;> simp [setF_lenM]

theorem arguments_law (c : Cmt) (k app id : Int) (s : List UInt8) (n : UInt8) : Ideal.Spec Try.prog 8 [cmA c, .agg [.int .i64 k, .int .i64 app, .int .i64 id, .str s], .int .u8 n.toNat] (.bool true) none := by
  have s0 := sanityM_spec
  obtain ⟨cid, capp, ct⟩ := c
  obtain ⟨q, hq⟩ : ∃ q : Nat, (if (44 : Int) < ct.length then (44 : Int) else ct.length) = q := ⟨min 44 ct.length, by split <;> omega⟩
  obtain ⟨r, hr⟩ : ∃ r : Nat, (if (44 : Int) < s.length then (44 : Int) else s.length) = r := ⟨min 44 s.length, by split <;> omega⟩
  have hq4 : q ≤ 44 ∧ q ≤ ct.length := by split at hq <;> omega
  have hr4 : r ≤ 44 ∧ r ≤ s.length := by split at hr <;> omega
  refine Ideal.Spec.of_TD (n := 102) (fn := Try.f8) rfl rfl rfl rfl rfl rfl rfl fun w ok => ?_
  refine T.sregD 102 [0, 1, 2, 3, 4, 6, 7, 8, 9, 10, 11, 12, 13, 14, 38] fun Kr hKr => ?_
  simp only [go_sem]
  (repeat (refine ⟨by (first | exact True.intro | omega | rfl | (simp; done) | (simp; omega)), ?_⟩)); try (refine hKr _ ?_; clear hKr Kr)
  refine T.sregD 102 [0, 1, 2, 3, 4, 6, 7, 8, 9, 10, 11, 12, 13, 14, 38] fun Kr hKr => ?_
  simp only [go_sem]
  (repeat (refine ⟨by (first | exact True.intro | omega | rfl | (simp; done) | (simp; omega)), ?_⟩)); try (refine hKr _ ?_; clear hKr Kr)
  refine CallK.data (fun _ => Spec.args (s0) (by (first | exact ArgsLe.refl | (repeat (first | exact True.intro | refine And.intro (by first | exact AvLe.refl | exact AvLe.loose | exact AvLe.nil | exact AvLe.nilT | exact AvLe.slk | (refine AvLe.agg ?_; exact ArgsLe.refl) | (refine AvLe.agg ?_; (repeat (first | exact True.intro | refine And.intro (by first | exact AvLe.refl | exact AvLe.loose | exact AvLe.nil | exact AvLe.nilT | exact AvLe.slk) ?_)))) ?_))))) rfl ?_
  simp only [go_sem]
  (repeat (refine ⟨by (first | exact True.intro | omega | rfl | (simp; done) | (simp; omega)), ?_⟩)); try (refine hKr _ ?_; clear hKr Kr)
  refine T.sdraw2D 102 [0, 1, 2, 3, 4, 6, 7, 8, 9, 10, 11, 12, 13, 14, 38] (.take 0 (.take 2 (.take 7 (.take 9 (.four 1 (.three 3 (.take 4 (.take 5 (.take 6 (.take 14 (.three 8 (.two 10 (.take 11 (.take 12 (.take 13 (.one 15 (.take 16 (.one 17 .done)))))) 15 (.one 10 (.take 11 (.take 12 (.take 13 (.take 16 (.one 17 .done))))))) 10 (.take 11 (.take 12 (.two 8 (.take 13 (.one 15 (.take 16 (.one 17 .done)))) 15 (.one 8 (.take 13 (.take 16 (.one 17 .done))))))) 15 (.two 8 (.one 10 (.take 11 (.take 12 (.take 13 (.take 16 (.one 17 .done)))))) 10 (.take 11 (.take 12 (.one 8 (.take 13 (.take 16 (.one 17 .done)))))))))))) 8 (.two 3 (.take 4 (.take 5 (.take 6 (.take 14 (.two 10 (.take 11 (.take 12 (.take 13 (.one 15 (.take 16 (.one 17 .done)))))) 15 (.one 10 (.take 11 (.take 12 (.take 13 (.take 16 (.one 17 .done))))))))))) 10 (.take 11 (.take 12 (.take 13 (.one 3 (.take 4 (.take 5 (.take 6 (.take 14 (.one 15 (.take 16 (.one 17 .done)))))))))))) 10 (.take 11 (.take 12 (.two 3 (.take 4 (.take 5 (.take 6 (.take 14 (.two 8 (.take 13 (.one 15 (.take 16 (.one 17 .done)))) 15 (.one 8 (.take 13 (.take 16 (.one 17 .done))))))))) 8 (.take 13 (.one 3 (.take 4 (.take 5 (.take 6 (.take 14 (.one 15 (.take 16 (.one 17 .done))))))))))))) 3 (.take 4 (.take 5 (.three 1 (.take 6 (.take 14 (.three 8 (.two 10 (.take 11 (.take 12 (.take 13 (.one 15 (.take 16 (.one 17 .done)))))) 15 (.one 10 (.take 11 (.take 12 (.take 13 (.take 16 (.one 17 .done))))))) 10 (.take 11 (.take 12 (.two 8 (.take 13 (.one 15 (.take 16 (.one 17 .done)))) 15 (.one 8 (.take 13 (.take 16 (.one 17 .done))))))) 15 (.two 8 (.one 10 (.take 11 (.take 12 (.take 13 (.take 16 (.one 17 .done)))))) 10 (.take 11 (.take 12 (.one 8 (.take 13 (.take 16 (.one 17 .done)))))))))) 8 (.two 1 (.take 6 (.take 14 (.two 10 (.take 11 (.take 12 (.take 13 (.one 15 (.take 16 (.one 17 .done)))))) 15 (.one 10 (.take 11 (.take 12 (.take 13 (.take 16 (.one 17 .done))))))))) 10 (.take 11 (.take 12 (.take 13 (.one 1 (.take 6 (.take 14 (.one 15 (.take 16 (.one 17 .done)))))))))) 10 (.take 11 (.take 12 (.two 1 (.take 6 (.take 14 (.two 8 (.take 13 (.one 15 (.take 16 (.one 17 .done)))) 15 (.one 8 (.take 13 (.take 16 (.one 17 .done))))))) 8 (.take 13 (.one 1 (.take 6 (.take 14 (.one 15 (.take 16 (.one 17 .done))))))))))))) 8 (.three 1 (.two 3 (.take 4 (.take 5 (.take 6 (.take 14 (.two 10 (.take 11 (.take 12 (.take 13 (.one 15 (.take 16 (.one 17 .done)))))) 15 (.one 10 (.take 11 (.take 12 (.take 13 (.take 16 (.one 17 .done))))))))))) 10 (.take 11 (.take 12 (.take 13 (.one 3 (.take 4 (.take 5 (.take 6 (.take 14 (.one 15 (.take 16 (.one 17 .done)))))))))))) 3 (.take 4 (.take 5 (.two 1 (.take 6 (.take 14 (.two 10 (.take 11 (.take 12 (.take 13 (.one 15 (.take 16 (.one 17 .done)))))) 15 (.one 10 (.take 11 (.take 12 (.take 13 (.take 16 (.one 17 .done))))))))) 10 (.take 11 (.take 12 (.take 13 (.one 1 (.take 6 (.take 14 (.one 15 (.take 16 (.one 17 .done)))))))))))) 10 (.take 11 (.take 12 (.take 13 (.two 1 (.one 3 (.take 4 (.take 5 (.take 6 (.take 14 (.one 15 (.take 16 (.one 17 .done)))))))) 3 (.take 4 (.take 5 (.one 1 (.take 6 (.take 14 (.one 15 (.take 16 (.one 17 .done))))))))))))) 10 (.take 11 (.take 12 (.three 1 (.two 3 (.take 4 (.take 5 (.take 6 (.take 14 (.two 8 (.take 13 (.one 15 (.take 16 (.one 17 .done)))) 15 (.one 8 (.take 13 (.take 16 (.one 17 .done))))))))) 8 (.take 13 (.one 3 (.take 4 (.take 5 (.take 6 (.take 14 (.one 15 (.take 16 (.one 17 .done)))))))))) 3 (.take 4 (.take 5 (.two 1 (.take 6 (.take 14 (.two 8 (.take 13 (.one 15 (.take 16 (.one 17 .done)))) 15 (.one 8 (.take 13 (.take 16 (.one 17 .done))))))) 8 (.take 13 (.one 1 (.take 6 (.take 14 (.one 15 (.take 16 (.one 17 .done)))))))))) 8 (.take 13 (.two 1 (.one 3 (.take 4 (.take 5 (.take 6 (.take 14 (.one 15 (.take 16 (.one 17 .done)))))))) 3 (.take 4 (.take 5 (.one 1 (.take 6 (.take 14 (.one 15 (.take 16 (.one 17 .done)))))))))))))))))) [] rfl (by decide +kernel) (by decide +kernel) ?x1 ?h1 (fun Kr hKr => ?all1) ?rest1
  case all1 =>
    simp only [go_sem, hq, hr]
    (repeat (any_goals (first | exact hKr _ (.inl rfl) | exact hKr _ (.inr (by (repeat (first | exact True.intro | refine And.intro (by first | rfl | (simp [look]; done)) ?_)))) | (refine And.intro ?_ ?_) | (first | exact True.intro | omega | rfl | (simp; done) | (simp; omega)))))
    all_goals (first | exact hKr _ (.inl rfl) | exact hKr _ (.inr (by (repeat (first | exact True.intro | refine And.intro (by first | rfl | (simp [look]; done)) ?_)))))
  case rest1 =>
  obtain ⟨v, hv⟩ : ∃ v : Nat, (n.toNat : Int) % 4 = v := ⟨n.toNat % 4, by omega⟩
  have hv4 : v < 4 := by omega
  have hnn := n.toNat_lt
  refine T.sregD 102 [0, 1, 2, 3, 4, 6, 7, 8, 9, 10, 11, 12, 13, 14, 38] fun Kr hKr => ?_
  simp only [go_sem]
  (repeat (refine ⟨by (first | exact True.intro | omega | rfl | (simp; done) | (simp; omega)), ?_⟩)); try (refine hKr _ ?_; clear hKr Kr)
  refine T.seqK fun K1 hK1 => ?_
  refine T.sregD 102 [0, 1, 2, 3, 4, 6, 7, 8, 9, 10, 11, 12, 13, 14, 38] fun Kr hKr => ?_
  simp only [go_sem]
  (repeat (refine ⟨by (first | exact True.intro | omega | rfl | (simp; done) | (simp; omega)), ?_⟩)); try (refine hKr _ ?_; clear hKr Kr)
  refine T.bloop (fun i : Nat => ⟨dense 102 [(2, .int .u8 n.toNat), (3, .op 3 0 0), (4, .op 4 0 0), (7, .bool true), (8, .osl 32 0 i), (9, .int .i64 i)], [(32, ⟨4, 35, false, sesOf (argL i)⟩), (4, ⟨4, 49, true, [.agg [.int .i64 k, .int .i64 app, .int .i64 id, .str (s.take r)]]⟩), (3, ⟨3, 59, true, [.agg [.int .i64 cid, .int .i64 capp, .str (ct.take q)]]⟩)]⟩) (fun i => i ≤ 97 + v) (fun i => 97 + v - i) 0 (by simp) ?_ fun i hi => ?_
  · refine Le.fitS (by (repeat (first | exact DFit.nil | refine DFit.cons (by first | rfl | (simp [slook]; done) | (simp [slook]; omega)) ?_))) (by (repeat (first | exact True.intro | refine And.intro (by first | rfl | (simp [look]; done)) ?_)))
  have hal := argL_len i
  have h101 : i ≤ 100 := by omega
  refine T.seqK fun K2 hK2 => ?_
  refine T.sregD 102 [0, 1, 2, 3, 4, 6, 7, 8, 9, 10, 11, 12, 13, 14, 38] fun Kr hKr => ?_
  simp only [go_sem, hv]
  (repeat (refine ⟨by (first | exact True.intro | omega | rfl | (simp; done) | (simp; omega)), ?_⟩)); try (refine hKr _ ?_; clear hKr Kr)
  refine T.condFD rfl rfl (fun hb => ?_) (fun hb => ?_) <;> simp only [decide_eq_true_eq, decide_eq_false_iff_not] at hb
  · -- no: exit
    refine T.exit ?_
    simp only [if_true]
    refine hK1 _ ?_
    clear hb
    have hids := argL_ids i
    generalize hL : argL i = L at *
    have hCok : OkC ⟨noDoc, [], [1000]⟩ := ⟨noDoc_ok, by simp, by simp⟩
    have hrs : (s.take r).length ≤ 100000 := by simp; omega
    have hcs : (ct.take q).length ≤ 100000 := by simp; omega
    have s1 := Receive_spec ⟨noDoc, [], [1000]⟩ 1 ⟨k, app, id, s.take r⟩ hCok hrs
    have s2 := ReceiveR_spec ⟨noDoc, [], [1000]⟩ 1 ⟨k, app, id, s.take r⟩ hCok hrs
    have ok1 := recv_ok (a := 1) (p := ⟨k, app, id, s.take r⟩) hCok (by simp) (by simp)
    have hrl := (recv_len (c := ⟨noDoc, [], [1000]⟩) (a := 1) (p := ⟨k, app, id, s.take r⟩)).1
    generalize recvF ⟨noDoc, [], [1000]⟩ 1 ⟨k, app, id, s.take r⟩ = R at *
    have s3 := submitted_spec L ⟨cid, capp, ct.take q⟩ (by omega) hcs
    have s4 := SubmitR_spec L ⟨cid, capp, ct.take q⟩ (by omega) hcs
    obtain ⟨l1, l2⟩ := sub_len L ⟨cid, capp, ct.take q⟩
    have s5 := sameSubmitted_spec (subF L ⟨cid, capp, ct.take q⟩) (subF L ⟨cid, capp, ct.take q⟩) (by omega) (by omega) (by omega) (by omega)
    rw [decide_eq_true rfl] at s5
    have t3 := submitted_spec [] ⟨cid, capp, ct.take q⟩ (by simp) hcs
    have t4 := SubmitR_spec [] ⟨cid, capp, ct.take q⟩ (by simp) hcs
    obtain ⟨m1, m2⟩ := sub_len [] ⟨cid, capp, ct.take q⟩
    simp only [List.length_nil] at m1 m2
    have t5 := sameSubmitted_spec (subF [] ⟨cid, capp, ct.take q⟩) (subF [] ⟨cid, capp, ct.take q⟩) (by omega) (by omega) (by omega) (by omega)
    rw [decide_eq_true rfl] at t5
    have s6 := SameClient_spec R.1 R.1 ok1 ok1
    rw [decide_eq_true rfl] at s6
    have s7 := SamePk_spec R.2 R.2 (by omega) (by omega)
    rw [decide_eq_true rfl] at s7
    have s8 := Hear_spec L ⟨k, app, id, s.take r⟩ (by omega)
    have s9 := HearR_spec L ⟨k, app, id, s.take r⟩ (by omega)
    rw [hear_eq hids] at s9
    have hhl := hear_lenM L ⟨k, app, id, s.take r⟩
    have sA := SameSent_spec (hearF L ⟨k, app, id, s.take r⟩) (hearF L ⟨k, app, id, s.take r⟩) (by omega) (by omega)
    rw [decide_eq_true rfl] at sA
    generalize subF L ⟨cid, capp, ct.take q⟩ = S1 at *
    generalize subF [] ⟨cid, capp, ct.take q⟩ = S2 at *
    generalize hearF L ⟨k, app, id, s.take r⟩ = H at *
    have htk : L.take i = L := by rw [← hal]; exact List.take_length
    refine T.weaken (Le.frz 32) ?_
    simp only [go_sem, hal, htk, Nat.le_refl]
    refine T.sregD 102 [0, 1, 2, 3, 4, 6, 7, 8, 9, 10, 11, 12, 13, 14, 38] fun Kr hKr => ?_
    simp only [go_sem]
    (repeat (refine ⟨by (first | exact True.intro | omega | rfl | (simp; done) | (simp; omega)), ?_⟩)); try (refine hKr _ ?_; clear hKr Kr)
    refine T.sregD 102 [0, 1, 2, 3, 4, 6, 7, 8, 9, 10, 11, 12, 13, 14, 38] fun Kr hKr => ?_
    simp only [go_sem]
    (repeat (refine ⟨by (first | exact True.intro | omega | rfl | (simp; done) | (simp; omega)), ?_⟩)); try (refine hKr _ ?_; clear hKr Kr)
    refine CallK.tup (fun _ => Spec.args (s1) (by (first | exact ArgsLe.refl | (repeat (first | exact True.intro | refine And.intro (by first | exact AvLe.refl | exact AvLe.loose | exact AvLe.nil | exact AvLe.nilT | exact AvLe.slk | (refine AvLe.agg ?_; exact ArgsLe.refl) | (refine AvLe.agg ?_; (repeat (first | exact True.intro | refine And.intro (by first | exact AvLe.refl | exact AvLe.loose | exact AvLe.nil | exact AvLe.nilT | exact AvLe.slk) ?_)))) ?_))))) ?_
    simp only [go_sem]
    (repeat (refine ⟨by (first | exact True.intro | omega | rfl | (simp; done) | (simp; omega)), ?_⟩)); try (refine hKr _ ?_; clear hKr Kr)
    refine T.sregD 102 [0, 1, 2, 3, 4, 6, 7, 8, 9, 10, 11, 12, 13, 14, 38] fun Kr hKr => ?_
    simp only [go_sem]
    (repeat (refine ⟨by (first | exact True.intro | omega | rfl | (simp; done) | (simp; omega)), ?_⟩)); try (refine hKr _ ?_; clear hKr Kr)
    refine CallK.tup (fun _ => Spec.args (s2) (by (first | exact ArgsLe.refl | (repeat (first | exact True.intro | refine And.intro (by first | exact AvLe.refl | exact AvLe.loose | exact AvLe.nil | exact AvLe.nilT | exact AvLe.slk | (refine AvLe.agg ?_; exact ArgsLe.refl) | (refine AvLe.agg ?_; (repeat (first | exact True.intro | refine And.intro (by first | exact AvLe.refl | exact AvLe.loose | exact AvLe.nil | exact AvLe.nilT | exact AvLe.slk) ?_)))) ?_))))) ?_
    simp only [go_sem]
    (repeat (refine ⟨by (first | exact True.intro | omega | rfl | (simp; done) | (simp; omega)), ?_⟩)); try (refine hKr _ ?_; clear hKr Kr)
    refine T.sdrawD 102 [0, 1, 2, 3, 4, 6, 7, 8, 9, 10, 11, 12, 13, 14, 38] (.take 0 (.take 1 (.take 3 (.take 4 (.one 2 (.one 5 (.one 6 (.take 7 (.take 8 (.take 10 (.one 9 (.one 11 (.one 12 (.take 13 (.take 14 (.take 15 (.take 16 (.one 17 (.take 18 (.take 19 (.take 20 (.take 21 (.one 22 (.take 23 (.take 24 (.take 25 (.take 26 (.take 28 (.take 29 (.one 27 (.one 30 (.one 31 (.take 32 (.take 33 (.take 34 (.take 35 (.take 36 .done))))))))))))))))))))))))))))))))))))) [3, 4, 11, 13] rfl (by decide +kernel) (by decide +kernel) fun Kr hKr => ?_
    simp only [go_sem]
    (repeat (refine ⟨by (first | exact True.intro | omega | rfl | (simp; done) | (simp; omega)), ?_⟩)); try (refine hKr _ ?_; clear hKr Kr)
    refine CallK.data (fun _ => Spec.args (s3) (by (first | exact ArgsLe.refl | (repeat (first | exact True.intro | refine And.intro (by first | exact AvLe.refl | exact AvLe.loose | exact AvLe.nil | exact AvLe.nilT | exact AvLe.slk | (refine AvLe.agg ?_; exact ArgsLe.refl) | (refine AvLe.agg ?_; (repeat (first | exact True.intro | refine And.intro (by first | exact AvLe.refl | exact AvLe.loose | exact AvLe.nil | exact AvLe.nilT | exact AvLe.slk) ?_)))) ?_))))) rfl ?_
    simp only [go_sem]
    (repeat (refine ⟨by (first | exact True.intro | omega | rfl | (simp; done) | (simp; omega)), ?_⟩)); try (refine hKr _ ?_; clear hKr Kr)
    refine CallK.data (fun _ => Spec.args (s4) (by (first | exact ArgsLe.refl | (repeat (first | exact True.intro | refine And.intro (by first | exact AvLe.refl | exact AvLe.loose | exact AvLe.nil | exact AvLe.nilT | exact AvLe.slk | (refine AvLe.agg ?_; exact ArgsLe.refl) | (refine AvLe.agg ?_; (repeat (first | exact True.intro | refine And.intro (by first | exact AvLe.refl | exact AvLe.loose | exact AvLe.nil | exact AvLe.nilT | exact AvLe.slk) ?_)))) ?_))))) rfl ?_
    simp only [go_sem]
    (repeat (refine ⟨by (first | exact True.intro | omega | rfl | (simp; done) | (simp; omega)), ?_⟩)); try (refine hKr _ ?_; clear hKr Kr)
    refine CallK.data (fun _ => Spec.args (s5) (by (first | exact ArgsLe.refl | (repeat (first | exact True.intro | refine And.intro (by first | exact AvLe.refl | exact AvLe.loose | exact AvLe.nil | exact AvLe.nilT | exact AvLe.slk | (refine AvLe.agg ?_; exact ArgsLe.refl) | (refine AvLe.agg ?_; (repeat (first | exact True.intro | refine And.intro (by first | exact AvLe.refl | exact AvLe.loose | exact AvLe.nil | exact AvLe.nilT | exact AvLe.slk) ?_)))) ?_))))) rfl ?_
    simp only [go_sem]
    (repeat (refine ⟨by (first | exact True.intro | omega | rfl | (simp; done) | (simp; omega)), ?_⟩)); try (refine hKr _ ?_; clear hKr Kr)
    refine CallK.data (fun _ => Spec.args (t3) (by (first | exact ArgsLe.refl | (repeat (first | exact True.intro | refine And.intro (by first | exact AvLe.refl | exact AvLe.loose | exact AvLe.nil | exact AvLe.nilT | exact AvLe.slk | (refine AvLe.agg ?_; exact ArgsLe.refl) | (refine AvLe.agg ?_; (repeat (first | exact True.intro | refine And.intro (by first | exact AvLe.refl | exact AvLe.loose | exact AvLe.nil | exact AvLe.nilT | exact AvLe.slk) ?_)))) ?_))))) rfl ?_
    simp only [go_sem]
    (repeat (refine ⟨by (first | exact True.intro | omega | rfl | (simp; done) | (simp; omega)), ?_⟩)); try (refine hKr _ ?_; clear hKr Kr)
    refine CallK.data (fun _ => Spec.args (t4) (by (first | exact ArgsLe.refl | (repeat (first | exact True.intro | refine And.intro (by first | exact AvLe.refl | exact AvLe.loose | exact AvLe.nil | exact AvLe.nilT | exact AvLe.slk | (refine AvLe.agg ?_; exact ArgsLe.refl) | (refine AvLe.agg ?_; (repeat (first | exact True.intro | refine And.intro (by first | exact AvLe.refl | exact AvLe.loose | exact AvLe.nil | exact AvLe.nilT | exact AvLe.slk) ?_)))) ?_))))) rfl ?_
    simp only [go_sem]
    (repeat (refine ⟨by (first | exact True.intro | omega | rfl | (simp; done) | (simp; omega)), ?_⟩)); try (refine hKr _ ?_; clear hKr Kr)
    refine CallK.data (fun _ => Spec.args (t5) (by (first | exact ArgsLe.refl | (repeat (first | exact True.intro | refine And.intro (by first | exact AvLe.refl | exact AvLe.loose | exact AvLe.nil | exact AvLe.nilT | exact AvLe.slk | (refine AvLe.agg ?_; exact ArgsLe.refl) | (refine AvLe.agg ?_; (repeat (first | exact True.intro | refine And.intro (by first | exact AvLe.refl | exact AvLe.loose | exact AvLe.nil | exact AvLe.nilT | exact AvLe.slk) ?_)))) ?_))))) rfl ?_
    simp only [go_sem]
    (repeat (refine ⟨by (first | exact True.intro | omega | rfl | (simp; done) | (simp; omega)), ?_⟩)); try (refine hKr _ ?_; clear hKr Kr)
    refine CallK.data (fun _ => Spec.args (s6) (by (first | exact ArgsLe.refl | (repeat (first | exact True.intro | refine And.intro (by first | exact AvLe.refl | exact AvLe.loose | exact AvLe.nil | exact AvLe.nilT | exact AvLe.slk | (refine AvLe.agg ?_; exact ArgsLe.refl) | (refine AvLe.agg ?_; (repeat (first | exact True.intro | refine And.intro (by first | exact AvLe.refl | exact AvLe.loose | exact AvLe.nil | exact AvLe.nilT | exact AvLe.slk) ?_)))) ?_))))) rfl ?_
    simp only [go_sem]
    (repeat (refine ⟨by (first | exact True.intro | omega | rfl | (simp; done) | (simp; omega)), ?_⟩)); try (refine hKr _ ?_; clear hKr Kr)
    refine CallK.data (fun _ => Spec.args (s7) (by (first | exact ArgsLe.refl | (repeat (first | exact True.intro | refine And.intro (by first | exact AvLe.refl | exact AvLe.loose | exact AvLe.nil | exact AvLe.nilT | exact AvLe.slk | (refine AvLe.agg ?_; exact ArgsLe.refl) | (refine AvLe.agg ?_; (repeat (first | exact True.intro | refine And.intro (by first | exact AvLe.refl | exact AvLe.loose | exact AvLe.nil | exact AvLe.nilT | exact AvLe.slk) ?_)))) ?_))))) rfl ?_
    simp only [go_sem]
    (repeat (refine ⟨by (first | exact True.intro | omega | rfl | (simp; done) | (simp; omega)), ?_⟩)); try (refine hKr _ ?_; clear hKr Kr)
    refine CallK.data (fun _ => Spec.args (s8) (by (first | exact ArgsLe.refl | (repeat (first | exact True.intro | refine And.intro (by first | exact AvLe.refl | exact AvLe.loose | exact AvLe.nil | exact AvLe.nilT | exact AvLe.slk | (refine AvLe.agg ?_; exact ArgsLe.refl) | (refine AvLe.agg ?_; (repeat (first | exact True.intro | refine And.intro (by first | exact AvLe.refl | exact AvLe.loose | exact AvLe.nil | exact AvLe.nilT | exact AvLe.slk) ?_)))) ?_))))) rfl ?_
    simp only [go_sem]
    (repeat (refine ⟨by (first | exact True.intro | omega | rfl | (simp; done) | (simp; omega)), ?_⟩)); try (refine hKr _ ?_; clear hKr Kr)
    refine CallK.data (fun _ => Spec.args (s9) (by (first | exact ArgsLe.refl | (repeat (first | exact True.intro | refine And.intro (by first | exact AvLe.refl | exact AvLe.loose | exact AvLe.nil | exact AvLe.nilT | exact AvLe.slk | (refine AvLe.agg ?_; exact ArgsLe.refl) | (refine AvLe.agg ?_; (repeat (first | exact True.intro | refine And.intro (by first | exact AvLe.refl | exact AvLe.loose | exact AvLe.nil | exact AvLe.nilT | exact AvLe.slk) ?_)))) ?_))))) rfl ?_
    simp only [go_sem]
    (repeat (refine ⟨by (first | exact True.intro | omega | rfl | (simp; done) | (simp; omega)), ?_⟩)); try (refine hKr _ ?_; clear hKr Kr)
    refine CallK.data (fun _ => Spec.args (sA) (by (first | exact ArgsLe.refl | (repeat (first | exact True.intro | refine And.intro (by first | exact AvLe.refl | exact AvLe.loose | exact AvLe.nil | exact AvLe.nilT | exact AvLe.slk | (refine AvLe.agg ?_; exact ArgsLe.refl) | (refine AvLe.agg ?_; (repeat (first | exact True.intro | refine And.intro (by first | exact AvLe.refl | exact AvLe.loose | exact AvLe.nil | exact AvLe.nilT | exact AvLe.slk) ?_)))) ?_))))) rfl ?_
    simp only [go_sem]
    (repeat (refine ⟨by (first | exact True.intro | omega | rfl | (simp; done) | (simp; omega)), ?_⟩)); try (refine hKr _ ?_; clear hKr Kr)
    refine T.ret (Fin.dataD rfl rfl rfl)
  have happ : sesOf (argL i) ++ [.agg [.int .i64 (1000 + (i : Int)), .int .i64 ((i : Int) % 8), .int .i64 (1 + (i : Int) % 3), .str [120]]] = sesOf (argL (i + 1)) := by rw [argL_succ]; simp [sesOf, argE]; rfl
  refine T.skip ?_
  refine hK2 _ ?_
  refine T.seqK fun K3 hK3 => ?_
  refine T.block ?_
  refine T.regD 102 [0, 1, 2, 3, 4, 6, 7, 8, 9, 10, 11, 12, 13, 14, 38] fun Kr hKr => ?_
  simp only [go_sem, happ, hal]
  (repeat (refine ⟨by (first | exact True.intro | omega | rfl | (simp; done) | (simp; omega)), ?_⟩)); try (refine hKr _ ?_; clear hKr Kr)
  refine hK3 _ ?_
  refine T.regD 102 [0, 1, 2, 3, 4, 6, 7, 8, 9, 10, 11, 12, 13, 14, 38] fun Kr hKr => ?_
  simp only [go_sem]
  (repeat (refine ⟨by (first | exact True.intro | omega | rfl | (simp; done) | (simp; omega)), ?_⟩)); try (refine hKr _ ?_; clear hKr Kr)
  refine ⟨i + 1, ?_, ?_, Le.fitS (by (repeat (first | exact DFit.nil | refine DFit.cons (by first | rfl | (simp [slook]; done) | (simp [slook]; omega)) ?_))) ?_⟩
  · omega
  · omega
  · (repeat (first | exact True.intro | refine And.intro (by first | rfl | (simp [look]; done)) ?_))
end Go.Proofs
