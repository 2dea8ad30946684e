/- Messages: examples. -/
import Derived.Test.YtomdfdppfhkbjaaM5
import Derived.Test.YtomdfdppfhkbjaaD8
set_option linter.unusedVariables false
set_option linter.unusedSimpArgs false
namespace Go.Proofs
open Go Go.Ideal
set_option maxRecDepth 8000
set_option maxHeartbeats 4000000

/-- The Ids that are Cancelled. -/
def canF (l : List Sent) : List Int := (l.filter fun x => decide (x.st = 3)).map Sent.id
theorem canF_step {l : List Sent} {i : Nat} (h : i < l.length) : canF (l.take (i + 1)) = canF (l.take i) ++ (if (l.getD i default).st = 3 then [(l.getD i default).id] else []) := by
  unfold canF
  rw [take_succ_d h, List.filter_append, List.map_append]
  congr 1
  by_cases hc : (l.getD i default).st = 3 <;> simp only [List.filter_cons, List.filter_nil, hc, decide_true, decide_false, if_true, if_false, Bool.false_eq_true, List.map_cons, List.map_nil]
theorem canF_len (l : List Sent) : (canF l).length ≤ l.length := by unfold canF; rw [List.length_map]; exact List.length_filter_le _ _
theorem Cancelled_spec (l : List Sent) (hl : l.length ≤ 100000) : Ideal.Spec Try.prog 28 [.sl false 4 (sesOf l)] (.sl false 1 (intsOf (canF l))) none := by
  refine Ideal.Spec.of_TD (n := 22) (fn := Try.f28) rfl rfl rfl rfl rfl rfl rfl fun w ok => ?_
  refine T.post [.tmp 2] ?_
  refine T.sregD 22 [0, 2, 3, 5, 6, 7, 8, 9, 14] fun Kr hKr => ?_
  simp only [go_sem]
  (repeat (refine ⟨by (first | exact True.intro | omega | rfl | (simp; done) | (simp; omega)), ?_⟩)); try (refine hKr _ ?_; clear hKr Kr)
  refine T.sregD 22 [0, 2, 3, 5, 6, 7, 8, 9, 14] fun Kr hKr => ?_
  simp only [go_sem]
  (repeat (refine ⟨by (first | exact True.intro | omega | rfl | (simp; done) | (simp; omega)), ?_⟩)); try (refine hKr _ ?_; clear hKr Kr)
  refine T.seqK fun K74 hK74 => ?_
  refine T.sregD 22 [0, 2, 3, 5, 6, 7, 8, 9, 14] fun Kr hKr => ?_
  simp only [go_sem]
  (repeat (refine ⟨by (first | exact True.intro | omega | rfl | (simp; done) | (simp; omega)), ?_⟩)); try (refine hKr _ ?_; clear hKr Kr)
  refine T.bloop (fun i : Nat => ⟨dense 22 [(3, .osl 20 0 (canF (l.take i)).length), (6, .sl false 4 (sesOf l)), (7, .int .i64 l.length), (8, .int .i64 i)], [(20, ⟨1, 3, false, intsOf (canF (l.take i))⟩)]⟩) (fun i => i ≤ l.length) (fun i => l.length - i) 0 (by simp) ?_ fun i hi => ?_
  · refine (Le.own 3 20 1 3).trans ?_
    simp only [go_sem]
    refine Le.fitS (by (repeat (first | exact DFit.nil | refine DFit.cons (by first | rfl | (simp [slook]; done) | (simp [slook]; omega)) ?_))) (by (repeat (first | exact True.intro | refine And.intro (by first | rfl | (simp [look]; done)) ?_)))
  refine T.sregD 22 [0, 2, 3, 5, 6, 7, 8, 9, 14] fun Kr hKr => ?_
  simp only [go_sem]
  (repeat (refine ⟨by (first | exact True.intro | omega | rfl | (simp; done) | (simp; omega)), ?_⟩)); try (refine hKr _ ?_; clear hKr Kr)
  refine T.seqK fun K75 hK75 => ?_
  refine T.condFD rfl rfl (fun hb => ?_) (fun hb => ?_) <;> simp at hb
  · -- no: exit
    refine T.exit ?_
    simp only [if_true]
    refine hK74 _ ?_
    have : i = l.length := by omega
    subst this
    rw [List.take_length]
    refine T.sregD 22 [0, 2, 3, 5, 6, 7, 8, 9, 14] fun Kr hKr => ?_
    simp only [go_sem]
    (repeat (refine ⟨by (first | exact True.intro | omega | rfl | (simp; done) | (simp; omega)), ?_⟩)); try (refine hKr _ ?_; clear hKr Kr)
    refine T.ret ?_
    simp only [go_sem, Nat.le_refl, List.take_length]
    exact Fin.dataD rfl rfl rfl
  refine T.skip ?_
  refine hK75 _ ?_
  refine T.seqK fun K76 hK76 => ?_
  refine T.block ?_
  have hst := canF_step hb
  have hll := canF_len (l.take i)
  have hlt : (l.take i).length ≤ i := by simp; omega
  refine T.sregD 22 [0, 2, 3, 5, 6, 7, 8, 9, 14] fun Kr hKr => ?_
  simp only [go_sem, hb]
  (repeat (refine ⟨by (first | exact True.intro | omega | rfl | (simp; done) | (simp; omega)), ?_⟩)); try (refine hKr _ ?_; clear hKr Kr)
  generalize l.getD i default = x at *
  refine T.sregD 22 [0, 2, 3, 5, 6, 7, 8, 9, 14] fun Kr hKr => ?_
  simp only [go_sem]
  (repeat (refine ⟨by (first | exact True.intro | omega | rfl | (simp; done) | (simp; omega)), ?_⟩)); try (refine hKr _ ?_; clear hKr Kr)
  refine T.condTD rfl rfl (fun hc => ?_) (fun hc => ?_) <;> simp at hc
  · -- yes
    rw [if_pos hc] at hst
    have happ : intsOf (canF (l.take i)) ++ [.int .i64 x.id] = intsOf (canF (l.take (i + 1))) := by rw [hst, intsOf_app]; rfl
    have hlen : (canF (l.take (i + 1))).length = (canF (l.take i)).length + 1 := by rw [hst]; simp
    refine T.regD 22 [0, 2, 3, 5, 6, 7, 8, 9, 14] fun Kr hKr => ?_
    simp only [go_sem, happ]
    (repeat (refine ⟨by (first | exact True.intro | omega | rfl | (simp; done) | (simp; omega)), ?_⟩)); try (refine hKr _ ?_; clear hKr Kr)
    refine hK76 _ ?_
    refine T.regD 22 [0, 2, 3, 5, 6, 7, 8, 9, 14] fun Kr hKr => ?_
    simp only [go_sem]
    (repeat (refine ⟨by (first | exact True.intro | omega | rfl | (simp; done) | (simp; omega)), ?_⟩)); try (refine hKr _ ?_; clear hKr Kr)
    refine ⟨i + 1, ?_, ?_, Le.fitS (by (repeat (first | exact DFit.nil | refine DFit.cons (by first | rfl | (simp [slook, hlen]; done) | (simp [slook, hlen]; omega)) ?_))) ?_⟩
    · omega
    · omega
    · (repeat (first | exact True.intro | refine And.intro (by first | rfl | (simp [look]; done)) ?_))
  rw [if_neg hc, List.append_nil] at hst
  refine T.skip ?_
  refine hK76 _ ?_
  refine T.regD 22 [0, 2, 3, 5, 6, 7, 8, 9, 14] fun Kr hKr => ?_
  simp only [go_sem]
  (repeat (refine ⟨by (first | exact True.intro | omega | rfl | (simp; done) | (simp; omega)), ?_⟩)); try (refine hKr _ ?_; clear hKr Kr)
  refine ⟨i + 1, ?_, ?_, Le.fitS (by (repeat (first | exact DFit.nil | refine DFit.cons (by first | rfl | (simp [slook, hst]; done) | (simp [slook, hst]; omega)) ?_))) ?_⟩
  · omega
  · omega
  · rw [hst]; (repeat (first | exact True.intro | refine And.intro (by first | rfl | (simp [look]; done)) ?_))

theorem validB_okM {d : Doc} (h : validB d = true) : OkD d := by
  simp only [validB, Bool.and_eq_true, decide_eq_true_eq] at h
  obtain ⟨⟨⟨h1, h2⟩, h3⟩, h4⟩ := h
  have key : ∀ (l : List Mark) (n : Nat) (last : Int), -1 ≤ last → chk n last l = true → l.Pairwise (fun a b => a.id < b.id) ∧ ∀ m ∈ l, last < m.id ∧ 0 ≤ m.id ∧ 0 ≤ m.f ∧ m.f < m.t ∧ m.t ≤ n := by
    intro l n
    induction l with
    | nil => intro last _ _; exact ⟨List.Pairwise.nil, by simp⟩
    | cons x l ih =>
      intro last hl h
      simp only [chk, badM, Bool.and_eq_true, Bool.not_eq_true', Bool.or_eq_false_iff, decide_eq_false_iff_not] at h
      obtain ⟨⟨⟨⟨a1, a2⟩, a3⟩, a4⟩, a5⟩ := h
      obtain ⟨b1, b2⟩ := ih x.id (by omega) a5
      refine ⟨List.Pairwise.cons (fun m hm => (b2 m hm).1) b1, fun m hm => ?_⟩
      rcases List.mem_cons.1 hm with rfl | hm
      · exact ⟨by omega, by omega, by omega, by omega, by omega⟩
      · obtain ⟨c1, c2⟩ := b2 m hm
        exact ⟨by omega, c2⟩
  obtain ⟨k1, k2⟩ := key d.m d.s.length (-1) (by omega) h4
  exact ⟨by omega, h2, by omega, k1, fun m hm => (k2 m hm).2⟩
def fiveC : Cmt := ⟨5, 1, [97, 98]⟩
def oneS (st : Int) : List Sent := [⟨5, 1, st, [97, 98]⟩]
def sndP : Packet := ⟨1, 1, 5, [97, 98]⟩
def oneC : Client := ⟨⟨[97, 98], [⟨5, 0, 2, true⟩]⟩, [5], []⟩
theorem oneC_ok : OkC oneC := ⟨validB_okM (by decide +kernel), by simp [oneC], by simp [oneC]⟩
theorem sanityM_spec : Ideal.Spec Try.prog 9 [] (.bool true) none := by
  have s1 := submitted_spec [] fiveC (by simp) (by simp [fiveC])
  rw [show subF [] fiveC = (oneS 1, [sndP], 0) by decide +kernel] at s1
  have s2 := Receive_spec noClient 1 sndP ⟨noDoc_ok, by simp [noClient], by simp [noClient]⟩ (by simp [sndP])
  rw [show recvF noClient 1 sndP = (oneC, [ackP 1 5]) by decide +kernel] at s2
  have s3 := Receive_spec oneC 1 sndP oneC_ok (by simp [sndP])
  rw [show recvF oneC 1 sndP = (oneC, [ackP 1 5]) by decide +kernel] at s3
  have s4 := Receive_spec noClient 0 sndP ⟨noDoc_ok, by simp [noClient], by simp [noClient]⟩ (by simp [sndP])
  rw [show recvF noClient 0 sndP = (noClient, []) by decide +kernel] at s4
  have s5 := Refuse_spec noClient 6 (by simp [noClient]) (by simp [noClient])
  rw [show refuF noClient 6 = ⟨noDoc, [], [6]⟩ by decide +kernel] at s5
  have s6 := Receive_spec ⟨noDoc, [], [6]⟩ 1 ⟨1, 1, 6, [120]⟩ ⟨noDoc_ok, by simp, by simp⟩ (by simp)
  rw [show recvF ⟨noDoc, [], [6]⟩ 1 ⟨1, 1, 6, [120]⟩ = (⟨noDoc, [], [6]⟩, [rejP 1 6]) by decide +kernel] at s6
  have s7 := SamePk_spec [ackP 1 5] [ackP 1 5] (by simp) (by simp)
  rw [decide_eq_true rfl] at s7
  have s8 := SameClient_spec oneC oneC oneC_ok oneC_ok
  rw [decide_eq_true rfl] at s8
  have s9 := SamePk_spec [rejP 1 6] [rejP 1 6] (by simp) (by simp)
  rw [decide_eq_true rfl] at s9
  have sA := Hear_spec (oneS 1) (ackP 1 5) (by simp [oneS])
  rw [show hearF (oneS 1) (ackP 1 5) = oneS 2 by decide +kernel] at sA
  have sB := submitted_spec (oneS 2) fiveC (by simp [oneS]) (by simp [fiveC])
  rw [show subF (oneS 2) fiveC = (oneS 2, [], 300) by decide +kernel] at sB
  have sC := submitted_spec [] ⟨-1, 1, [97, 98]⟩ (by simp) (by simp)
  rw [show subF [] ⟨-1, 1, [97, 98]⟩ = ([], [], 1) by decide +kernel] at sC
  have sD := Again_spec (oneS 2) (by simp [oneS])
  rw [show agnF (oneS 2) = [] by decide +kernel] at sD
  have sE := Again_spec (oneS 1) (by simp [oneS])
  rw [show agnF (oneS 1) = [sndP] by decide +kernel] at sE
  have sF := Cancelled_spec (oneS 2) (by simp [oneS])
  rw [show canF (oneS 2) = [] by decide +kernel] at sF
  have sG := Hear_spec (oneS 1) (rejP 1 5) (by simp [oneS])
  rw [show hearF (oneS 1) (rejP 1 5) = oneS 3 by decide +kernel] at sG
  have sH := Cancelled_spec (oneS 3) (by simp [oneS])
  rw [show canF (oneS 3) = [5] by decide +kernel] at sH
  have sI := IntsR_spec [5] [5] (by simp) (by simp)
  rw [decide_eq_true rfl] at sI
  have f1 : pksOf [sndP] = [.agg [.int .i64 1, .int .i64 1, .int .i64 5, .str [97, 98]]] := rfl
  have f2 : pksOf [ackP 1 5] = [.agg [.int .i64 2, .int .i64 1, .int .i64 5, .str []]] := rfl
  have f3 : pksOf [rejP 1 6] = [.agg [.int .i64 3, .int .i64 1, .int .i64 6, .str []]] := rfl
  have f4 : sesOf (oneS 2) = [.agg [.int .i64 5, .int .i64 1, .int .i64 2, .str [97, 98]]] := rfl
  have f5 : intsOf [5] = [.int .i64 5] := rfl
  refine Ideal.Spec.of_TD (n := 176) (fn := Try.f9) rfl rfl rfl rfl rfl rfl rfl fun w ok => ?_
  refine T.sregD 176 [0, 1, 2, 3, 4, 5, 6, 7, 8, 9, 10, 11, 12, 13, 14, 34, 116] fun Kr hKr => ?_
  simp only [go_sem]
  (repeat (refine ⟨by (first | exact True.intro | omega | rfl | (simp; done) | (simp; omega)), ?_⟩)); try (refine hKr _ ?_; clear hKr Kr)
  refine T.sregD 176 [0, 1, 2, 3, 4, 5, 6, 7, 8, 9, 10, 11, 12, 13, 14, 34, 116] fun Kr hKr => ?_
  simp only [go_sem]
  (repeat (refine ⟨by (first | exact True.intro | omega | rfl | (simp; done) | (simp; omega)), ?_⟩)); try (refine hKr _ ?_; clear hKr Kr)
  refine T.sregD 176 [0, 1, 2, 3, 4, 5, 6, 7, 8, 9, 10, 11, 12, 13, 14, 34, 116] fun Kr hKr => ?_
  simp only [go_sem]
  (repeat (refine ⟨by (first | exact True.intro | omega | rfl | (simp; done) | (simp; omega)), ?_⟩)); try (refine hKr _ ?_; clear hKr Kr)
  refine CallK.data (fun _ => Spec.args (s1) (by (first | exact ArgsLe.refl | (repeat (first | exact True.intro | refine And.intro (by first | exact AvLe.refl | exact AvLe.loose | exact AvLe.nil | exact AvLe.nilT | exact AvLe.slk | (refine AvLe.agg ?_; exact ArgsLe.refl) | (refine AvLe.agg ?_; (repeat (first | exact True.intro | refine And.intro (by first | exact AvLe.refl | exact AvLe.loose | exact AvLe.nil | exact AvLe.nilT | exact AvLe.slk) ?_)))) ?_))))) rfl ?_
  simp only [go_sem]
  (repeat (refine ⟨by (first | exact True.intro | omega | rfl | (simp; done) | (simp; omega)), ?_⟩)); try (refine hKr _ ?_; clear hKr Kr)
  refine T.seqK fun K53 hK53 => ?_
  refine T.sregD 176 [0, 1, 2, 3, 4, 5, 6, 7, 8, 9, 10, 11, 12, 13, 14, 34, 116] fun Kr hKr => ?_
  simp only [go_sem, f1, List.length_singleton]
  (repeat (refine ⟨by (first | exact True.intro | omega | rfl | (simp; done) | (simp; omega)), ?_⟩)); try (refine hKr _ ?_; clear hKr Kr)
  refine T.condTD rfl rfl (fun hb => ?_) (fun hb => ?_) <;> try simp at hb
  refine T.skip ?_
  refine hK53 _ ?_
  refine T.sregD 176 [0, 1, 2, 3, 4, 5, 6, 7, 8, 9, 10, 11, 12, 13, 14, 34, 116] fun Kr hKr => ?_
  simp only [go_sem, f1]
  (repeat (refine ⟨by (first | exact True.intro | omega | rfl | (simp; done) | (simp; omega)), ?_⟩)); try (refine hKr _ ?_; clear hKr Kr)
  refine CallK.tup (fun _ => Spec.args (s2) (by (first | exact ArgsLe.refl | (repeat (first | exact True.intro | refine And.intro (by first | exact AvLe.refl | exact AvLe.loose | exact AvLe.nil | exact AvLe.nilT | exact AvLe.slk | (refine AvLe.agg ?_; exact ArgsLe.refl) | (refine AvLe.agg ?_; (repeat (first | exact True.intro | refine And.intro (by first | exact AvLe.refl | exact AvLe.loose | exact AvLe.nil | exact AvLe.nilT | exact AvLe.slk) ?_)))) ?_))))) ?_
  simp only [go_sem]
  (repeat (refine ⟨by (first | exact True.intro | omega | rfl | (simp; done) | (simp; omega)), ?_⟩)); try (refine hKr _ ?_; clear hKr Kr)
  refine T.sdraw2D 176 [0, 1, 2, 3, 4, 5, 6, 7, 8, 9, 10, 11, 12, 13, 14, 34, 116] (.take 0 (.take 1 (.take 2 (.take 3 (.take 4 (.two 5 (.take 6 (.take 7 (.take 8 (.one 9 (.one 10 (.take 11 .done)))))) 9 (.one 5 (.take 6 (.take 7 (.take 8 (.one 10 (.take 11 .done)))))))))))) [2, 3] rfl (by decide +kernel) (by decide +kernel) ?x1 ?h1 (fun Kr hKr => ?all1) ?rest1
  case all1 =>
    simp only [go_sem, f1]
    (repeat (any_goals (first | exact hKr _ (.inl rfl) | exact hKr _ (.inr (by (repeat (first | exact True.intro | refine And.intro (by first | rfl | (simp [look]; done)) ?_)))) | ((first | refine CallK.dataA (s3) ?_ rfl ?_ | refine CallK.tupA (s3) ?_ ?_ | refine CallK.ownA (s3) ?_ ?_); (focus ((first | exact ArgsLe.refl | (repeat (first | exact True.intro | refine And.intro (by first | exact AvLe.refl | exact AvLe.loose | exact AvLe.nil | exact AvLe.nilT | exact AvLe.slk | (refine AvLe.agg ?_; exact ArgsLe.refl) | (refine AvLe.agg ?_; (repeat (first | exact True.intro | refine And.intro (by first | exact AvLe.refl | exact AvLe.loose | exact AvLe.nil | exact AvLe.nilT | exact AvLe.slk) ?_)))) ?_))); done)); simp only [go_sem, f1]) | (refine And.intro ?_ ?_) | (first | exact True.intro | omega | rfl | (simp; done) | (simp; omega)))))
    all_goals (first | exact hKr _ (.inl rfl) | exact hKr _ (.inr (by (repeat (first | exact True.intro | refine And.intro (by first | rfl | (simp [look]; done)) ?_)))))
  case rest1 =>
  refine T.sregD 176 [0, 1, 2, 3, 4, 5, 6, 7, 8, 9, 10, 11, 12, 13, 14, 34, 116] fun Kr hKr => ?_
  simp only [go_sem, f1]
  (repeat (refine ⟨by (first | exact True.intro | omega | rfl | (simp; done) | (simp; omega)), ?_⟩)); try (refine hKr _ ?_; clear hKr Kr)
  refine CallK.tup (fun _ => Spec.args (s4) (by (first | exact ArgsLe.refl | (repeat (first | exact True.intro | refine And.intro (by first | exact AvLe.refl | exact AvLe.loose | exact AvLe.nil | exact AvLe.nilT | exact AvLe.slk | (refine AvLe.agg ?_; exact ArgsLe.refl) | (refine AvLe.agg ?_; (repeat (first | exact True.intro | refine And.intro (by first | exact AvLe.refl | exact AvLe.loose | exact AvLe.nil | exact AvLe.nilT | exact AvLe.slk) ?_)))) ?_))))) ?_
  simp only [go_sem]
  (repeat (refine ⟨by (first | exact True.intro | omega | rfl | (simp; done) | (simp; omega)), ?_⟩)); try (refine hKr _ ?_; clear hKr Kr)
  refine T.sregD 176 [0, 1, 2, 3, 4, 5, 6, 7, 8, 9, 10, 11, 12, 13, 14, 34, 116] fun Kr hKr => ?_
  simp only [go_sem]
  (repeat (refine ⟨by (first | exact True.intro | omega | rfl | (simp; done) | (simp; omega)), ?_⟩)); try (refine hKr _ ?_; clear hKr Kr)
  refine CallK.data (fun _ => Spec.args (s5) (by (first | exact ArgsLe.refl | (repeat (first | exact True.intro | refine And.intro (by first | exact AvLe.refl | exact AvLe.loose | exact AvLe.nil | exact AvLe.nilT | exact AvLe.slk | (refine AvLe.agg ?_; exact ArgsLe.refl) | (refine AvLe.agg ?_; (repeat (first | exact True.intro | refine And.intro (by first | exact AvLe.refl | exact AvLe.loose | exact AvLe.nil | exact AvLe.nilT | exact AvLe.slk) ?_)))) ?_))))) rfl ?_
  simp only [go_sem]
  (repeat (refine ⟨by (first | exact True.intro | omega | rfl | (simp; done) | (simp; omega)), ?_⟩)); try (refine hKr _ ?_; clear hKr Kr)
  refine CallK.tup (fun _ => Spec.args (s6) (by (first | exact ArgsLe.refl | (repeat (first | exact True.intro | refine And.intro (by first | exact AvLe.refl | exact AvLe.loose | exact AvLe.nil | exact AvLe.nilT | exact AvLe.slk | (refine AvLe.agg ?_; exact ArgsLe.refl) | (refine AvLe.agg ?_; (repeat (first | exact True.intro | refine And.intro (by first | exact AvLe.refl | exact AvLe.loose | exact AvLe.nil | exact AvLe.nilT | exact AvLe.slk) ?_)))) ?_))))) ?_
  simp only [go_sem]
  (repeat (refine ⟨by (first | exact True.intro | omega | rfl | (simp; done) | (simp; omega)), ?_⟩)); try (refine hKr _ ?_; clear hKr Kr)
  refine T.sregD 176 [0, 1, 2, 3, 4, 5, 6, 7, 8, 9, 10, 11, 12, 13, 14, 34, 116] fun Kr hKr => ?_
  simp only [go_sem]
  (repeat (refine ⟨by (first | exact True.intro | omega | rfl | (simp; done) | (simp; omega)), ?_⟩)); try (refine hKr _ ?_; clear hKr Kr)
  have g1 : oneC.d.s = [97, 98] := rfl
  have g2 : noDoc.s = [] := rfl
  have g3 : noClient.d.s = [] := rfl
  refine T.seqK fun K54 hK54 => ?_
  refine T.sregD 176 [0, 1, 2, 3, 4, 5, 6, 7, 8, 9, 10, 11, 12, 13, 14, 34, 116] fun Kr hKr => ?_
  simp only [go_sem, f2, f3]
  (repeat (refine ⟨by (first | exact True.intro | omega | rfl | (simp; done) | (simp; omega)), ?_⟩)); try (refine hKr _ ?_; clear hKr Kr)
  refine CallK.data (fun _ => Spec.args (s7) (by (first | exact ArgsLe.refl | (repeat (first | exact True.intro | refine And.intro (by first | exact AvLe.refl | exact AvLe.loose | exact AvLe.nil | exact AvLe.nilT | exact AvLe.slk | (refine AvLe.agg ?_; exact ArgsLe.refl) | (refine AvLe.agg ?_; (repeat (first | exact True.intro | refine And.intro (by first | exact AvLe.refl | exact AvLe.loose | exact AvLe.nil | exact AvLe.nilT | exact AvLe.slk) ?_)))) ?_))))) rfl ?_
  simp only [go_sem, f2, f3, g1]
  (repeat (refine ⟨by (first | exact True.intro | omega | rfl | (simp; done) | (simp; omega)), ?_⟩)); try (refine hKr _ ?_; clear hKr Kr)
  refine CallK.data (fun _ => Spec.args (s7) (by (first | exact ArgsLe.refl | (repeat (first | exact True.intro | refine And.intro (by first | exact AvLe.refl | exact AvLe.loose | exact AvLe.nil | exact AvLe.nilT | exact AvLe.slk | (refine AvLe.agg ?_; exact ArgsLe.refl) | (refine AvLe.agg ?_; (repeat (first | exact True.intro | refine And.intro (by first | exact AvLe.refl | exact AvLe.loose | exact AvLe.nil | exact AvLe.nilT | exact AvLe.slk) ?_)))) ?_))))) rfl ?_
  simp only [go_sem, f2, f3, g1, g2]
  (repeat (refine ⟨by (first | exact True.intro | omega | rfl | (simp; done) | (simp; omega)), ?_⟩)); try (refine hKr _ ?_; clear hKr Kr)
  refine CallK.data (fun _ => Spec.args (s8) (by (first | exact ArgsLe.refl | (repeat (first | exact True.intro | refine And.intro (by first | exact AvLe.refl | exact AvLe.loose | exact AvLe.nil | exact AvLe.nilT | exact AvLe.slk | (refine AvLe.agg ?_; exact ArgsLe.refl) | (refine AvLe.agg ?_; (repeat (first | exact True.intro | refine And.intro (by first | exact AvLe.refl | exact AvLe.loose | exact AvLe.nil | exact AvLe.nilT | exact AvLe.slk) ?_)))) ?_))))) rfl ?_
  simp only [go_sem, f2, f3, g1, g2, g3]
  (repeat (refine ⟨by (first | exact True.intro | omega | rfl | (simp; done) | (simp; omega)), ?_⟩)); try (refine hKr _ ?_; clear hKr Kr)
  refine CallK.data (fun _ => Spec.args (s9) (by (first | exact ArgsLe.refl | (repeat (first | exact True.intro | refine And.intro (by first | exact AvLe.refl | exact AvLe.loose | exact AvLe.nil | exact AvLe.nilT | exact AvLe.slk | (refine AvLe.agg ?_; exact ArgsLe.refl) | (refine AvLe.agg ?_; (repeat (first | exact True.intro | refine And.intro (by first | exact AvLe.refl | exact AvLe.loose | exact AvLe.nil | exact AvLe.nilT | exact AvLe.slk) ?_)))) ?_))))) rfl ?_
  simp only [go_sem, g1, g2, g3]
  (repeat (refine ⟨by (first | exact True.intro | omega | rfl | (simp; done) | (simp; omega)), ?_⟩)); try (refine hKr _ ?_; clear hKr Kr)
  refine T.condTD rfl rfl (fun hb => ?_) (fun hb => ?_) <;> try simp at hb
  refine T.skip ?_
  refine hK54 _ ?_
  refine T.sdrawD 176 [0, 1, 2, 3, 4, 5, 6, 7, 8, 9, 10, 11, 12, 13, 14, 34, 116] (.take 0 (.take 1 (.take 2 (.take 3 (.take 4 (.one 5 (.take 6 .done))))))) [2] rfl (by decide +kernel) (by decide +kernel) fun Kr hKr => ?_
  simp only [go_sem, f2]
  (repeat (refine ⟨by (first | exact True.intro | omega | rfl | (simp; done) | (simp; omega)), ?_⟩)); try (refine hKr _ ?_; clear hKr Kr)
  refine CallK.data (fun _ => Spec.args (sA) (by (first | exact ArgsLe.refl | (repeat (first | exact True.intro | refine And.intro (by first | exact AvLe.refl | exact AvLe.loose | exact AvLe.nil | exact AvLe.nilT | exact AvLe.slk | (refine AvLe.agg ?_; exact ArgsLe.refl) | (refine AvLe.agg ?_; (repeat (first | exact True.intro | refine And.intro (by first | exact AvLe.refl | exact AvLe.loose | exact AvLe.nil | exact AvLe.nilT | exact AvLe.slk) ?_)))) ?_))))) rfl ?_
  simp only [go_sem]
  (repeat (refine ⟨by (first | exact True.intro | omega | rfl | (simp; done) | (simp; omega)), ?_⟩)); try (refine hKr _ ?_; clear hKr Kr)
  refine T.sregD 176 [0, 1, 2, 3, 4, 5, 6, 7, 8, 9, 10, 11, 12, 13, 14, 34, 116] fun Kr hKr => ?_
  simp only [go_sem]
  (repeat (refine ⟨by (first | exact True.intro | omega | rfl | (simp; done) | (simp; omega)), ?_⟩)); try (refine hKr _ ?_; clear hKr Kr)
  refine CallK.data (fun _ => Spec.args (sB) (by (first | exact ArgsLe.refl | (repeat (first | exact True.intro | refine And.intro (by first | exact AvLe.refl | exact AvLe.loose | exact AvLe.nil | exact AvLe.nilT | exact AvLe.slk | (refine AvLe.agg ?_; exact ArgsLe.refl) | (refine AvLe.agg ?_; (repeat (first | exact True.intro | refine And.intro (by first | exact AvLe.refl | exact AvLe.loose | exact AvLe.nil | exact AvLe.nilT | exact AvLe.slk) ?_)))) ?_))))) rfl ?_
  simp only [go_sem]
  (repeat (refine ⟨by (first | exact True.intro | omega | rfl | (simp; done) | (simp; omega)), ?_⟩)); try (refine hKr _ ?_; clear hKr Kr)
  refine T.sregD 176 [0, 1, 2, 3, 4, 5, 6, 7, 8, 9, 10, 11, 12, 13, 14, 34, 116] fun Kr hKr => ?_
  simp only [go_sem]
  (repeat (refine ⟨by (first | exact True.intro | omega | rfl | (simp; done) | (simp; omega)), ?_⟩)); try (refine hKr _ ?_; clear hKr Kr)
  refine CallK.data (fun _ => Spec.args (sC) (by (first | exact ArgsLe.refl | (repeat (first | exact True.intro | refine And.intro (by first | exact AvLe.refl | exact AvLe.loose | exact AvLe.nil | exact AvLe.nilT | exact AvLe.slk | (refine AvLe.agg ?_; exact ArgsLe.refl) | (refine AvLe.agg ?_; (repeat (first | exact True.intro | refine And.intro (by first | exact AvLe.refl | exact AvLe.loose | exact AvLe.nil | exact AvLe.nilT | exact AvLe.slk) ?_)))) ?_))))) rfl ?_
  simp only [go_sem]
  (repeat (refine ⟨by (first | exact True.intro | omega | rfl | (simp; done) | (simp; omega)), ?_⟩)); try (refine hKr _ ?_; clear hKr Kr)
  refine T.sregD 176 [0, 1, 2, 3, 4, 5, 6, 7, 8, 9, 10, 11, 12, 13, 14, 34, 116] fun Kr hKr => ?_
  simp only [go_sem, f4, List.length_singleton]
  (repeat (refine ⟨by (first | exact True.intro | omega | rfl | (simp; done) | (simp; omega)), ?_⟩)); try (refine hKr _ ?_; clear hKr Kr)
  refine CallK.data (fun _ => Spec.args (sD) (by (first | exact ArgsLe.refl | (repeat (first | exact True.intro | refine And.intro (by first | exact AvLe.refl | exact AvLe.loose | exact AvLe.nil | exact AvLe.nilT | exact AvLe.slk | (refine AvLe.agg ?_; exact ArgsLe.refl) | (refine AvLe.agg ?_; (repeat (first | exact True.intro | refine And.intro (by first | exact AvLe.refl | exact AvLe.loose | exact AvLe.nil | exact AvLe.nilT | exact AvLe.slk) ?_)))) ?_))))) rfl ?_
  simp only [go_sem, f4]
  (repeat (refine ⟨by (first | exact True.intro | omega | rfl | (simp; done) | (simp; omega)), ?_⟩)); try (refine hKr _ ?_; clear hKr Kr)
  refine CallK.data (fun _ => Spec.args (sE) (by (first | exact ArgsLe.refl | (repeat (first | exact True.intro | refine And.intro (by first | exact AvLe.refl | exact AvLe.loose | exact AvLe.nil | exact AvLe.nilT | exact AvLe.slk | (refine AvLe.agg ?_; exact ArgsLe.refl) | (refine AvLe.agg ?_; (repeat (first | exact True.intro | refine And.intro (by first | exact AvLe.refl | exact AvLe.loose | exact AvLe.nil | exact AvLe.nilT | exact AvLe.slk) ?_)))) ?_))))) rfl ?_
  simp only [go_sem, f1, List.length_singleton]
  (repeat (refine ⟨by (first | exact True.intro | omega | rfl | (simp; done) | (simp; omega)), ?_⟩)); try (refine hKr _ ?_; clear hKr Kr)
  refine CallK.data (fun _ => Spec.args (sF) (by (first | exact ArgsLe.refl | (repeat (first | exact True.intro | refine And.intro (by first | exact AvLe.refl | exact AvLe.loose | exact AvLe.nil | exact AvLe.nilT | exact AvLe.slk | (refine AvLe.agg ?_; exact ArgsLe.refl) | (refine AvLe.agg ?_; (repeat (first | exact True.intro | refine And.intro (by first | exact AvLe.refl | exact AvLe.loose | exact AvLe.nil | exact AvLe.nilT | exact AvLe.slk) ?_)))) ?_))))) rfl ?_
  simp only [go_sem]
  (repeat (refine ⟨by (first | exact True.intro | omega | rfl | (simp; done) | (simp; omega)), ?_⟩)); try (refine hKr _ ?_; clear hKr Kr)
  refine CallK.data (fun _ => Spec.args (sG) (by (first | exact ArgsLe.refl | (repeat (first | exact True.intro | refine And.intro (by first | exact AvLe.refl | exact AvLe.loose | exact AvLe.nil | exact AvLe.nilT | exact AvLe.slk | (refine AvLe.agg ?_; exact ArgsLe.refl) | (refine AvLe.agg ?_; (repeat (first | exact True.intro | refine And.intro (by first | exact AvLe.refl | exact AvLe.loose | exact AvLe.nil | exact AvLe.nilT | exact AvLe.slk) ?_)))) ?_))))) rfl ?_
  simp only [go_sem]
  (repeat (refine ⟨by (first | exact True.intro | omega | rfl | (simp; done) | (simp; omega)), ?_⟩)); try (refine hKr _ ?_; clear hKr Kr)
  refine CallK.data (fun _ => Spec.args (sH) (by (first | exact ArgsLe.refl | (repeat (first | exact True.intro | refine And.intro (by first | exact AvLe.refl | exact AvLe.loose | exact AvLe.nil | exact AvLe.nilT | exact AvLe.slk | (refine AvLe.agg ?_; exact ArgsLe.refl) | (refine AvLe.agg ?_; (repeat (first | exact True.intro | refine And.intro (by first | exact AvLe.refl | exact AvLe.loose | exact AvLe.nil | exact AvLe.nilT | exact AvLe.slk) ?_)))) ?_))))) rfl ?_
  simp only [go_sem]
  (repeat (refine ⟨by (first | exact True.intro | omega | rfl | (simp; done) | (simp; omega)), ?_⟩)); try (refine hKr _ ?_; clear hKr Kr)
  refine CallK.data (fun _ => Spec.args (sI) (by (first | exact ArgsLe.refl | (repeat (first | exact True.intro | refine And.intro (by first | exact AvLe.refl | exact AvLe.loose | exact AvLe.nil | exact AvLe.nilT | exact AvLe.slk | (refine AvLe.agg ?_; exact ArgsLe.refl) | (refine AvLe.agg ?_; (repeat (first | exact True.intro | refine And.intro (by first | exact AvLe.refl | exact AvLe.loose | exact AvLe.nil | exact AvLe.nilT | exact AvLe.slk) ?_)))) ?_))))) rfl ?_
  simp only [go_sem]
  (repeat (refine ⟨by (first | exact True.intro | omega | rfl | (simp; done) | (simp; omega)), ?_⟩)); try (refine hKr _ ?_; clear hKr Kr)
  refine T.ret (Fin.dataD (by rfl) rfl rfl)
end Go.Proofs
