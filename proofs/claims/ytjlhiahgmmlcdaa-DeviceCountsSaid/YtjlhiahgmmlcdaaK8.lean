/- Devices: the law DeviceCounts. -/
import Derived.Test.YtjlhiahgmmlcdaaK2
import Derived.Test.YtjlhiahgmmlcdaaGW
set_option linter.unusedVariables false
set_option linter.unusedSimpArgs false
namespace Go.Proofs
open Go Go.Ideal
set_option maxRecDepth 8000
set_option maxHeartbeats 4000000

def keepB (x : RawT) : Bool := x.sync || !isOrdB x.x
theorem rawTs_app (l m : List RawT) : rawTs (l ++ m) = rawTs l ++ rawTs m := by simp [rawTs]
@[go_sem] theorem rawTs_nil : rawTs [] = [] := rfl
theorem nodup_here {α : Type} [Inhabited α] {l : List α} (h : l.Nodup) {j : Nat} (hj : j < l.length) : ¬ l.getD j default ∈ l.take j := by
  intro hm
  obtain ⟨i, hi, e⟩ := List.mem_take_iff_getElem.1 hm
  have h2 := List.pairwise_iff_getElem.1 h i j (by omega) hj (by omega)
  exact h2 (by rw [e]; simp [List.getD, hj])
def bothN (a b : List Rec) (i j : Nat) : List Rec := ((a.take i).filter fun x => decide (x ∈ b)) ++ (if a.getD i default ∈ b.take j then [a.getD i default] else [])
theorem bothN_len (a b : List Rec) (i j : Nat) : (bothN a b i j).length ≤ i + 1 := by
  unfold bothN
  have := List.length_filter_le (fun x => decide (x ∈ b)) (a.take i)
  rw [List.length_take] at this
  rw [List.length_append]
  split
  · simp only [List.length_cons, List.length_nil]; omega
  · simp only [List.length_nil]; omega
theorem bothN_zero (a b : List Rec) (i : Nat) : bothN a b i 0 = (a.take i).filter fun x => decide (x ∈ b) := by
  unfold bothN; rw [List.take_zero, if_neg (by simp), List.append_nil]
theorem bothN_end {a b : List Rec} {i : Nat} (h : i < a.length) : bothN a b i b.length = (a.take (i + 1)).filter fun x => decide (x ∈ b) := by
  unfold bothN; rw [List.take_length, filter_step _ h]
  congr 1
  by_cases hm : a.getD i default ∈ b
  · rw [if_pos hm, if_pos (decide_eq_true hm)]
  · rw [if_neg hm, if_neg (by rw [decide_eq_false hm]; decide)]
theorem bothN_yes {a b : List Rec} (hb : b.Nodup) {i j : Nat} (hj : j < b.length) (e : a.getD i default = b.getD j default) : bothN a b i (j + 1) = bothN a b i j ++ [a.getD i default] := by
  unfold bothN
  have h1 : a.getD i default ∈ b.take (j + 1) := by rw [take_succ_d hj, e]; simp
  have h2 : ¬ a.getD i default ∈ b.take j := by rw [e]; exact nodup_here hb hj
  rw [if_pos h1, if_neg h2, List.append_nil]
theorem bothN_no {a b : List Rec} {i j : Nat} (hj : j < b.length) (e : ¬ a.getD i default = b.getD j default) : bothN a b i (j + 1) = bothN a b i j := by
  unfold bothN
  congr 1
  have h : a.getD i default ∈ b.take (j + 1) ↔ a.getD i default ∈ b.take j := by
    rw [take_succ_d hj, List.mem_append, List.mem_singleton]
    exact ⟨fun h => h.elim id fun h => absurd h e, .inl⟩
  by_cases hm : a.getD i default ∈ b.take j
  · rw [if_pos hm, if_pos (h.2 hm)]
  · rw [if_neg hm, if_neg (fun x => hm (h.1 x))]
theorem dcounts_law (l : List RawT) (hl : ∀ r ∈ l, OkRawT r) (c : Int) (hcc : 0 ≤ c ∧ c < 256) : Ideal.Spec Try.prog 10 [.sl false 8 (rawTs l), .int .u8 c] (.bool true) none := by
  have q0 := sanity_spec
  refine Ideal.Spec.of_TD (n := 142) (fn := Try.f10) rfl rfl rfl rfl rfl rfl rfl fun w ok => ?_
  refine T.sregD 142 [0, 1, 4, 5, 6, 7, 8, 9, 10, 11, 12, 13, 14, 15, 16, 26, 42, 66, 76, 84, 99, 115, 140] fun Kr hKr => ?_
  simp only [go_sem]
  (repeat (refine ⟨by (first | exact True.intro | omega | rfl | (simp; done) | (simp; omega)), ?_⟩)); try (refine hKr _ ?_; clear hKr Kr)
  refine T.sregD 142 [0, 1, 4, 5, 6, 7, 8, 9, 10, 11, 12, 13, 14, 15, 16, 26, 42, 66, 76, 84, 99, 115, 140] fun Kr hKr => ?_
  simp only [go_sem]
  (repeat (refine ⟨by (first | exact True.intro | omega | rfl | (simp; done) | (simp; omega)), ?_⟩)); try (refine hKr _ ?_; clear hKr Kr)
  refine CallK.data (fun _ => Spec.args (q0) (by (first | exact ArgsLe.refl | (repeat (first | exact True.intro | refine And.intro (by first | exact AvLe.refl | exact AvLe.loose | exact AvLe.nil | exact AvLe.nilT | exact AvLe.slk | (refine AvLe.agg ?_; exact ArgsLe.refl) | (refine AvLe.agg ?_; (repeat (first | exact True.intro | refine And.intro (by first | exact AvLe.refl | exact AvLe.loose | exact AvLe.nil | exact AvLe.nilT | exact AvLe.slk) ?_)))) ?_))))) rfl ?_
  simp only [go_sem]
  (repeat (refine ⟨by (first | exact True.intro | omega | rfl | (simp; done) | (simp; omega)), ?_⟩)); try (refine hKr _ ?_; clear hKr Kr)
  refine T.sregD 142 [0, 1, 4, 5, 6, 7, 8, 9, 10, 11, 12, 13, 14, 15, 16, 26, 42, 66, 76, 84, 99, 115, 140] fun Kr hKr => ?_
  simp only [go_sem]
  (repeat (refine ⟨by (first | exact True.intro | omega | rfl | (simp; done) | (simp; omega)), ?_⟩)); try (refine hKr _ ?_; clear hKr Kr)
  refine T.seqK fun K1 hK1 => ?_
  refine T.sregD 142 [0, 1, 4, 5, 6, 7, 8, 9, 10, 11, 12, 13, 14, 15, 16, 26, 42, 66, 76, 84, 99, 115, 140] fun Kr hKr => ?_
  simp only [go_sem]
  (repeat (refine ⟨by (first | exact True.intro | omega | rfl | (simp; done) | (simp; omega)), ?_⟩)); try (refine hKr _ ?_; clear hKr Kr)
  refine T.bloop (fun i : Nat => ⟨dense 142 [(0, .sl false 8 (rawTs l)), (1, .int .u8 c), (5, .bool true), (6, .osl 18 0 ((l.take i).filter keepB).length), (7, .int .i64 i)], [(18, ⟨8, 60, false, rawTs ((l.take i).filter keepB)⟩)]⟩) (fun i => i ≤ l.length ∧ i ≤ 20) (fun i => l.length - i) 0 (by simp) ?_ fun i hi => ?_
  · refine Le.fitS (by (repeat (first | exact DFit.nil | refine DFit.cons (by first | rfl | (simp [slook]; done) | (simp [slook]; omega)) ?_))) (by (repeat (first | exact True.intro | refine And.intro (by first | rfl | (simp [look]; done)) ?_)))
  obtain ⟨hi, hin⟩ := hi
  have hfl : ((l.take i).filter keepB).length ≤ 20 := Nat.le_trans (List.length_filter_le _ _) (by simp; omega)
  refine T.seqK fun K2 hK2 => ?_
  by_cases hb : i < l.length ∧ i < 20
  · have g1 : ((i : Int) < (l.length : Int)) = True := eq_true (by omega)
    have g2 : ((i : Int) < 20) = True := eq_true (by omega)
    obtain ⟨hb, hb2⟩ := hb
    have hox := hl (l.getD i default) (by simp [List.getD, hb])
    have s1 := IsOrder24_spec _ hox.q
    have hst := filter_step keepB hb
    have hkb : keepB (l.getD i default) = (bif (l.getD i default).sync then true else !isOrdB (l.getD i default).x) := by unfold keepB; rw [cond_or]
    generalize (l.take i).filter keepB = F at *
    refine T.sregD 142 [0, 1, 4, 5, 6, 7, 8, 9, 10, 11, 12, 13, 14, 15, 16, 26, 42, 66, 76, 84, 99, 115, 140] fun Kr hKr => ?_
    simp only [go_sem, g1, g2]
    (repeat (refine ⟨by (first | exact True.intro | omega | rfl | (simp; done) | (simp; omega)), ?_⟩)); try (refine hKr _ ?_; clear hKr Kr)
    refine T.condFD rfl rfl (fun hc => ?_) (fun hc => ?_) <;> try simp at hc
    refine T.skip ?_
    refine hK2 _ ?_
    refine T.seqK fun K3 hK3 => ?_
    refine T.block ?_
    refine T.sregD 142 [0, 1, 4, 5, 6, 7, 8, 9, 10, 11, 12, 13, 14, 15, 16, 26, 42, 66, 76, 84, 99, 115, 140] fun Kr hKr => ?_
    simp only [go_sem, hb]
    (repeat (refine ⟨by (first | exact True.intro | omega | rfl | (simp; done) | (simp; omega)), ?_⟩)); try (refine hKr _ ?_; clear hKr Kr)
    refine CallK.data (fun _ => Spec.args (s1) (by (first | exact ArgsLe.refl | (repeat (first | exact True.intro | refine And.intro (by first | exact AvLe.refl | exact AvLe.loose | exact AvLe.nil | exact AvLe.nilT | exact AvLe.slk | (refine AvLe.agg ?_; exact ArgsLe.refl) | (refine AvLe.agg ?_; (repeat (first | exact True.intro | refine And.intro (by first | exact AvLe.refl | exact AvLe.loose | exact AvLe.nil | exact AvLe.nilT | exact AvLe.slk) ?_)))) ?_))))) rfl ?_
    simp only [go_sem, hb]
    (repeat (refine ⟨by (first | exact True.intro | omega | rfl | (simp; done) | (simp; omega)), ?_⟩)); try (refine hKr _ ?_; clear hKr Kr)
    rw [← hkb]
    cases hk : keepB (l.getD i default) with
    | true =>
      rw [hk, if_pos rfl] at hst
      refine T.condTD rfl rfl (fun hc => ?_) (fun hc => ?_) <;> try simp at hc
      have happ : rawTs F ++ [rawTA (l.getD i default)] = rawTs (F ++ [l.getD i default]) := by rw [rawTs_app]; rfl
      have hln : (F ++ [l.getD i default]).length = F.length + 1 := by simp
      rw [rawTA] at happ
      refine T.regD 142 [0, 1, 4, 5, 6, 7, 8, 9, 10, 11, 12, 13, 14, 15, 16, 26, 42, 66, 76, 84, 99, 115, 140] fun Kr hKr => ?_
      simp only [go_sem, hb, happ]
      (repeat (refine ⟨by (first | exact True.intro | omega | rfl | (simp; done) | (simp; omega)), ?_⟩)); try (refine hKr _ ?_; clear hKr Kr)
      refine hK3 _ ?_
      refine T.regD 142 [0, 1, 4, 5, 6, 7, 8, 9, 10, 11, 12, 13, 14, 15, 16, 26, 42, 66, 76, 84, 99, 115, 140] fun Kr hKr => ?_
      simp only [go_sem]
      (repeat (refine ⟨by (first | exact True.intro | omega | rfl | (simp; done) | (simp; omega)), ?_⟩)); try (refine hKr _ ?_; clear hKr Kr)
      refine ⟨i + 1, ?_, ?_, Le.fitS (by (repeat (first | exact DFit.nil | refine DFit.cons (by first | rfl | (simp [slook, hst, hln]; done) | (simp [slook, hst, hln]; omega)) ?_))) ?_⟩
      · omega
      · omega
      · rw [hst]; (repeat (first | exact True.intro | refine And.intro (by first | rfl | (simp [look]; done)) ?_))
    | false =>
      rw [hk, if_neg (by decide), List.append_nil] at hst
      refine T.condTD rfl rfl (fun hc => ?_) (fun hc => ?_) <;> try simp at hc
      refine T.skip ?_
      refine hK3 _ ?_
      refine T.regD 142 [0, 1, 4, 5, 6, 7, 8, 9, 10, 11, 12, 13, 14, 15, 16, 26, 42, 66, 76, 84, 99, 115, 140] fun Kr hKr => ?_
      simp only [go_sem]
      (repeat (refine ⟨by (first | exact True.intro | omega | rfl | (simp; done) | (simp; omega)), ?_⟩)); try (refine hKr _ ?_; clear hKr Kr)
      refine ⟨i + 1, ?_, ?_, Le.fitS (by (repeat (first | exact DFit.nil | refine DFit.cons (by first | rfl | (simp [slook, hst]; done) | (simp [slook, hst]; omega)) ?_))) ?_⟩
      · omega
      · omega
      · rw [hst]; (repeat (first | exact True.intro | refine And.intro (by first | rfl | (simp [look]; done)) ?_))
  have hg : (bif decide ((i : Int) < (l.length : Int)) then decide ((i : Int) < 20) else false) = false := by
    rw [cond_and, Bool.and_eq_false_iff, decide_eq_false_iff_not, decide_eq_false_iff_not]; omega
  have hk1 : ∀ x ∈ (l.take i).filter keepB, OkRawT x := fun x hx => hl x (List.mem_of_mem_take (List.mem_filter.1 hx).1)
  have hk2 : ∀ x ∈ (l.take i).filter keepB, x.sync = true ∨ isOrdB x.x = false := fun x hx => by
    have := (List.mem_filter.1 hx).2
    unfold keepB at this
    rw [Bool.or_eq_true, Bool.not_eq_true'] at this; exact this
  generalize (l.take i).filter keepB = F at *
  refine T.sregD 142 [0, 1, 4, 5, 6, 7, 8, 9, 10, 11, 12, 13, 14, 15, 16, 26, 42, 66, 76, 84, 99, 115, 140] fun Kr hKr => ?_
  simp only [go_sem, hg]
  (repeat (refine ⟨by (first | exact True.intro | omega | rfl | (simp; done) | (simp; omega)), ?_⟩)); try (refine hKr _ ?_; clear hKr Kr)
  refine T.condFD rfl rfl (fun hc => ?_) (fun hc => ?_) <;> try simp at hc
  refine T.exit ?_
  simp only [if_true]
  refine hK1 _ ?_
  have q1 := Made26_spec F hk1
  obtain ⟨k, hk, ht⟩ := TInv.made' true F (fun _ => hk2) 20 (by omega)
  have hT := ht.teamOk (by omega)
  obtain ⟨u, e1, vu, hS⟩ := counts_plain ht (by omega)
  clear ht
  generalize madeN F 20 = t at *
  have v0 := hT.val 0 (by omega)
  have v1 := hT.val 1 (by omega)
  have m1 := Merge_spec _ _ v0.ok v1.ok
  rw [e1] at m1
  have w1 := Valid_spec _ vu
  have n0 := v0.rl
  have n1 := v1.rl
  have nu := vu.rl
  have nd := v1.ri.nodup
  have r0 : ∀ x ∈ (t.getD 0 default).r, RightR x := fun x hx => (v0.rr x hx).1
  have r1 : ∀ x ∈ (t.getD 1 default).r, RightR x := fun x hx => (v1.rr x hx).1
  have ru : ∀ x ∈ u.r, RightR x := fun x hx => (vu.rr x hx).1
  have k0 := fun wd at' ha => Count24_spec (t.getD 0 default) v0.l r0 (by omega) wd at' ha
  have k1 := fun wd at' ha => Count24_spec (t.getD 1 default) v1.l r1 (by omega) wd at' ha
  have ku := fun wd at' ha => Count24_spec u vu.l ru (by omega) wd at' ha
  have hcm : remv c 12 = c % 12 := remv_nn hcc.1
  obtain ⟨mr, mo, m0, m1', m2, m3, m4, m5, m6, m7, rfl⟩ := usr_lit vu.l
  obtain ⟨ar, ao, a0, a1, a2, a3, a4, a5, a6, a7, br, bo, b0, b1', b2', b3', b4', b5', b6', b7, cr, co, c0, c1, c2, c3, c4, c5, c6, c7, rfl⟩ := team_lit hT
  clear hT v0 v1 vu e1
  simp only [teamA, usrL, usrA, List.flatMap_cons, List.flatMap_nil, intsOf_cons, intsOf_nil, List.cons_append, List.nil_append, List.append_nil, List.getD_cons_zero, List.getD_cons_succ] at q1 m1 w1 n0 n1 nu nd r0 r1 ru k0 k1 ku hS
  have hTF : List.take F.length (rawTs F) = rawTs F := List.take_of_length_le (by rw [rawTs_len]; omega)
  refine T.sregD 142 [0, 1, 4, 5, 6, 7, 8, 9, 10, 11, 12, 13, 14, 15, 16, 26, 42, 66, 76, 84, 99, 115, 140] fun Kr hKr => ?_
  simp only [go_sem, hTF]
  (repeat (refine ⟨by (first | exact True.intro | omega | rfl | (simp; done) | (simp; omega)), ?_⟩)); try (refine hKr _ ?_; clear hKr Kr)
  refine CallK.data (fun _ => Spec.args (q1) (by (first | exact ArgsLe.refl | (repeat (first | exact True.intro | refine And.intro (by first | exact AvLe.refl | exact AvLe.loose | exact AvLe.nil | exact AvLe.nilT | exact AvLe.slk | (refine AvLe.agg ?_; exact ArgsLe.refl) | (refine AvLe.agg ?_; (repeat (first | exact True.intro | refine And.intro (by first | exact AvLe.refl | exact AvLe.loose | exact AvLe.nil | exact AvLe.nilT | exact AvLe.slk) ?_)))) ?_))))) rfl ?_
  simp only [go_sem]
  (repeat (refine ⟨by (first | exact True.intro | omega | rfl | (simp; done) | (simp; omega)), ?_⟩)); try (refine hKr _ ?_; clear hKr Kr)
  refine T.sregD 142 [0, 1, 4, 5, 6, 7, 8, 9, 10, 11, 12, 13, 14, 15, 16, 26, 42, 66, 76, 84, 99, 115, 140] fun Kr hKr => ?_
  simp only [go_sem]
  (repeat (refine ⟨by (first | exact True.intro | omega | rfl | (simp; done) | (simp; omega)), ?_⟩)); try (refine hKr _ ?_; clear hKr Kr)
  refine CallK.tup (fun _ => Spec.args (m1) (by (first | exact ArgsLe.refl | (repeat (first | exact True.intro | refine And.intro (by first | exact AvLe.refl | exact AvLe.loose | exact AvLe.nil | exact AvLe.nilT | exact AvLe.slk | (refine AvLe.agg ?_; exact ArgsLe.refl) | (refine AvLe.agg ?_; (repeat (first | exact True.intro | refine And.intro (by first | exact AvLe.refl | exact AvLe.loose | exact AvLe.nil | exact AvLe.nilT | exact AvLe.slk) ?_)))) ?_))))) ?_
  simp only [go_sem]
  (repeat (refine ⟨by (first | exact True.intro | omega | rfl | (simp; done) | (simp; omega)), ?_⟩)); try (refine hKr _ ?_; clear hKr Kr)
  refine T.seqK fun K4 hK4 => ?_
  refine T.sregD 142 [0, 1, 4, 5, 6, 7, 8, 9, 10, 11, 12, 13, 14, 15, 16, 26, 42, 66, 76, 84, 99, 115, 140] fun Kr hKr => ?_
  simp only [go_sem]
  (repeat (refine ⟨by (first | exact True.intro | omega | rfl | (simp; done) | (simp; omega)), ?_⟩)); try (refine hKr _ ?_; clear hKr Kr)
  refine CallK.data (fun _ => Spec.args (w1) (by (first | exact ArgsLe.refl | (repeat (first | exact True.intro | refine And.intro (by first | exact AvLe.refl | exact AvLe.loose | exact AvLe.nil | exact AvLe.nilT | exact AvLe.slk | (refine AvLe.agg ?_; exact ArgsLe.refl) | (refine AvLe.agg ?_; (repeat (first | exact True.intro | refine And.intro (by first | exact AvLe.refl | exact AvLe.loose | exact AvLe.nil | exact AvLe.nilT | exact AvLe.slk) ?_)))) ?_))))) rfl ?_
  simp only [go_sem]
  (repeat (refine ⟨by (first | exact True.intro | omega | rfl | (simp; done) | (simp; omega)), ?_⟩)); try (refine hKr _ ?_; clear hKr Kr)
  refine T.condTD rfl rfl (fun hz => ?_) (fun hz => ?_) <;> try simp at hz
  refine T.skip ?_
  refine hK4 _ ?_
  refine T.sregD 142 [0, 1, 4, 5, 6, 7, 8, 9, 10, 11, 12, 13, 14, 15, 16, 26, 42, 66, 76, 84, 99, 115, 140] fun Kr hKr => ?_
  simp only [go_sem]
  (repeat (refine ⟨by (first | exact True.intro | omega | rfl | (simp; done) | (simp; omega)), ?_⟩)); try (refine hKr _ ?_; clear hKr Kr)
  refine T.seqK fun K5 hK5 => ?_
  refine T.sregD 142 [0, 1, 4, 5, 6, 7, 8, 9, 10, 11, 12, 13, 14, 15, 16, 26, 42, 66, 76, 84, 99, 115, 140] fun Kr hKr => ?_
  simp only [go_sem]
  (repeat (refine ⟨by (first | exact True.intro | omega | rfl | (simp; done) | (simp; omega)), ?_⟩)); try (refine hKr _ ?_; clear hKr Kr)
  refine T.bloop (fun i : Nat => ⟨dense 142 [(1, .int .u8 c), (5, .bool true), (8, .op 8 0 0), (9, .op 9 0 0), (11, .op 11 0 0), (12, .int .i64 i)], [(143, ⟨6, 49, false, recsOf ((ar.take i).filter fun x => decide (x ∈ br))⟩), (11, ⟨10, 29, true, [.agg [.osl 143 0 ((ar.take i).filter fun x => decide (x ∈ br)).length, .sl true 1 [], .int .i64 a0, .int .i64 a1, .int .i64 a2, .int .i64 a3, .int .i64 a4, .int .i64 a5, .int .i64 a6, .int .i64 a7]]⟩), (9, ⟨10, 29, true, [.agg [.sl false 6 (recsOf mr), .sl false 7 (ordsOf mo), .int .i64 m0, .int .i64 m1', .int .i64 m2, .int .i64 m3, .int .i64 m4, .int .i64 m5, .int .i64 m6, .int .i64 m7]]⟩), (8, ⟨30, 41, true, [.agg [.sl false 6 (recsOf ar), .sl false 7 (ordsOf ao), .int .i64 a0, .int .i64 a1, .int .i64 a2, .int .i64 a3, .int .i64 a4, .int .i64 a5, .int .i64 a6, .int .i64 a7, .sl false 6 (recsOf br), .sl false 7 (ordsOf bo), .int .i64 b0, .int .i64 b1', .int .i64 b2', .int .i64 b3', .int .i64 b4', .int .i64 b5', .int .i64 b6', .int .i64 b7, .sl false 6 (recsOf cr), .sl false 7 (ordsOf co), .int .i64 c0, .int .i64 c1, .int .i64 c2, .int .i64 c3, .int .i64 c4, .int .i64 c5, .int .i64 c6, .int .i64 c7]]⟩)]⟩) (fun i => i ≤ ar.length) (fun i => ar.length - i) 0 (by simp) ?_ fun i hi => ?_
  · refine (Le.ownC 11 0 143 6 49).trans ?_
    simp only [go_sem]
    refine Le.fitS (by (repeat (first | exact DFit.nil | refine DFit.cons (by first | rfl | (simp [slook]; done) | (simp [slook]; omega)) ?_))) (by (repeat (first | exact True.intro | refine And.intro (by first | rfl | (simp [look]; done)) ?_)))
  refine T.seqK fun K6 hK6 => ?_
  refine T.sregD 142 [0, 1, 4, 5, 6, 7, 8, 9, 10, 11, 12, 13, 14, 15, 16, 26, 42, 66, 76, 84, 99, 115, 140] fun Kr hKr => ?_
  simp only [go_sem]
  (repeat (refine ⟨by (first | exact True.intro | omega | rfl | (simp; done) | (simp; omega)), ?_⟩)); try (refine hKr _ ?_; clear hKr Kr)
  refine T.condFD rfl rfl (fun hd => ?_) (fun hd => ?_) <;> simp at hd
  · -- no: exit
    refine T.exit ?_
    simp only [if_true]
    refine hK5 _ ?_
    have hie : i = ar.length := by omega
    subst hie
    rw [List.take_length]
    have hbr : ∀ x ∈ (ar.filter fun x => decide (x ∈ br)), RightR x := fun x hx => r0 x (List.mem_filter.1 hx).1
    have hbl := List.length_filter_le (fun x => decide (x ∈ br)) ar
    have kb := fun wd at' ha => Count24_spec ⟨ar.filter fun x => decide (x ∈ br), [], [a0, a1, a2, a3, a4, a5, a6, a7]⟩ rfl hbr (by simp only; omega) wd at' ha
    simp only [usrA, intsOf_cons, intsOf_nil] at kb
    generalize (ar.filter fun x => decide (x ∈ br)) = bb at *
    refine T.weaken (Le.frz 143) ?_
    simp only [go_sem]
    refine T.sregD 142 [0, 1, 4, 5, 6, 7, 8, 9, 10, 11, 12, 13, 14, 15, 16, 26, 42, 66, 76, 84, 99, 115, 140] fun Kr hKr => ?_
    simp only [go_sem, hcm]
    (repeat (refine ⟨by (first | exact True.intro | omega | rfl | (simp; done) | (simp; omega)), ?_⟩)); try (refine hKr _ ?_; clear hKr Kr)
    refine T.seqK fun K7 hK7 => ?_
    refine T.sregD 142 [0, 1, 4, 5, 6, 7, 8, 9, 10, 11, 12, 13, 14, 15, 16, 26, 42, 66, 76, 84, 99, 115, 140] fun Kr hKr => ?_
    simp only [go_sem]
    (repeat (refine ⟨by (first | exact True.intro | omega | rfl | (simp; done) | (simp; omega)), ?_⟩)); try (refine hKr _ ?_; clear hKr Kr)
    refine T.bloop (fun i : Nat => ⟨dense 142 [(5, .bool true), (8, .op 8 0 0), (9, .op 9 0 0), (11, .op 11 0 0), (14, .int .i64 (c % 12)), (15, .int .u8 i)], [(11, ⟨10, 29, true, [.agg [.sl false 6 (recsOf bb), .sl true 1 [], .int .i64 a0, .int .i64 a1, .int .i64 a2, .int .i64 a3, .int .i64 a4, .int .i64 a5, .int .i64 a6, .int .i64 a7]]⟩), (9, ⟨10, 29, true, [.agg [.sl false 6 (recsOf mr), .sl false 7 (ordsOf mo), .int .i64 m0, .int .i64 m1', .int .i64 m2, .int .i64 m3, .int .i64 m4, .int .i64 m5, .int .i64 m6, .int .i64 m7]]⟩), (8, ⟨30, 41, true, [.agg [.sl false 6 (recsOf ar), .sl false 7 (ordsOf ao), .int .i64 a0, .int .i64 a1, .int .i64 a2, .int .i64 a3, .int .i64 a4, .int .i64 a5, .int .i64 a6, .int .i64 a7, .sl false 6 (recsOf br), .sl false 7 (ordsOf bo), .int .i64 b0, .int .i64 b1', .int .i64 b2', .int .i64 b3', .int .i64 b4', .int .i64 b5', .int .i64 b6', .int .i64 b7, .sl false 6 (recsOf cr), .sl false 7 (ordsOf co), .int .i64 c0, .int .i64 c1, .int .i64 c2, .int .i64 c3, .int .i64 c4, .int .i64 c5, .int .i64 c6, .int .i64 c7]]⟩)]⟩) (fun i => i ≤ 4) (fun i => 4 - i) 0 (by simp) ?_ fun i hi => ?_
    · refine Le.fitS (by (repeat (first | exact DFit.nil | refine DFit.cons (by first | rfl | (simp [slook]; done) | (simp [slook]; omega)) ?_))) (by (repeat (first | exact True.intro | refine And.intro (by first | rfl | (simp [look]; done)) ?_)))
    refine T.seqK fun K8 hK8 => ?_
    refine T.sregD 142 [0, 1, 4, 5, 6, 7, 8, 9, 10, 11, 12, 13, 14, 15, 16, 26, 42, 66, 76, 84, 99, 115, 140] fun Kr hKr => ?_
    simp only [go_sem]
    (repeat (refine ⟨by (first | exact True.intro | omega | rfl | (simp; done) | (simp; omega)), ?_⟩)); try (refine hKr _ ?_; clear hKr Kr)
    refine T.condFD rfl rfl (fun he => ?_) (fun he => ?_) <;> simp only [decide_eq_true_eq, decide_eq_false_iff_not] at he
    · -- no: exit
      refine T.exit ?_
      simp only [if_true]
      refine hK7 _ ?_
      refine T.sregD 142 [0, 1, 4, 5, 6, 7, 8, 9, 10, 11, 12, 13, 14, 15, 16, 26, 42, 66, 76, 84, 99, 115, 140] fun Kr hKr => ?_
      simp only [go_sem]
      (repeat (refine ⟨by (first | exact True.intro | omega | rfl | (simp; done) | (simp; omega)), ?_⟩)); try (refine hKr _ ?_; clear hKr Kr)
      refine T.ret (Fin.dataD rfl rfl rfl)
    refine T.skip ?_
    refine hK8 _ ?_
    refine T.seqK fun K9 hK9 => ?_
    refine T.block ?_
    have sW := Word24_spec (i : Int) (by omega)
    have x0 := k0 (wordT i) (c % 12) (by omega)
    have x1 := k1 (wordT i) (c % 12) (by omega)
    have xu := ku (wordT i) (c % 12) (by omega)
    have xb := kb (wordT i) (c % 12) (by omega)
    have y0 := S_range (wordT i) (c % 12) ar r0
    have y1 := S_range (wordT i) (c % 12) br r1
    have yu := S_range (wordT i) (c % 12) mr ru
    have yb := S_range (wordT i) (c % 12) bb hbr
    have hs := hS (cntF (wordT i) (c % 12))
    generalize S (cntF (wordT i) (c % 12)) ar = z0 at *
    generalize S (cntF (wordT i) (c % 12)) br = z1 at *
    generalize S (cntF (wordT i) (c % 12)) mr = zu at *
    generalize S (cntF (wordT i) (c % 12)) bb = zb at *
    generalize wordT (i : Int) = wd at *
    refine T.sregD 142 [0, 1, 4, 5, 6, 7, 8, 9, 10, 11, 12, 13, 14, 15, 16, 26, 42, 66, 76, 84, 99, 115, 140] fun Kr hKr => ?_
    simp only [go_sem]
    (repeat (refine ⟨by (first | exact True.intro | omega | rfl | (simp; done) | (simp; omega)), ?_⟩)); try (refine hKr _ ?_; clear hKr Kr)
    refine CallK.data (fun _ => Spec.args (sW) (by (first | exact ArgsLe.refl | (repeat (first | exact True.intro | refine And.intro (by first | exact AvLe.refl | exact AvLe.loose | exact AvLe.nil | exact AvLe.nilT | exact AvLe.slk | (refine AvLe.agg ?_; exact ArgsLe.refl) | (refine AvLe.agg ?_; (repeat (first | exact True.intro | refine And.intro (by first | exact AvLe.refl | exact AvLe.loose | exact AvLe.nil | exact AvLe.nilT | exact AvLe.slk) ?_)))) ?_))))) rfl ?_
    simp only [go_sem]
    (repeat (refine ⟨by (first | exact True.intro | omega | rfl | (simp; done) | (simp; omega)), ?_⟩)); try (refine hKr _ ?_; clear hKr Kr)
    refine T.sdrawD 142 [0, 1, 4, 5, 6, 7, 8, 9, 10, 11, 12, 13, 14, 15, 16, 26, 42, 66, 76, 84, 99, 115, 140] (.take 0 (.take 1 (.take 2 (.take 4 (.take 5 (.take 6 (.take 9 (.take 10 (.take 11 (.take 12 (.take 14 (.take 15 (.take 16 (.take 17 (.one 3 (.one 7 (.take 8 (.one 13 (.one 18 (.take 19 (.take 20 .done))))))))))))))))))))) [8, 9, 11] rfl (by decide +kernel) (by decide +kernel) fun Kr hKr => ?_
    simp only [go_sem]
    (repeat (refine ⟨by (first | exact True.intro | omega | rfl | (simp; done) | (simp; omega)), ?_⟩)); try (refine hKr _ ?_; clear hKr Kr)
    refine CallK.data (fun _ => Spec.args (xu) (by (first | exact ArgsLe.refl | (repeat (first | exact True.intro | refine And.intro (by first | exact AvLe.refl | exact AvLe.loose | exact AvLe.nil | exact AvLe.nilT | exact AvLe.slk | (refine AvLe.agg ?_; exact ArgsLe.refl) | (refine AvLe.agg ?_; (repeat (first | exact True.intro | refine And.intro (by first | exact AvLe.refl | exact AvLe.loose | exact AvLe.nil | exact AvLe.nilT | exact AvLe.slk) ?_)))) ?_))))) rfl ?_
    simp only [go_sem]
    (repeat (refine ⟨by (first | exact True.intro | omega | rfl | (simp; done) | (simp; omega)), ?_⟩)); try (refine hKr _ ?_; clear hKr Kr)
    refine CallK.data (fun _ => Spec.args (xb) (by (first | exact ArgsLe.refl | (repeat (first | exact True.intro | refine And.intro (by first | exact AvLe.refl | exact AvLe.loose | exact AvLe.nil | exact AvLe.nilT | exact AvLe.slk | (refine AvLe.agg ?_; exact ArgsLe.refl) | (refine AvLe.agg ?_; (repeat (first | exact True.intro | refine And.intro (by first | exact AvLe.refl | exact AvLe.loose | exact AvLe.nil | exact AvLe.nilT | exact AvLe.slk) ?_)))) ?_))))) rfl ?_
    simp only [go_sem]
    (repeat (refine ⟨by (first | exact True.intro | omega | rfl | (simp; done) | (simp; omega)), ?_⟩)); try (refine hKr _ ?_; clear hKr Kr)
    refine CallK.data (fun _ => Spec.args (x0) (by (first | exact ArgsLe.refl | (repeat (first | exact True.intro | refine And.intro (by first | exact AvLe.refl | exact AvLe.loose | exact AvLe.nil | exact AvLe.nilT | exact AvLe.slk | (refine AvLe.agg ?_; exact ArgsLe.refl) | (refine AvLe.agg ?_; (repeat (first | exact True.intro | refine And.intro (by first | exact AvLe.refl | exact AvLe.loose | exact AvLe.nil | exact AvLe.nilT | exact AvLe.slk) ?_)))) ?_))))) rfl ?_
    simp only [go_sem]
    (repeat (refine ⟨by (first | exact True.intro | omega | rfl | (simp; done) | (simp; omega)), ?_⟩)); try (refine hKr _ ?_; clear hKr Kr)
    refine CallK.data (fun _ => Spec.args (x1) (by (first | exact ArgsLe.refl | (repeat (first | exact True.intro | refine And.intro (by first | exact AvLe.refl | exact AvLe.loose | exact AvLe.nil | exact AvLe.nilT | exact AvLe.slk | (refine AvLe.agg ?_; exact ArgsLe.refl) | (refine AvLe.agg ?_; (repeat (first | exact True.intro | refine And.intro (by first | exact AvLe.refl | exact AvLe.loose | exact AvLe.nil | exact AvLe.nilT | exact AvLe.slk) ?_)))) ?_))))) rfl ?_
    simp only [go_sem, hs]
    (repeat (refine ⟨by (first | exact True.intro | omega | rfl | (simp; done) | (simp; omega)), ?_⟩)); try (refine hKr _ ?_; clear hKr Kr)
    refine T.condTD rfl rfl (fun hz => ?_) (fun hz => ?_) <;> try simp at hz
    refine T.skip ?_
    refine hK9 _ ?_
    refine T.regD 142 [0, 1, 4, 5, 6, 7, 8, 9, 10, 11, 12, 13, 14, 15, 16, 26, 42, 66, 76, 84, 99, 115, 140] fun Kr hKr => ?_
    simp only [go_sem]
    (repeat (refine ⟨by (first | exact True.intro | omega | rfl | (simp; done) | (simp; omega)), ?_⟩)); try (refine hKr _ ?_; clear hKr Kr)
    refine ⟨i + 1, ?_, ?_, Le.fitS (by (repeat (first | exact DFit.nil | refine DFit.cons (by first | rfl | (simp [slook]; done) | (simp [slook]; omega)) ?_))) ?_⟩
    · omega
    · omega
    · (repeat (first | exact True.intro | refine And.intro (by first | rfl | (simp [look]; done)) ?_))
  refine T.skip ?_
  refine hK6 _ ?_
  have hfl2 := bothN_len ar br i
  have hend := bothN_end (b := br) hd
  rw [← bothN_zero ar br i]
  refine T.seqK fun K7 hK7 => ?_
  refine T.block ?_
  refine T.sregD 142 [0, 1, 4, 5, 6, 7, 8, 9, 10, 11, 12, 13, 14, 15, 16, 26, 42, 66, 76, 84, 99, 115, 140] fun Kr hKr => ?_
  simp only [go_sem]
  (repeat (refine ⟨by (first | exact True.intro | omega | rfl | (simp; done) | (simp; omega)), ?_⟩)); try (refine hKr _ ?_; clear hKr Kr)
  refine T.bloop (fun j : Nat => ⟨dense 142 [(1, .int .u8 c), (5, .bool true), (8, .op 8 0 0), (9, .op 9 0 0), (11, .op 11 0 0), (12, .int .i64 i), (13, .int .i64 j)], [(143, ⟨6, 49, false, recsOf (bothN ar br i j)⟩), (11, ⟨10, 29, true, [.agg [.osl 143 0 (bothN ar br i j).length, .sl true 1 [], .int .i64 a0, .int .i64 a1, .int .i64 a2, .int .i64 a3, .int .i64 a4, .int .i64 a5, .int .i64 a6, .int .i64 a7]]⟩), (9, ⟨10, 29, true, [.agg [.sl false 6 (recsOf mr), .sl false 7 (ordsOf mo), .int .i64 m0, .int .i64 m1', .int .i64 m2, .int .i64 m3, .int .i64 m4, .int .i64 m5, .int .i64 m6, .int .i64 m7]]⟩), (8, ⟨30, 41, true, [.agg [.sl false 6 (recsOf ar), .sl false 7 (ordsOf ao), .int .i64 a0, .int .i64 a1, .int .i64 a2, .int .i64 a3, .int .i64 a4, .int .i64 a5, .int .i64 a6, .int .i64 a7, .sl false 6 (recsOf br), .sl false 7 (ordsOf bo), .int .i64 b0, .int .i64 b1', .int .i64 b2', .int .i64 b3', .int .i64 b4', .int .i64 b5', .int .i64 b6', .int .i64 b7, .sl false 6 (recsOf cr), .sl false 7 (ordsOf co), .int .i64 c0, .int .i64 c1, .int .i64 c2, .int .i64 c3, .int .i64 c4, .int .i64 c5, .int .i64 c6, .int .i64 c7]]⟩)]⟩) (fun j => j ≤ br.length) (fun j => br.length - j) 0 (by simp) ?_ fun j hj => ?_
  · refine Le.fitS (by (repeat (first | exact DFit.nil | refine DFit.cons (by first | rfl | (simp [slook]; done) | (simp [slook]; omega)) ?_))) (by (repeat (first | exact True.intro | refine And.intro (by first | rfl | (simp [look]; done)) ?_)))
  have hfl3 := bothN_len ar br i j
  refine T.seqK fun K8 hK8 => ?_
  refine T.sregD 142 [0, 1, 4, 5, 6, 7, 8, 9, 10, 11, 12, 13, 14, 15, 16, 26, 42, 66, 76, 84, 99, 115, 140] fun Kr hKr => ?_
  simp only [go_sem]
  (repeat (refine ⟨by (first | exact True.intro | omega | rfl | (simp; done) | (simp; omega)), ?_⟩)); try (refine hKr _ ?_; clear hKr Kr)
  refine T.condFD rfl rfl (fun he => ?_) (fun he => ?_) <;> simp at he
  · -- no: exit
    refine T.exit ?_
    simp only [if_true]
    refine hK7 _ ?_
    have hje : j = br.length := by omega
    subst hje
    rw [hend]
    refine T.regD 142 [0, 1, 4, 5, 6, 7, 8, 9, 10, 11, 12, 13, 14, 15, 16, 26, 42, 66, 76, 84, 99, 115, 140] fun Kr hKr => ?_
    simp only [go_sem]
    (repeat (refine ⟨by (first | exact True.intro | omega | rfl | (simp; done) | (simp; omega)), ?_⟩)); try (refine hKr _ ?_; clear hKr Kr)
    refine ⟨i + 1, ?_, ?_, Le.fitS (by (repeat (first | exact DFit.nil | refine DFit.cons (by first | rfl | (simp [slook]; done) | (simp [slook]; omega)) ?_))) ?_⟩
    · omega
    · omega
    · (repeat (first | exact True.intro | refine And.intro (by first | rfl | (simp [look]; done)) ?_))
  refine T.skip ?_
  refine hK8 _ ?_
  refine T.seqK fun K9 hK9 => ?_
  refine T.block ?_
  refine T.sdrawD 142 [0, 1, 4, 5, 6, 7, 8, 9, 10, 11, 12, 13, 14, 15, 16, 26, 42, 66, 76, 84, 99, 115, 140] (.take 0 (.take 1 (.take 2 (.take 3 (.take 4 (.take 5 (.take 6 (.take 7 (.take 8 (.take 9 (.take 10 (.take 11 (.take 12 .done))))))))))))) [8] rfl (by decide +kernel) (by decide +kernel) fun Kr hKr => ?_
  simp only [go_sem, hd, he]
  (repeat (refine ⟨by (first | exact True.intro | omega | rfl | (simp; done) | (simp; omega)), ?_⟩)); try (refine hKr _ ?_; clear hKr Kr)
  rw [eqR_eq]
  by_cases hxy : ar.getD i default = br.getD j default
  · have hst := bothN_yes nd he hxy
    rw [decide_eq_true hxy]
    generalize bothN ar br i j = F at *
    refine T.condTD rfl rfl (fun hz => ?_) (fun hz => ?_) <;> try simp at hz
    have happ : recsOf F ++ [recA (ar.getD i default)] = recsOf (F ++ [ar.getD i default]) := by rw [recsOf_app]; rfl
    have hln : (F ++ [ar.getD i default]).length = F.length + 1 := by simp
    rw [recA] at happ
    refine T.draw2D 142 [0, 1, 4, 5, 6, 7, 8, 9, 10, 11, 12, 13, 14, 15, 16, 26, 42, 66, 76, 84, 99, 115, 140] (.take 0 (.take 2 (.take 3 (.take 4 (.take 5 (.take 6 (.take 7 (.two 1 (.one 8 (.one 9 (.take 10 (.one 11 .done)))) 8 (.one 1 (.one 9 (.take 10 (.one 11 .done)))))))))))) [8] rfl (by decide +kernel) (by decide +kernel) ?x1 ?h1 (fun Kr hKr => ?all1) ?rest1
    case all1 =>
      simp only [go_sem, hd]
      (repeat (any_goals (first | exact hKr _ (.inl rfl) | exact hKr _ (.inr (by (repeat (first | exact True.intro | refine And.intro (by first | rfl | (simp [look]; done)) ?_)))) | (refine And.intro ?_ ?_) | (first | exact True.intro | omega | rfl | (simp; done) | (simp; omega)))))
      all_goals (first | exact hKr _ (.inl rfl) | exact hKr _ (.inr (by (repeat (first | exact True.intro | refine And.intro (by first | rfl | (simp [look]; done)) ?_)))))
    case rest1 =>
    rw [happ]
    refine hK9 _ ?_
    refine T.regD 142 [0, 1, 4, 5, 6, 7, 8, 9, 10, 11, 12, 13, 14, 15, 16, 26, 42, 66, 76, 84, 99, 115, 140] fun Kr hKr => ?_
    simp only [go_sem]
    (repeat (refine ⟨by (first | exact True.intro | omega | rfl | (simp; done) | (simp; omega)), ?_⟩)); try (refine hKr _ ?_; clear hKr Kr)
    refine ⟨j + 1, ?_, ?_, Le.fitS (by (repeat (first | exact DFit.nil | refine DFit.cons (by first | rfl | (simp [slook, hst, hln]; done) | (simp [slook, hst, hln]; omega)) ?_))) ?_⟩
    · omega
    · omega
    · rw [hst, hln]; (repeat (first | exact True.intro | refine And.intro (by first | rfl | (simp [look]; done)) ?_))
  · have hst := bothN_no he hxy
    rw [decide_eq_false hxy]
    refine T.condTD rfl rfl (fun hz => ?_) (fun hz => ?_) <;> try simp at hz
    refine T.skip ?_
    refine hK9 _ ?_
    refine T.regD 142 [0, 1, 4, 5, 6, 7, 8, 9, 10, 11, 12, 13, 14, 15, 16, 26, 42, 66, 76, 84, 99, 115, 140] fun Kr hKr => ?_
    simp only [go_sem]
    (repeat (refine ⟨by (first | exact True.intro | omega | rfl | (simp; done) | (simp; omega)), ?_⟩)); try (refine hKr _ ?_; clear hKr Kr)
    refine ⟨j + 1, ?_, ?_, Le.fitS (by (repeat (first | exact DFit.nil | refine DFit.cons (by first | rfl | (simp [slook, hst]; done) | (simp [slook, hst]; omega)) ?_))) ?_⟩
    · omega
    · omega
    · rw [hst]; (repeat (first | exact True.intro | refine And.intro (by first | rfl | (simp [look]; done)) ?_))
end Go.Proofs
