/- Devices: the reference's Valid. -/
import Derived.Test.YtjlhiahgmmlcdaaGL
set_option linter.unusedVariables false
set_option linter.unusedSimpArgs false
namespace Go.Proofs
open Go Go.Ideal
set_option maxRecDepth 8000
set_option maxHeartbeats 4000000

theorem Valid_spec (u : Usr) (h : ValU u) : Ideal.Spec Try.prog 22 [usrA u] (.bool true) none := by
  have ul := h.l
  have l1 := h.rl
  have l2 := h.ol
  refine Ideal.Spec.of_TD (n := 168) (fn := Try.f22) rfl rfl rfl rfl rfl rfl rfl fun w ok => ?_
  refine T.sregD 168 [0, 1, 2, 3, 4, 5, 6, 7, 8, 10, 18, 23, 77, 82, 130, 135, 157] fun Kr hKr => ?_
  simp only [go_sem, ul]
  (repeat (refine ⟨by (first | exact True.intro | omega | rfl | (simp; done) | (simp; omega)), ?_⟩)); try (refine hKr _ ?_; clear hKr Kr)
  refine T.seqK fun K1 hK1 => ?_
  refine T.sregD 168 [0, 1, 2, 3, 4, 5, 6, 7, 8, 10, 18, 23, 77, 82, 130, 135, 157] fun Kr hKr => ?_
  simp only [go_sem]
  (repeat (refine ⟨by (first | exact True.intro | omega | rfl | (simp; done) | (simp; omega)), ?_⟩)); try (refine hKr _ ?_; clear hKr Kr)
  refine T.bloop (fun d : Nat => ⟨dense 168 [(1, .op 1 0 0), (3, .int .i64 d)], [(1, ⟨10, 29, true, [usrA u]⟩)]⟩) (fun d => d ≤ 8) (fun d => 8 - d) 0 (by simp) ?_ fun d hd => ?_
  · refine Le.fitS (by (repeat (first | exact DFit.nil | refine DFit.cons (by first | rfl | (simp [slook]; done) | (simp [slook]; omega)) ?_))) (by (repeat (first | exact True.intro | refine And.intro (by first | rfl | (simp [look]; done)) ?_)))
  refine T.seqK fun K2 hK2 => ?_
  refine T.sregD 168 [0, 1, 2, 3, 4, 5, 6, 7, 8, 10, 18, 23, 77, 82, 130, 135, 157] fun Kr hKr => ?_
  simp only [go_sem]
  (repeat (refine ⟨by (first | exact True.intro | omega | rfl | (simp; done) | (simp; omega)), ?_⟩)); try (refine hKr _ ?_; clear hKr Kr)
  refine T.condFD rfl rfl (fun hb => ?_) (fun hb => ?_) <;> simp only [decide_eq_true_eq, decide_eq_false_iff_not] at hb
  · refine T.exit ?_
    simp only [if_true]
    refine hK1 _ ?_
    refine T.seqK fun K3 hK3 => ?_
    refine T.sregD 168 [0, 1, 2, 3, 4, 5, 6, 7, 8, 10, 18, 23, 77, 82, 130, 135, 157] fun Kr hKr => ?_
    simp only [go_sem]
    (repeat (refine ⟨by (first | exact True.intro | omega | rfl | (simp; done) | (simp; omega)), ?_⟩)); try (refine hKr _ ?_; clear hKr Kr)
    refine T.bloop (fun i : Nat => ⟨dense 168 [(1, .op 1 0 0), (4, .int .i64 i)], [(1, ⟨10, 29, true, [usrA u]⟩)]⟩) (fun i => i ≤ u.r.length) (fun i => u.r.length - i) 0 (by simp) ?_ fun i hi => ?_
    · refine Le.fitS (by (repeat (first | exact DFit.nil | refine DFit.cons (by first | rfl | (simp [slook]; done) | (simp [slook]; omega)) ?_))) (by (repeat (first | exact True.intro | refine And.intro (by first | rfl | (simp [look]; done)) ?_)))
    refine T.seqK fun K4 hK4 => ?_
    refine T.sregD 168 [0, 1, 2, 3, 4, 5, 6, 7, 8, 10, 18, 23, 77, 82, 130, 135, 157] fun Kr hKr => ?_
    simp only [go_sem]
    (repeat (refine ⟨by (first | exact True.intro | omega | rfl | (simp; done) | (simp; omega)), ?_⟩)); try (refine hKr _ ?_; clear hKr Kr)
    refine T.condFD rfl rfl (fun hc => ?_) (fun hc => ?_) <;> simp at hc
    · refine T.exit ?_
      simp only [if_true]
      refine hK3 _ ?_
      refine T.seqK fun K5 hK5 => ?_
      refine T.sregD 168 [0, 1, 2, 3, 4, 5, 6, 7, 8, 10, 18, 23, 77, 82, 130, 135, 157] fun Kr hKr => ?_
      simp only [go_sem]
      (repeat (refine ⟨by (first | exact True.intro | omega | rfl | (simp; done) | (simp; omega)), ?_⟩)); try (refine hKr _ ?_; clear hKr Kr)
      refine T.bloop (fun i : Nat => ⟨dense 168 [(1, .op 1 0 0), (6, .int .i64 i)], [(1, ⟨10, 29, true, [usrA u]⟩)]⟩) (fun i => i ≤ u.o.length) (fun i => u.o.length - i) 0 (by simp) ?_ fun i hi => ?_
      · refine Le.fitS (by (repeat (first | exact DFit.nil | refine DFit.cons (by first | rfl | (simp [slook]; done) | (simp [slook]; omega)) ?_))) (by (repeat (first | exact True.intro | refine And.intro (by first | rfl | (simp [look]; done)) ?_)))
      refine T.seqK fun K6 hK6 => ?_
      refine T.sregD 168 [0, 1, 2, 3, 4, 5, 6, 7, 8, 10, 18, 23, 77, 82, 130, 135, 157] fun Kr hKr => ?_
      simp only [go_sem]
      (repeat (refine ⟨by (first | exact True.intro | omega | rfl | (simp; done) | (simp; omega)), ?_⟩)); try (refine hKr _ ?_; clear hKr Kr)
      refine T.condFD rfl rfl (fun he => ?_) (fun he => ?_) <;> simp at he
      · refine T.exit ?_
        simp only [if_true]
        refine hK5 _ ?_
        have g1 : ((u.r.length : Int) ≤ 400) = True := eq_true (by omega)
        have g2 : ((u.o.length : Int) ≤ 400) = True := eq_true (by omega)
        refine T.sregD 168 [0, 1, 2, 3, 4, 5, 6, 7, 8, 10, 18, 23, 77, 82, 130, 135, 157] fun Kr hKr => ?_
        simp only [go_sem, g1, g2]
        (repeat (refine ⟨by (first | exact True.intro | omega | rfl | (simp; done) | (simp; omega)), ?_⟩)); try (refine hKr _ ?_; clear hKr Kr)
        refine T.ret (Fin.dataD rfl rfl rfl)
      refine T.skip ?_
      refine hK6 _ ?_
      refine T.seqK fun K7 hK7 => ?_
      refine T.block ?_
      have hx := h.oo (u.o.getD i default) (by simp [List.getD, he])
      have hbef : ∀ p, i = p + 1 → befB (u.o.getD p default).d (u.o.getD p default).s (u.o.getD i default).d (u.o.getD i default).s = true := fun p hp => (bef_iff ..).2 (h.oi.get_lt (by omega) he)
      have hro : ∀ j, j < u.r.length → (bif decide ((u.r.getD j default).d = (u.o.getD i default).d) then decide ((u.r.getD j default).s = (u.o.getD i default).s) else false) = false := fun j hj => by
        have := h.ro (u.r.getD j default) (by simp [List.getD, hj]) (u.o.getD i default) (by simp [List.getD, he])
        rw [cond_and, Bool.and_eq_false_iff, decide_eq_false_iff_not, decide_eq_false_iff_not]; omega
      have s1 := RightOrder_spec _ hx.1
      obtain ⟨m, hm⟩ : ∃ m : Nat, (u.o.getD i default).d = m := ⟨(u.o.getD i default).d.toNat, by have := hx.1.d; omega⟩
      have hm8 : m < 8 := by have := hx.1.d; omega
      have hgl : (intsOf u.l).getD m .junk = .int .i64 (u.l.getD m default) := intsOf_get (by omega)
      have hls : ((u.o.getD i default).s > u.l.getD m default) = False := eq_false (by have := hx.2; rw [hm] at this; change _ ≤ u.l.getD m default at this; omega)
      simp only [ordA, hm] at s1 hro hbef
      by_cases h0 : i = 0
      · subst h0
        refine T.sregD 168 [0, 1, 2, 3, 4, 5, 6, 7, 8, 10, 18, 23, 77, 82, 130, 135, 157] fun Kr hKr => ?_
        simp only [go_sem, he, hm]
        (repeat (refine ⟨by (first | exact True.intro | omega | rfl | (simp; done) | (simp; omega)), ?_⟩)); try (refine hKr _ ?_; clear hKr Kr)
        generalize hxx : u.o.getD 0 default = x at *
        refine T.seqK fun K8 hK8 => ?_
        refine T.sdrawD 168 [0, 1, 2, 3, 4, 5, 6, 7, 8, 10, 18, 23, 77, 82, 130, 135, 157] (.take 0 (.one 1 (.take 2 (.take 3 (.take 4 (.take 5 (.take 6 (.take 7 (.take 8 (.take 9 (.take 10 (.take 11 (.take 12 (.take 13 (.take 14 (.take 15 (.take 16 (.take 17 (.take 18 (.take 19 (.take 20 (.take 21 (.take 22 (.take 23 (.take 24 (.take 25 (.take 26 (.one 27 (.take 28 (.take 29 (.take 30 (.take 31 (.take 32 (.take 33 (.take 34 (.take 35 (.take 36 (.take 37 (.take 38 (.take 39 (.take 40 .done))))))))))))))))))))))))))))))))))))))))) [1, 7] rfl (by decide +kernel) (by decide +kernel) fun Kr hKr => ?_
        simp only [go_sem, hm, hm8, ul, hgl, hls, he, hxx]
        (repeat (refine ⟨by (first | exact True.intro | omega | rfl | (simp; done) | (simp; omega)), ?_⟩)); try (refine hKr _ ?_; clear hKr Kr)
        refine CallK.data (fun _ => Spec.args (s1) (by (first | exact ArgsLe.refl | (repeat (first | exact True.intro | refine And.intro (by first | exact AvLe.refl | exact AvLe.loose | exact AvLe.nil | exact AvLe.nilT | exact AvLe.slk | (refine AvLe.agg ?_; exact ArgsLe.refl) | (refine AvLe.agg ?_; (repeat (first | exact True.intro | refine And.intro (by first | exact AvLe.refl | exact AvLe.loose | exact AvLe.nil | exact AvLe.nilT | exact AvLe.slk) ?_)))) ?_))))) rfl ?_
        simp only [go_sem, hm, hm8, ul, hgl, hls, he]
        (repeat (refine ⟨by (first | exact True.intro | omega | rfl | (simp; done) | (simp; omega)), ?_⟩)); try (refine hKr _ ?_; clear hKr Kr)
        refine CallK.data (r := .bool true) (fun h => by cases h) rfl ?_
        simp only [go_sem, hm, hm8, ul, hgl, hls, he]
        (repeat (refine ⟨by (first | exact True.intro | omega | rfl | (simp; done) | (simp; omega)), ?_⟩)); try (refine hKr _ ?_; clear hKr Kr)
        refine T.condTD rfl rfl (fun hz => ?_) (fun hz => ?_) <;> try simp at hz
        refine T.skip ?_
        refine hK8 _ ?_
        refine T.sregD 168 [0, 1, 2, 3, 4, 5, 6, 7, 8, 10, 18, 23, 77, 82, 130, 135, 157] fun Kr hKr => ?_
        simp only [go_sem]
        (repeat (refine ⟨by (first | exact True.intro | omega | rfl | (simp; done) | (simp; omega)), ?_⟩)); try (refine hKr _ ?_; clear hKr Kr)
        refine T.bloop (fun j : Nat => ⟨dense 168 [(1, .op 1 0 0), (6, .int .i64 0), (7, .op 7 0 0), (8, .int .i64 j)], [(7, ⟨7, 52, true, [.agg [.int .i64 m, .int .i64 x.s, .int .i64 x.e, .int .i64 x.k, .str x.w, .int .i64 x.n, .int .i64 x.f]]⟩), (1, ⟨10, 29, true, [usrA u]⟩)]⟩) (fun j => j ≤ u.r.length) (fun j => u.r.length - j) 0 (by simp) ?_ fun j hj => ?_
        · refine Le.fitS (by (repeat (first | exact DFit.nil | refine DFit.cons (by first | rfl | (simp [slook]; done) | (simp [slook]; omega)) ?_))) (by (repeat (first | exact True.intro | refine And.intro (by first | rfl | (simp [look]; done)) ?_)))
        refine T.seqK fun K9 hK9 => ?_
        refine T.sregD 168 [0, 1, 2, 3, 4, 5, 6, 7, 8, 10, 18, 23, 77, 82, 130, 135, 157] fun Kr hKr => ?_
        simp only [go_sem]
        (repeat (refine ⟨by (first | exact True.intro | omega | rfl | (simp; done) | (simp; omega)), ?_⟩)); try (refine hKr _ ?_; clear hKr Kr)
        refine T.condFD rfl rfl (fun hg => ?_) (fun hg => ?_) <;> simp at hg
        · -- no: exit
          refine T.exit ?_
          simp only [if_true]
          refine hK7 _ ?_
          refine T.regD 168 [0, 1, 2, 3, 4, 5, 6, 7, 8, 10, 18, 23, 77, 82, 130, 135, 157] fun Kr hKr => ?_
          simp only [go_sem]
          (repeat (refine ⟨by (first | exact True.intro | omega | rfl | (simp; done) | (simp; omega)), ?_⟩)); try (refine hKr _ ?_; clear hKr Kr)
          refine ⟨0 + 1, ?_, ?_, Le.fitS (by (repeat (first | exact DFit.nil | refine DFit.cons (by first | rfl | (simp [slook]; done) | (simp [slook]; omega)) ?_))) ?_⟩
          · omega
          · omega
          · (repeat (first | exact True.intro | refine And.intro (by first | rfl | (simp [look]; done)) ?_))
        refine T.skip ?_
        refine hK9 _ ?_
        refine T.seqK fun K10 hK10 => ?_
        refine T.block ?_
        have hf := hro j hg
        refine T.sdrawD 168 [0, 1, 2, 3, 4, 5, 6, 7, 8, 10, 18, 23, 77, 82, 130, 135, 157] (.take 0 (.take 1 (.take 2 (.take 3 (.take 4 (.take 5 (.take 6 (.take 7 (.take 8 (.take 9 (.take 10 (.take 11 (.take 12 (.take 13 (.take 14 (.take 15 (.take 16 (.take 17 (.take 18 (.take 19 .done)))))))))))))))))))) [1, 7] rfl (by decide +kernel) (by decide +kernel) fun Kr hKr => ?_
        simp only [go_sem, hg, hf]
        (repeat (refine ⟨by (first | exact True.intro | omega | rfl | (simp; done) | (simp; omega)), ?_⟩)); try (refine hKr _ ?_; clear hKr Kr)
        refine T.condTD rfl rfl (fun hz => ?_) (fun hz => ?_) <;> try simp at hz
        refine T.skip ?_
        refine hK10 _ ?_
        refine T.regD 168 [0, 1, 2, 3, 4, 5, 6, 7, 8, 10, 18, 23, 77, 82, 130, 135, 157] fun Kr hKr => ?_
        simp only [go_sem]
        (repeat (refine ⟨by (first | exact True.intro | omega | rfl | (simp; done) | (simp; omega)), ?_⟩)); try (refine hKr _ ?_; clear hKr Kr)
        refine ⟨j + 1, ?_, ?_, Le.fitS (by (repeat (first | exact DFit.nil | refine DFit.cons (by first | rfl | (simp [slook]; done) | (simp [slook]; omega)) ?_))) ?_⟩
        · omega
        · omega
        · (repeat (first | exact True.intro | refine And.intro (by first | rfl | (simp [look]; done)) ?_))
      obtain ⟨p, rfl⟩ : ∃ p, i = p + 1 := ⟨i - 1, by omega⟩
      have s2 := beforeR_spec (u.o.getD p default).d (u.o.getD p default).s m (u.o.getD (p + 1) default).s
      rw [hbef p rfl] at s2
      have hsub : ((p + 1 : Nat) : Int) - 1 = (p : Int) := by omega
      have hpos : (((p + 1 : Nat) : Int) > 0) = True := eq_true (by omega)
      have hp : p < u.o.length := by omega
      refine T.sregD 168 [0, 1, 2, 3, 4, 5, 6, 7, 8, 10, 18, 23, 77, 82, 130, 135, 157] fun Kr hKr => ?_
      simp only [go_sem, he, hm]
      (repeat (refine ⟨by (first | exact True.intro | omega | rfl | (simp; done) | (simp; omega)), ?_⟩)); try (refine hKr _ ?_; clear hKr Kr)
      generalize u.o.getD (p + 1) default = x at *
      refine T.seqK fun K8 hK8 => ?_
      refine T.sdrawD 168 [0, 1, 2, 3, 4, 5, 6, 7, 8, 10, 18, 23, 77, 82, 130, 135, 157] (.take 0 (.one 1 (.take 2 (.take 3 (.take 4 (.take 5 (.take 6 (.take 7 (.take 8 (.take 9 (.take 10 (.take 11 (.take 12 (.take 13 (.take 14 (.take 15 (.take 16 (.take 17 (.take 18 (.take 19 (.take 20 (.take 21 (.take 22 (.take 23 (.take 24 (.take 25 (.take 26 (.one 27 (.take 28 (.take 29 (.take 30 (.take 31 (.take 32 (.take 33 (.take 34 (.take 35 (.take 36 (.take 37 (.take 38 (.take 39 (.take 40 .done))))))))))))))))))))))))))))))))))))))))) [1, 7] rfl (by decide +kernel) (by decide +kernel) fun Kr hKr => ?_
      simp only [go_sem, hm8, ul, hgl, hls, hp, hsub, hpos, Nat.add_sub_cancel]
      (repeat (refine ⟨by (first | exact True.intro | omega | rfl | (simp; done) | (simp; omega)), ?_⟩)); try (refine hKr _ ?_; clear hKr Kr)
      refine CallK.data (fun _ => Spec.args (s1) (by (first | exact ArgsLe.refl | (repeat (first | exact True.intro | refine And.intro (by first | exact AvLe.refl | exact AvLe.loose | exact AvLe.nil | exact AvLe.nilT | exact AvLe.slk | (refine AvLe.agg ?_; exact ArgsLe.refl) | (refine AvLe.agg ?_; (repeat (first | exact True.intro | refine And.intro (by first | exact AvLe.refl | exact AvLe.loose | exact AvLe.nil | exact AvLe.nilT | exact AvLe.slk) ?_)))) ?_))))) rfl ?_
      simp only [go_sem, hm8, ul, hgl, hls, hp, hsub, hpos, Nat.add_sub_cancel]
      (repeat (refine ⟨by (first | exact True.intro | omega | rfl | (simp; done) | (simp; omega)), ?_⟩)); try (refine hKr _ ?_; clear hKr Kr)
      refine CallK.data (fun _ => Spec.args (s2) (by (first | exact ArgsLe.refl | (repeat (first | exact True.intro | refine And.intro (by first | exact AvLe.refl | exact AvLe.loose | exact AvLe.nil | exact AvLe.nilT | exact AvLe.slk | (refine AvLe.agg ?_; exact ArgsLe.refl) | (refine AvLe.agg ?_; (repeat (first | exact True.intro | refine And.intro (by first | exact AvLe.refl | exact AvLe.loose | exact AvLe.nil | exact AvLe.nilT | exact AvLe.slk) ?_)))) ?_))))) rfl ?_
      simp only [go_sem, hm8, ul, hgl, hls, hp, hsub, hpos, Nat.add_sub_cancel]
      (repeat (refine ⟨by (first | exact True.intro | omega | rfl | (simp; done) | (simp; omega)), ?_⟩)); try (refine hKr _ ?_; clear hKr Kr)
      refine T.condTD rfl rfl (fun hz => ?_) (fun hz => ?_) <;> try simp at hz
      refine T.skip ?_
      refine hK8 _ ?_
      refine T.sregD 168 [0, 1, 2, 3, 4, 5, 6, 7, 8, 10, 18, 23, 77, 82, 130, 135, 157] fun Kr hKr => ?_
      simp only [go_sem]
      (repeat (refine ⟨by (first | exact True.intro | omega | rfl | (simp; done) | (simp; omega)), ?_⟩)); try (refine hKr _ ?_; clear hKr Kr)
      refine T.bloop (fun j : Nat => ⟨dense 168 [(1, .op 1 0 0), (6, .int .i64 (p + 1 : Nat)), (7, .op 7 0 0), (8, .int .i64 j)], [(7, ⟨7, 52, true, [.agg [.int .i64 m, .int .i64 x.s, .int .i64 x.e, .int .i64 x.k, .str x.w, .int .i64 x.n, .int .i64 x.f]]⟩), (1, ⟨10, 29, true, [usrA u]⟩)]⟩) (fun j => j ≤ u.r.length) (fun j => u.r.length - j) 0 (by simp) ?_ fun j hj => ?_
      · refine Le.fitS (by (repeat (first | exact DFit.nil | refine DFit.cons (by first | rfl | (simp [slook]; done) | (simp [slook]; omega)) ?_))) (by (repeat (first | exact True.intro | refine And.intro (by first | rfl | (simp [look]; done)) ?_)))
      refine T.seqK fun K9 hK9 => ?_
      refine T.sregD 168 [0, 1, 2, 3, 4, 5, 6, 7, 8, 10, 18, 23, 77, 82, 130, 135, 157] fun Kr hKr => ?_
      simp only [go_sem]
      (repeat (refine ⟨by (first | exact True.intro | omega | rfl | (simp; done) | (simp; omega)), ?_⟩)); try (refine hKr _ ?_; clear hKr Kr)
      refine T.condFD rfl rfl (fun hg => ?_) (fun hg => ?_) <;> simp at hg
      · -- no: exit
        refine T.exit ?_
        simp only [if_true]
        refine hK7 _ ?_
        refine T.regD 168 [0, 1, 2, 3, 4, 5, 6, 7, 8, 10, 18, 23, 77, 82, 130, 135, 157] fun Kr hKr => ?_
        simp only [go_sem]
        (repeat (refine ⟨by (first | exact True.intro | omega | rfl | (simp; done) | (simp; omega)), ?_⟩)); try (refine hKr _ ?_; clear hKr Kr)
        refine ⟨p + 1 + 1, ?_, ?_, Le.fitS (by (repeat (first | exact DFit.nil | refine DFit.cons (by first | rfl | (simp [slook]; done) | (simp [slook]; omega)) ?_))) ?_⟩
        · omega
        · omega
        · (repeat (first | exact True.intro | refine And.intro (by first | rfl | (simp [look]; done)) ?_))
      refine T.skip ?_
      refine hK9 _ ?_
      refine T.seqK fun K10 hK10 => ?_
      refine T.block ?_
      have hf := hro j hg
      refine T.sdrawD 168 [0, 1, 2, 3, 4, 5, 6, 7, 8, 10, 18, 23, 77, 82, 130, 135, 157] (.take 0 (.take 1 (.take 2 (.take 3 (.take 4 (.take 5 (.take 6 (.take 7 (.take 8 (.take 9 (.take 10 (.take 11 (.take 12 (.take 13 (.take 14 (.take 15 (.take 16 (.take 17 (.take 18 (.take 19 .done)))))))))))))))))))) [1, 7] rfl (by decide +kernel) (by decide +kernel) fun Kr hKr => ?_
      simp only [go_sem, hg, hf]
      (repeat (refine ⟨by (first | exact True.intro | omega | rfl | (simp; done) | (simp; omega)), ?_⟩)); try (refine hKr _ ?_; clear hKr Kr)
      refine T.condTD rfl rfl (fun hz => ?_) (fun hz => ?_) <;> try simp at hz
      refine T.skip ?_
      refine hK10 _ ?_
      refine T.regD 168 [0, 1, 2, 3, 4, 5, 6, 7, 8, 10, 18, 23, 77, 82, 130, 135, 157] fun Kr hKr => ?_
      simp only [go_sem]
      (repeat (refine ⟨by (first | exact True.intro | omega | rfl | (simp; done) | (simp; omega)), ?_⟩)); try (refine hKr _ ?_; clear hKr Kr)
      refine ⟨j + 1, ?_, ?_, Le.fitS (by (repeat (first | exact DFit.nil | refine DFit.cons (by first | rfl | (simp [slook]; done) | (simp [slook]; omega)) ?_))) ?_⟩
      · omega
      · omega
      · (repeat (first | exact True.intro | refine And.intro (by first | rfl | (simp [look]; done)) ?_))
    refine T.skip ?_
    refine hK4 _ ?_
    refine T.seqK fun K7 hK7 => ?_
    refine T.block ?_
    have hx := h.rr (u.r.getD i default) (by simp [List.getD, hc])
    have hbef : ∀ p, i = p + 1 → befB (u.r.getD p default).d (u.r.getD p default).s (u.r.getD i default).d (u.r.getD i default).s = true := fun p hp => (bef_iff ..).2 (h.ri.get_lt (by omega) hc)
    have s1 := Right_spec _ hx.1
    have s3 := Meant_spec u.o _ (fun x hx => (h.oo x hx).1) hx.1 (by omega)
    rw [h.nm _ (by simp [List.getD, hc])] at s3
    obtain ⟨m, hm⟩ : ∃ m : Nat, (u.r.getD i default).d = m := ⟨(u.r.getD i default).d.toNat, by have := hx.1.d; omega⟩
    have hm8 : m < 8 := by have := hx.1.d; omega
    have hgl : (intsOf u.l).getD m .junk = .int .i64 (u.l.getD m default) := intsOf_get (by omega)
    have hls : ((u.r.getD i default).s > u.l.getD m default) = False := eq_false (by have := hx.2; rw [hm] at this; change _ ≤ u.l.getD m default at this; omega)
    simp only [recA, hm] at s1 s3 hbef
    by_cases h0 : i = 0
    · subst h0
      refine T.sregD 168 [0, 1, 2, 3, 4, 5, 6, 7, 8, 10, 18, 23, 77, 82, 130, 135, 157] fun Kr hKr => ?_
      simp only [go_sem, hc, hm]
      (repeat (refine ⟨by (first | exact True.intro | omega | rfl | (simp; done) | (simp; omega)), ?_⟩)); try (refine hKr _ ?_; clear hKr Kr)
      refine T.sdrawD 168 [0, 1, 2, 3, 4, 5, 6, 7, 8, 10, 18, 23, 77, 82, 130, 135, 157] (.take 0 (.one 1 (.take 2 (.take 3 (.take 4 (.take 5 (.take 6 (.take 7 (.take 8 (.take 9 (.take 10 (.take 11 (.take 12 (.take 13 (.take 14 (.take 15 (.take 16 (.take 17 (.take 18 (.take 19 (.take 20 (.take 21 (.take 22 (.take 23 (.take 24 (.take 25 (.take 26 (.one 27 (.take 28 (.take 29 (.take 30 (.take 31 (.take 32 (.take 33 (.take 34 (.take 35 (.take 36 (.take 37 (.take 38 (.take 39 (.take 40 (.take 41 (.take 42 (.take 43 (.take 44 (.one 45 (.take 46 .done))))))))))))))))))))))))))))))))))))))))))))))) [1, 5] rfl (by decide +kernel) (by decide +kernel) fun Kr hKr => ?_
      simp only [go_sem, hm, hm8, ul, hgl, hls, hc]
      (repeat (refine ⟨by (first | exact True.intro | omega | rfl | (simp; done) | (simp; omega)), ?_⟩)); try (refine hKr _ ?_; clear hKr Kr)
      refine CallK.data (fun _ => Spec.args (s1) (by (first | exact ArgsLe.refl | (repeat (first | exact True.intro | refine And.intro (by first | exact AvLe.refl | exact AvLe.loose | exact AvLe.nil | exact AvLe.nilT | exact AvLe.slk | (refine AvLe.agg ?_; exact ArgsLe.refl) | (refine AvLe.agg ?_; (repeat (first | exact True.intro | refine And.intro (by first | exact AvLe.refl | exact AvLe.loose | exact AvLe.nil | exact AvLe.nilT | exact AvLe.slk) ?_)))) ?_))))) rfl ?_
      simp only [go_sem, hm, hm8, ul, hgl, hls, hc]
      (repeat (refine ⟨by (first | exact True.intro | omega | rfl | (simp; done) | (simp; omega)), ?_⟩)); try (refine hKr _ ?_; clear hKr Kr)
      refine CallK.data (r := .bool true) (fun h => by cases h) rfl ?_
      simp only [go_sem, hm, hm8, ul, hgl, hls, hc]
      (repeat (refine ⟨by (first | exact True.intro | omega | rfl | (simp; done) | (simp; omega)), ?_⟩)); try (refine hKr _ ?_; clear hKr Kr)
      refine CallK.data (fun _ => Spec.args (s3) (by (first | exact ArgsLe.refl | (repeat (first | exact True.intro | refine And.intro (by first | exact AvLe.refl | exact AvLe.loose | exact AvLe.nil | exact AvLe.nilT | exact AvLe.slk | (refine AvLe.agg ?_; exact ArgsLe.refl) | (refine AvLe.agg ?_; (repeat (first | exact True.intro | refine And.intro (by first | exact AvLe.refl | exact AvLe.loose | exact AvLe.nil | exact AvLe.nilT | exact AvLe.slk) ?_)))) ?_))))) rfl ?_
      simp only [go_sem, hm, hm8, ul, hgl, hls, hc]
      (repeat (refine ⟨by (first | exact True.intro | omega | rfl | (simp; done) | (simp; omega)), ?_⟩)); try (refine hKr _ ?_; clear hKr Kr)
      refine T.condTD rfl rfl (fun hz => ?_) (fun hz => ?_) <;> try simp at hz
      refine T.skip ?_
      refine hK7 _ ?_
      refine T.regD 168 [0, 1, 2, 3, 4, 5, 6, 7, 8, 10, 18, 23, 77, 82, 130, 135, 157] fun Kr hKr => ?_
      simp only [go_sem]
      (repeat (refine ⟨by (first | exact True.intro | omega | rfl | (simp; done) | (simp; omega)), ?_⟩)); try (refine hKr _ ?_; clear hKr Kr)
      refine ⟨0 + 1, ?_, ?_, Le.fitS (by (repeat (first | exact DFit.nil | refine DFit.cons (by first | rfl | (simp [slook]; done) | (simp [slook]; omega)) ?_))) ?_⟩
      · omega
      · omega
      · (repeat (first | exact True.intro | refine And.intro (by first | rfl | (simp [look]; done)) ?_))
    obtain ⟨p, rfl⟩ : ∃ p, i = p + 1 := ⟨i - 1, by omega⟩
    have s2 := beforeR_spec (u.r.getD p default).d (u.r.getD p default).s m (u.r.getD (p + 1) default).s
    rw [hbef p rfl] at s2
    have hsub : ((p + 1 : Nat) : Int) - 1 = (p : Int) := by omega
    have hpos : (((p + 1 : Nat) : Int) > 0) = True := eq_true (by omega)
    have hp : p < u.r.length := by omega
    refine T.sregD 168 [0, 1, 2, 3, 4, 5, 6, 7, 8, 10, 18, 23, 77, 82, 130, 135, 157] fun Kr hKr => ?_
    simp only [go_sem, hc, hm]
    (repeat (refine ⟨by (first | exact True.intro | omega | rfl | (simp; done) | (simp; omega)), ?_⟩)); try (refine hKr _ ?_; clear hKr Kr)
    generalize u.r.getD (p + 1) default = x at *
    refine T.sdrawD 168 [0, 1, 2, 3, 4, 5, 6, 7, 8, 10, 18, 23, 77, 82, 130, 135, 157] (.take 0 (.one 1 (.take 2 (.take 3 (.take 4 (.take 5 (.take 6 (.take 7 (.take 8 (.take 9 (.take 10 (.take 11 (.take 12 (.take 13 (.take 14 (.take 15 (.take 16 (.take 17 (.take 18 (.take 19 (.take 20 (.take 21 (.take 22 (.take 23 (.take 24 (.take 25 (.take 26 (.one 27 (.take 28 (.take 29 (.take 30 (.take 31 (.take 32 (.take 33 (.take 34 (.take 35 (.take 36 (.take 37 (.take 38 (.take 39 (.take 40 (.take 41 (.take 42 (.take 43 (.take 44 (.one 45 (.take 46 .done))))))))))))))))))))))))))))))))))))))))))))))) [1, 5] rfl (by decide +kernel) (by decide +kernel) fun Kr hKr => ?_
    simp only [go_sem, hm8, ul, hgl, hls, hp, hsub, hpos, Nat.add_sub_cancel]
    (repeat (refine ⟨by (first | exact True.intro | omega | rfl | (simp; done) | (simp; omega)), ?_⟩)); try (refine hKr _ ?_; clear hKr Kr)
    refine CallK.data (fun _ => Spec.args (s1) (by (first | exact ArgsLe.refl | (repeat (first | exact True.intro | refine And.intro (by first | exact AvLe.refl | exact AvLe.loose | exact AvLe.nil | exact AvLe.nilT | exact AvLe.slk | (refine AvLe.agg ?_; exact ArgsLe.refl) | (refine AvLe.agg ?_; (repeat (first | exact True.intro | refine And.intro (by first | exact AvLe.refl | exact AvLe.loose | exact AvLe.nil | exact AvLe.nilT | exact AvLe.slk) ?_)))) ?_))))) rfl ?_
    simp only [go_sem, hm8, ul, hgl, hls, hp, hsub, hpos, Nat.add_sub_cancel]
    (repeat (refine ⟨by (first | exact True.intro | omega | rfl | (simp; done) | (simp; omega)), ?_⟩)); try (refine hKr _ ?_; clear hKr Kr)
    refine CallK.data (fun _ => Spec.args (s2) (by (first | exact ArgsLe.refl | (repeat (first | exact True.intro | refine And.intro (by first | exact AvLe.refl | exact AvLe.loose | exact AvLe.nil | exact AvLe.nilT | exact AvLe.slk | (refine AvLe.agg ?_; exact ArgsLe.refl) | (refine AvLe.agg ?_; (repeat (first | exact True.intro | refine And.intro (by first | exact AvLe.refl | exact AvLe.loose | exact AvLe.nil | exact AvLe.nilT | exact AvLe.slk) ?_)))) ?_))))) rfl ?_
    simp only [go_sem, hm8, ul, hgl, hls, hp, hsub, hpos, Nat.add_sub_cancel]
    (repeat (refine ⟨by (first | exact True.intro | omega | rfl | (simp; done) | (simp; omega)), ?_⟩)); try (refine hKr _ ?_; clear hKr Kr)
    refine CallK.data (fun _ => Spec.args (s3) (by (first | exact ArgsLe.refl | (repeat (first | exact True.intro | refine And.intro (by first | exact AvLe.refl | exact AvLe.loose | exact AvLe.nil | exact AvLe.nilT | exact AvLe.slk | (refine AvLe.agg ?_; exact ArgsLe.refl) | (refine AvLe.agg ?_; (repeat (first | exact True.intro | refine And.intro (by first | exact AvLe.refl | exact AvLe.loose | exact AvLe.nil | exact AvLe.nilT | exact AvLe.slk) ?_)))) ?_))))) rfl ?_
    simp only [go_sem, hm8, ul, hgl, hls, hp, hsub, hpos, Nat.add_sub_cancel]
    (repeat (refine ⟨by (first | exact True.intro | omega | rfl | (simp; done) | (simp; omega)), ?_⟩)); try (refine hKr _ ?_; clear hKr Kr)
    refine T.condTD rfl rfl (fun hz => ?_) (fun hz => ?_) <;> try simp at hz
    refine T.skip ?_
    refine hK7 _ ?_
    refine T.regD 168 [0, 1, 2, 3, 4, 5, 6, 7, 8, 10, 18, 23, 77, 82, 130, 135, 157] fun Kr hKr => ?_
    simp only [go_sem]
    (repeat (refine ⟨by (first | exact True.intro | omega | rfl | (simp; done) | (simp; omega)), ?_⟩)); try (refine hKr _ ?_; clear hKr Kr)
    refine ⟨p + 1 + 1, ?_, ?_, Le.fitS (by (repeat (first | exact DFit.nil | refine DFit.cons (by first | rfl | (simp [slook]; done) | (simp [slook]; omega)) ?_))) ?_⟩
    · omega
    · omega
    · (repeat (first | exact True.intro | refine And.intro (by first | rfl | (simp [look]; done)) ?_))
  have hgl : (intsOf u.l).getD d .junk = .int .i64 (u.l.getD d default) := intsOf_get (by omega)
  have hlow := h.low d (by omega)
  change 0 ≤ u.l.getD d default ∧ u.l.getD d default ≤ 1000000 at hlow
  have s1 := in_t hlow
  refine T.skip ?_
  refine hK2 _ ?_
  refine T.seqK fun K7 hK7 => ?_
  refine T.block ?_
  refine T.sregD 168 [0, 1, 2, 3, 4, 5, 6, 7, 8, 10, 18, 23, 77, 82, 130, 135, 157] fun Kr hKr => ?_
  simp only [go_sem, hb, ul, hgl]
  (repeat (refine ⟨by (first | exact True.intro | omega | rfl | (simp; done) | (simp; omega)), ?_⟩)); try (refine hKr _ ?_; clear hKr Kr)
  refine CallK.data (fun _ => Spec.args (s1) (by (first | exact ArgsLe.refl | (repeat (first | exact True.intro | refine And.intro (by first | exact AvLe.refl | exact AvLe.loose | exact AvLe.nil | exact AvLe.nilT | exact AvLe.slk | (refine AvLe.agg ?_; exact ArgsLe.refl) | (refine AvLe.agg ?_; (repeat (first | exact True.intro | refine And.intro (by first | exact AvLe.refl | exact AvLe.loose | exact AvLe.nil | exact AvLe.nilT | exact AvLe.slk) ?_)))) ?_))))) rfl ?_
  simp only [go_sem]
  (repeat (refine ⟨by (first | exact True.intro | omega | rfl | (simp; done) | (simp; omega)), ?_⟩)); try (refine hKr _ ?_; clear hKr Kr)
  refine T.condTD rfl rfl (fun hz => ?_) (fun hz => ?_) <;> try simp at hz
  refine T.skip ?_
  refine hK7 _ ?_
  refine T.regD 168 [0, 1, 2, 3, 4, 5, 6, 7, 8, 10, 18, 23, 77, 82, 130, 135, 157] fun Kr hKr => ?_
  simp only [go_sem]
  (repeat (refine ⟨by (first | exact True.intro | omega | rfl | (simp; done) | (simp; omega)), ?_⟩)); try (refine hKr _ ?_; clear hKr Kr)
  refine ⟨d + 1, ?_, ?_, Le.fitS (by (repeat (first | exact DFit.nil | refine DFit.cons (by first | rfl | (simp [slook]; done) | (simp [slook]; omega)) ?_))) ?_⟩
  · omega
  · omega
  · (repeat (first | exact True.intro | refine And.intro (by first | rfl | (simp [look]; done)) ?_))
end Go.Proofs
