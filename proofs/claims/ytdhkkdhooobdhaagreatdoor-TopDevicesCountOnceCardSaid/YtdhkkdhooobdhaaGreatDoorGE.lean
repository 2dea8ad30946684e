/- Devices: the reference's Same, steps' records and orders. -/
import Derived.Test.YtdhkkdhooobdhaaGreatDoorGD
import Derived.Test.YtdhkkdhooobdhaaGreatDoorH4
set_option linter.unusedVariables false
set_option linter.unusedSimpArgs false
namespace Go.Proofs
open Go Go.Ideal
set_option maxRecDepth 8000
set_option maxHeartbeats 4000000

theorem SameR_spec (l : List Rec) (hl : l.length ≤ 100000) : Ideal.Spec Tryz.prog 28 [.sl false 6 (recsOf l), .sl false 6 (recsOf l)] (.bool true) none := by
  refine Ideal.Spec.of_TD (n := 26) (fn := Tryz.f28) rfl rfl rfl rfl rfl rfl rfl fun w ok => ?_
  refine T.sregD 26 [0, 1, 4, 5, 10, 14, 25] fun Kr hKr => ?_
  simp only [go_sem]
  (repeat (refine ⟨by (first | exact True.intro | omega | rfl | (simp; done) | (simp; omega)), ?_⟩)); try (refine hKr _ ?_; clear hKr Kr)
  refine T.seqK fun K93 hK93 => ?_
  refine T.sregD 26 [0, 1, 4, 5, 10, 14, 25] fun Kr hKr => ?_
  simp only [go_sem]
  (repeat (refine ⟨by (first | exact True.intro | omega | rfl | (simp; done) | (simp; omega)), ?_⟩)); try (refine hKr _ ?_; clear hKr Kr)
  refine T.condTD rfl rfl (fun hb => ?_) (fun hb => ?_) <;> try simp at hb
  refine T.skip ?_
  refine hK93 _ ?_
  refine T.seqK fun K94 hK94 => ?_
  refine T.sregD 26 [0, 1, 4, 5, 10, 14, 25] fun Kr hKr => ?_
  simp only [go_sem]
  (repeat (refine ⟨by (first | exact True.intro | omega | rfl | (simp; done) | (simp; omega)), ?_⟩)); try (refine hKr _ ?_; clear hKr Kr)
  refine T.bloop (fun i : Nat => ⟨dense 26 [(0, .sl false 6 (recsOf l)), (1, .sl false 6 (recsOf l)), (5, .int .i64 i)], []⟩) (fun i => i ≤ l.length) (fun i => l.length - i) 0 (by simp) ?_ fun i hi => ?_
  · refine Le.fitS (by (repeat (first | exact DFit.nil | refine DFit.cons (by first | rfl | (simp [slook]; done) | (simp [slook]; omega)) ?_))) (by (repeat (first | exact True.intro | refine And.intro (by first | rfl | (simp [look]; done)) ?_)))
  refine T.seqK fun K95 hK95 => ?_
  refine T.sregD 26 [0, 1, 4, 5, 10, 14, 25] fun Kr hKr => ?_
  simp only [go_sem]
  (repeat (refine ⟨by (first | exact True.intro | omega | rfl | (simp; done) | (simp; omega)), ?_⟩)); try (refine hKr _ ?_; clear hKr Kr)
  refine T.condFD rfl rfl (fun hb => ?_) (fun hb => ?_) <;> simp at hb
  · -- no: exit
    refine T.exit ?_
    simp only [if_true]
    refine hK94 _ ?_
    refine T.sregD 26 [0, 1, 4, 5, 10, 14, 25] fun Kr hKr => ?_
    simp only [go_sem]
    (repeat (refine ⟨by (first | exact True.intro | omega | rfl | (simp; done) | (simp; omega)), ?_⟩)); try (refine hKr _ ?_; clear hKr Kr)
    refine T.ret (Fin.dataD rfl rfl rfl)
  refine T.skip ?_
  refine hK95 _ ?_
  refine T.seqK fun K96 hK96 => ?_
  refine T.block ?_
  refine T.sdrawD 26 [0, 1, 4, 5, 10, 14, 25] (.take 0 (.take 1 (.take 2 (.take 3 (.take 4 (.take 5 (.take 6 (.take 7 (.take 8 .done))))))))) [] rfl (by decide +kernel) (by decide +kernel) fun Kr hKr => ?_
  simp only [go_sem, hb]
  (repeat (refine ⟨by (first | exact True.intro | omega | rfl | (simp; done) | (simp; omega)), ?_⟩)); try (refine hKr _ ?_; clear hKr Kr)
  refine T.condTD rfl rfl (fun hc => ?_) (fun hc => ?_) <;> try simp at hc
  refine T.skip ?_
  refine hK96 _ ?_
  refine T.regD 26 [0, 1, 4, 5, 10, 14, 25] fun Kr hKr => ?_
  simp only [go_sem]
  (repeat (refine ⟨by (first | exact True.intro | omega | rfl | (simp; done) | (simp; omega)), ?_⟩)); try (refine hKr _ ?_; clear hKr Kr)
  refine ⟨i + 1, ?_, ?_, Le.fitS (by (repeat (first | exact DFit.nil | refine DFit.cons (by first | rfl | (simp [slook]; done) | (simp [slook]; omega)) ?_))) ?_⟩
  · omega
  · omega
  · (repeat (first | exact True.intro | refine And.intro (by first | rfl | (simp [look]; done)) ?_))
theorem intsOf_cons (a : Int) (l : List Int) : intsOf (a :: l) = .int .i64 a :: intsOf l := rfl
theorem l8_lit {l : List Int} (h : l.length = 8) : ∃ a0 a1 a2 a3 a4 a5 a6 a7, l = [a0, a1, a2, a3, a4, a5, a6, a7] := by
  match l, h with
  | [a0, a1, a2, a3, a4, a5, a6, a7], _ => exact ⟨a0, a1, a2, a3, a4, a5, a6, a7, rfl⟩
theorem Same_spec (u : Usr) (h8 : u.l.length = 8) (hr : u.r.length ≤ 100000) (hol : u.o.length ≤ 100000) : Ideal.Spec Tryz.prog 7 [usrA u, usrA u] (.bool true) none := by
  obtain ⟨r, o, l⟩ := u
  obtain ⟨a0, a1, a2, a3, a4, a5, a6, a7, rfl⟩ := l8_lit h8
  have s1 := SameR_spec r hr
  clear h8
  simp only at hol
  simp only [usrA, intsOf_cons, intsOf_nil]
  refine Ideal.Spec.of_TD (n := 46) (fn := Tryz.f7) rfl rfl rfl rfl rfl rfl rfl fun w ok => ?_
  refine T.sregD 46 [0, 1, 2, 3, 4, 5, 27, 32, 45] fun Kr hKr => ?_
  simp only [go_sem, intsOf_cons]
  (repeat (refine ⟨by (first | exact True.intro | omega | rfl | (simp; done) | (simp; omega)), ?_⟩)); try (refine hKr _ ?_; clear hKr Kr)
  refine T.seqK fun K59 hK59 => ?_
  refine T.sregD 46 [0, 1, 2, 3, 4, 5, 27, 32, 45] fun Kr hKr => ?_
  simp only [go_sem, intsOf_cons]
  (repeat (refine ⟨by (first | exact True.intro | omega | rfl | (simp; done) | (simp; omega)), ?_⟩)); try (refine hKr _ ?_; clear hKr Kr)
  refine CallK.data (fun _ => Spec.args (s1) (by (first | exact ArgsLe.refl | (repeat (first | exact True.intro | refine And.intro (by first | exact AvLe.refl | exact AvLe.loose | exact AvLe.nil | exact AvLe.nilT | exact AvLe.slk | (refine AvLe.agg ?_; exact ArgsLe.refl) | (refine AvLe.agg ?_; (repeat (first | exact True.intro | refine And.intro (by first | exact AvLe.refl | exact AvLe.loose | exact AvLe.nil | exact AvLe.nilT | exact AvLe.slk) ?_)))) ?_))))) rfl ?_
  simp only [go_sem]
  (repeat (refine ⟨by (first | exact True.intro | omega | rfl | (simp; done) | (simp; omega)), ?_⟩)); try (refine hKr _ ?_; clear hKr Kr)
  refine T.condTD rfl rfl (fun hb => ?_) (fun hb => ?_) <;> try simp at hb
  refine T.skip ?_
  refine hK59 _ ?_
  refine T.seqK fun K60 hK60 => ?_
  refine T.sregD 46 [0, 1, 2, 3, 4, 5, 27, 32, 45] fun Kr hKr => ?_
  simp only [go_sem]
  (repeat (refine ⟨by (first | exact True.intro | omega | rfl | (simp; done) | (simp; omega)), ?_⟩)); try (refine hKr _ ?_; clear hKr Kr)
  refine T.bloop (fun i : Nat => ⟨dense 46 [(2, .op 2 0 0), (3, .op 3 0 0), (5, .int .i64 i)], [(3, ⟨10, 29, true, [.agg [.sl false 6 (recsOf r), .sl false 7 (ordsOf o), .int .i64 a0, .int .i64 a1, .int .i64 a2, .int .i64 a3, .int .i64 a4, .int .i64 a5, .int .i64 a6, .int .i64 a7]]⟩), (2, ⟨10, 29, true, [.agg [.sl false 6 (recsOf r), .sl false 7 (ordsOf o), .int .i64 a0, .int .i64 a1, .int .i64 a2, .int .i64 a3, .int .i64 a4, .int .i64 a5, .int .i64 a6, .int .i64 a7]]⟩)]⟩) (fun i => i ≤ o.length) (fun i => o.length - i) 0 (by simp) ?_ fun i hi => ?_
  · refine Le.fitS (by (repeat (first | exact DFit.nil | refine DFit.cons (by first | rfl | (simp [slook]; done) | (simp [slook]; omega)) ?_))) (by (repeat (first | exact True.intro | refine And.intro (by first | rfl | (simp [look]; done)) ?_)))
  refine T.seqK fun K61 hK61 => ?_
  refine T.sregD 46 [0, 1, 2, 3, 4, 5, 27, 32, 45] fun Kr hKr => ?_
  simp only [go_sem]
  (repeat (refine ⟨by (first | exact True.intro | omega | rfl | (simp; done) | (simp; omega)), ?_⟩)); try (refine hKr _ ?_; clear hKr Kr)
  refine T.condFD rfl rfl (fun hb => ?_) (fun hb => ?_) <;> simp at hb
  · -- no: exit
    refine T.exit ?_
    simp only [if_true]
    refine hK60 _ ?_
    refine T.sregD 46 [0, 1, 2, 3, 4, 5, 27, 32, 45] fun Kr hKr => ?_
    simp only [go_sem]
    (repeat (refine ⟨by (first | exact True.intro | omega | rfl | (simp; done) | (simp; omega)), ?_⟩)); try (refine hKr _ ?_; clear hKr Kr)
    refine T.ret (Fin.dataD rfl rfl rfl)
  refine T.skip ?_
  refine hK61 _ ?_
  refine T.seqK fun K62 hK62 => ?_
  refine T.block ?_
  refine T.sdrawD 46 [0, 1, 2, 3, 4, 5, 27, 32, 45] (.take 0 (.take 1 (.take 2 (.take 3 (.take 4 (.take 5 (.take 6 (.take 7 (.take 8 (.take 9 (.take 10 .done))))))))))) [2, 3] rfl (by decide +kernel) (by decide +kernel) fun Kr hKr => ?_
  simp only [go_sem, hb]
  (repeat (refine ⟨by (first | exact True.intro | omega | rfl | (simp; done) | (simp; omega)), ?_⟩)); try (refine hKr _ ?_; clear hKr Kr)
  refine T.condTD rfl rfl (fun hc => ?_) (fun hc => ?_) <;> try simp at hc
  refine T.skip ?_
  refine hK62 _ ?_
  refine T.regD 46 [0, 1, 2, 3, 4, 5, 27, 32, 45] fun Kr hKr => ?_
  simp only [go_sem]
  (repeat (refine ⟨by (first | exact True.intro | omega | rfl | (simp; done) | (simp; omega)), ?_⟩)); try (refine hKr _ ?_; clear hKr Kr)
  refine ⟨i + 1, ?_, ?_, Le.fitS (by (repeat (first | exact DFit.nil | refine DFit.cons (by first | rfl | (simp [slook]; done) | (simp [slook]; omega)) ?_))) ?_⟩
  · omega
  · omega
  · (repeat (first | exact True.intro | refine And.intro (by first | rfl | (simp [look]; done)) ?_))
@[go_sem] def rawA (x : Raw) : AV := .agg [.int .u8 x.kind, .int .u8 x.dev, .int .u8 x.ep, .int .u8 x.wd, .int .u8 x.app, .int .u8 x.n]
theorem Record24_spec (x : Raw) (h : OkRaw x) : Ideal.Spec Tryz.prog 81 [rawA x] (recA (recOf x)) none := by
  have s1 := Word24_spec x.wd h.wd
  have e1 : remv x.dev 3 = x.dev % 3 := remv_nn h.dev.1
  have e2 : remv x.ep 10 = x.ep % 10 := remv_nn h.ep.1
  have e3 : remv x.app 3 = x.app % 3 := remv_nn h.app.1
  have e4 : remv x.n 9 = x.n % 9 := remv_nn h.n.1
  obtain ⟨k1, k2, k3, k4, k5, k6⟩ := h
  refine Ideal.Spec.of_CD (n := 24) (fn := Tryz.f81) rfl rfl rfl rfl rfl rfl rfl fun w ok => ?_
  refine T.post [.tmp 2] ?_
  refine T.sregD 24 [0, 1, 2] fun Kr hKr => ?_
  simp only [go_sem]
  (repeat (refine ⟨by (first | exact True.intro | omega | rfl | (simp; done) | (simp; omega)), ?_⟩)); try (refine hKr _ ?_; clear hKr Kr)
  refine T.sdrawD 24 [0, 1, 2] (.take 0 (.take 1 (.take 2 (.take 3 (.take 4 (.take 5 (.take 6 (.take 7 (.take 8 (.take 9 (.take 11 (.take 12 (.take 13 (.take 14 (.take 15 (.take 16 (.take 17 (.take 18 (.take 19 (.one 10 (.take 20 (.one 21 .done)))))))))))))))))))))) [1] rfl (by decide +kernel) (by decide +kernel) fun Kr hKr => ?_
  simp only [go_sem, e1, e2, e3, e4]
  (repeat (refine ⟨by (first | exact True.intro | omega | rfl | (simp; done) | (simp; omega)), ?_⟩)); try (refine hKr _ ?_; clear hKr Kr)
  refine CallK.data (fun _ => Spec.args (s1) (by (first | exact ArgsLe.refl | (repeat (first | exact True.intro | refine And.intro (by first | exact AvLe.refl | exact AvLe.loose | exact AvLe.nil | exact AvLe.nilT | exact AvLe.slk | (refine AvLe.agg ?_; exact ArgsLe.refl) | (refine AvLe.agg ?_; (repeat (first | exact True.intro | refine And.intro (by first | exact AvLe.refl | exact AvLe.loose | exact AvLe.nil | exact AvLe.nilT | exact AvLe.slk) ?_)))) ?_))))) rfl ?_
  simp only [go_sem]
  (repeat (refine ⟨by (first | exact True.intro | omega | rfl | (simp; done) | (simp; omega)), ?_⟩)); try (refine hKr _ ?_; clear hKr Kr)
  refine T.ret ?_
  simp only [go_sem]
  exact ⟨ResCellD rfl rfl rfl rfl (by simp only [go_sem]) (by simp only [go_sem, recOf]) rfl, trivial⟩
theorem IsOrder24_spec (x : Raw) (h : OkRaw x) : Ideal.Spec Tryz.prog 77 [rawA x] (.bool (isOrdB x)) none := by
  have e1 : remv x.kind 3 = x.kind % 3 := remv_nn h.kind.1
  refine Ideal.Spec.of_TD (n := 7) (fn := Tryz.f77) rfl rfl rfl rfl rfl rfl rfl fun w ok => ?_
  refine T.sregD 7 [0, 1, 2] fun Kr hKr => ?_
  simp only [go_sem]
  (repeat (refine ⟨by (first | exact True.intro | omega | rfl | (simp; done) | (simp; omega)), ?_⟩)); try (refine hKr _ ?_; clear hKr Kr)
  refine T.sregD 7 [0, 1, 2] fun Kr hKr => ?_
  simp only [go_sem, e1]
  (repeat (refine ⟨by (first | exact True.intro | omega | rfl | (simp; done) | (simp; omega)), ?_⟩)); try (refine hKr _ ?_; clear hKr Kr)
  refine T.ret (Fin.dataD rfl rfl rfl)
end Go.Proofs
