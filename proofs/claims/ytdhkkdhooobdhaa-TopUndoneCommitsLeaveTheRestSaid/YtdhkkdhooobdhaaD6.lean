/- Documents: contracts of the tests for validity and equality, of the search by number and of the reference's text of a mark. -/
import Derived.Test.YtdhkkdhooobdhaaD5
set_option linter.unusedVariables false
set_option linter.unusedSimpArgs false
namespace Go.Proofs
open Go Go.Ideal
set_option maxRecDepth 8000
set_option maxHeartbeats 4000000

/-! ### Valid documents -/
/-! ### Equal documents -/
theorem Same_spec (a b : Doc) (ha : a.m.length ≤ 100000) (hb : b.m.length ≤ 100000) (hs : a.s.length ≤ 100000) (hs2 : b.s.length ≤ 100000) : Ideal.Spec Try.prog 10 [docA a, docA b] (.bool (decide (a = b))) none := by
  have ext : ∀ x y : Doc, x = y ↔ x.s = y.s ∧ x.m = y.m := by intro x y; cases x; cases y; simp
  refine Ideal.Spec.of_TD (n := 38) (fn := Try.f10) rfl rfl rfl rfl rfl rfl rfl fun w ok => ?_
  refine T.sregD 38 [0, 1, 2, 3, 4, 5, 19, 24, 37] fun Kr hKr => ?_
  simp only [go_sem]
  (repeat (refine ⟨by (first | exact True.intro | omega | rfl | (simp; done) | (simp; omega)), ?_⟩)); try (refine hKr _ ?_; clear hKr Kr)
  refine T.seqK fun K1 hK1 => ?_
  refine T.sregD 38 [0, 1, 2, 3, 4, 5, 19, 24, 37] fun Kr hKr => ?_
  simp only [go_sem, cond_or]
  (repeat (refine ⟨by (first | exact True.intro | omega | rfl | (simp; done) | (simp; omega)), ?_⟩)); try (refine hKr _ ?_; clear hKr Kr)
  refine T.condTD rfl rfl (fun hc => ?_) (fun hc => ?_) <;> simp at hc
  · have : ¬ a = b := by
      intro e; subst e; simp at hc
    refine T.sregD 38 [0, 1, 2, 3, 4, 5, 19, 24, 37] fun Kr hKr => ?_
    simp only [go_sem]
    (repeat (refine ⟨by (first | exact True.intro | omega | rfl | (simp; done) | (simp; omega)), ?_⟩)); try (refine hKr _ ?_; clear hKr Kr)
    refine T.ret (Fin.dataD (by simp [slook, this]) rfl rfl)
  obtain ⟨hc1, hc2⟩ := hc
  have hle : a.m.length = b.m.length := by omega
  refine T.skip ?_
  refine hK1 _ ?_
  refine T.seqK fun K2 hK2 => ?_
  refine T.sregD 38 [0, 1, 2, 3, 4, 5, 19, 24, 37] fun Kr hKr => ?_
  simp only [go_sem]
  (repeat (refine ⟨by (first | exact True.intro | omega | rfl | (simp; done) | (simp; omega)), ?_⟩)); try (refine hKr _ ?_; clear hKr Kr)
  refine T.bloop (fun i : Nat => ⟨dense 38 [(2, .op 2 0 0), (3, .op 3 0 0), (5, .int .i64 i)], [(3, ⟨2, 26, true, [docA b]⟩), (2, ⟨2, 26, true, [docA a]⟩)]⟩) (fun i => i ≤ a.m.length ∧ a.m.take i = b.m.take i) (fun i => a.m.length - i) 0 (by simp) ?_ fun i hi => ?_
  · refine Le.fitS (by (repeat (first | exact DFit.nil | refine DFit.cons (by first | rfl | (simp [slook]; done) | (simp [slook]; omega)) ?_))) (by (repeat (first | exact True.intro | refine And.intro (by first | rfl | (simp [look]; done)) ?_)))
  obtain ⟨hi, hn⟩ := hi
  refine T.seqK fun K3 hK3 => ?_
  refine T.sregD 38 [0, 1, 2, 3, 4, 5, 19, 24, 37] fun Kr hKr => ?_
  simp only [go_sem]
  (repeat (refine ⟨by (first | exact True.intro | omega | rfl | (simp; done) | (simp; omega)), ?_⟩)); try (refine hKr _ ?_; clear hKr Kr)
  refine T.condFD rfl rfl (fun hd => ?_) (fun hd => ?_) <;> simp at hd
  · -- no: exit
    refine T.exit ?_
    simp only [if_true]
    refine hK2 _ ?_
    refine T.sregD 38 [0, 1, 2, 3, 4, 5, 19, 24, 37] fun Kr hKr => ?_
    simp only [go_sem]
    (repeat (refine ⟨by (first | exact True.intro | omega | rfl | (simp; done) | (simp; omega)), ?_⟩)); try (refine hKr _ ?_; clear hKr Kr)
    have : i = a.m.length := by omega
    subst this
    rw [List.take_length, hle, List.take_length] at hn
    have he : a = b := (ext a b).2 ⟨hc1, hn⟩
    refine T.ret (Fin.dataD (by simp [slook, he]) rfl rfl)
  refine T.skip ?_
  refine hK3 _ ?_
  refine T.seqK fun K4 hK4 => ?_
  refine T.block ?_
  have hd2 : i < b.m.length := by omega
  refine T.sdrawD 38 [0, 1, 2, 3, 4, 5, 19, 24, 37] (.take 0 (.take 1 (.take 2 (.take 3 (.take 4 (.take 5 (.take 6 (.take 7 (.take 8 (.take 9 (.take 10 .done))))))))))) [2, 3] rfl (by decide +kernel) (by decide +kernel) fun Kr hKr => ?_
  simp only [go_sem, hd, hd2]
  (repeat (refine ⟨by (first | exact True.intro | omega | rfl | (simp; done) | (simp; omega)), ?_⟩)); try (refine hKr _ ?_; clear hKr Kr)
  refine T.condTD rfl rfl (fun hx => ?_) (fun hx => ?_) <;> simp [-List.getD_eq_getElem?_getD] at hx
  · -- yes
    refine T.sregD 38 [0, 1, 2, 3, 4, 5, 19, 24, 37] fun Kr hKr => ?_
    simp only [go_sem]
    (repeat (refine ⟨by (first | exact True.intro | omega | rfl | (simp; done) | (simp; omega)), ?_⟩)); try (refine hKr _ ?_; clear hKr Kr)
    have : ¬ a = b := fun e => by subst e; simp at hx
    refine T.ret (Fin.dataD (by simp [slook, this]) rfl rfl)
  refine T.skip ?_
  refine hK4 _ ?_
  refine T.regD 38 [0, 1, 2, 3, 4, 5, 19, 24, 37] fun Kr hKr => ?_
  simp only [go_sem]
  (repeat (refine ⟨by (first | exact True.intro | omega | rfl | (simp; done) | (simp; omega)), ?_⟩)); try (refine hKr _ ?_; clear hKr Kr)
  refine ⟨i + 1, ?_, ?_, Le.fitS (by (repeat (first | exact DFit.nil | refine DFit.cons (by first | rfl | (simp [slook]; done) | (simp [slook]; omega)) ?_))) ?_⟩
  · refine ⟨by omega, ?_⟩
    rw [take_succ_d hd, take_succ_d hd2, hn]
    have : a.m.getD i default = b.m.getD i default := by
      generalize a.m.getD i default = q at hx ⊢
      generalize b.m.getD i default = q' at hx ⊢
      cases q; cases q'; simpa using hx
    rw [this]
  · omega
  · (repeat (first | exact True.intro | refine And.intro (by first | rfl | (simp [look]; done)) ?_))

/-! ### Searching by number -/
def fndF (l : List Mark) (id : Int) : Int := match l.findIdx? (fun m => decide (m.id = id)) with | some i => i | none => -1
theorem findIdx_none {l : List Mark} {id : Int} (h : (l.take l.length).any (fun m => decide (m.id = id)) = false) : l.findIdx? (fun m => decide (m.id = id)) = none := by
  rw [List.take_length] at h
  rw [List.findIdx?_eq_none_iff]; intro x hx
  simpa using List.any_eq_false.1 h x hx
theorem findIdx_at {l : List Mark} {id : Int} {i : Nat} (hi : i < l.length) (hn : (l.take i).any (fun m => decide (m.id = id)) = false) (h : (l.getD i default).id = id) : l.findIdx? (fun m => decide (m.id = id)) = some i := by
  rw [List.findIdx?_eq_some_iff_getElem]
  refine ⟨hi, by simpa [List.getD, hi] using h, fun j hj => ?_⟩
  have hjl : j < l.length := by omega
  have := List.any_eq_false.1 hn l[j] (by
    rw [List.mem_take_iff_getElem]; exact ⟨j, by omega, rfl⟩)
  simpa using this
theorem Find_spec (d : Doc) (id : Int) (hl : d.m.length ≤ 100000) : Ideal.Spec Try.prog 87 [docA d, .int .i64 id] (.int .i64 (fndF d.m id)) none := by
  refine Ideal.Spec.of_TD (n := 22) (fn := Try.f87) rfl rfl rfl rfl rfl rfl rfl fun w ok => ?_
  refine T.sregD 22 [0, 1, 2, 4, 5, 10, 20] fun Kr hKr => ?_
  simp only [go_sem]
  (repeat (refine ⟨by (first | exact True.intro | omega | rfl | (simp; done) | (simp; omega)), ?_⟩)); try (refine hKr _ ?_; clear hKr Kr)
  refine T.seqK fun K1 hK1 => ?_
  refine T.sregD 22 [0, 1, 2, 4, 5, 10, 20] fun Kr hKr => ?_
  simp only [go_sem]
  (repeat (refine ⟨by (first | exact True.intro | omega | rfl | (simp; done) | (simp; omega)), ?_⟩)); try (refine hKr _ ?_; clear hKr Kr)
  refine T.bloop (fun i : Nat => ⟨dense 22 [(1, .int .i64 id), (2, .op 2 0 0), (5, .int .i64 i)], [(2, ⟨2, 26, true, [docA d]⟩)]⟩) (fun i => i ≤ d.m.length ∧ (d.m.take i).any (fun m => decide (m.id = id)) = false) (fun i => d.m.length - i) 0 (by simp) ?_ fun i hi => ?_
  · refine Le.fitS (by (repeat (first | exact DFit.nil | refine DFit.cons (by first | rfl | (simp [slook]; done) | (simp [slook]; omega)) ?_))) (by (repeat (first | exact True.intro | refine And.intro (by first | rfl | (simp [look]; done)) ?_)))
  obtain ⟨hi, hn⟩ := hi
  refine T.seqK fun K2 hK2 => ?_
  refine T.sregD 22 [0, 1, 2, 4, 5, 10, 20] fun Kr hKr => ?_
  simp only [go_sem]
  (repeat (refine ⟨by (first | exact True.intro | omega | rfl | (simp; done) | (simp; omega)), ?_⟩)); try (refine hKr _ ?_; clear hKr Kr)
  refine T.condFD rfl rfl (fun hb => ?_) (fun hb => ?_) <;> simp at hb
  · -- no: exit
    refine T.exit ?_
    simp only [if_true]
    refine hK1 _ ?_
    have : i = d.m.length := by omega
    subst this
    have ee : fndF d.m id = -1 := by simp only [fndF, findIdx_none hn]
    refine T.sregD 22 [0, 1, 2, 4, 5, 10, 20] fun Kr hKr => ?_
    simp only [go_sem]
    (repeat (refine ⟨by (first | exact True.intro | omega | rfl | (simp; done) | (simp; omega)), ?_⟩)); try (refine hKr _ ?_; clear hKr Kr)
    refine T.ret (Fin.dataD (by rw [ee]; rfl) rfl rfl)
  refine T.skip ?_
  refine hK2 _ ?_
  refine T.seqK fun K3 hK3 => ?_
  refine T.block ?_
  refine T.sregD 22 [0, 1, 2, 4, 5, 10, 20] fun Kr hKr => ?_
  simp only [go_sem, hb]
  (repeat (refine ⟨by (first | exact True.intro | omega | rfl | (simp; done) | (simp; omega)), ?_⟩)); try (refine hKr _ ?_; clear hKr Kr)
  refine T.condTD rfl rfl (fun hc => ?_) (fun hc => ?_) <;> simp only [decide_eq_true_eq, decide_eq_false_iff_not] at hc
  · -- yes
    have ee : fndF d.m id = i := by simp only [fndF, findIdx_at hb hn hc]
    refine T.sregD 22 [0, 1, 2, 4, 5, 10, 20] fun Kr hKr => ?_
    simp only [go_sem]
    (repeat (refine ⟨by (first | exact True.intro | omega | rfl | (simp; done) | (simp; omega)), ?_⟩)); try (refine hKr _ ?_; clear hKr Kr)
    refine T.ret (Fin.dataD (by rw [ee]; rfl) rfl rfl)
  refine T.skip ?_
  refine hK3 _ ?_
  refine T.regD 22 [0, 1, 2, 4, 5, 10, 20] fun Kr hKr => ?_
  simp only [go_sem]
  (repeat (refine ⟨by (first | exact True.intro | omega | rfl | (simp; done) | (simp; omega)), ?_⟩)); try (refine hKr _ ?_; clear hKr Kr)
  refine ⟨i + 1, ?_, ?_, Le.fitS (by (repeat (first | exact DFit.nil | refine DFit.cons (by first | rfl | (simp [slook]; done) | (simp [slook]; omega)) ?_))) ?_⟩
  · refine ⟨by omega, ?_⟩
    rw [take_succ_d hb, List.any_append, hn]
    simp only [List.any_cons, List.any_nil, Bool.or_false, Bool.false_or, decide_eq_false_iff_not]
    exact hc
  · omega
  · (repeat (first | exact True.intro | refine And.intro (by first | rfl | (simp [look]; done)) ?_))
end Go.Proofs
