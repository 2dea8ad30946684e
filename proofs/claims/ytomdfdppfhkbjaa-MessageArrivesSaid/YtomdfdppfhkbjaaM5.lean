/- Messages: comparisons; states; a step of the program and of the reference. Written by mkm5.py. -/
import Derived.Test.YtomdfdppfhkbjaaM4
set_option linter.unusedVariables false
set_option linter.unusedSimpArgs false
namespace Go.Proofs
open Go Go.Ideal
set_option maxRecDepth 8000
set_option maxHeartbeats 4000000

theorem IntsR_spec (a b : List Int) (ha : a.length ≤ 100000) (hb : b.length ≤ 100000) : Ideal.Spec Try.prog 29 [.sl false 1 (intsOf a), .sl false 1 (intsOf b)] (.bool (decide (a = b))) none := by
  refine Ideal.Spec.of_TD (n := 26) (fn := Try.f29) rfl rfl rfl rfl rfl rfl rfl fun w ok => ?_
  refine T.sregD 26 [0, 1, 4, 5, 10, 14, 25] fun Kr hKr => ?_
  simp only [go_sem]
  (repeat (refine ⟨by (first | exact True.intro | omega | rfl | (simp; done) | (simp; omega)), ?_⟩)); try (refine hKr _ ?_; clear hKr Kr)
  refine T.seqK fun K1 hK1 => ?_
  refine T.sregD 26 [0, 1, 4, 5, 10, 14, 25] fun Kr hKr => ?_
  simp only [go_sem]
  (repeat (refine ⟨by (first | exact True.intro | omega | rfl | (simp; done) | (simp; omega)), ?_⟩)); try (refine hKr _ ?_; clear hKr Kr)
  refine T.condTD rfl rfl (fun hc => ?_) (fun hc => ?_) <;> simp at hc
  · have : ¬ a = b := by intro e; subst e; simp at hc
    refine T.sregD 26 [0, 1, 4, 5, 10, 14, 25] fun Kr hKr => ?_
    simp only [go_sem]
    (repeat (refine ⟨by (first | exact True.intro | omega | rfl | (simp; done) | (simp; omega)), ?_⟩)); try (refine hKr _ ?_; clear hKr Kr)
    refine T.ret (Fin.dataD (by simp [slook, this]) rfl rfl)
  have hle : a.length = b.length := by omega
  refine T.skip ?_
  refine hK1 _ ?_
  refine T.seqK fun K2 hK2 => ?_
  refine T.sregD 26 [0, 1, 4, 5, 10, 14, 25] fun Kr hKr => ?_
  simp only [go_sem]
  (repeat (refine ⟨by (first | exact True.intro | omega | rfl | (simp; done) | (simp; omega)), ?_⟩)); try (refine hKr _ ?_; clear hKr Kr)
  refine T.bloop (fun i : Nat => ⟨dense 26 [(0, .sl false 1 (intsOf a)), (1, .sl false 1 (intsOf b)), (5, .int .i64 i)], []⟩) (fun i => i ≤ a.length ∧ a.take i = b.take i) (fun i => a.length - i) 0 (by simp) ?_ fun i hi => ?_
  · refine Le.fitS (by (repeat (first | exact DFit.nil | refine DFit.cons (by first | rfl | (simp [slook]; done) | (simp [slook]; omega)) ?_))) (by (repeat (first | exact True.intro | refine And.intro (by first | rfl | (simp [look]; done)) ?_)))
  obtain ⟨hi, hn⟩ := hi
  refine T.seqK fun K3 hK3 => ?_
  refine T.sregD 26 [0, 1, 4, 5, 10, 14, 25] fun Kr hKr => ?_
  simp only [go_sem]
  (repeat (refine ⟨by (first | exact True.intro | omega | rfl | (simp; done) | (simp; omega)), ?_⟩)); try (refine hKr _ ?_; clear hKr Kr)
  refine T.condFD rfl rfl (fun hd => ?_) (fun hd => ?_) <;> simp at hd
  · -- no: exit
    refine T.exit ?_
    simp only [if_true]
    refine hK2 _ ?_
    refine T.sregD 26 [0, 1, 4, 5, 10, 14, 25] fun Kr hKr => ?_
    simp only [go_sem]
    (repeat (refine ⟨by (first | exact True.intro | omega | rfl | (simp; done) | (simp; omega)), ?_⟩)); try (refine hKr _ ?_; clear hKr Kr)
    have : i = a.length := by omega
    subst this
    rw [List.take_length, hle, List.take_length] at hn
    refine T.ret (Fin.dataD (by simp [slook, hn]) rfl rfl)
  refine T.skip ?_
  refine hK3 _ ?_
  refine T.seqK fun K4 hK4 => ?_
  refine T.block ?_
  have hd2 : i < b.length := by omega
  refine T.sdrawD 26 [0, 1, 4, 5, 10, 14, 25] (.take 0 (.take 1 (.take 2 (.take 3 (.take 4 (.take 5 (.take 6 (.take 7 (.take 8 .done))))))))) [] rfl (by decide +kernel) (by decide +kernel) fun Kr hKr => ?_
  simp only [go_sem, hd, hd2]
  (repeat (refine ⟨by (first | exact True.intro | omega | rfl | (simp; done) | (simp; omega)), ?_⟩)); try (refine hKr _ ?_; clear hKr Kr)
  refine T.condTD rfl rfl (fun hx => ?_) (fun hx => ?_) <;> simp [-List.getD_eq_getElem?_getD] at hx
  · -- yes
    refine T.sregD 26 [0, 1, 4, 5, 10, 14, 25] fun Kr hKr => ?_
    simp only [go_sem]
    (repeat (refine ⟨by (first | exact True.intro | omega | rfl | (simp; done) | (simp; omega)), ?_⟩)); try (refine hKr _ ?_; clear hKr Kr)
    have : ¬ a = b := fun e => by subst e; simp at hx
    refine T.ret (Fin.dataD (by simp [slook, this]) rfl rfl)
  refine T.skip ?_
  refine hK4 _ ?_
  refine T.regD 26 [0, 1, 4, 5, 10, 14, 25] fun Kr hKr => ?_
  simp only [go_sem]
  (repeat (refine ⟨by (first | exact True.intro | omega | rfl | (simp; done) | (simp; omega)), ?_⟩)); try (refine hKr _ ?_; clear hKr Kr)
  refine ⟨i + 1, ?_, ?_, Le.fitS (by (repeat (first | exact DFit.nil | refine DFit.cons (by first | rfl | (simp [slook]; done) | (simp [slook]; omega)) ?_))) ?_⟩
  · refine ⟨by omega, ?_⟩
    rw [take_succ_d hd, take_succ_d hd2, hn]
    have : a.getD i default = b.getD i default := by
      generalize a.getD i default = q at hx ⊢
      generalize b.getD i default = q' at hx ⊢
      exact hx
    rw [this]
  · omega
  · (repeat (first | exact True.intro | refine And.intro (by first | rfl | (simp [look]; done)) ?_))
theorem SamePk_spec (a b : List Packet) (ha : a.length ≤ 100000) (hb : b.length ≤ 100000) : Ideal.Spec Try.prog 18 [.sl false 4 (pksOf a), .sl false 4 (pksOf b)] (.bool (decide (a = b))) none := by
  refine Ideal.Spec.of_TD (n := 26) (fn := Try.f18) rfl rfl rfl rfl rfl rfl rfl fun w ok => ?_
  refine T.sregD 26 [0, 1, 4, 5, 10, 14, 25] fun Kr hKr => ?_
  simp only [go_sem]
  (repeat (refine ⟨by (first | exact True.intro | omega | rfl | (simp; done) | (simp; omega)), ?_⟩)); try (refine hKr _ ?_; clear hKr Kr)
  refine T.seqK fun K1 hK1 => ?_
  refine T.sregD 26 [0, 1, 4, 5, 10, 14, 25] fun Kr hKr => ?_
  simp only [go_sem]
  (repeat (refine ⟨by (first | exact True.intro | omega | rfl | (simp; done) | (simp; omega)), ?_⟩)); try (refine hKr _ ?_; clear hKr Kr)
  refine T.condTD rfl rfl (fun hc => ?_) (fun hc => ?_) <;> simp at hc
  · have : ¬ a = b := by intro e; subst e; simp at hc
    refine T.sregD 26 [0, 1, 4, 5, 10, 14, 25] fun Kr hKr => ?_
    simp only [go_sem]
    (repeat (refine ⟨by (first | exact True.intro | omega | rfl | (simp; done) | (simp; omega)), ?_⟩)); try (refine hKr _ ?_; clear hKr Kr)
    refine T.ret (Fin.dataD (by simp [slook, this]) rfl rfl)
  have hle : a.length = b.length := by omega
  refine T.skip ?_
  refine hK1 _ ?_
  refine T.seqK fun K2 hK2 => ?_
  refine T.sregD 26 [0, 1, 4, 5, 10, 14, 25] fun Kr hKr => ?_
  simp only [go_sem]
  (repeat (refine ⟨by (first | exact True.intro | omega | rfl | (simp; done) | (simp; omega)), ?_⟩)); try (refine hKr _ ?_; clear hKr Kr)
  refine T.bloop (fun i : Nat => ⟨dense 26 [(0, .sl false 4 (pksOf a)), (1, .sl false 4 (pksOf b)), (5, .int .i64 i)], []⟩) (fun i => i ≤ a.length ∧ a.take i = b.take i) (fun i => a.length - i) 0 (by simp) ?_ fun i hi => ?_
  · refine Le.fitS (by (repeat (first | exact DFit.nil | refine DFit.cons (by first | rfl | (simp [slook]; done) | (simp [slook]; omega)) ?_))) (by (repeat (first | exact True.intro | refine And.intro (by first | rfl | (simp [look]; done)) ?_)))
  obtain ⟨hi, hn⟩ := hi
  refine T.seqK fun K3 hK3 => ?_
  refine T.sregD 26 [0, 1, 4, 5, 10, 14, 25] fun Kr hKr => ?_
  simp only [go_sem]
  (repeat (refine ⟨by (first | exact True.intro | omega | rfl | (simp; done) | (simp; omega)), ?_⟩)); try (refine hKr _ ?_; clear hKr Kr)
  refine T.condFD rfl rfl (fun hd => ?_) (fun hd => ?_) <;> simp at hd
  · -- no: exit
    refine T.exit ?_
    simp only [if_true]
    refine hK2 _ ?_
    refine T.sregD 26 [0, 1, 4, 5, 10, 14, 25] fun Kr hKr => ?_
    simp only [go_sem]
    (repeat (refine ⟨by (first | exact True.intro | omega | rfl | (simp; done) | (simp; omega)), ?_⟩)); try (refine hKr _ ?_; clear hKr Kr)
    have : i = a.length := by omega
    subst this
    rw [List.take_length, hle, List.take_length] at hn
    refine T.ret (Fin.dataD (by simp [slook, hn]) rfl rfl)
  refine T.skip ?_
  refine hK3 _ ?_
  refine T.seqK fun K4 hK4 => ?_
  refine T.block ?_
  have hd2 : i < b.length := by omega
  refine T.sdrawD 26 [0, 1, 4, 5, 10, 14, 25] (.take 0 (.take 1 (.take 2 (.take 3 (.take 4 (.take 5 (.take 6 (.take 7 (.take 8 .done))))))))) [] rfl (by decide +kernel) (by decide +kernel) fun Kr hKr => ?_
  simp only [go_sem, hd, hd2]
  (repeat (refine ⟨by (first | exact True.intro | omega | rfl | (simp; done) | (simp; omega)), ?_⟩)); try (refine hKr _ ?_; clear hKr Kr)
  refine T.condTD rfl rfl (fun hx => ?_) (fun hx => ?_) <;> simp [-List.getD_eq_getElem?_getD] at hx
  · -- yes
    refine T.sregD 26 [0, 1, 4, 5, 10, 14, 25] fun Kr hKr => ?_
    simp only [go_sem]
    (repeat (refine ⟨by (first | exact True.intro | omega | rfl | (simp; done) | (simp; omega)), ?_⟩)); try (refine hKr _ ?_; clear hKr Kr)
    have : ¬ a = b := fun e => by subst e; simp at hx
    refine T.ret (Fin.dataD (by simp [slook, this]) rfl rfl)
  refine T.skip ?_
  refine hK4 _ ?_
  refine T.regD 26 [0, 1, 4, 5, 10, 14, 25] fun Kr hKr => ?_
  simp only [go_sem]
  (repeat (refine ⟨by (first | exact True.intro | omega | rfl | (simp; done) | (simp; omega)), ?_⟩)); try (refine hKr _ ?_; clear hKr Kr)
  refine ⟨i + 1, ?_, ?_, Le.fitS (by (repeat (first | exact DFit.nil | refine DFit.cons (by first | rfl | (simp [slook]; done) | (simp [slook]; omega)) ?_))) ?_⟩
  · refine ⟨by omega, ?_⟩
    rw [take_succ_d hd, take_succ_d hd2, hn]
    have : a.getD i default = b.getD i default := by
      generalize a.getD i default = q at hx ⊢
      generalize b.getD i default = q' at hx ⊢
      cases q; cases q'; simpa using hx
    rw [this]
  · omega
  · (repeat (first | exact True.intro | refine And.intro (by first | rfl | (simp [look]; done)) ?_))
theorem SameClient_spec (a b : Client) (ha : OkC a) (hb : OkC b) : Ideal.Spec Try.prog 17 [clA a, clA b] (.bool (decide (a = b))) none := by
  have := ha.d.len; have := ha.d.cnt; have := ha.has; have := ha.ref
  have := hb.d.len; have := hb.d.cnt; have := hb.has; have := hb.ref
  have s1 := Same_spec a.d b.d (by omega) (by omega) (by omega) (by omega)
  have s2 := IntsR_spec a.has b.has (by omega) (by omega)
  have s3 := IntsR_spec a.ref b.ref (by omega) (by omega)
  have ext : a = b ↔ a.d = b.d ∧ a.has = b.has ∧ a.ref = b.ref := by cases a; cases b; simp
  refine Ideal.Spec.of_TD (n := 24) (fn := Try.f17) rfl rfl rfl rfl rfl rfl rfl fun w ok => ?_
  refine T.sregD 24 [0, 1, 2, 3, 4] fun Kr hKr => ?_
  simp only [go_sem]
  (repeat (refine ⟨by (first | exact True.intro | omega | rfl | (simp; done) | (simp; omega)), ?_⟩)); try (refine hKr _ ?_; clear hKr Kr)
  by_cases h1 : a.d = b.d
  rotate_left
  · have h1' : decide (a.d = b.d) = false := decide_eq_false h1
    have e : decide (a = b) = false := decide_eq_false (fun h => h1 (ext.1 h).1)
    refine T.sregD 24 [0, 1, 2, 3, 4] fun Kr hKr => ?_
    simp only [go_sem]
    (repeat (refine ⟨by (first | exact True.intro | omega | rfl | (simp; done) | (simp; omega)), ?_⟩)); try (refine hKr _ ?_; clear hKr Kr)
    refine CallK.data (fun _ => Spec.args (s1) (by (first | exact ArgsLe.refl | (repeat (first | exact True.intro | refine And.intro (by first | exact AvLe.refl | exact AvLe.loose | exact AvLe.nil | exact AvLe.nilT | exact AvLe.slk | (refine AvLe.agg ?_; exact ArgsLe.refl) | (refine AvLe.agg ?_; (repeat (first | exact True.intro | refine And.intro (by first | exact AvLe.refl | exact AvLe.loose | exact AvLe.nil | exact AvLe.nilT | exact AvLe.slk) ?_)))) ?_))))) rfl ?_
    simp only [go_sem, h1']
    (repeat (refine ⟨by (first | exact True.intro | omega | rfl | (simp; done) | (simp; omega)), ?_⟩)); try (refine hKr _ ?_; clear hKr Kr)
    refine CallK.data (r := .bool true) (fun h => by cases h) rfl ?_
    simp only [go_sem]
    (repeat (refine ⟨by (first | exact True.intro | omega | rfl | (simp; done) | (simp; omega)), ?_⟩)); try (refine hKr _ ?_; clear hKr Kr)
    refine CallK.data (r := .bool true) (fun h => by cases h) rfl ?_
    simp only [go_sem]
    (repeat (refine ⟨by (first | exact True.intro | omega | rfl | (simp; done) | (simp; omega)), ?_⟩)); try (refine hKr _ ?_; clear hKr Kr)
    refine T.ret (Fin.dataD (by rw [e]; rfl) rfl rfl)
  have h1' : decide (a.d = b.d) = true := decide_eq_true h1
  by_cases h2 : a.has = b.has
  rotate_left
  · have h2' : decide (a.has = b.has) = false := decide_eq_false h2
    have e : decide (a = b) = false := decide_eq_false (fun h => h2 (ext.1 h).2.1)
    refine T.sregD 24 [0, 1, 2, 3, 4] fun Kr hKr => ?_
    simp only [go_sem]
    (repeat (refine ⟨by (first | exact True.intro | omega | rfl | (simp; done) | (simp; omega)), ?_⟩)); try (refine hKr _ ?_; clear hKr Kr)
    refine CallK.data (fun _ => Spec.args (s1) (by (first | exact ArgsLe.refl | (repeat (first | exact True.intro | refine And.intro (by first | exact AvLe.refl | exact AvLe.loose | exact AvLe.nil | exact AvLe.nilT | exact AvLe.slk | (refine AvLe.agg ?_; exact ArgsLe.refl) | (refine AvLe.agg ?_; (repeat (first | exact True.intro | refine And.intro (by first | exact AvLe.refl | exact AvLe.loose | exact AvLe.nil | exact AvLe.nilT | exact AvLe.slk) ?_)))) ?_))))) rfl ?_
    simp only [go_sem, h1']
    (repeat (refine ⟨by (first | exact True.intro | omega | rfl | (simp; done) | (simp; omega)), ?_⟩)); try (refine hKr _ ?_; clear hKr Kr)
    refine CallK.data (fun _ => Spec.args (s2) (by (first | exact ArgsLe.refl | (repeat (first | exact True.intro | refine And.intro (by first | exact AvLe.refl | exact AvLe.loose | exact AvLe.nil | exact AvLe.nilT | exact AvLe.slk | (refine AvLe.agg ?_; exact ArgsLe.refl) | (refine AvLe.agg ?_; (repeat (first | exact True.intro | refine And.intro (by first | exact AvLe.refl | exact AvLe.loose | exact AvLe.nil | exact AvLe.nilT | exact AvLe.slk) ?_)))) ?_))))) rfl ?_
    simp only [go_sem, h2']
    (repeat (refine ⟨by (first | exact True.intro | omega | rfl | (simp; done) | (simp; omega)), ?_⟩)); try (refine hKr _ ?_; clear hKr Kr)
    refine CallK.data (r := .bool true) (fun h => by cases h) rfl ?_
    simp only [go_sem]
    (repeat (refine ⟨by (first | exact True.intro | omega | rfl | (simp; done) | (simp; omega)), ?_⟩)); try (refine hKr _ ?_; clear hKr Kr)
    refine T.ret (Fin.dataD (by rw [e]; rfl) rfl rfl)
  have h2' : decide (a.has = b.has) = true := decide_eq_true h2
  have e : decide (a = b) = decide (a.ref = b.ref) := by
    by_cases h3 : a.ref = b.ref
    · rw [decide_eq_true h3, decide_eq_true (ext.2 ⟨h1, h2, h3⟩)]
    · rw [decide_eq_false h3, decide_eq_false (fun h => h3 (ext.1 h).2.2)]
  refine T.sregD 24 [0, 1, 2, 3, 4] fun Kr hKr => ?_
  simp only [go_sem]
  (repeat (refine ⟨by (first | exact True.intro | omega | rfl | (simp; done) | (simp; omega)), ?_⟩)); try (refine hKr _ ?_; clear hKr Kr)
  refine CallK.data (fun _ => Spec.args (s1) (by (first | exact ArgsLe.refl | (repeat (first | exact True.intro | refine And.intro (by first | exact AvLe.refl | exact AvLe.loose | exact AvLe.nil | exact AvLe.nilT | exact AvLe.slk | (refine AvLe.agg ?_; exact ArgsLe.refl) | (refine AvLe.agg ?_; (repeat (first | exact True.intro | refine And.intro (by first | exact AvLe.refl | exact AvLe.loose | exact AvLe.nil | exact AvLe.nilT | exact AvLe.slk) ?_)))) ?_))))) rfl ?_
  simp only [go_sem, h1']
  (repeat (refine ⟨by (first | exact True.intro | omega | rfl | (simp; done) | (simp; omega)), ?_⟩)); try (refine hKr _ ?_; clear hKr Kr)
  refine CallK.data (fun _ => Spec.args (s2) (by (first | exact ArgsLe.refl | (repeat (first | exact True.intro | refine And.intro (by first | exact AvLe.refl | exact AvLe.loose | exact AvLe.nil | exact AvLe.nilT | exact AvLe.slk | (refine AvLe.agg ?_; exact ArgsLe.refl) | (refine AvLe.agg ?_; (repeat (first | exact True.intro | refine And.intro (by first | exact AvLe.refl | exact AvLe.loose | exact AvLe.nil | exact AvLe.nilT | exact AvLe.slk) ?_)))) ?_))))) rfl ?_
  simp only [go_sem, h2']
  (repeat (refine ⟨by (first | exact True.intro | omega | rfl | (simp; done) | (simp; omega)), ?_⟩)); try (refine hKr _ ?_; clear hKr Kr)
  refine CallK.data (fun _ => Spec.args (s3) (by (first | exact ArgsLe.refl | (repeat (first | exact True.intro | refine And.intro (by first | exact AvLe.refl | exact AvLe.loose | exact AvLe.nil | exact AvLe.nilT | exact AvLe.slk | (refine AvLe.agg ?_; exact ArgsLe.refl) | (refine AvLe.agg ?_; (repeat (first | exact True.intro | refine And.intro (by first | exact AvLe.refl | exact AvLe.loose | exact AvLe.nil | exact AvLe.nilT | exact AvLe.slk) ?_)))) ?_))))) rfl ?_
  simp only [go_sem]
  (repeat (refine ⟨by (first | exact True.intro | omega | rfl | (simp; done) | (simp; omega)), ?_⟩)); try (refine hKr _ ?_; clear hKr Kr)
  refine T.ret (Fin.dataD (by rw [e]; rfl) rfl rfl)
theorem submitted_spec (l : List Sent) (c : Cmt) (hl : l.length ≤ 100000) (hs : c.s.length ≤ 100000) : Ideal.Spec Try.prog 21 [.sl false 4 (sesOf l), cmA c] (sdA (subF l c)) none := by
  have s1 := Submit_spec l c hl hs
  refine Ideal.Spec.of_CD (n := 24) (fn := Try.f21) rfl rfl rfl rfl rfl rfl rfl fun w ok => ?_
  refine T.post [.tmp 4] ?_
  refine T.sregD 24 [0, 1, 3, 4, 5, 6, 7] fun Kr hKr => ?_
  simp only [go_sem]
  (repeat (refine ⟨by (first | exact True.intro | omega | rfl | (simp; done) | (simp; omega)), ?_⟩)); try (refine hKr _ ?_; clear hKr Kr)
  refine T.sregD 24 [0, 1, 3, 4, 5, 6, 7] fun Kr hKr => ?_
  simp only [go_sem]
  (repeat (refine ⟨by (first | exact True.intro | omega | rfl | (simp; done) | (simp; omega)), ?_⟩)); try (refine hKr _ ?_; clear hKr Kr)
  refine CallK.tup (fun _ => Spec.args (s1) (by (first | exact ArgsLe.refl | (repeat (first | exact True.intro | refine And.intro (by first | exact AvLe.refl | exact AvLe.loose | exact AvLe.nil | exact AvLe.nilT | exact AvLe.slk | (refine AvLe.agg ?_; exact ArgsLe.refl) | (refine AvLe.agg ?_; (repeat (first | exact True.intro | refine And.intro (by first | exact AvLe.refl | exact AvLe.loose | exact AvLe.nil | exact AvLe.nilT | exact AvLe.slk) ?_)))) ?_))))) ?_
  simp only [go_sem]
  (repeat (refine ⟨by (first | exact True.intro | omega | rfl | (simp; done) | (simp; omega)), ?_⟩)); try (refine hKr _ ?_; clear hKr Kr)
  refine T.sregD 24 [0, 1, 3, 4, 5, 6, 7] fun Kr hKr => ?_
  simp only [go_sem]
  (repeat (refine ⟨by (first | exact True.intro | omega | rfl | (simp; done) | (simp; omega)), ?_⟩)); try (refine hKr _ ?_; clear hKr Kr)
  refine T.ret ?_
  simp only [go_sem]
  exact ⟨ResCellD rfl rfl rfl rfl (by simp only [go_sem]) (by simp only [go_sem]) rfl, trivial⟩
/-- How many marks have an Id. -/
def cntT (l : List Mark) (id : Int) : Nat := (l.filter fun m => decide (m.id = id)).length
def cntM (d : Doc) (id : Int) : Nat := cntT d.m id
theorem marks_spec (c : Client) (id : Int) (hc : c.d.m.length ≤ 100000) : Ideal.Spec Try.prog 12 [clA c, .int .i64 id] (.int .i64 (cntM c.d id)) none := by
  refine Ideal.Spec.of_TD (n := 27) (fn := Try.f12) rfl rfl rfl rfl rfl rfl rfl fun w ok => ?_
  refine T.sregD 27 [0, 1, 2, 4, 5, 6, 12, 23] fun Kr hKr => ?_
  simp only [go_sem]
  (repeat (refine ⟨by (first | exact True.intro | omega | rfl | (simp; done) | (simp; omega)), ?_⟩)); try (refine hKr _ ?_; clear hKr Kr)
  refine T.sregD 27 [0, 1, 2, 4, 5, 6, 12, 23] fun Kr hKr => ?_
  simp only [go_sem]
  (repeat (refine ⟨by (first | exact True.intro | omega | rfl | (simp; done) | (simp; omega)), ?_⟩)); try (refine hKr _ ?_; clear hKr Kr)
  refine T.seqK fun K1 hK1 => ?_
  refine T.sregD 27 [0, 1, 2, 4, 5, 6, 12, 23] fun Kr hKr => ?_
  simp only [go_sem]
  (repeat (refine ⟨by (first | exact True.intro | omega | rfl | (simp; done) | (simp; omega)), ?_⟩)); try (refine hKr _ ?_; clear hKr Kr)
  refine T.bloop (fun i : Nat => ⟨dense 27 [(1, .int .i64 id), (2, .op 2 0 0), (5, .int .i64 (cntT (c.d.m.take i) id)), (6, .int .i64 i)], [(2, ⟨4, 42, true, [clA c]⟩)]⟩) (fun i => i ≤ c.d.m.length) (fun i => c.d.m.length - i) 0 (by simp) ?_ fun i hi => ?_
  · refine Le.fitS (by (repeat (first | exact DFit.nil | refine DFit.cons (by first | rfl | (simp [slook]; done) | (simp [slook]; omega)) ?_))) (by (repeat (first | exact True.intro | refine And.intro (by first | rfl | (simp [look]; done)) ?_)))
  refine T.seqK fun K2 hK2 => ?_
  refine T.sregD 27 [0, 1, 2, 4, 5, 6, 12, 23] fun Kr hKr => ?_
  simp only [go_sem]
  (repeat (refine ⟨by (first | exact True.intro | omega | rfl | (simp; done) | (simp; omega)), ?_⟩)); try (refine hKr _ ?_; clear hKr Kr)
  refine T.condFD rfl rfl (fun hb => ?_) (fun hb => ?_) <;> simp at hb
  · -- no: exit
    refine T.exit ?_
    simp only [if_true]
    refine hK1 _ ?_
    have : i = c.d.m.length := by omega
    subst this
    refine T.sregD 27 [0, 1, 2, 4, 5, 6, 12, 23] fun Kr hKr => ?_
    simp only [go_sem]
    (repeat (refine ⟨by (first | exact True.intro | omega | rfl | (simp; done) | (simp; omega)), ?_⟩)); try (refine hKr _ ?_; clear hKr Kr)
    refine T.ret (Fin.dataD rfl rfl rfl)
  have hst : cntT (c.d.m.take (i + 1)) id = cntT (c.d.m.take i) id + (if (c.d.m.getD i default).id = id then 1 else 0) := by
    unfold cntT
    rw [take_succ_d hb, List.filter_append, List.length_append]
    congr 1
    by_cases hc : (c.d.m.getD i default).id = id <;> simp only [List.filter_cons, List.filter_nil, hc, decide_true, decide_false, if_true, if_false, Bool.false_eq_true, List.length_cons, List.length_nil]
  have hle : cntT (c.d.m.take i) id ≤ i := Nat.le_trans (List.length_filter_le _ _) (by simp; omega)
  generalize cntT (c.d.m.take i) id = k at *
  refine T.skip ?_
  refine hK2 _ ?_
  refine T.seqK fun K3 hK3 => ?_
  refine T.block ?_
  refine T.sregD 27 [0, 1, 2, 4, 5, 6, 12, 23] fun Kr hKr => ?_
  simp only [go_sem, hb]
  (repeat (refine ⟨by (first | exact True.intro | omega | rfl | (simp; done) | (simp; omega)), ?_⟩)); try (refine hKr _ ?_; clear hKr Kr)
  refine T.condTD rfl rfl (fun hc => ?_) (fun hc => ?_) <;> simp only [decide_eq_true_eq, decide_eq_false_iff_not] at hc
  · -- yes
    rw [if_pos hc] at hst
    have hst' : (cntT (c.d.m.take (i + 1)) id : Int) = (k : Int) + 1 := by omega
    refine T.regD 27 [0, 1, 2, 4, 5, 6, 12, 23] fun Kr hKr => ?_
    simp only [go_sem]
    (repeat (refine ⟨by (first | exact True.intro | omega | rfl | (simp; done) | (simp; omega)), ?_⟩)); try (refine hKr _ ?_; clear hKr Kr)
    refine hK3 _ ?_
    refine T.regD 27 [0, 1, 2, 4, 5, 6, 12, 23] fun Kr hKr => ?_
    simp only [go_sem]
    (repeat (refine ⟨by (first | exact True.intro | omega | rfl | (simp; done) | (simp; omega)), ?_⟩)); try (refine hKr _ ?_; clear hKr Kr)
    refine ⟨i + 1, ?_, ?_, Le.fitS (by (repeat (first | exact DFit.nil | refine DFit.cons (by first | rfl | (simp [slook, hst']; done) | (simp [slook, hst']; omega)) ?_))) ?_⟩
    · omega
    · omega
    · (repeat (first | exact True.intro | refine And.intro (by first | rfl | (simp [look]; done)) ?_))
  rw [if_neg hc, Nat.add_zero] at hst
  refine T.skip ?_
  refine hK3 _ ?_
  refine T.regD 27 [0, 1, 2, 4, 5, 6, 12, 23] fun Kr hKr => ?_
  simp only [go_sem]
  (repeat (refine ⟨by (first | exact True.intro | omega | rfl | (simp; done) | (simp; omega)), ?_⟩)); try (refine hKr _ ?_; clear hKr Kr)
  refine ⟨i + 1, ?_, ?_, Le.fitS (by (repeat (first | exact DFit.nil | refine DFit.cons (by first | rfl | (simp [slook, hst]; done) | (simp [slook, hst]; omega)) ?_))) ?_⟩
  · omega
  · omega
  · (repeat (first | exact True.intro | refine And.intro (by first | rfl | (simp [look]; done)) ?_))

/-! ### States -/
theorem AvLe.slM {ex : Bool} {sz : Nat} {xs ys : List AV} (hl : xs.length = ys.length) (hc : ∀ y ∈ ys, y.cells.length = sz) (h : ArgsLe (flat xs) (flat ys)) : AvLe (.sl ex sz xs) (.sl ex sz ys) := fun ok w v hv => by
  cases hv with
  | slNil _ _ a cap hcap =>
    have : ys = [] := List.length_eq_zero_iff.1 hl.symm
    subst this
    exact .slNil ex sz a cap hcap
  | sl _ b o cap _ _ vs hb hne hcap hex hsz hvl h1 hm hh =>
    have hp := h.pts (ok := ok) (w := w) (vs := vs) ⟨hvl, hh⟩
    have := DRep.sl (ok := ok) (w := w) ex b o cap sz ys vs hb (by intro e; subst e; exact hne (List.length_eq_zero_iff.1 hl)) (by omega) (fun e => by rw [hex e, hl]) hc hp.1 h1 hm hp.2
    rw [hl]; exact this
structure MSt where
  l : List Sent
  c : List Client
  w : List Packet
  deriving Inhabited
def clsOf (l : List Client) : List AV := l.map clA
@[go_sem] theorem clsOf_len (l : List Client) : (clsOf l).length = l.length := by simp [clsOf]
@[go_sem] theorem clsOf_get {l : List Client} {i : Nat} (h : i < l.length) : (clsOf l).getD i .junk = clA (l.getD i default) := by simp [clsOf, List.getD, h]
@[go_sem] theorem clsOf_take (l : List Client) (n : Nat) : (clsOf l).take n = clsOf (l.take n) := by simp [clsOf]
@[go_sem] theorem clsOf_set (l : List Client) (i : Nat) (s : List UInt8) (m : List Mark) (a b : List Int) : (clsOf l).set i (.agg [.str s, .sl false 4 (mksOf m), .sl false 1 (intsOf a), .sl false 1 (intsOf b)]) = clsOf (l.set i ⟨⟨s, m⟩, a, b⟩) := by
  simp [clsOf, List.map_set, clA]
@[go_sem] def mstA (s : MSt) : AV := .agg [.sl false 4 (sesOf s.l), .sl false 4 (clsOf s.c), .sl false 4 (pksOf s.w)]
def noClient : Client := ⟨noDoc, [], []⟩
def beginF : MSt := ⟨[], [noClient, noClient], []⟩
theorem Begin_spec : Ideal.Spec Try.prog 10 [] (mstA beginF) none := by
  refine Spec.weak (r := .agg [.sl true 1 [], .sl false 4 [.agg [.str [], .sl true 1 [], .sl true 1 [], .sl true 1 []], .agg [.str [], .sl true 1 [], .sl true 1 [], .sl true 1 []]], .sl true 1 []]) ?_ rfl rfl
    (AvLe.agg ⟨AvLe.nil, AvLe.slM rfl (by intro y hy; simp [clsOf, beginF] at hy; subst hy; rfl) ⟨AvLe.refl, AvLe.nil, AvLe.nil, AvLe.nil, AvLe.refl, AvLe.nil, AvLe.nil, AvLe.nil, trivial⟩, AvLe.nil, trivial⟩)
  refine Ideal.Spec.of_CD (n := 3) (fn := Try.f10) rfl rfl rfl rfl rfl rfl rfl fun w ok => ?_
  refine T.post [.tmp 0] ?_
  have hrep : ∀ x : AV, List.replicate 2 x = [x, x] := fun _ => rfl
  have htk : ∀ x : AV, List.take 2 [x, x] = [x, x] := fun _ => rfl
  refine T.sregD 3 [0] fun Kr hKr => ?_
  simp only [go_sem]
  (repeat (refine ⟨by (first | exact True.intro | omega | rfl | (simp; done) | (simp; omega)), ?_⟩)); try (refine hKr _ ?_; clear hKr Kr)
  refine T.sregD 3 [0] fun Kr hKr => ?_
  simp only [go_sem, hrep, htk, List.length_cons, List.length_nil, Nat.le_refl]
  (repeat (refine ⟨by (first | exact True.intro | omega | rfl | (simp; done) | (simp; omega)), ?_⟩)); try (refine hKr _ ?_; clear hKr Kr)
  refine T.ret ?_
  simp only [go_sem, hrep, htk, List.length_cons, List.length_nil, Nat.le_refl]
  exact ⟨ResCellD rfl rfl rfl rfl (by simp only [go_sem]) (by simp only [go_sem]) rfl, trivial⟩
/-- The packet with which an action deals. -/
def pickN (s : MSt) (x : MRaw) : Nat := if x.t.toNat % 4 = 3 then x.i.toNat % s.w.length else s.w.length - 1
def pickF (s : MSt) (x : MRaw) : Packet × Bool := if s.w = [] then (⟨0, 0, 0, []⟩, false) else (s.w.getD (pickN s x) default, true)
theorem Picked_spec (s : MSt) (x : MRaw) (hw : s.w.length ≤ 100000) : Ideal.Spec Try.prog 15 [mstA s, mrawA x] (.tup [pkA (pickF s x).1, .bool (pickF s x).2]) none := by
  have h1 := x.i.toNat_lt
  have h2 := x.t.toNat_lt
  refine Ideal.Spec.of_MD (n := 32) (fn := Try.f15) rfl rfl rfl rfl rfl rfl rfl fun w ok => ?_
  refine T.post [.tmp 4] ?_
  refine T.sregD 32 [0, 1, 2, 3, 4, 5, 6, 10, 19] fun Kr hKr => ?_
  simp only [go_sem]
  (repeat (refine ⟨by (first | exact True.intro | omega | rfl | (simp; done) | (simp; omega)), ?_⟩)); try (refine hKr _ ?_; clear hKr Kr)
  refine T.seqK fun K1 hK1 => ?_
  refine T.sregD 32 [0, 1, 2, 3, 4, 5, 6, 10, 19] fun Kr hKr => ?_
  simp only [go_sem]
  (repeat (refine ⟨by (first | exact True.intro | omega | rfl | (simp; done) | (simp; omega)), ?_⟩)); try (refine hKr _ ?_; clear hKr Kr)
  refine T.condTD rfl rfl (fun hc => ?_) (fun hc => ?_) <;> simp at hc
  · have e : pickF s x = (⟨0, 0, 0, []⟩, false) := by unfold pickF; rw [if_pos hc]
    refine T.sregD 32 [0, 1, 2, 3, 4, 5, 6, 10, 19] fun Kr hKr => ?_
    simp only [go_sem]
    (repeat (refine ⟨by (first | exact True.intro | omega | rfl | (simp; done) | (simp; omega)), ?_⟩)); try (refine hKr _ ?_; clear hKr Kr)
    refine T.ret ?_
    simp only [go_sem]
    exact ⟨ResCellD rfl rfl rfl rfl (by simp only [go_sem]) (by rw [e]; rfl) rfl, ResAtD (by rw [e]; rfl) rfl rfl, trivial⟩
  have hpos : 0 < s.w.length := by cases h : s.w with | nil => exact absurd h hc | cons a b => simp
  have e : pickF s x = (s.w.getD (pickN s x) default, true) := by unfold pickF; rw [if_neg hc]
  refine T.skip ?_
  refine hK1 _ ?_
  refine T.sregD 32 [0, 1, 2, 3, 4, 5, 6, 10, 19] fun Kr hKr => ?_
  simp only [go_sem]
  (repeat (refine ⟨by (first | exact True.intro | omega | rfl | (simp; done) | (simp; omega)), ?_⟩)); try (refine hKr _ ?_; clear hKr Kr)
  refine T.seqK fun K2 hK2 => ?_
  by_cases h3 : x.t.toNat % 4 = 3
  · have h3' : ((x.t.toNat : Int) % 4 = 3) = True := eq_true (by omega)
    have en : pickN s x = x.i.toNat % s.w.length := by unfold pickN; rw [if_pos h3]
    have hlt : pickN s x < s.w.length := by rw [en]; exact Nat.mod_lt _ hpos
    have hz : ((s.w.length : Int) = 0) = False := eq_false (by omega)
    have hm : ((x.i.toNat : Int) % (s.w.length : Int)) = (pickN s x : Nat) := by rw [en]; simp
    refine T.sregD 32 [0, 1, 2, 3, 4, 5, 6, 10, 19] fun Kr hKr => ?_
    simp only [go_sem, h3']
    (repeat (refine ⟨by (first | exact True.intro | omega | rfl | (simp; done) | (simp; omega)), ?_⟩)); try (refine hKr _ ?_; clear hKr Kr)
    refine T.condTD rfl rfl (fun hc => ?_) (fun hc => ?_) <;> try simp at hc
    refine T.regD 32 [0, 1, 2, 3, 4, 5, 6, 10, 19] fun Kr hKr => ?_
    simp only [go_sem, hz, hm]
    (repeat (refine ⟨by (first | exact True.intro | omega | rfl | (simp; done) | (simp; omega)), ?_⟩)); try (refine hKr _ ?_; clear hKr Kr)
    refine hK2 _ ?_
    refine T.sregD 32 [0, 1, 2, 3, 4, 5, 6, 10, 19] fun Kr hKr => ?_
    simp only [go_sem, hlt]
    (repeat (refine ⟨by (first | exact True.intro | omega | rfl | (simp; done) | (simp; omega)), ?_⟩)); try (refine hKr _ ?_; clear hKr Kr)
    refine T.ret ?_
    simp only [go_sem]
    exact ⟨ResCellD rfl rfl rfl rfl (by simp only [go_sem]) (by rw [e]; rfl) rfl, ResAtD (by rw [e]; rfl) rfl rfl, trivial⟩
  have h3' : ((x.t.toNat : Int) % 4 = 3) = False := eq_false (by omega)
  have en : pickN s x = s.w.length - 1 := by unfold pickN; rw [if_neg h3]
  have hlt : pickN s x < s.w.length := by rw [en]; omega
  have hm : ((s.w.length : Int) - 1) = (pickN s x : Nat) := by rw [en]; omega
  refine T.sregD 32 [0, 1, 2, 3, 4, 5, 6, 10, 19] fun Kr hKr => ?_
  simp only [go_sem, h3']
  (repeat (refine ⟨by (first | exact True.intro | omega | rfl | (simp; done) | (simp; omega)), ?_⟩)); try (refine hKr _ ?_; clear hKr Kr)
  refine T.condTD rfl rfl (fun hc => ?_) (fun hc => ?_) <;> try simp at hc
  refine T.skip ?_
  refine hK2 _ ?_
  refine T.sregD 32 [0, 1, 2, 3, 4, 5, 6, 10, 19] fun Kr hKr => ?_
  simp only [go_sem, hm, hlt]
  (repeat (refine ⟨by (first | exact True.intro | omega | rfl | (simp; done) | (simp; omega)), ?_⟩)); try (refine hKr _ ?_; clear hKr Kr)
  refine T.ret ?_
  simp only [go_sem]
  exact ⟨ResCellD rfl rfl rfl rfl (by simp only [go_sem]) (by rw [e]; rfl) rfl, ResAtD (by rw [e]; rfl) rfl rfl, trivial⟩
end Go.Proofs
