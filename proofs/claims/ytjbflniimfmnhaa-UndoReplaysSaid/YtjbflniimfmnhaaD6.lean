/- Documents: contracts of the tests for validity and equality, of the search by number and of the reference's text of a mark. -/
import Derived.Test.YtjbflniimfmnhaaD5
set_option linter.unusedVariables false
set_option linter.unusedSimpArgs false
namespace Go.Proofs
open Go Go.Ideal
set_option maxRecDepth 8000
set_option maxHeartbeats 4000000

/-! ### Valid documents -/
def badM (n : Nat) (last : Int) (m : Mark) : Bool := decide (m.id ≤ last) || decide (m.f < 0) || decide (m.f ≥ m.t) || decide (m.t > n)
def chk (n : Nat) : Int → List Mark → Bool
  | _, [] => true
  | last, m :: l => !badM n last m && chk n m.id l
def validB (d : Doc) : Bool := decide ((d.s.length : Int) ≤ 400) && plainB d.s && decide ((d.m.length : Int) ≤ 100) && chk d.s.length (-1) d.m
def lastOf (l : List Mark) : Nat → Int
  | 0 => -1
  | i + 1 => (l.getD i default).id
theorem chk_step {n : Nat} {l : List Mark} {i : Nat} (h : i < l.length) : chk n (lastOf l i) (l.drop i) = (!badM n (lastOf l i) (l.getD i default) && chk n (lastOf l (i + 1)) (l.drop (i + 1))) := by
  rw [drop_d h]; rfl
theorem ValidR_spec (d : Doc) (hs : d.s.length ≤ 100000) (hl : d.m.length ≤ 100000) : Ideal.Spec Try.prog 15 [docA d] (.bool (validB d)) none := by
  have sp := Plain_spec d.s 0 400 (by omega)
  refine Ideal.Spec.of_TD (n := 66) (fn := Try.f15) rfl rfl rfl rfl rfl rfl rfl fun w ok => ?_
  refine T.sregD 66 [0, 1, 2, 3, 4, 14, 19, 65] fun Kr hKr => ?_
  simp only [go_sem]
  (repeat (refine ⟨by (first | exact True.intro | omega | rfl | (simp; done) | (simp; omega)), ?_⟩)); try (refine hKr _ ?_; clear hKr Kr)
  refine T.seqK fun K1 hK1 => ?_
  refine T.sregD 66 [0, 1, 2, 3, 4, 14, 19, 65] fun Kr hKr => ?_
  simp only [go_sem]
  (repeat (refine ⟨by (first | exact True.intro | omega | rfl | (simp; done) | (simp; omega)), ?_⟩)); try (refine hKr _ ?_; clear hKr Kr)
  refine CallK.data (fun _ => Spec.args (sp) (by (first | exact ArgsLe.refl | (repeat (first | exact True.intro | refine And.intro (by first | exact AvLe.refl | exact AvLe.loose | exact AvLe.nil | exact AvLe.nilT | exact AvLe.slk | (refine AvLe.agg ?_; exact ArgsLe.refl) | (refine AvLe.agg ?_; (repeat (first | exact True.intro | refine And.intro (by first | exact AvLe.refl | exact AvLe.loose | exact AvLe.nil | exact AvLe.nilT | exact AvLe.slk) ?_)))) ?_))))) rfl ?_
  simp only [go_sem, cond_or]
  (repeat (refine ⟨by (first | exact True.intro | omega | rfl | (simp; done) | (simp; omega)), ?_⟩)); try (refine hKr _ ?_; clear hKr Kr)
  refine T.condTD rfl rfl (fun hb => ?_) (fun hb => ?_) <;> simp only [Bool.or_eq_true, Bool.or_eq_false_iff, Bool.not_eq_true', Bool.not_eq_false', decide_eq_true_eq, decide_eq_false_iff_not, Bool.and_eq_true, Bool.and_eq_false_iff, inB] at hb
  · have ee : validB d = false := by
      unfold validB
      rcases hb with (h | h) | h
      · rw [h]; simp
      · have : ¬ ((d.s.length : Int) ≤ 400) := by omega
        simp [this]
      · have : ¬ ((d.m.length : Int) ≤ 100) := by omega
        simp [this]
    refine T.sregD 66 [0, 1, 2, 3, 4, 14, 19, 65] fun Kr hKr => ?_
    simp only [go_sem]
    (repeat (refine ⟨by (first | exact True.intro | omega | rfl | (simp; done) | (simp; omega)), ?_⟩)); try (refine hKr _ ?_; clear hKr Kr)
    refine T.ret (Fin.dataD (by rw [ee]; rfl) rfl rfl)
  obtain ⟨⟨hb1, hb3⟩, hb2⟩ := hb
  have ee : validB d = chk d.s.length (-1) d.m := by
    unfold validB; rw [hb1]
    have : (d.m.length : Int) ≤ 100 := by omega
    have h4 : (d.s.length : Int) ≤ 400 := by omega
    simp only [h4, this, decide_true, Bool.true_and]
  refine T.skip ?_
  refine hK1 _ ?_
  refine T.seqK fun K2 hK2 => ?_
  refine T.sregD 66 [0, 1, 2, 3, 4, 14, 19, 65] fun Kr hKr => ?_
  simp only [go_sem]
  (repeat (refine ⟨by (first | exact True.intro | omega | rfl | (simp; done) | (simp; omega)), ?_⟩)); try (refine hKr _ ?_; clear hKr Kr)
  refine T.bloop (fun i : Nat => ⟨dense 66 [(1, .op 1 0 0), (3, .int .i64 i)], [(1, ⟨2, 36, true, [docA d]⟩)]⟩) (fun i => i ≤ d.m.length ∧ chk d.s.length (lastOf d.m i) (d.m.drop i) = validB d ∧ -1 ≤ lastOf d.m i) (fun i => d.m.length - i) 0 ⟨by omega, by rw [ee]; rfl, by simp [lastOf]⟩ ?_ fun i hi => ?_
  · refine Le.fitS (by (repeat (first | exact DFit.nil | refine DFit.cons (by first | rfl | (simp [slook]; done) | (simp [slook]; omega)) ?_))) (by (repeat (first | exact True.intro | refine And.intro (by first | rfl | (simp [look]; done)) ?_)))
  obtain ⟨hi, hn2, hpos⟩ := hi
  refine T.seqK fun K3 hK3 => ?_
  refine T.sregD 66 [0, 1, 2, 3, 4, 14, 19, 65] fun Kr hKr => ?_
  simp only [go_sem]
  (repeat (refine ⟨by (first | exact True.intro | omega | rfl | (simp; done) | (simp; omega)), ?_⟩)); try (refine hKr _ ?_; clear hKr Kr)
  refine T.condFD rfl rfl (fun hc => ?_) (fun hc => ?_) <;> simp at hc
  · -- no: exit
    refine T.exit ?_
    simp only [if_true]
    refine hK2 _ ?_
    have : i = d.m.length := by omega
    subst this
    rw [List.drop_length] at hn2
    refine T.sregD 66 [0, 1, 2, 3, 4, 14, 19, 65] fun Kr hKr => ?_
    simp only [go_sem]
    (repeat (refine ⟨by (first | exact True.intro | omega | rfl | (simp; done) | (simp; omega)), ?_⟩)); try (refine hKr _ ?_; clear hKr Kr)
    refine T.ret (Fin.dataD (by rw [← hn2]; rfl) rfl rfl)
  rw [chk_step hc] at hn2
  refine T.skip ?_
  refine hK3 _ ?_
  refine T.seqK fun K4 hK4 => ?_
  refine T.block ?_
  refine T.sregD 66 [0, 1, 2, 3, 4, 14, 19, 65] fun Kr hKr => ?_
  simp only [go_sem, hc]
  (repeat (refine ⟨by (first | exact True.intro | omega | rfl | (simp; done) | (simp; omega)), ?_⟩)); try (refine hKr _ ?_; clear hKr Kr)
  generalize hme : d.m.getD i default = m at *
  have e1 : lastOf d.m (i + 1) = m.id := congrArg Mark.id hme
  have key : ∀ b : Bool, b = (badM d.s.length (lastOf d.m i) m) → (b = true → validB d = false) ∧ (b = false → (i + 1 ≤ d.m.length ∧ chk d.s.length (lastOf d.m (i + 1)) (d.m.drop (i + 1)) = validB d ∧ -1 ≤ lastOf d.m (i + 1))) := by
    intro b hb
    rw [← hb] at hn2
    refine ⟨fun h => by rw [h] at hn2; exact hn2.symm, fun h => ⟨by omega, by rw [h] at hn2; exact hn2, ?_⟩⟩
    rw [h] at hb
    have := hb.symm
    simp only [badM, Bool.or_eq_false_iff, decide_eq_false_iff_not] at this
    rw [e1]; omega
  rcases Nat.eq_zero_or_pos i with h0 | h0
  · subst h0
    have hd0 : 0 < d.m.length := hc
    refine T.sdrawD 66 [0, 1, 2, 3, 4, 14, 19, 65] (.take 0 (.take 1 (.take 2 (.take 3 (.take 4 (.take 5 (.take 6 (.take 7 (.take 8 (.take 9 (.take 10 (.take 11 (.take 12 (.take 13 (.take 14 (.take 15 (.take 16 (.take 17 (.take 18 (.take 19 (.take 20 (.take 21 (.take 22 (.take 23 (.take 24 (.take 25 (.take 26 (.take 27 (.take 28 (.take 29 (.take 30 (.take 31 (.take 32 (.take 33 (.take 34 (.take 35 (.take 36 (.take 37 (.take 38 .done))))))))))))))))))))))))))))))))))))))) [1, 4] rfl (by decide +kernel) (by decide +kernel) fun Kr hKr => ?_
    simp only [go_sem, hc, hme, cond_or]
    (repeat (refine ⟨by (first | exact True.intro | omega | rfl | (simp; done) | (simp; omega)), ?_⟩)); try (refine hKr _ ?_; clear hKr Kr)
    have hkey := key (decide (m.id < 0) || decide (m.f < 0) || decide (m.f ≥ m.t) || decide (m.t > d.s.length)) (by
      have : decide (m.id < 0) = decide (m.id ≤ lastOf d.m 0) := decide_eq_decide.2 ⟨fun h => by simp only [lastOf]; omega, fun h => by simp only [lastOf] at h; omega⟩
      rw [this]; rfl)
    refine T.condTD rfl rfl (fun hb => ?_) (fun hb => ?_)
    · refine T.sregD 66 [0, 1, 2, 3, 4, 14, 19, 65] fun Kr hKr => ?_
      simp only [go_sem]
      (repeat (refine ⟨by (first | exact True.intro | omega | rfl | (simp; done) | (simp; omega)), ?_⟩)); try (refine hKr _ ?_; clear hKr Kr)
      refine T.ret (Fin.dataD (by rw [hkey.1 hb]; rfl) rfl rfl)
    refine T.skip ?_
    refine hK4 _ ?_
    refine T.regD 66 [0, 1, 2, 3, 4, 14, 19, 65] fun Kr hKr => ?_
    simp only [go_sem]
    (repeat (refine ⟨by (first | exact True.intro | omega | rfl | (simp; done) | (simp; omega)), ?_⟩)); try (refine hKr _ ?_; clear hKr Kr)
    refine ⟨0 + 1, ?_, ?_, Le.fitS (by (repeat (first | exact DFit.nil | refine DFit.cons (by first | rfl | (simp [slook]; done) | (simp [slook]; omega)) ?_))) ?_⟩
    · exact hkey.2 hb
    · omega
    · (repeat (first | exact True.intro | refine And.intro (by first | rfl | (simp [look]; done)) ?_))
  · obtain ⟨j, rfl⟩ : ∃ j, i = j + 1 := ⟨i - 1, by omega⟩
    have hj : j < d.m.length := by omega
    have hx : ((j + 1 : Nat) : Int) - 1 = (j : Int) := by omega
    have hx0 : ((0 : Int) < ((j + 1 : Nat) : Int)) = True := eq_true (by omega)
    have hkey := key (decide (m.id < 0) || decide (m.id ≤ (d.m.getD j default).id) || decide (m.f < 0) || decide (m.f ≥ m.t) || decide (m.t > d.s.length)) (by
      have hq0 : -1 ≤ (d.m.getD j default).id := hpos
      have aux : ∀ q : Int, -1 ≤ q → (decide (m.id < 0) || decide (m.id ≤ q)) = decide (m.id ≤ q) := by
        intro q hq
        rw [Bool.eq_iff_iff]
        simp only [Bool.or_eq_true, decide_eq_true_eq]; omega
      have : (decide (m.id < 0) || decide (m.id ≤ (d.m.getD j default).id)) = decide (m.id ≤ lastOf d.m (j + 1)) := aux _ hq0
      rw [this]; rfl)
    refine T.sdrawD 66 [0, 1, 2, 3, 4, 14, 19, 65] (.take 0 (.take 1 (.take 2 (.take 3 (.take 4 (.take 5 (.take 6 (.take 7 (.take 8 (.take 9 (.take 10 (.take 11 (.take 12 (.take 13 (.take 14 (.take 15 (.take 16 (.take 17 (.take 18 (.take 19 (.take 20 (.take 21 (.take 22 (.take 23 (.take 24 (.take 25 (.take 26 (.take 27 (.take 28 (.take 29 (.take 30 (.take 31 (.take 32 (.take 33 (.take 34 (.take 35 (.take 36 (.take 37 (.take 38 .done))))))))))))))))))))))))))))))))))))))) [1, 4] rfl (by decide +kernel) (by decide +kernel) fun Kr hKr => ?_
    simp only [go_sem, hj, hme, cond_or, hx, hx0, gt_iff_lt]
    (repeat (refine ⟨by (first | exact True.intro | omega | rfl | (simp; done) | (simp; omega)), ?_⟩)); try (refine hKr _ ?_; clear hKr Kr)
    refine T.condTD rfl rfl (fun hb => ?_) (fun hb => ?_)
    · refine T.sregD 66 [0, 1, 2, 3, 4, 14, 19, 65] fun Kr hKr => ?_
      simp only [go_sem]
      (repeat (refine ⟨by (first | exact True.intro | omega | rfl | (simp; done) | (simp; omega)), ?_⟩)); try (refine hKr _ ?_; clear hKr Kr)
      refine T.ret (Fin.dataD (by rw [hkey.1 hb]; rfl) rfl rfl)
    refine T.skip ?_
    refine hK4 _ ?_
    refine T.regD 66 [0, 1, 2, 3, 4, 14, 19, 65] fun Kr hKr => ?_
    simp only [go_sem]
    (repeat (refine ⟨by (first | exact True.intro | omega | rfl | (simp; done) | (simp; omega)), ?_⟩)); try (refine hKr _ ?_; clear hKr Kr)
    refine ⟨j + 1 + 1, ?_, ?_, Le.fitS (by (repeat (first | exact DFit.nil | refine DFit.cons (by first | rfl | (simp [slook]; done) | (simp [slook]; omega)) ?_))) ?_⟩
    · exact hkey.2 hb
    · omega
    · (repeat (first | exact True.intro | refine And.intro (by first | rfl | (simp [look]; done)) ?_))
/-! ### Equal documents -/
theorem Same_spec (a b : Doc) (ha : a.m.length ≤ 100000) (hb : b.m.length ≤ 100000) (hs : a.s.length ≤ 100000) (hs2 : b.s.length ≤ 100000) : Ideal.Spec Try.prog 16 [docA a, docA b] (.bool (decide (a = b))) none := by
  have ext : ∀ x y : Doc, x = y ↔ x.s = y.s ∧ x.m = y.m := by intro x y; cases x; cases y; simp
  refine Ideal.Spec.of_TD (n := 38) (fn := Try.f16) rfl rfl rfl rfl rfl rfl rfl fun w ok => ?_
  refine T.sregD 38 [0, 1, 2, 3, 4, 5, 19, 24, 37] fun Kr hKr => ?_
  simp only [go_sem]
  (repeat (refine ⟨by (first | exact True.intro | omega | rfl | (simp; done) | (simp; omega)), ?_⟩)); try (refine hKr _ ?_; clear hKr Kr)
  refine T.seqK fun K1 hK1 => ?_
  refine T.sregD 38 [0, 1, 2, 3, 4, 5, 19, 24, 37] fun Kr hKr => ?_
  simp only [go_sem, cond_or]
  (repeat (refine ⟨by (first | exact True.intro | omega | rfl | (simp; done) | (simp; omega)), ?_⟩)); try (refine hKr _ ?_; clear hKr Kr)
  refine T.condTD rfl rfl (fun hc => ?_) (fun hc => ?_) <;> simp at hc
  · have : ¬ a = b := by
      intro e; subst e; simp at hc
    refine T.sregD 38 [0, 1, 2, 3, 4, 5, 19, 24, 37] fun Kr hKr => ?_
    simp only [go_sem]
    (repeat (refine ⟨by (first | exact True.intro | omega | rfl | (simp; done) | (simp; omega)), ?_⟩)); try (refine hKr _ ?_; clear hKr Kr)
    refine T.ret (Fin.dataD (by simp [slook, this]) rfl rfl)
  obtain ⟨hc1, hc2⟩ := hc
  have hle : a.m.length = b.m.length := by omega
  refine T.skip ?_
  refine hK1 _ ?_
  refine T.seqK fun K2 hK2 => ?_
  refine T.sregD 38 [0, 1, 2, 3, 4, 5, 19, 24, 37] fun Kr hKr => ?_
  simp only [go_sem]
  (repeat (refine ⟨by (first | exact True.intro | omega | rfl | (simp; done) | (simp; omega)), ?_⟩)); try (refine hKr _ ?_; clear hKr Kr)
  refine T.bloop (fun i : Nat => ⟨dense 38 [(2, .op 2 0 0), (3, .op 3 0 0), (5, .int .i64 i)], [(3, ⟨2, 36, true, [docA b]⟩), (2, ⟨2, 36, true, [docA a]⟩)]⟩) (fun i => i ≤ a.m.length ∧ a.m.take i = b.m.take i) (fun i => a.m.length - i) 0 (by simp) ?_ fun i hi => ?_
  · refine Le.fitS (by (repeat (first | exact DFit.nil | refine DFit.cons (by first | rfl | (simp [slook]; done) | (simp [slook]; omega)) ?_))) (by (repeat (first | exact True.intro | refine And.intro (by first | rfl | (simp [look]; done)) ?_)))
  obtain ⟨hi, hn⟩ := hi
  refine T.seqK fun K3 hK3 => ?_
  refine T.sregD 38 [0, 1, 2, 3, 4, 5, 19, 24, 37] fun Kr hKr => ?_
  simp only [go_sem]
  (repeat (refine ⟨by (first | exact True.intro | omega | rfl | (simp; done) | (simp; omega)), ?_⟩)); try (refine hKr _ ?_; clear hKr Kr)
  refine T.condFD rfl rfl (fun hd => ?_) (fun hd => ?_) <;> simp at hd
  · -- no: exit
    refine T.exit ?_
    simp only [if_true]
    refine hK2 _ ?_
    refine T.sregD 38 [0, 1, 2, 3, 4, 5, 19, 24, 37] fun Kr hKr => ?_
    simp only [go_sem]
    (repeat (refine ⟨by (first | exact True.intro | omega | rfl | (simp; done) | (simp; omega)), ?_⟩)); try (refine hKr _ ?_; clear hKr Kr)
    have : i = a.m.length := by omega
    subst this
    rw [List.take_length, hle, List.take_length] at hn
    have he : a = b := (ext a b).2 ⟨hc1, hn⟩
    refine T.ret (Fin.dataD (by simp [slook, he]) rfl rfl)
  refine T.skip ?_
  refine hK3 _ ?_
  refine T.seqK fun K4 hK4 => ?_
  refine T.block ?_
  have hd2 : i < b.m.length := by omega
  refine T.sdrawD 38 [0, 1, 2, 3, 4, 5, 19, 24, 37] (.take 0 (.take 1 (.take 2 (.take 3 (.take 4 (.take 5 (.take 6 (.take 7 (.take 8 (.take 9 (.take 10 .done))))))))))) [2, 3] rfl (by decide +kernel) (by decide +kernel) fun Kr hKr => ?_
  simp only [go_sem, hd, hd2]
  (repeat (refine ⟨by (first | exact True.intro | omega | rfl | (simp; done) | (simp; omega)), ?_⟩)); try (refine hKr _ ?_; clear hKr Kr)
  refine T.condTD rfl rfl (fun hx => ?_) (fun hx => ?_) <;> simp [-List.getD_eq_getElem?_getD] at hx
  · -- yes
    refine T.sregD 38 [0, 1, 2, 3, 4, 5, 19, 24, 37] fun Kr hKr => ?_
    simp only [go_sem]
    (repeat (refine ⟨by (first | exact True.intro | omega | rfl | (simp; done) | (simp; omega)), ?_⟩)); try (refine hKr _ ?_; clear hKr Kr)
    have : ¬ a = b := fun e => by subst e; simp at hx
    refine T.ret (Fin.dataD (by simp [slook, this]) rfl rfl)
  refine T.skip ?_
  refine hK4 _ ?_
  refine T.regD 38 [0, 1, 2, 3, 4, 5, 19, 24, 37] fun Kr hKr => ?_
  simp only [go_sem]
  (repeat (refine ⟨by (first | exact True.intro | omega | rfl | (simp; done) | (simp; omega)), ?_⟩)); try (refine hKr _ ?_; clear hKr Kr)
  refine ⟨i + 1, ?_, ?_, Le.fitS (by (repeat (first | exact DFit.nil | refine DFit.cons (by first | rfl | (simp [slook]; done) | (simp [slook]; omega)) ?_))) ?_⟩
  · refine ⟨by omega, ?_⟩
    rw [take_succ_d hd, take_succ_d hd2, hn]
    have : a.m.getD i default = b.m.getD i default := by
      generalize a.m.getD i default = q at hx ⊢
      generalize b.m.getD i default = q' at hx ⊢
      cases q; cases q'; simpa using hx
    rw [this]
  · omega
  · (repeat (first | exact True.intro | refine And.intro (by first | rfl | (simp [look]; done)) ?_))

/-! ### Searching by number -/
def fndF (l : List Mark) (id : Int) : Int := match l.findIdx? (fun m => decide (m.id = id)) with | some i => i | none => -1
theorem findIdx_none {l : List Mark} {id : Int} (h : (l.take l.length).any (fun m => decide (m.id = id)) = false) : l.findIdx? (fun m => decide (m.id = id)) = none := by
  rw [List.take_length] at h
  rw [List.findIdx?_eq_none_iff]; intro x hx
  simpa using List.any_eq_false.1 h x hx
theorem findIdx_at {l : List Mark} {id : Int} {i : Nat} (hi : i < l.length) (hn : (l.take i).any (fun m => decide (m.id = id)) = false) (h : (l.getD i default).id = id) : l.findIdx? (fun m => decide (m.id = id)) = some i := by
  rw [List.findIdx?_eq_some_iff_getElem]
  refine ⟨hi, by simpa [List.getD, hi] using h, fun j hj => ?_⟩
  have hjl : j < l.length := by omega
  have := List.any_eq_false.1 hn l[j] (by
    rw [List.mem_take_iff_getElem]; exact ⟨j, by omega, rfl⟩)
  simpa using this
theorem Find_spec (d : Doc) (id : Int) (hl : d.m.length ≤ 100000) : Ideal.Spec Try.prog 14 [docA d, .int .i64 id] (.int .i64 (fndF d.m id)) none := by
  refine Ideal.Spec.of_TD (n := 22) (fn := Try.f14) rfl rfl rfl rfl rfl rfl rfl fun w ok => ?_
  refine T.sregD 22 [0, 1, 2, 4, 5, 10, 20] fun Kr hKr => ?_
  simp only [go_sem]
  (repeat (refine ⟨by (first | exact True.intro | omega | rfl | (simp; done) | (simp; omega)), ?_⟩)); try (refine hKr _ ?_; clear hKr Kr)
  refine T.seqK fun K1 hK1 => ?_
  refine T.sregD 22 [0, 1, 2, 4, 5, 10, 20] fun Kr hKr => ?_
  simp only [go_sem]
  (repeat (refine ⟨by (first | exact True.intro | omega | rfl | (simp; done) | (simp; omega)), ?_⟩)); try (refine hKr _ ?_; clear hKr Kr)
  refine T.bloop (fun i : Nat => ⟨dense 22 [(1, .int .i64 id), (2, .op 2 0 0), (5, .int .i64 i)], [(2, ⟨2, 36, true, [docA d]⟩)]⟩) (fun i => i ≤ d.m.length ∧ (d.m.take i).any (fun m => decide (m.id = id)) = false) (fun i => d.m.length - i) 0 (by simp) ?_ fun i hi => ?_
  · refine Le.fitS (by (repeat (first | exact DFit.nil | refine DFit.cons (by first | rfl | (simp [slook]; done) | (simp [slook]; omega)) ?_))) (by (repeat (first | exact True.intro | refine And.intro (by first | rfl | (simp [look]; done)) ?_)))
  obtain ⟨hi, hn⟩ := hi
  refine T.seqK fun K2 hK2 => ?_
  refine T.sregD 22 [0, 1, 2, 4, 5, 10, 20] fun Kr hKr => ?_
  simp only [go_sem]
  (repeat (refine ⟨by (first | exact True.intro | omega | rfl | (simp; done) | (simp; omega)), ?_⟩)); try (refine hKr _ ?_; clear hKr Kr)
  refine T.condFD rfl rfl (fun hb => ?_) (fun hb => ?_) <;> simp at hb
  · -- no: exit
    refine T.exit ?_
    simp only [if_true]
    refine hK1 _ ?_
    have : i = d.m.length := by omega
    subst this
    have ee : fndF d.m id = -1 := by simp only [fndF, findIdx_none hn]
    refine T.sregD 22 [0, 1, 2, 4, 5, 10, 20] fun Kr hKr => ?_
    simp only [go_sem]
    (repeat (refine ⟨by (first | exact True.intro | omega | rfl | (simp; done) | (simp; omega)), ?_⟩)); try (refine hKr _ ?_; clear hKr Kr)
    refine T.ret (Fin.dataD (by rw [ee]; rfl) rfl rfl)
  refine T.skip ?_
  refine hK2 _ ?_
  refine T.seqK fun K3 hK3 => ?_
  refine T.block ?_
  refine T.sregD 22 [0, 1, 2, 4, 5, 10, 20] fun Kr hKr => ?_
  simp only [go_sem, hb]
  (repeat (refine ⟨by (first | exact True.intro | omega | rfl | (simp; done) | (simp; omega)), ?_⟩)); try (refine hKr _ ?_; clear hKr Kr)
  refine T.condTD rfl rfl (fun hc => ?_) (fun hc => ?_) <;> simp only [decide_eq_true_eq, decide_eq_false_iff_not] at hc
  · -- yes
    have ee : fndF d.m id = i := by simp only [fndF, findIdx_at hb hn hc]
    refine T.sregD 22 [0, 1, 2, 4, 5, 10, 20] fun Kr hKr => ?_
    simp only [go_sem]
    (repeat (refine ⟨by (first | exact True.intro | omega | rfl | (simp; done) | (simp; omega)), ?_⟩)); try (refine hKr _ ?_; clear hKr Kr)
    refine T.ret (Fin.dataD (by rw [ee]; rfl) rfl rfl)
  refine T.skip ?_
  refine hK3 _ ?_
  refine T.regD 22 [0, 1, 2, 4, 5, 10, 20] fun Kr hKr => ?_
  simp only [go_sem]
  (repeat (refine ⟨by (first | exact True.intro | omega | rfl | (simp; done) | (simp; omega)), ?_⟩)); try (refine hKr _ ?_; clear hKr Kr)
  refine ⟨i + 1, ?_, ?_, Le.fitS (by (repeat (first | exact DFit.nil | refine DFit.cons (by first | rfl | (simp [slook]; done) | (simp [slook]; omega)) ?_))) ?_⟩
  · refine ⟨by omega, ?_⟩
    rw [take_succ_d hb, List.any_append, hn]
    simp only [List.any_cons, List.any_nil, Bool.or_false, Bool.false_or, decide_eq_false_iff_not]
    exact hc
  · omega
  · (repeat (first | exact True.intro | refine And.intro (by first | rfl | (simp [look]; done)) ?_))
end Go.Proofs
