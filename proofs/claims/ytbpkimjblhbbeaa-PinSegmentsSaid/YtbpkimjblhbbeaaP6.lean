/- Pins: plain laws about valid lists and putting; the reference's made lists. -/
import Derived.Test.YtbpkimjblhbbeaaP5
set_option linter.unusedVariables false
set_option linter.unusedSimpArgs false
namespace Go.Proofs
open Go Go.Ideal
set_option maxRecDepth 8000
set_option maxHeartbeats 4000000

/-! Valid lists -/
structure V1 (n : Int) (p : Pin) : Prop where
  f0 : 0 ≤ p.f
  lt : p.f < p.t
  le : p.t ≤ n
  w0 : -1 ≤ p.w
  w1 : p.w < 200
def V (n : Int) (l : List Pin) : Prop := l.Pairwise (fun a b => a.t ≤ b.f) ∧ ∀ p ∈ l, V1 n p
theorem validFrom_iff (n : Int) : ∀ (l : List Pin) (e : Int), 0 ≤ e → (validFrom n e l = true ↔ V n l ∧ ∀ p ∈ l, e ≤ p.f)
  | [], e, _ => by simp [validFrom, V]
  | p :: l, e, he => by
    simp only [validFrom, Bool.and_eq_true, Bool.not_eq_true', Bool.or_eq_false_iff, decide_eq_false_iff_not]
    constructor
    · rintro ⟨⟨⟨⟨h1, h2⟩, h3⟩, h4, h5⟩, h6⟩
      obtain ⟨⟨g1, g2⟩, g3⟩ := (validFrom_iff n l p.t (by omega)).1 h6
      refine ⟨⟨List.pairwise_cons.2 ⟨g3, g1⟩, ?_⟩, ?_⟩
      · intro q hq
        rcases List.mem_cons.1 hq with rfl | hq
        · exact ⟨by omega, by omega, by omega, by omega, by omega⟩
        · exact g2 q hq
      · intro q hq
        rcases List.mem_cons.1 hq with rfl | hq
        · omega
        · have := g3 q hq; omega
    · rintro ⟨⟨h1, h2⟩, h3⟩
      obtain ⟨h4, h5⟩ := List.pairwise_cons.1 h1
      have hp := h2 p (by simp)
      have he := h3 p (by simp)
      exact ⟨⟨⟨⟨by omega, by have := hp.lt; omega⟩, by have := hp.le; omega⟩, by have := hp.w0; omega, by have := hp.w1; omega⟩,
        (validFrom_iff n l p.t (by have := hp.lt; have := hp.f0; omega)).2 ⟨⟨h5, fun q hq => h2 q (by simp [hq])⟩, h4⟩⟩
theorem validP_iff (n : Int) (l : List Pin) : validP l n = true ↔ (0 ≤ n ∧ n ≤ 40) ∧ V n l := by
  simp only [validP, Bool.and_eq_true, Bool.not_eq_true', Bool.or_eq_false_iff, decide_eq_false_iff_not, validFrom_iff n l 0 (Int.le_refl _)]
  constructor
  · rintro ⟨⟨h1, h2⟩, h3, _⟩; exact ⟨⟨by omega, by omega⟩, h3⟩
  · rintro ⟨⟨h1, h2⟩, h3⟩; exact ⟨⟨by omega, by omega⟩, h3, fun p hp => (h3.2 p hp).f0⟩
theorem V.nil (n : Int) : V n [] := by simp [V]
theorem V.one {n : Int} {p : Pin} (h : V1 n p) : V n [p] := by simpa [V] using h
theorem V.len {n : Int} {l : List Pin} (h : V n l) : (l.length : Int) ≤ max n 0 := by
  have : ∀ (l : List Pin) (e : Int), 0 ≤ e → V n l → (∀ p ∈ l, e ≤ p.f) → e + l.length ≤ max n e := by
    intro l
    induction l with
    | nil => intro e he _ _; simp; omega
    | cons p l ih =>
      intro e he hv hl
      obtain ⟨h4, h5⟩ := List.pairwise_cons.1 hv.1
      have hp := hv.2 p (by simp)
      have h1 := hl p (by simp)
      have := ih p.t (by have := hp.lt; have := hp.f0; omega) ⟨h5, fun q hq => hv.2 q (by simp [hq])⟩ h4
      have := hp.lt
      have := hp.le
      simp only [List.length_cons]
      omega
  have := this l 0 (Int.le_refl _) h (fun p hp => (h.2 p hp).f0)
  omega

theorem putP_V {n : Int} {l : List Pin} {p : Pin} (h : V n l) (hp : V1 n p) : V n (putP l p) := by
  constructor
  · unfold putP
    rw [List.pairwise_append]
    refine ⟨h.1.filter _, List.pairwise_cons.2 ⟨?_, h.1.filter _⟩, ?_⟩
    · intro q hq; have := (List.mem_filter.1 hq).2; simp at this; exact this
    · intro a ha b hb
      have h1 := (List.mem_filter.1 ha).2
      simp at h1
      rcases List.mem_cons.1 hb with rfl | hb
      · exact h1
      · have h2 := (List.mem_filter.1 hb).2
        simp at h2
        have := hp.lt; omega
  · intro q hq
    unfold putP at hq
    simp only [List.mem_append, List.mem_cons, List.mem_filter] at hq
    rcases hq with hq | rfl | hq
    · exact h.2 q hq.1
    · exact hp
    · exact h.2 q hq.1

theorem foldR_true (p : Pin) (hp : p.f < p.t) : ∀ (l : List Pin) (out : List Pin), (∀ q ∈ l, q.f < q.t ∧ q.f ≥ p.f) →
    l.foldl (stepR p) (out, true) = (out ++ l.filter (fun q => decide (q.f ≥ p.t)), true)
  | [], out, _ => by simp
  | q :: l, out, h => by
    have hq := h q (by simp)
    rw [List.foldl_cons]
    by_cases hc : q.f ≥ p.t
    · have ho : over q p = false := by simp [over]; omega
      have : stepR p (out, true) q = (out ++ [q], true) := by simp [stepR, ho]
      rw [this, foldR_true p hp l _ (fun r hr => h r (by simp [hr])), List.filter_cons, if_pos (by simpa using hc)]
      simp
    · have ho : over q p = true := by simp [over]; omega
      have : stepR p (out, true) q = (out, true) := by simp [stepR, ho]
      rw [this, foldR_true p hp l _ (fun r hr => h r (by simp [hr])), List.filter_cons, if_neg (by simpa using hc)]
theorem foldR_false (p : Pin) (hp : p.f < p.t) : ∀ (l : List Pin) (out : List Pin), l.Pairwise (fun a b => a.t ≤ b.f) → (∀ q ∈ l, q.f < q.t) →
    (if (l.foldl (stepR p) (out, false)).2 then (l.foldl (stepR p) (out, false)).1 else (l.foldl (stepR p) (out, false)).1 ++ [p]) = out ++ putP l p
  | [], out, _, _ => by simp [putP]
  | q :: l, out, hw, h => by
    have hq := h q (by simp)
    obtain ⟨h4, h5⟩ := List.pairwise_cons.1 hw
    rw [List.foldl_cons]
    by_cases hc : q.f ≥ p.f
    · have hall : ∀ r ∈ q :: l, r.f < r.t ∧ r.f ≥ p.f := by
        intro r hr
        refine ⟨h r hr, ?_⟩
        rcases List.mem_cons.1 hr with rfl | hr
        · exact hc
        · have := h4 r hr; omega
      have hB : (q :: l).filter (fun q => decide (q.t ≤ p.f)) = [] := by
        rw [List.filter_eq_nil_iff]
        intro r hr; have := hall r hr; simp; omega
      have hst : stepR p (out, false) q = stepR p (out ++ [p], true) q := by simp [stepR, hc]
      have := foldR_true p hp (q :: l) (out ++ [p]) hall
      rw [List.foldl_cons] at this
      rw [hst, this]
      simp [putP, hB]
    · have hst : stepR p (out, false) q = (out ++ (if decide (q.t ≤ p.f) then [q] else []), false) := by
        have ho : over q p = !decide (q.t ≤ p.f) := by
          simp only [over]
          rw [decide_eq_true (show q.f < p.t by omega), Bool.true_and]
          by_cases h : q.t ≤ p.f
          · rw [decide_eq_true h, decide_eq_false (by omega)]; rfl
          · rw [decide_eq_false h, decide_eq_true (by omega)]; rfl
        simp only [stepR, ho]
        rw [decide_eq_false hc]
        cases decide (q.t ≤ p.f) <;> simp
      rw [hst, foldR_false p hp l _ h5 (fun r hr => h r (by simp [hr]))]
      have hA : (q :: l).filter (fun q => decide (q.f ≥ p.t)) = l.filter (fun q => decide (q.f ≥ p.t)) := by
        rw [List.filter_cons, if_neg (by simp; omega)]
      unfold putP
      rw [hA, List.filter_cons]
      cases decide (q.t ≤ p.f) <;> simp
theorem putR_eq {n : Int} {l : List Pin} {p : Pin} (h : V n l) (hp : V1 n p) : putR l p = putP l p := by
  have := foldR_false p hp.lt l [] h.1 (fun q hq => (h.2 q hq).lt)
  rw [List.nil_append] at this
  exact this

theorem putP_twice {n : Int} {l : List Pin} {p : Pin} (h : V n l) (hp : V1 n p) : putP (putP l p) p = putP l p := by
  have h1 := hp.lt
  have a1 : ∀ q ∈ l.filter (fun q => decide (q.f ≥ p.t)), ¬ q.t ≤ p.f := by
    intro q hq; have := (List.mem_filter.1 hq); have h2 := (h.2 q this.1).lt; have := this.2; simp at this; omega
  have a2 : ∀ q ∈ l.filter (fun q => decide (q.t ≤ p.f)), ¬ q.f ≥ p.t := by
    intro q hq; have := (List.mem_filter.1 hq); have h2 := (h.2 q this.1).lt; have := this.2; simp at this; omega
  have e1 : (l.filter (fun q => decide (q.t ≤ p.f)) ++ p :: l.filter (fun q => decide (q.f ≥ p.t))).filter (fun q => decide (q.t ≤ p.f)) = l.filter (fun q => decide (q.t ≤ p.f)) := by
    rw [List.filter_append, List.filter_cons, if_neg (by simp; omega), (List.filter_eq_nil_iff (l := l.filter (fun q => decide (q.f ≥ p.t)))).2 (by intro q hq; simpa using a1 q hq), List.append_nil]
    simp
  have e2 : (l.filter (fun q => decide (q.t ≤ p.f)) ++ p :: l.filter (fun q => decide (q.f ≥ p.t))).filter (fun q => decide (q.f ≥ p.t)) = l.filter (fun q => decide (q.f ≥ p.t)) := by
    rw [List.filter_append, List.filter_cons, if_neg (by simp; omega), (List.filter_eq_nil_iff (l := l.filter (fun q => decide (q.t ≤ p.f)))).2 (by intro q hq; simpa using a2 q hq), List.nil_append]
    simp
  unfold putP
  rw [e1, e2]

theorem mkPin_V (a b c : UInt8) (n : Nat) (h0 : 0 < n) : V1 n (mkPin a b c n) := by
  have h1 := Nat.mod_lt a.toNat h0
  have h2 := Nat.mod_lt b.toNat (show 0 < n - a.toNat % n by omega)
  have h3 := Nat.mod_lt c.toNat (show 0 < 4 by decide)
  unfold mkPin
  constructor <;> simp only <;> omega

/-! Made lists -/
structure U3 where
  a : UInt8
  b : UInt8
  c : UInt8
  deriving DecidableEq, Inhabited
@[go_sem] def u3A (x : U3) : AV := .agg [.int .u8 x.a.toNat, .int .u8 x.b.toNat, .int .u8 x.c.toNat]
def u3sOf (l : List U3) : List AV := l.map u3A
@[go_sem] theorem u3sOf_len (l : List U3) : (u3sOf l).length = l.length := by simp [u3sOf]
@[go_sem] theorem u3sOf_get {l : List U3} {i : Nat} (h : i < l.length) : (u3sOf l).getD i .junk = u3A (l.getD i default) := by simp [u3sOf, List.getD, h]
def U3.pin (x : U3) (n : Nat) : Pin := mkPin x.a x.b x.c n
def mk5 (l : List U3) (n : Nat) : List Pin := l.foldl (fun out x => putP out (x.pin n)) []
def made (l : List U3) (n : Nat) : List Pin := mk5 (l.take 5) n
theorem made_V (l : List U3) (n : Nat) (h0 : 0 < n) : V n (made l n) := by
  have : ∀ (l : List U3) (out : List Pin), V n out → V n (l.foldl (fun out x => putP out (x.pin n)) out) := by
    intro l
    induction l with
    | nil => intro out h; exact h
    | cons x l ih => intro out h; exact ih _ (putP_V h (mkPin_V _ _ _ n h0))
  exact this _ _ (V.nil n)
theorem made_spec (l : List U3) (n : Nat) (h0 : 0 < n) (hn : n ≤ 40) :
    Ideal.Spec Try.prog 10 [.sl false 3 (u3sOf l), .int .i64 n] (.sl false 3 (pinsOf (made l n))) none := by
  refine Ideal.Spec.of_TD (n := 31) (fn := Try.f10) rfl rfl rfl rfl rfl rfl rfl fun w ok => ?_
  refine T.post [.tmp 4] ?_
  refine T.sregD 31 [0, 1, 4, 5, 6, 15] fun Kr hKr => ?_
  simp only [go_sem, reduceCtorEq, Nat.reduceEqDiff, Nat.reduceBEq, Nat.reduceAdd, Nat.reduceMul, Nat.reduceLeDiff, Nat.reduceSub, Int.reduceToNat, Int.reduceNeg, Nat.reduceLT, Int.reduceMul, Int.reduceSub, Int.reduceAdd, Int.reduceLT, Int.reduceLE, Int.reduceGE, Int.reduceGT, Int.reduceDiv, Int.reduceMod, Int.reduceEq, Int.reducePow, Nat.reducePow, Nat.reduceDiv, Nat.reduceMod]
  (repeat (refine ⟨by (first | exact True.intro | omega | rfl | (simp; done) | (simp; omega)), ?_⟩)); try (refine hKr _ ?_; clear hKr Kr)
  refine T.sregD 31 [0, 1, 4, 5, 6, 15] fun Kr hKr => ?_
  simp only [go_sem, reduceCtorEq, Nat.reduceEqDiff, Nat.reduceBEq, Nat.reduceAdd, Nat.reduceMul, Nat.reduceLeDiff, Nat.reduceSub, Int.reduceToNat, Int.reduceNeg, Nat.reduceLT, Int.reduceMul, Int.reduceSub, Int.reduceAdd, Int.reduceLT, Int.reduceLE, Int.reduceGE, Int.reduceGT, Int.reduceDiv, Int.reduceMod, Int.reduceEq, Int.reducePow, Nat.reducePow, Nat.reduceDiv, Nat.reduceMod]
  (repeat (refine ⟨by (first | exact True.intro | omega | rfl | (simp; done) | (simp; omega)), ?_⟩)); try (refine hKr _ ?_; clear hKr Kr)
  refine T.seqK fun K41 hK41 => ?_
  refine T.sregD 31 [0, 1, 4, 5, 6, 15] fun Kr hKr => ?_
  simp only [go_sem, reduceCtorEq, Nat.reduceEqDiff, Nat.reduceBEq, Nat.reduceAdd, Nat.reduceMul, Nat.reduceLeDiff, Nat.reduceSub, Int.reduceToNat, Int.reduceNeg, Nat.reduceLT, Int.reduceMul, Int.reduceSub, Int.reduceAdd, Int.reduceLT, Int.reduceLE, Int.reduceGE, Int.reduceGT, Int.reduceDiv, Int.reduceMod, Int.reduceEq, Int.reducePow, Nat.reducePow, Nat.reduceDiv, Nat.reduceMod]
  (repeat (refine ⟨by (first | exact True.intro | omega | rfl | (simp; done) | (simp; omega)), ?_⟩)); try (refine hKr _ ?_; clear hKr Kr)
  refine T.bloop (fun i : Nat => ⟨dense 31 [(0, .sl false 3 (u3sOf l)), (1, .int .i64 n), (5, .sl false 3 (pinsOf (mk5 (l.take i) n))), (6, .int .i64 i)], []⟩) (fun i => i ≤ l.length ∧ i ≤ 5 ∧ V n (mk5 (l.take i) n)) (fun i => l.length - i) 0 (by simp [V.nil, mk5]) ?_ fun i hi => ?_
  · refine (Le.frz 7).trans ?_
    simp only [go_sem, reduceCtorEq, Nat.reduceEqDiff, Nat.reduceBEq, Nat.reduceAdd, Nat.reduceMul, Nat.reduceLeDiff, Nat.reduceSub, Int.reduceToNat, Int.reduceNeg, Nat.reduceLT, Int.reduceMul, Int.reduceSub, Int.reduceAdd, Int.reduceLT, Int.reduceLE, Int.reduceGE, Int.reduceGT, Int.reduceDiv, Int.reduceMod, Int.reduceEq, Int.reducePow, Nat.reducePow, Nat.reduceDiv, Nat.reduceMod]
    refine Le.fitS (by (repeat (first | exact DFit.nil | refine DFit.cons (by first | rfl | (simp [slook]; done) | (simp [slook]; omega)) ?_))) (by (repeat (first | exact True.intro | refine And.intro (by first | rfl | (simp [look]; done)) ?_)))
  obtain ⟨hi, hi5, hV⟩ := hi
  refine T.seqK fun K42 hK42 => ?_
  refine T.sregD 31 [0, 1, 4, 5, 6, 15] fun Kr hKr => ?_
  simp only [go_sem, reduceCtorEq, Nat.reduceEqDiff, Nat.reduceBEq, Nat.reduceAdd, Nat.reduceMul, Nat.reduceLeDiff, Nat.reduceSub, Int.reduceToNat, Int.reduceNeg, Nat.reduceLT, Int.reduceMul, Int.reduceSub, Int.reduceAdd, Int.reduceLT, Int.reduceLE, Int.reduceGE, Int.reduceGT, Int.reduceDiv, Int.reduceMod, Int.reduceEq, Int.reducePow, Nat.reducePow, Nat.reduceDiv, Nat.reduceMod]
  (repeat (refine ⟨by (first | exact True.intro | omega | rfl | (simp; done) | (simp; omega)), ?_⟩)); try (refine hKr _ ?_; clear hKr Kr)
  refine T.condFD rfl rfl (fun hb => ?_) (fun hb => ?_)
  · -- no: exit
    have hb' : ¬ (i < l.length ∧ i < 5) := fun ⟨h1, h2⟩ => by
      have e1 : decide ((i : Int) < (l.length : Int)) = true := by simp; omega
      have e2 : decide ((i : Int) < 5) = true := by simp; omega
      rw [e1, e2] at hb; simp at hb
    refine T.exit ?_
    simp only [if_true]
    refine hK41 _ ?_
    refine T.sregD 31 [0, 1, 4, 5, 6, 15] fun Kr hKr => ?_
    simp only [go_sem, reduceCtorEq, Nat.reduceEqDiff, Nat.reduceBEq, Nat.reduceAdd, Nat.reduceMul, Nat.reduceLeDiff, Nat.reduceSub, Int.reduceToNat, Int.reduceNeg, Nat.reduceLT, Int.reduceMul, Int.reduceSub, Int.reduceAdd, Int.reduceLT, Int.reduceLE, Int.reduceGE, Int.reduceGT, Int.reduceDiv, Int.reduceMod, Int.reduceEq, Int.reducePow, Nat.reducePow, Nat.reduceDiv, Nat.reduceMod]
    (repeat (refine ⟨by (first | exact True.intro | omega | rfl | (simp; done) | (simp; omega)), ?_⟩)); try (refine hKr _ ?_; clear hKr Kr)
    refine T.ret ?_
    simp only [go_sem, reduceCtorEq, Nat.reduceEqDiff, Nat.reduceBEq, Nat.reduceAdd, Nat.reduceMul, Nat.reduceLeDiff, Nat.reduceSub, Int.reduceToNat, Int.reduceNeg, Nat.reduceLT, Int.reduceMul, Int.reduceSub, Int.reduceAdd, Int.reduceLT, Int.reduceLE, Int.reduceGE, Int.reduceGT, Int.reduceDiv, Int.reduceMod, Int.reduceEq, Int.reducePow, Nat.reducePow, Nat.reduceDiv, Nat.reduceMod]
    refine Fin.dataD (congrArg (AV.sl false 3) (congrArg pinsOf ?_)) rfl rfl
    unfold made
    by_cases h : i = 5
    · rw [h]
    · rw [show i = l.length by omega, List.take_length, List.take_of_length_le (show l.length ≤ 5 by omega)]
  have hb' : i < l.length ∧ i < 5 := by
    by_cases h1 : i < l.length
    · by_cases h2 : i < 5
      · exact ⟨h1, h2⟩
      · have e1 : decide ((i : Int) < (l.length : Int)) = true := by simp; omega
        have e2 : decide ((i : Int) < 5) = false := by simp; omega
        rw [e1, e2] at hb; simp at hb
    · have e1 : decide ((i : Int) < (l.length : Int)) = false := by simp; omega
      rw [e1] at hb; simp at hb
  obtain ⟨hb1, hb5⟩ := hb'
  refine T.skip ?_
  refine hK42 _ ?_
  refine T.seqK fun K43 hK43 => ?_
  refine T.block ?_
  have hstep : mk5 (l.take (i + 1)) n = putP (mk5 (l.take i) n) ((l.getD i default).pin n) := by
    rw [take_succ_pin hb1, mk5, mk5, List.foldl_append]; rfl
  generalize mk5 (l.take i) n = out at *
  have hVp := mkPin_V (l.getD i default).a (l.getD i default).b (l.getD i default).c n h0
  have hstep2 : mk5 (l.take (i + 1)) n = putR out (mkPin (l.getD i default).a (l.getD i default).b (l.getD i default).c n) := by rw [putR_eq hV hVp]; exact hstep
  have hlen := hV.len
  have hpb : putB out (mkPin (l.getD i default).a (l.getD i default).b (l.getD i default).c n) n = true := by
    simp only [putB, Bool.and_eq_true, validP_iff]
    exact ⟨⟨⟨by omega, by omega⟩, hV⟩, ⟨by omega, by omega⟩, V.one hVp⟩
  refine T.regD 31 [0, 1, 4, 5, 6, 15] fun Kr hKr => ?_
  simp only [go_sem, reduceCtorEq, Nat.reduceEqDiff, Nat.reduceBEq, Nat.reduceAdd, Nat.reduceMul, Nat.reduceLeDiff, Nat.reduceSub, Int.reduceToNat, Int.reduceNeg, Nat.reduceLT, Int.reduceMul, Int.reduceSub, Int.reduceAdd, Int.reduceLT, Int.reduceLE, Int.reduceGE, Int.reduceGT, Int.reduceDiv, Int.reduceMod, Int.reduceEq, Int.reducePow, Nat.reducePow, Nat.reduceDiv, Nat.reduceMod, hb1]
  (repeat (refine ⟨by (first | exact True.intro | omega | rfl | (simp; done) | (simp; omega)), ?_⟩)); try (refine hKr _ ?_; clear hKr Kr)
  refine CallK.data (fun _ => Spec.args (mkPin_spec (l.getD i default).a (l.getD i default).b (l.getD i default).c n h0 (by omega)) (by (first | exact ArgsLe.refl | (repeat (first | exact True.intro | refine And.intro (by first | exact AvLe.refl | exact AvLe.loose | exact AvLe.nil | exact AvLe.nilT | (refine AvLe.agg ?_; exact ArgsLe.refl) | (refine AvLe.agg ?_; (repeat (first | exact True.intro | refine And.intro (by first | exact AvLe.refl | exact AvLe.loose | exact AvLe.nil | exact AvLe.nilT) ?_)))) ?_))))) rfl ?_
  simp only [go_sem, reduceCtorEq, Nat.reduceEqDiff, Nat.reduceBEq, Nat.reduceAdd, Nat.reduceMul, Nat.reduceLeDiff, Nat.reduceSub, Int.reduceToNat, Int.reduceNeg, Nat.reduceLT, Int.reduceMul, Int.reduceSub, Int.reduceAdd, Int.reduceLT, Int.reduceLE, Int.reduceGE, Int.reduceGT, Int.reduceDiv, Int.reduceMod, Int.reduceEq, Int.reducePow, Nat.reducePow, Nat.reduceDiv, Nat.reduceMod]
  (repeat (refine ⟨by (first | exact True.intro | omega | rfl | (simp; done) | (simp; omega)), ?_⟩)); try (refine hKr _ ?_; clear hKr Kr)
  refine CallK.tup (fun _ => Spec.args (put_ref out (mkPin (l.getD i default).a (l.getD i default).b (l.getD i default).c n) n (by omega) hpb) (by (first | exact ArgsLe.refl | (repeat (first | exact True.intro | refine And.intro (by first | exact AvLe.refl | exact AvLe.loose | exact AvLe.nil | exact AvLe.nilT | (refine AvLe.agg ?_; exact ArgsLe.refl) | (refine AvLe.agg ?_; (repeat (first | exact True.intro | refine And.intro (by first | exact AvLe.refl | exact AvLe.loose | exact AvLe.nil | exact AvLe.nilT) ?_)))) ?_))))) ?_
  simp only [go_sem, reduceCtorEq, Nat.reduceEqDiff, Nat.reduceBEq, Nat.reduceAdd, Nat.reduceMul, Nat.reduceLeDiff, Nat.reduceSub, Int.reduceToNat, Int.reduceNeg, Nat.reduceLT, Int.reduceMul, Int.reduceSub, Int.reduceAdd, Int.reduceLT, Int.reduceLE, Int.reduceGE, Int.reduceGT, Int.reduceDiv, Int.reduceMod, Int.reduceEq, Int.reducePow, Nat.reducePow, Nat.reduceDiv, Nat.reduceMod]
  (repeat (refine ⟨by (first | exact True.intro | omega | rfl | (simp; done) | (simp; omega)), ?_⟩)); try (refine hKr _ ?_; clear hKr Kr)
  refine hK43 _ ?_
  refine T.regD 31 [0, 1, 4, 5, 6, 15] fun Kr hKr => ?_
  simp only [go_sem, reduceCtorEq, Nat.reduceEqDiff, Nat.reduceBEq, Nat.reduceAdd, Nat.reduceMul, Nat.reduceLeDiff, Nat.reduceSub, Int.reduceToNat, Int.reduceNeg, Nat.reduceLT, Int.reduceMul, Int.reduceSub, Int.reduceAdd, Int.reduceLT, Int.reduceLE, Int.reduceGE, Int.reduceGT, Int.reduceDiv, Int.reduceMod, Int.reduceEq, Int.reducePow, Nat.reducePow, Nat.reduceDiv, Nat.reduceMod]
  (repeat (refine ⟨by (first | exact True.intro | omega | rfl | (simp; done) | (simp; omega)), ?_⟩)); try (refine hKr _ ?_; clear hKr Kr)
  refine ⟨i + 1, ?_, ?_, Le.fitS (by (repeat (first | exact DFit.nil | refine DFit.cons (by first | rfl | (simp [slook, hstep2]; done) | (simp [slook, hstep2]; omega)) ?_))) ?_⟩
  · rw [hstep]; exact ⟨by omega, by omega, putP_V hV hVp⟩
  · omega
  · (repeat (first | exact True.intro | refine And.intro (by first | rfl | (simp [look]; done)) ?_))
end Go.Proofs
