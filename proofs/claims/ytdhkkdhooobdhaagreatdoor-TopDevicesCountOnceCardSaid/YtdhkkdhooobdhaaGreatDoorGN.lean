/- Devices: the reference's teams: Made. -/
import Derived.Test.YtdhkkdhooobdhaaGreatDoorGM
set_option linter.unusedVariables false
set_option linter.unusedSimpArgs false
namespace Go.Proofs
open Go Go.Ideal
set_option maxRecDepth 8000
set_option maxHeartbeats 4000000

theorem team_lit {t : List Usr} (h : TeamOk t) : ∃ ar ao a0 a1 a2 a3 a4 a5 a6 a7 br bo b0 b1 b2 b3 b4 b5 b6 b7 cr co c0 c1 c2 c3 c4 c5 c6 c7,
    t = [⟨ar, ao, [a0, a1, a2, a3, a4, a5, a6, a7]⟩, ⟨br, bo, [b0, b1, b2, b3, b4, b5, b6, b7]⟩, ⟨cr, co, [c0, c1, c2, c3, c4, c5, c6, c7]⟩] := by
  obtain ⟨a, b, c, rfl⟩ := len3 h.len
  obtain ⟨ar, ao, a0, a1, a2, a3, a4, a5, a6, a7, rfl⟩ := usr_lit (u := a) (h.val 0 (by omega)).l
  obtain ⟨br, bo, b0, b1, b2, b3, b4, b5, b6, b7, rfl⟩ := usr_lit (u := b) (h.val 1 (by omega)).l
  obtain ⟨cr, co, c0, c1, c2, c3, c4, c5, c6, c7, rfl⟩ := usr_lit (u := c) (h.val 2 (by omega)).l
  exact ⟨_, _, _, _, _, _, _, _, _, _, _, _, _, _, _, _, _, _, _, _, _, _, _, _, _, _, _, _, _, _, rfl⟩
def zero30 : List AV := [.sl true 1 [], .sl true 1 [], .int .i64 0, .int .i64 0, .int .i64 0, .int .i64 0, .int .i64 0, .int .i64 0, .int .i64 0, .int .i64 0, .sl true 1 [], .sl true 1 [], .int .i64 0, .int .i64 0, .int .i64 0, .int .i64 0, .int .i64 0, .int .i64 0, .int .i64 0, .int .i64 0, .sl true 1 [], .sl true 1 [], .int .i64 0, .int .i64 0, .int .i64 0, .int .i64 0, .int .i64 0, .int .i64 0, .int .i64 0, .int .i64 0]
theorem zero_le_team : ArgsLe zero30 (noTeam.flatMap usrL) := ⟨AvLe.nil, AvLe.nil, AvLe.refl, AvLe.refl, AvLe.refl, AvLe.refl, AvLe.refl, AvLe.refl, AvLe.refl, AvLe.refl, AvLe.nil, AvLe.nil, AvLe.refl, AvLe.refl, AvLe.refl, AvLe.refl, AvLe.refl, AvLe.refl, AvLe.refl, AvLe.refl, AvLe.nil, AvLe.nil, ArgsLe.refl⟩
def rawTs (l : List RawT) : List AV := l.map rawTA
@[go_sem] theorem rawTs_len (l : List RawT) : (rawTs l).length = l.length := by simp [rawTs]
@[go_sem] theorem rawTs_get {l : List RawT} {i : Nat} (h : i < l.length) : (rawTs l).getD i .junk = rawTA (l.getD i default) := by simp [rawTs, List.getD, h]
theorem Made26_spec (l : List RawT) (hok : ∀ x ∈ l, OkRawT x) : Ideal.Spec Tryz.prog 5 [.sl false 8 (rawTs l)] (teamA (madeN l 20)) none := by
  refine Ideal.Spec.of_CD (n := 23) (fn := Tryz.f5) rfl rfl rfl rfl rfl rfl rfl fun w ok => ?_
  refine T.post [.tmp 2] ?_
  refine T.sregD 23 [0, 2, 3, 4, 13] fun Kr hKr => ?_
  simp only [go_sem]
  (repeat (refine ⟨by (first | exact True.intro | omega | rfl | (simp; done) | (simp; omega)), ?_⟩)); try (refine hKr _ ?_; clear hKr Kr)
  refine T.sregD 23 [0, 2, 3, 4, 13] fun Kr hKr => ?_
  simp only [go_sem]
  (repeat (refine ⟨by (first | exact True.intro | omega | rfl | (simp; done) | (simp; omega)), ?_⟩)); try (refine hKr _ ?_; clear hKr Kr)
  refine T.seqK fun K1 hK1 => ?_
  refine T.sregD 23 [0, 2, 3, 4, 13] fun Kr hKr => ?_
  simp only [go_sem]
  (repeat (refine ⟨by (first | exact True.intro | omega | rfl | (simp; done) | (simp; omega)), ?_⟩)); try (refine hKr _ ?_; clear hKr Kr)
  refine T.bloop (fun i : Nat => ⟨dense 23 [(0, .sl false 8 (rawTs l)), (2, .op 2 0 0), (3, .op 3 0 0), (4, .int .i64 i)], [(3, ⟨30, 31, true, [teamA (madeN l i)]⟩), (2, ⟨30, 31, true, [.agg zero30]⟩)]⟩) (fun i => i ≤ l.length ∧ i ≤ 20) (fun i => l.length - i) 0 (by simp) ?_ fun i hi => ?_
  · refine (Le.boxW 3 30 31 _ _ rfl rfl rfl zero_le_team).trans ?_
    refine Le.fitS (by (repeat (first | exact DFit.nil | refine DFit.cons (by first | rfl | (simp [slook]; done) | (simp [slook]; omega)) ?_))) (by (repeat (first | exact True.intro | refine And.intro (by first | rfl | (simp [look]; done)) ?_)))
  obtain ⟨hi, hin⟩ := hi
  have hT := (TInv.made false l (by simp) i hi (by omega)).teamOk (by omega)
  simp only [zero30]
  refine T.seqK fun K2 hK2 => ?_
  by_cases hb : i < l.length ∧ i < 20
  rotate_left
  · have e : madeN l 20 = madeN l i := by
      unfold madeN
      rcases (by omega : i = 20 ∨ i = l.length) with e | e
      · rw [e]
      · rw [e, List.take_length, List.take_of_length_le (by omega)]
    have hg : (bif decide ((i : Int) < (l.length : Int)) then decide ((i : Int) < 20) else false) = false := by
      rw [cond_and, Bool.and_eq_false_iff, decide_eq_false_iff_not, decide_eq_false_iff_not]; omega
    rw [e]
    obtain ⟨ar, ao, a0, a1, a2, a3, a4, a5, a6, a7, br, bo, b0, b1, b2, b3, b4, b5, b6, b7, cr, co, c0, c1, c2, c3, c4, c5, c6, c7, et⟩ := team_lit hT
    rw [et]
    simp only [teamA, usrL, List.flatMap_cons, List.flatMap_nil, intsOf_cons, intsOf_nil, List.cons_append, List.nil_append, List.append_nil]
    refine T.sregD 23 [0, 2, 3, 4, 13] fun Kr hKr => ?_
    simp only [go_sem, hg]
    (repeat (refine ⟨by (first | exact True.intro | omega | rfl | (simp; done) | (simp; omega)), ?_⟩)); try (refine hKr _ ?_; clear hKr Kr)
    refine T.condFD rfl rfl (fun hc => ?_) (fun hc => ?_) <;> try simp at hc
    refine T.exit ?_
    simp only [if_true]
    refine hK1 _ ?_
    refine T.sregD 23 [0, 2, 3, 4, 13] fun Kr hKr => ?_
    simp only [go_sem]
    (repeat (refine ⟨by (first | exact True.intro | omega | rfl | (simp; done) | (simp; omega)), ?_⟩)); try (refine hKr _ ?_; clear hKr Kr)
    refine T.ret ?_
    simp only [go_sem]
    exact ⟨ResCellD rfl rfl rfl rfl (by simp only [go_sem]) (by rw [e, et]; simp only [teamA, usrL, List.flatMap_cons, List.flatMap_nil, intsOf_cons, intsOf_nil, List.cons_append, List.nil_append, List.append_nil]; simp only [go_sem]) (by rw [e, et]; rfl), trivial⟩
  have g1 : ((i : Int) < (l.length : Int)) = True := eq_true (by omega)
  have g2 : ((i : Int) < 20) = True := eq_true (by omega)
  obtain ⟨hb, hb2⟩ := hb
  have s1 := Step26_spec (madeN l i) (l.getD i default) hT (hok _ (by simp [List.getD, hb]))
  have es : madeN l (i + 1) = stepT (madeN l i) (l.getD i default) := by
    unfold madeN; rw [take_succ_d hb, List.foldl_append]; rfl
  rw [← es] at s1
  have hT1 := (TInv.made false l (by simp) (i + 1) hb (by omega)).teamOk (by omega)
  obtain ⟨ar, ao, a0, a1, a2, a3, a4, a5, a6, a7, br, bo, b0, b1, b2, b3, b4, b5, b6, b7, cr, co, c0, c1, c2, c3, c4, c5, c6, c7, et⟩ := team_lit hT
  obtain ⟨mr, mo, m0, m1, m2, m3, m4, m5, m6, m7, nr, no, n0, n1, n2, n3, n4, n5, n6, n7, pr, po, p0, p1, p2, p3, p4, p5, p6, p7, en⟩ := team_lit hT1
  rw [et]
  rw [et, en] at s1
  simp only [teamA, usrL, List.flatMap_cons, List.flatMap_nil, intsOf_cons, intsOf_nil, List.cons_append, List.nil_append, List.append_nil] at s1 ⊢
  refine T.sregD 23 [0, 2, 3, 4, 13] fun Kr hKr => ?_
  simp only [go_sem, g1, g2]
  (repeat (refine ⟨by (first | exact True.intro | omega | rfl | (simp; done) | (simp; omega)), ?_⟩)); try (refine hKr _ ?_; clear hKr Kr)
  refine T.condFD rfl rfl (fun hc => ?_) (fun hc => ?_) <;> try simp at hc
  refine T.skip ?_
  refine hK2 _ ?_
  refine T.seqK fun K3 hK3 => ?_
  refine T.block ?_
  refine T.drawD 23 [0, 2, 3, 4, 13] (.take 1 (.take 2 (.take 3 (.take 4 (.one 0 (.one 5 (.one 6 .done))))))) [] rfl (by decide +kernel) (by decide +kernel) fun Kr hKr => ?_
  simp only [go_sem, hb]
  (repeat (refine ⟨by (first | exact True.intro | omega | rfl | (simp; done) | (simp; omega)), ?_⟩)); try (refine hKr _ ?_; clear hKr Kr)
  refine CallK.data (fun _ => Spec.args (s1) (by (first | exact ArgsLe.refl | (repeat (first | exact True.intro | refine And.intro (by first | exact AvLe.refl | exact AvLe.loose | exact AvLe.nil | exact AvLe.nilT | exact AvLe.slk | (refine AvLe.agg ?_; exact ArgsLe.refl) | (refine AvLe.agg ?_; (repeat (first | exact True.intro | refine And.intro (by first | exact AvLe.refl | exact AvLe.loose | exact AvLe.nil | exact AvLe.nilT | exact AvLe.slk) ?_)))) ?_))))) rfl ?_
  simp only [go_sem]
  (repeat (refine ⟨by (first | exact True.intro | omega | rfl | (simp; done) | (simp; omega)), ?_⟩)); try (refine hKr _ ?_; clear hKr Kr)
  refine hK3 _ ?_
  refine T.regD 23 [0, 2, 3, 4, 13] fun Kr hKr => ?_
  simp only [go_sem]
  (repeat (refine ⟨by (first | exact True.intro | omega | rfl | (simp; done) | (simp; omega)), ?_⟩)); try (refine hKr _ ?_; clear hKr Kr)
  refine ⟨i + 1, ?_, ?_, Le.fitS (by (repeat (first | exact DFit.nil | refine DFit.cons (by first | rfl | (simp [slook]; done) | (simp [slook]; omega)) ?_))) ?_⟩
  · omega
  · omega
  · rw [en]; (repeat (first | exact True.intro | refine And.intro (by first | rfl | (simp [look]; done)) ?_))
end Go.Proofs
