/- Undo: contracts of edits without a mark, of what depends on a commit. -/
import Derived.Test.YtdhkkdhooobdhaaU2
set_option linter.unusedVariables false
set_option linter.unusedSimpArgs false
namespace Go.Proofs
open Go Go.Ideal
set_option maxRecDepth 8000
set_option maxHeartbeats 4000000

def woF (m : Mark) (p : Int) : Int := if p ≤ m.f then p else if p < m.t then m.f else p - (m.t - m.f)
@[go_sem] def mkC (m : Mark) : AV := .cp [.int .i64 m.id, .int .i64 m.f, .int .i64 m.t, .bool m.w]
theorem without1_spec (m : Mark) (p : Int) (hm : SmM m) (hp : 0 ≤ p ∧ p ≤ 1000000) : Ideal.Spec Try.prog 57 [.int .i64 p, mkC m] (.int .i64 (woF m p)) none := by
  obtain ⟨⟨h1, h2⟩, h3, h4⟩ := hm
  obtain ⟨h5, h6⟩ := hp
  refine Ideal.Spec.of_TD (n := 24) (fn := Try.f57) rfl rfl rfl rfl rfl rfl rfl fun w ok => ?_
  refine T.sregD 24 [0, 1, 3, 4, 10] fun Kr hKr => ?_
  simp only [go_sem]
  (repeat (refine ⟨by (first | exact True.intro | omega | rfl | (simp; done) | (simp; omega)), ?_⟩)); try (refine hKr _ ?_; clear hKr Kr)
  refine T.seqK fun K139 hK139 => ?_
  refine T.block ?_
  refine T.sregD 24 [0, 1, 3, 4, 10] fun Kr hKr => ?_
  simp only [go_sem]
  (repeat (refine ⟨by (first | exact True.intro | omega | rfl | (simp; done) | (simp; omega)), ?_⟩)); try (refine hKr _ ?_; clear hKr Kr)
  refine T.condTD rfl rfl (fun hb => ?_) (fun hb => ?_) <;> simp at hb
  · -- yes
    have e : woF m p = p := by simp [woF, hb]
    refine T.sregD 24 [0, 1, 3, 4, 10] fun Kr hKr => ?_
    simp only [go_sem]
    (repeat (refine ⟨by (first | exact True.intro | omega | rfl | (simp; done) | (simp; omega)), ?_⟩)); try (refine hKr _ ?_; clear hKr Kr)
    refine T.ret (Fin.dataD (by rw [e]; rfl) rfl rfl)
  refine T.sregD 24 [0, 1, 3, 4, 10] fun Kr hKr => ?_
  simp only [go_sem]
  (repeat (refine ⟨by (first | exact True.intro | omega | rfl | (simp; done) | (simp; omega)), ?_⟩)); try (refine hKr _ ?_; clear hKr Kr)
  have hb' : ¬ p ≤ m.f := by omega
  refine T.condTD rfl rfl (fun hc => ?_) (fun hc => ?_) <;> simp at hc
  · -- yes
    have e : woF m p = m.f := by simp [woF, hb', hc]
    refine T.sregD 24 [0, 1, 3, 4, 10] fun Kr hKr => ?_
    simp only [go_sem]
    (repeat (refine ⟨by (first | exact True.intro | omega | rfl | (simp; done) | (simp; omega)), ?_⟩)); try (refine hKr _ ?_; clear hKr Kr)
    refine T.ret (Fin.dataD (by rw [e]; rfl) rfl rfl)
  have hc' : ¬ p < m.t := by omega
  have e : woF m p = p - (m.t - m.f) := by simp [woF, hb', hc']
  refine T.skip ?_
  refine hK139 _ ?_
  refine T.sregD 24 [0, 1, 3, 4, 10] fun Kr hKr => ?_
  simp only [go_sem]
  (repeat (refine ⟨by (first | exact True.intro | omega | rfl | (simp; done) | (simp; omega)), ?_⟩)); try (refine hKr _ ?_; clear hKr Kr)
  refine T.ret (Fin.dataD (by rw [e]; rfl) rfl rfl)
theorem withoutU_spec (m : Mark) : Ideal.Spec Try.prog 42 [mkA m] (.fn 57 [mkC m]) none := by
  refine Ideal.Spec.of_TD (n := 4) (fn := Try.f42) rfl rfl rfl rfl rfl rfl rfl fun w ok => ?_
  refine T.post [.tmp 2] ?_
  refine T.sregD 4 [0, 1, 2] fun Kr hKr => ?_
  simp only [go_sem]
  (repeat (refine ⟨by (first | exact True.intro | omega | rfl | (simp; done) | (simp; omega)), ?_⟩)); try (refine hKr _ ?_; clear hKr Kr)
  refine T.sregD 4 [0, 1, 2] fun Kr hKr => ?_
  simp only [go_sem]
  (repeat (refine ⟨by (first | exact True.intro | omega | rfl | (simp; done) | (simp; omega)), ?_⟩)); try (refine hKr _ ?_; clear hKr Kr)
  refine T.ret ?_
  simp only [go_sem]
  exact Fin.dataD rfl rfl rfl
def tgtF (e : Edit) (m : Mark) : Int :=
  if e.n > 0 ∧ m.f ≥ e.a ∧ m.t ≤ e.a + e.n then e.t
  else match carM ⟨2, e.a, e.n, 0, []⟩ m with
    | none => e.t
    | some r => woF r e.t
theorem target_spec (e : Edit) (m : Mark) (hm : SmM m) (ha : Sm e.a) (hn : Sm e.n) (ht : Sm e.t) : Ideal.Spec Try.prog 43 [editA e, mkA m] (.int .i64 (tgtF e m)) none := by
  have sC := Carry_spec ⟨2, e.a, e.n, 0, []⟩ m hm ⟨ha, fun _ => hn, fun h => by simp at h, by simp⟩
  obtain ⟨h5, h6⟩ := ha
  obtain ⟨h7, h8⟩ := hn
  obtain ⟨h9, h10⟩ := ht
  refine Ideal.Spec.of_TD (n := 48) (fn := Try.f43) rfl rfl rfl rfl rfl rfl rfl fun w ok => ?_
  refine T.sregD 48 [0, 1, 2, 3, 4, 5, 6, 26, 40] fun Kr hKr => ?_
  simp only [go_sem]
  (repeat (refine ⟨by (first | exact True.intro | omega | rfl | (simp; done) | (simp; omega)), ?_⟩)); try (refine hKr _ ?_; clear hKr Kr)
  refine T.seqK fun K103 hK103 => ?_
  refine T.sregD 48 [0, 1, 2, 3, 4, 5, 6, 26, 40] fun Kr hKr => ?_
  simp only [go_sem, cond_and]
  (repeat (refine ⟨by (first | exact True.intro | omega | rfl | (simp; done) | (simp; omega)), ?_⟩)); try (refine hKr _ ?_; clear hKr Kr)
  refine T.condTD rfl rfl (fun hb => ?_) (fun hb => ?_) <;> simp only [Bool.and_eq_true, decide_eq_true_eq, Bool.and_eq_false_iff, decide_eq_false_iff_not] at hb
  · have ee : tgtF e m = e.t := by unfold tgtF; rw [if_pos ⟨hb.1.1, hb.1.2, hb.2⟩]
    refine T.sregD 48 [0, 1, 2, 3, 4, 5, 6, 26, 40] fun Kr hKr => ?_
    simp only [go_sem]
    (repeat (refine ⟨by (first | exact True.intro | omega | rfl | (simp; done) | (simp; omega)), ?_⟩)); try (refine hKr _ ?_; clear hKr Kr)
    refine T.ret (Fin.dataD (by rw [ee]; rfl) rfl rfl)
  have e1 : tgtF e m = match carM ⟨2, e.a, e.n, 0, []⟩ m with
    | none => e.t
    | some r => woF r e.t := by unfold tgtF; rw [if_neg (by omega)]
  have hsm : ∀ r, carM ⟨2, e.a, e.n, 0, []⟩ m = some r → SmM r := by
    intro r hr
    simp only [carM] at hr
    rw [if_neg (by decide), if_pos trivial, delM] at hr
    split at hr
    · cases hr
    · cases hr; exact ⟨shutP_sm hm.1 ⟨h5, h6⟩ ⟨h7, h8⟩, shutP_sm hm.2 ⟨h5, h6⟩ ⟨h7, h8⟩⟩
  refine T.skip ?_
  refine hK103 _ ?_
  generalize carM ⟨2, e.a, e.n, 0, []⟩ m = r at *
  cases r with
  | none =>
    refine T.sregD 48 [0, 1, 2, 3, 4, 5, 6, 26, 40] fun Kr hKr => ?_
    simp only [go_sem]
    (repeat (refine ⟨by (first | exact True.intro | omega | rfl | (simp; done) | (simp; omega)), ?_⟩)); try (refine hKr _ ?_; clear hKr Kr)
    refine CallK.tup (fun _ => Spec.args (sC) (by (first | exact ArgsLe.refl | (repeat (first | exact True.intro | refine And.intro (by first | exact AvLe.refl | exact AvLe.loose | exact AvLe.nil | exact AvLe.nilT | exact AvLe.slk | (refine AvLe.agg ?_; exact ArgsLe.refl) | (refine AvLe.agg ?_; (repeat (first | exact True.intro | refine And.intro (by first | exact AvLe.refl | exact AvLe.loose | exact AvLe.nil | exact AvLe.nilT | exact AvLe.slk) ?_)))) ?_))))) ?_
    simp only [go_sem]
    (repeat (refine ⟨by (first | exact True.intro | omega | rfl | (simp; done) | (simp; omega)), ?_⟩)); try (refine hKr _ ?_; clear hKr Kr)
    refine T.seqK fun K104 hK104 => ?_
    refine T.sregD 48 [0, 1, 2, 3, 4, 5, 6, 26, 40] fun Kr hKr => ?_
    simp only [go_sem]
    (repeat (refine ⟨by (first | exact True.intro | omega | rfl | (simp; done) | (simp; omega)), ?_⟩)); try (refine hKr _ ?_; clear hKr Kr)
    refine T.condTD rfl rfl (fun hc => ?_) (fun hc => ?_) <;> try simp at hc
    refine T.sregD 48 [0, 1, 2, 3, 4, 5, 6, 26, 40] fun Kr hKr => ?_
    simp only [go_sem]
    (repeat (refine ⟨by (first | exact True.intro | omega | rfl | (simp; done) | (simp; omega)), ?_⟩)); try (refine hKr _ ?_; clear hKr Kr)
    refine T.ret (Fin.dataD (by rw [e1]; rfl) rfl rfl)
  | some r =>
    have s1 := withoutU_spec r
    have s2 := without1_spec r e.t (hsm r rfl) ⟨by omega, by omega⟩
    refine T.sregD 48 [0, 1, 2, 3, 4, 5, 6, 26, 40] fun Kr hKr => ?_
    simp only [go_sem]
    (repeat (refine ⟨by (first | exact True.intro | omega | rfl | (simp; done) | (simp; omega)), ?_⟩)); try (refine hKr _ ?_; clear hKr Kr)
    refine CallK.tup (fun _ => Spec.args (sC) (by (first | exact ArgsLe.refl | (repeat (first | exact True.intro | refine And.intro (by first | exact AvLe.refl | exact AvLe.loose | exact AvLe.nil | exact AvLe.nilT | exact AvLe.slk | (refine AvLe.agg ?_; exact ArgsLe.refl) | (refine AvLe.agg ?_; (repeat (first | exact True.intro | refine And.intro (by first | exact AvLe.refl | exact AvLe.loose | exact AvLe.nil | exact AvLe.nilT | exact AvLe.slk) ?_)))) ?_))))) ?_
    simp only [go_sem]
    (repeat (refine ⟨by (first | exact True.intro | omega | rfl | (simp; done) | (simp; omega)), ?_⟩)); try (refine hKr _ ?_; clear hKr Kr)
    refine T.seqK fun K104 hK104 => ?_
    refine T.sregD 48 [0, 1, 2, 3, 4, 5, 6, 26, 40] fun Kr hKr => ?_
    simp only [go_sem]
    (repeat (refine ⟨by (first | exact True.intro | omega | rfl | (simp; done) | (simp; omega)), ?_⟩)); try (refine hKr _ ?_; clear hKr Kr)
    refine T.condTD rfl rfl (fun hc => ?_) (fun hc => ?_) <;> try simp at hc
    refine T.skip ?_
    refine hK104 _ ?_
    refine T.sdrawD 48 [0, 1, 2, 3, 4, 5, 6, 26, 40] (.take 0 (.take 2 (.take 3 (.one 1 (.one 4 (.take 5 .done)))))) [2, 5] rfl (by decide +kernel) (by decide +kernel) fun Kr hKr => ?_
    simp only [go_sem]
    (repeat (refine ⟨by (first | exact True.intro | omega | rfl | (simp; done) | (simp; omega)), ?_⟩)); try (refine hKr _ ?_; clear hKr Kr)
    refine CallK.data (fun _ => Spec.args (s1) (by (first | exact ArgsLe.refl | (repeat (first | exact True.intro | refine And.intro (by first | exact AvLe.refl | exact AvLe.loose | exact AvLe.nil | exact AvLe.nilT | exact AvLe.slk | (refine AvLe.agg ?_; exact ArgsLe.refl) | (refine AvLe.agg ?_; (repeat (first | exact True.intro | refine And.intro (by first | exact AvLe.refl | exact AvLe.loose | exact AvLe.nil | exact AvLe.nilT | exact AvLe.slk) ?_)))) ?_))))) rfl ?_
    simp only [go_sem]
    (repeat (refine ⟨by (first | exact True.intro | omega | rfl | (simp; done) | (simp; omega)), ?_⟩)); try (refine hKr _ ?_; clear hKr Kr)
    refine CallK.data (fun _ => Spec.args (s2) (by (first | exact ArgsLe.refl | (repeat (first | exact True.intro | refine And.intro (by first | exact AvLe.refl | exact AvLe.loose | exact AvLe.nil | exact AvLe.nilT | exact AvLe.slk | (refine AvLe.agg ?_; exact ArgsLe.refl) | (refine AvLe.agg ?_; (repeat (first | exact True.intro | refine And.intro (by first | exact AvLe.refl | exact AvLe.loose | exact AvLe.nil | exact AvLe.nilT | exact AvLe.slk) ?_)))) ?_))))) rfl ?_
    simp only [go_sem]
    (repeat (refine ⟨by (first | exact True.intro | omega | rfl | (simp; done) | (simp; omega)), ?_⟩)); try (refine hKr _ ?_; clear hKr Kr)
    refine T.ret (Fin.dataD (by rw [e1]; rfl) rfl rfl)
/-- An edit without a mark. -/
def movU (e : Edit) (m : Mark) : Edit :=
  if e.k = 1 then ⟨e.k, woF m e.a, e.n, e.t, e.s⟩ else ⟨e.k, woF m e.a, woF m (e.a + e.n) - woF m e.a, if e.k = 3 then tgtF e m else e.t, e.s⟩
theorem woF_sm {m : Mark} {p : Int} (hm : SmM m) (hp : 0 ≤ p ∧ p ≤ 1000000) : -1000000 ≤ woF m p ∧ woF m p ≤ 2000000 := by
  obtain ⟨⟨h1, h2⟩, h3, h4⟩ := hm
  unfold woF
  split
  · omega
  · split <;> omega
theorem moved_spec_U (e : Edit) (m : Mark) (hm : SmM m) (he : SmW e) : Ideal.Spec Try.prog 30 [editA e, mkA m] (editA (movU e m)) none := by
  have s1 := withoutU_spec m
  obtain ⟨⟨a1, a2⟩, hn, ht, hl⟩ := he
  have s2 := without1_spec m e.a hm ⟨a1, by omega⟩
  have hwa := woF_sm hm (p := e.a) ⟨a1, by omega⟩
  refine Ideal.Spec.of_CD (n := 38) (fn := Try.f30) rfl rfl rfl rfl rfl rfl rfl fun w ok => ?_
  refine T.post [.tmp 4] ?_
  refine T.sregD 38 [0, 1, 2, 3, 4, 5, 6, 7, 16, 26] fun Kr hKr => ?_
  simp only [go_sem]
  (repeat (refine ⟨by (first | exact True.intro | omega | rfl | (simp; done) | (simp; omega)), ?_⟩)); try (refine hKr _ ?_; clear hKr Kr)
  refine T.sregD 38 [0, 1, 2, 3, 4, 5, 6, 7, 16, 26] fun Kr hKr => ?_
  simp only [go_sem]
  (repeat (refine ⟨by (first | exact True.intro | omega | rfl | (simp; done) | (simp; omega)), ?_⟩)); try (refine hKr _ ?_; clear hKr Kr)
  refine CallK.data (fun _ => Spec.args (s1) (by (first | exact ArgsLe.refl | (repeat (first | exact True.intro | refine And.intro (by first | exact AvLe.refl | exact AvLe.loose | exact AvLe.nil | exact AvLe.nilT | exact AvLe.slk | (refine AvLe.agg ?_; exact ArgsLe.refl) | (refine AvLe.agg ?_; (repeat (first | exact True.intro | refine And.intro (by first | exact AvLe.refl | exact AvLe.loose | exact AvLe.nil | exact AvLe.nilT | exact AvLe.slk) ?_)))) ?_))))) rfl ?_
  simp only [go_sem]
  (repeat (refine ⟨by (first | exact True.intro | omega | rfl | (simp; done) | (simp; omega)), ?_⟩)); try (refine hKr _ ?_; clear hKr Kr)
  refine T.sregD 38 [0, 1, 2, 3, 4, 5, 6, 7, 16, 26] fun Kr hKr => ?_
  simp only [go_sem]
  (repeat (refine ⟨by (first | exact True.intro | omega | rfl | (simp; done) | (simp; omega)), ?_⟩)); try (refine hKr _ ?_; clear hKr Kr)
  refine CallK.data (fun _ => Spec.args (s2) (by (first | exact ArgsLe.refl | (repeat (first | exact True.intro | refine And.intro (by first | exact AvLe.refl | exact AvLe.loose | exact AvLe.nil | exact AvLe.nilT | exact AvLe.slk | (refine AvLe.agg ?_; exact ArgsLe.refl) | (refine AvLe.agg ?_; (repeat (first | exact True.intro | refine And.intro (by first | exact AvLe.refl | exact AvLe.loose | exact AvLe.nil | exact AvLe.nilT | exact AvLe.slk) ?_)))) ?_))))) rfl ?_
  simp only [go_sem]
  (repeat (refine ⟨by (first | exact True.intro | omega | rfl | (simp; done) | (simp; omega)), ?_⟩)); try (refine hKr _ ?_; clear hKr Kr)
  refine T.seqK fun K84 hK84 => ?_
  refine T.sregD 38 [0, 1, 2, 3, 4, 5, 6, 7, 16, 26] fun Kr hKr => ?_
  simp only [go_sem]
  (repeat (refine ⟨by (first | exact True.intro | omega | rfl | (simp; done) | (simp; omega)), ?_⟩)); try (refine hKr _ ?_; clear hKr Kr)
  refine T.condTD rfl rfl (fun hb => ?_) (fun hb => ?_) <;> try simp at hb
  · -- no insert
    obtain ⟨n1, n2⟩ := hn hb
    have s3 := without1_spec m (e.a + e.n) hm ⟨by omega, by omega⟩
    have hwn := woF_sm hm (p := e.a + e.n) ⟨by omega, by omega⟩
    refine T.sregD 38 [0, 1, 2, 3, 4, 5, 6, 7, 16, 26] fun Kr hKr => ?_
    simp only [go_sem]
    (repeat (refine ⟨by (first | exact True.intro | omega | rfl | (simp; done) | (simp; omega)), ?_⟩)); try (refine hKr _ ?_; clear hKr Kr)
    refine CallK.data (fun _ => Spec.args (s3) (by (first | exact ArgsLe.refl | (repeat (first | exact True.intro | refine And.intro (by first | exact AvLe.refl | exact AvLe.loose | exact AvLe.nil | exact AvLe.nilT | exact AvLe.slk | (refine AvLe.agg ?_; exact ArgsLe.refl) | (refine AvLe.agg ?_; (repeat (first | exact True.intro | refine And.intro (by first | exact AvLe.refl | exact AvLe.loose | exact AvLe.nil | exact AvLe.nilT | exact AvLe.slk) ?_)))) ?_))))) rfl ?_
    simp only [go_sem]
    (repeat (refine ⟨by (first | exact True.intro | omega | rfl | (simp; done) | (simp; omega)), ?_⟩)); try (refine hKr _ ?_; clear hKr Kr)
    refine T.seqK fun K85 hK85 => ?_
    refine T.sregD 38 [0, 1, 2, 3, 4, 5, 6, 7, 16, 26] fun Kr hKr => ?_
    simp only [go_sem]
    (repeat (refine ⟨by (first | exact True.intro | omega | rfl | (simp; done) | (simp; omega)), ?_⟩)); try (refine hKr _ ?_; clear hKr Kr)
    refine T.condTD rfl rfl (fun hc => ?_) (fun hc => ?_) <;> try simp at hc
    · have s4 := target_spec e m hm ⟨a1, a2⟩ ⟨n1, n2⟩ (ht hc)
      have ee : movU e m = ⟨e.k, woF m e.a, woF m (e.a + e.n) - woF m e.a, tgtF e m, e.s⟩ := by unfold movU; rw [if_neg hb, if_pos hc]
      generalize tgtF e m = T0 at *
      generalize woF m e.a = A0 at *
      generalize woF m (e.a + e.n) = N0 at *
      refine T.regD 38 [0, 1, 2, 3, 4, 5, 6, 7, 16, 26] fun Kr hKr => ?_
      simp only [go_sem]
      (repeat (refine ⟨by (first | exact True.intro | omega | rfl | (simp; done) | (simp; omega)), ?_⟩)); try (refine hKr _ ?_; clear hKr Kr)
      refine CallK.data (fun _ => Spec.args (s4) (by (first | exact ArgsLe.refl | (repeat (first | exact True.intro | refine And.intro (by first | exact AvLe.refl | exact AvLe.loose | exact AvLe.nil | exact AvLe.nilT | exact AvLe.slk | (refine AvLe.agg ?_; exact ArgsLe.refl) | (refine AvLe.agg ?_; (repeat (first | exact True.intro | refine And.intro (by first | exact AvLe.refl | exact AvLe.loose | exact AvLe.nil | exact AvLe.nilT | exact AvLe.slk) ?_)))) ?_))))) rfl ?_
      simp only [go_sem]
      (repeat (refine ⟨by (first | exact True.intro | omega | rfl | (simp; done) | (simp; omega)), ?_⟩)); try (refine hKr _ ?_; clear hKr Kr)
      refine hK85 _ ?_
      refine T.regD 38 [0, 1, 2, 3, 4, 5, 6, 7, 16, 26] fun Kr hKr => ?_
      simp only [go_sem]
      (repeat (refine ⟨by (first | exact True.intro | omega | rfl | (simp; done) | (simp; omega)), ?_⟩)); try (refine hKr _ ?_; clear hKr Kr)
      refine hK84 _ ?_
      refine T.sregD 38 [0, 1, 2, 3, 4, 5, 6, 7, 16, 26] fun Kr hKr => ?_
      simp only [go_sem]
      (repeat (refine ⟨by (first | exact True.intro | omega | rfl | (simp; done) | (simp; omega)), ?_⟩)); try (refine hKr _ ?_; clear hKr Kr)
      refine T.sregD 38 [0, 1, 2, 3, 4, 5, 6, 7, 16, 26] fun Kr hKr => ?_
      simp only [go_sem]
      (repeat (refine ⟨by (first | exact True.intro | omega | rfl | (simp; done) | (simp; omega)), ?_⟩)); try (refine hKr _ ?_; clear hKr Kr)
      refine T.ret ?_
      simp only [go_sem]
      exact ⟨ResCellD rfl rfl rfl rfl (by simp only [go_sem]) (by simp only [go_sem, ee]) rfl, trivial⟩
    have ee : movU e m = ⟨e.k, woF m e.a, woF m (e.a + e.n) - woF m e.a, e.t, e.s⟩ := by unfold movU; rw [if_neg hb, if_neg hc]
    generalize woF m e.a = A0 at *
    generalize woF m (e.a + e.n) = N0 at *
    refine T.skip ?_
    refine hK85 _ ?_
    refine T.regD 38 [0, 1, 2, 3, 4, 5, 6, 7, 16, 26] fun Kr hKr => ?_
    simp only [go_sem]
    (repeat (refine ⟨by (first | exact True.intro | omega | rfl | (simp; done) | (simp; omega)), ?_⟩)); try (refine hKr _ ?_; clear hKr Kr)
    refine hK84 _ ?_
    refine T.sregD 38 [0, 1, 2, 3, 4, 5, 6, 7, 16, 26] fun Kr hKr => ?_
    simp only [go_sem]
    (repeat (refine ⟨by (first | exact True.intro | omega | rfl | (simp; done) | (simp; omega)), ?_⟩)); try (refine hKr _ ?_; clear hKr Kr)
    refine T.sregD 38 [0, 1, 2, 3, 4, 5, 6, 7, 16, 26] fun Kr hKr => ?_
    simp only [go_sem]
    (repeat (refine ⟨by (first | exact True.intro | omega | rfl | (simp; done) | (simp; omega)), ?_⟩)); try (refine hKr _ ?_; clear hKr Kr)
    refine T.ret ?_
    simp only [go_sem]
    exact ⟨ResCellD rfl rfl rfl rfl (by simp only [go_sem]) (by simp only [go_sem, ee]) rfl, trivial⟩
  have ee : movU e m = ⟨e.k, woF m e.a, e.n, e.t, e.s⟩ := by unfold movU; rw [if_pos hb]
  generalize woF m e.a = A0 at *
  refine T.skip ?_
  refine hK84 _ ?_
  refine T.sregD 38 [0, 1, 2, 3, 4, 5, 6, 7, 16, 26] fun Kr hKr => ?_
  simp only [go_sem]
  (repeat (refine ⟨by (first | exact True.intro | omega | rfl | (simp; done) | (simp; omega)), ?_⟩)); try (refine hKr _ ?_; clear hKr Kr)
  refine T.sregD 38 [0, 1, 2, 3, 4, 5, 6, 7, 16, 26] fun Kr hKr => ?_
  simp only [go_sem]
  (repeat (refine ⟨by (first | exact True.intro | omega | rfl | (simp; done) | (simp; omega)), ?_⟩)); try (refine hKr _ ?_; clear hKr Kr)
  refine T.ret ?_
  simp only [go_sem]
  exact ⟨ResCellD rfl rfl rfl rfl (by simp only [go_sem]) (by simp only [go_sem, ee]) rfl, trivial⟩

/-! ### What depends on a commit -/
def whM (m : Mark) : Mark := ⟨m.id, m.f, m.t, true⟩
def depF (st : List Stp) : Mark → List Nat → List Nat
  | _, [] => []
  | m, j :: l => match carM (st.getD j default).e (whM m) with
    | none => [j]
    | some m' => (if m'.w = true then [] else [j]) ++ depF st m' l
/-- Its mark stays small along these steps. -/
def Chn (st : List Stp) : Mark → List Nat → Prop
  | _, [] => True
  | m, j :: l => SmM m ∧ SmW (st.getD j default).e ∧ match carM (st.getD j default).e (whM m) with
    | none => True
    | some m' => Chn st m' l
def depU (p : Past) (i : Int) : List Nat × Int :=
  if isCom p i = true then (depF p.st (fstM (p.st.getD i.toNat default)) (latL p.st i.toNat p.st.length), 0) else ([], 1)
@[go_sem] theorem ofN_nil : ofN [] = [] := rfl
@[go_sem] theorem ofN_get {l : List Nat} {q : Nat} (h : q < l.length) : (ofN l).getD q default = ((l.getD q default : Nat) : Int) := by
  simp [ofN, List.getD, h]
theorem Depends_spec (p : Past) (i : Int) (hp : OkP p) (hl : ∀ s ∈ p.st, s.e.s.length ≤ 100000)
    (hc : isCom p i = true → Sm (p.st.getD i.toNat default).e.a ∧ Chn p.st (fstM (p.st.getD i.toNat default)) (latL p.st i.toNat p.st.length)) :
    Ideal.Spec Try.prog 15 [pastA p, .int .i64 i] (.tup [.sl false 1 (intsOf (ofN (depU p i).1)), .int .i64 (depU p i).2]) none := by
  have h1 := hp.dl
  have h2 := hp.sl
  have s1 := isCommit_spec p i (by omega) (by omega)
  refine Spec.weakT (rs := [.sl (decide ((depU p i).2 ≠ 0)) 1 (intsOf (ofN (depU p i).1)), .int .i64 (depU p i).2]) ?_ rfl rfl ⟨AvLe.loose, AvLe.refl, trivial⟩
  refine Ideal.Spec.of_TD2 (n := 58) (fn := Try.f15) rfl rfl rfl rfl rfl rfl rfl fun w ok => ?_
  refine T.post [.tmp 4] ?_
  refine T.sregD 58 [0, 1, 2, 4, 5, 6, 7, 9, 10, 11, 15, 24, 25, 26, 27, 48, 54] fun Kr hKr => ?_
  simp only [go_sem]
  (repeat (refine ⟨by (first | exact True.intro | omega | rfl | (simp; done) | (simp; omega)), ?_⟩)); try (refine hKr _ ?_; clear hKr Kr)
  refine T.seqK fun K58 hK58 => ?_
  refine T.sregD 58 [0, 1, 2, 4, 5, 6, 7, 9, 10, 11, 15, 24, 25, 26, 27, 48, 54] fun Kr hKr => ?_
  simp only [go_sem]
  (repeat (refine ⟨by (first | exact True.intro | omega | rfl | (simp; done) | (simp; omega)), ?_⟩)); try (refine hKr _ ?_; clear hKr Kr)
  refine CallK.data (fun _ => Spec.args (s1) (by (first | exact ArgsLe.refl | (repeat (first | exact True.intro | refine And.intro (by first | exact AvLe.refl | exact AvLe.loose | exact AvLe.nil | exact AvLe.nilT | exact AvLe.slk | (refine AvLe.agg ?_; exact ArgsLe.refl) | (refine AvLe.agg ?_; (repeat (first | exact True.intro | refine And.intro (by first | exact AvLe.refl | exact AvLe.loose | exact AvLe.nil | exact AvLe.nilT | exact AvLe.slk) ?_)))) ?_))))) rfl ?_
  simp only [go_sem]
  (repeat (refine ⟨by (first | exact True.intro | omega | rfl | (simp; done) | (simp; omega)), ?_⟩)); try (refine hKr _ ?_; clear hKr Kr)
  refine T.condTD rfl rfl (fun hb => ?_) (fun hb => ?_) <;> try simp at hb
  · -- no commit
    have ee : depU p i = ([], 1) := by unfold depU; rw [if_neg (by rw [hb]; decide)]
    refine T.sregD 58 [0, 1, 2, 4, 5, 6, 7, 9, 10, 11, 15, 24, 25, 26, 27, 48, 54] fun Kr hKr => ?_
    simp only [go_sem]
    (repeat (refine ⟨by (first | exact True.intro | omega | rfl | (simp; done) | (simp; omega)), ?_⟩)); try (refine hKr _ ?_; clear hKr Kr)
    refine T.ret ?_
    simp only [go_sem]
    rw [ee]
    exact ⟨AtD (by simp only [go_sem]) rfl rfl, AtD (by simp only [go_sem]) rfl rfl⟩
  obtain ⟨hca, hch⟩ := hc hb
  have hi : 0 ≤ i ∧ i < p.st.length := by
    unfold isCom at hb
    split at hb
    · cases hb
    · omega
  obtain ⟨n, rfl⟩ : ∃ n : Nat, i = n := ⟨i.toNat, by omega⟩
  have hn : n < p.st.length := by omega
  have ee : depU p n = (depF p.st (fstM (p.st.getD n default)) (latL p.st n p.st.length), 0) := by unfold depU; rw [if_pos hb]; rfl
  simp only [Int.toNat_natCast] at hca hch
  have hmem : p.st.getD n default ∈ p.st := by simp [List.getD, hn]
  have s2 := firstMark_spec (p.st.getD n default) hca (hl _ hmem)
  have s3 := later_spec p n (by omega) hn
  refine T.skip ?_
  refine hK58 _ ?_
  refine T.sregD 58 [0, 1, 2, 4, 5, 6, 7, 9, 10, 11, 15, 24, 25, 26, 27, 48, 54] fun Kr hKr => ?_
  simp only [go_sem]
  (repeat (refine ⟨by (first | exact True.intro | omega | rfl | (simp; done) | (simp; omega)), ?_⟩)); try (refine hKr _ ?_; clear hKr Kr)
  refine T.sregD 58 [0, 1, 2, 4, 5, 6, 7, 9, 10, 11, 15, 24, 25, 26, 27, 48, 54] fun Kr hKr => ?_
  simp only [go_sem, hn]
  (repeat (refine ⟨by (first | exact True.intro | omega | rfl | (simp; done) | (simp; omega)), ?_⟩)); try (refine hKr _ ?_; clear hKr Kr)
  refine CallK.data (fun _ => Spec.args (s2) (by (first | exact ArgsLe.refl | (repeat (first | exact True.intro | refine And.intro (by first | exact AvLe.refl | exact AvLe.loose | exact AvLe.nil | exact AvLe.nilT | exact AvLe.slk | (refine AvLe.agg ?_; exact ArgsLe.refl) | (refine AvLe.agg ?_; (repeat (first | exact True.intro | refine And.intro (by first | exact AvLe.refl | exact AvLe.loose | exact AvLe.nil | exact AvLe.nilT | exact AvLe.slk) ?_)))) ?_))))) rfl ?_
  simp only [go_sem]
  (repeat (refine ⟨by (first | exact True.intro | omega | rfl | (simp; done) | (simp; omega)), ?_⟩)); try (refine hKr _ ?_; clear hKr Kr)
  refine T.seqK fun K59 hK59 => ?_
  refine T.sregD 58 [0, 1, 2, 4, 5, 6, 7, 9, 10, 11, 15, 24, 25, 26, 27, 48, 54] fun Kr hKr => ?_
  simp only [go_sem]
  (repeat (refine ⟨by (first | exact True.intro | omega | rfl | (simp; done) | (simp; omega)), ?_⟩)); try (refine hKr _ ?_; clear hKr Kr)
  refine CallK.data (fun _ => Spec.args (s3) (by (first | exact ArgsLe.refl | (repeat (first | exact True.intro | refine And.intro (by first | exact AvLe.refl | exact AvLe.loose | exact AvLe.nil | exact AvLe.nilT | exact AvLe.slk | (refine AvLe.agg ?_; exact ArgsLe.refl) | (refine AvLe.agg ?_; (repeat (first | exact True.intro | refine And.intro (by first | exact AvLe.refl | exact AvLe.loose | exact AvLe.nil | exact AvLe.nilT | exact AvLe.slk) ?_)))) ?_))))) rfl ?_
  simp only [go_sem]
  (repeat (refine ⟨by (first | exact True.intro | omega | rfl | (simp; done) | (simp; omega)), ?_⟩)); try (refine hKr _ ?_; clear hKr Kr)
  have hL : ∀ j ∈ latL p.st n p.st.length, j < p.st.length := by
    intro j hj
    have := (List.mem_filter.1 hj).1
    simpa using this
  have hLl := latL_len p.st n p.st.length
  generalize latL p.st n p.st.length = L at *
  generalize fstM (p.st.getD n default) = m0 at *
  refine T.bloop (fun x : Nat × Mark × List Nat => ⟨dense 58 [(2, .op 2 0 0), (6, .osl 52 0 x.2.2.length), (7, .op 7 0 0), (24, .sl false 1 (intsOf (ofN L))), (25, .int .i64 L.length), (26, .int .i64 x.1)], [(52, ⟨1, 3, false, intsOf (ofN x.2.2)⟩), (7, ⟨4, 65, true, [mkA x.2.1]⟩), (2, ⟨2, 33, true, [pastA p]⟩)]⟩)
    (fun x => x.1 ≤ L.length ∧ x.2.2 ++ depF p.st x.2.1 (L.drop x.1) = depF p.st m0 L ∧ Chn p.st x.2.1 (L.drop x.1) ∧ x.2.2.length ≤ x.1) (fun x => L.length - x.1) (0, m0, []) ⟨by simp, by simp, hch, by simp⟩ ?_ fun x hx => ?_
  · refine (Le.own 6 52 1 3).trans ?_
    simp only [go_sem]
    refine Le.fitS (by (repeat (first | exact DFit.nil | refine DFit.cons (by first | rfl | (simp [slook]; done) | (simp [slook]; omega)) ?_))) (by (repeat (first | exact True.intro | refine And.intro (by first | rfl | (simp [look]; done)) ?_)))
  obtain ⟨q, m, out⟩ := x
  obtain ⟨hq, hd, hcn, hol⟩ := hx
  simp only at hq hd hcn hol ⊢
  refine T.sregD 58 [0, 1, 2, 4, 5, 6, 7, 9, 10, 11, 15, 24, 25, 26, 27, 48, 54] fun Kr hKr => ?_
  simp only [go_sem]
  (repeat (refine ⟨by (first | exact True.intro | omega | rfl | (simp; done) | (simp; omega)), ?_⟩)); try (refine hKr _ ?_; clear hKr Kr)
  refine T.seqK fun K60 hK60 => ?_
  refine T.condFD rfl rfl (fun hb2 => ?_) (fun hb2 => ?_) <;> simp at hb2
  · -- no: exit
    refine T.exit ?_
    simp only [if_true]
    refine hK59 _ ?_
    have : q = L.length := by omega
    subst this
    rw [List.drop_length] at hd
    have hd : out = depF p.st m0 L := by rw [← hd]; simp [depF]
    have ht : (ofN out).take out.length = ofN out := List.take_of_length_le (by simp [ofN])
    refine T.sregD 58 [0, 1, 2, 4, 5, 6, 7, 9, 10, 11, 15, 24, 25, 26, 27, 48, 54] fun Kr hKr => ?_
    simp only [go_sem]
    (repeat (refine ⟨by (first | exact True.intro | omega | rfl | (simp; done) | (simp; omega)), ?_⟩)); try (refine hKr _ ?_; clear hKr Kr)
    refine T.ret ?_
    simp only [go_sem, Nat.le_refl, ht]
    rw [ee, ← hd]
    exact ⟨AtD rfl rfl rfl, AtD rfl rfl rfl⟩
  rw [drop_d hb2] at hd hcn
  have hjm : L.getD q default < p.st.length := hL _ (by simp [List.getD, hb2])
  refine T.skip ?_
  refine hK60 _ ?_
  refine T.seqK fun K61 hK61 => ?_
  refine T.block ?_
  refine T.sregD 58 [0, 1, 2, 4, 5, 6, 7, 9, 10, 11, 15, 24, 25, 26, 27, 48, 54] fun Kr hKr => ?_
  simp only [go_sem, hb2]
  (repeat (refine ⟨by (first | exact True.intro | omega | rfl | (simp; done) | (simp; omega)), ?_⟩)); try (refine hKr _ ?_; clear hKr Kr)
  generalize L.getD q default = j at *
  obtain ⟨hsm, hsw, hrest⟩ := hcn
  have sC := Carry_spec (p.st.getD j default).e (whM m) hsm hsw
  simp only [depF] at hd
  cases hr : carM (p.st.getD j default).e (whM m) with
  | none =>
    rw [hr] at sC hd
    simp only at hd
    have happ : intsOf (ofN (out ++ [j])) = intsOf (ofN out) ++ [.int .i64 j] := by simp [intsOf, ofN]
    have ht : (ofN (out ++ [j])).take (out.length + 1) = ofN (out ++ [j]) := List.take_of_length_le (by simp [ofN])
    refine T.sregD 58 [0, 1, 2, 4, 5, 6, 7, 9, 10, 11, 15, 24, 25, 26, 27, 48, 54] fun Kr hKr => ?_
    simp only [go_sem]
    (repeat (refine ⟨by (first | exact True.intro | omega | rfl | (simp; done) | (simp; omega)), ?_⟩)); try (refine hKr _ ?_; clear hKr Kr)
    refine T.sdraw2D 58 [0, 1, 2, 4, 5, 6, 7, 9, 10, 11, 15, 24, 25, 26, 27, 48, 54] (.take 0 (.take 1 (.take 2 (.take 3 (.take 4 (.take 5 (.take 6 (.two 7 (.take 8 (.take 9 (.take 10 (.one 11 (.one 12 (.take 13 .done)))))) 11 (.one 7 (.take 8 (.take 9 (.take 10 (.one 12 (.take 13 .done)))))))))))))) [2, 7] rfl (by decide +kernel) (by decide +kernel) ?x1 ?h1 (fun Kr hKr => ?all1) ?rest1
    case all1 =>
      simp only [go_sem, hjm]
      (repeat (any_goals (first | exact hKr _ (.inl rfl) | exact hKr _ (.inr (by (repeat (first | exact True.intro | refine And.intro (by first | rfl | (simp [look]; done)) ?_)))) | ((first | refine CallK.dataA (sC) ?_ rfl ?_ | refine CallK.tupA (sC) ?_ ?_ | refine CallK.ownA (sC) ?_ ?_); (focus ((first | exact ArgsLe.refl | (repeat (first | exact True.intro | refine And.intro (by first | exact AvLe.refl | exact AvLe.loose | exact AvLe.nil | exact AvLe.nilT | exact AvLe.slk | (refine AvLe.agg ?_; exact ArgsLe.refl) | (refine AvLe.agg ?_; (repeat (first | exact True.intro | refine And.intro (by first | exact AvLe.refl | exact AvLe.loose | exact AvLe.nil | exact AvLe.nilT | exact AvLe.slk) ?_)))) ?_))); done)); simp only [go_sem, hjm]) | (refine And.intro ?_ ?_) | (first | exact True.intro | omega | rfl | (simp; done) | (simp; omega)))))
      all_goals (first | exact hKr _ (.inl rfl) | exact hKr _ (.inr (by (repeat (first | exact True.intro | refine And.intro (by first | rfl | (simp [look]; done)) ?_)))))
    case rest1 =>
    refine T.seqK fun K62 hK62 => ?_
    refine T.sregD 58 [0, 1, 2, 4, 5, 6, 7, 9, 10, 11, 15, 24, 25, 26, 27, 48, 54] fun Kr hKr => ?_
    simp only [go_sem]
    (repeat (refine ⟨by (first | exact True.intro | omega | rfl | (simp; done) | (simp; omega)), ?_⟩)); try (refine hKr _ ?_; clear hKr Kr)
    refine T.condTD rfl rfl (fun hc2 => ?_) (fun hc2 => ?_) <;> try simp at hc2
    refine T.regD 58 [0, 1, 2, 4, 5, 6, 7, 9, 10, 11, 15, 24, 25, 26, 27, 48, 54] fun Kr hKr => ?_
    simp only [go_sem]
    (repeat (refine ⟨by (first | exact True.intro | omega | rfl | (simp; done) | (simp; omega)), ?_⟩)); try (refine hKr _ ?_; clear hKr Kr)
    refine hK62 _ ?_
    refine T.seqK fun K63 hK63 => ?_
    refine T.sregD 58 [0, 1, 2, 4, 5, 6, 7, 9, 10, 11, 15, 24, 25, 26, 27, 48, 54] fun Kr hKr => ?_
    simp only [go_sem]
    (repeat (refine ⟨by (first | exact True.intro | omega | rfl | (simp; done) | (simp; omega)), ?_⟩)); try (refine hKr _ ?_; clear hKr Kr)
    refine T.condTD rfl rfl (fun hc3 => ?_) (fun hc3 => ?_) <;> try simp at hc3
    refine T.exit ?_
    simp only [if_true]
    refine hK59 _ ?_
    refine T.sregD 58 [0, 1, 2, 4, 5, 6, 7, 9, 10, 11, 15, 24, 25, 26, 27, 48, 54] fun Kr hKr => ?_
    simp only [go_sem]
    (repeat (refine ⟨by (first | exact True.intro | omega | rfl | (simp; done) | (simp; omega)), ?_⟩)); try (refine hKr _ ?_; clear hKr Kr)
    rw [← happ]
    refine T.ret ?_
    simp only [go_sem, Nat.le_refl, ofN_len, List.length_append, List.length_singleton, ht]
    rw [ee, ← hd]
    exact ⟨AtD rfl rfl rfl, AtD rfl rfl rfl⟩
  | some m' =>
    rw [hr] at sC hd hrest
    simp only at hd hrest
    obtain ⟨i', f', t', w'⟩ := m'
    cases w' with
    | true =>
      simp only [if_true, List.nil_append] at hd
      refine T.sregD 58 [0, 1, 2, 4, 5, 6, 7, 9, 10, 11, 15, 24, 25, 26, 27, 48, 54] fun Kr hKr => ?_
      simp only [go_sem]
      (repeat (refine ⟨by (first | exact True.intro | omega | rfl | (simp; done) | (simp; omega)), ?_⟩)); try (refine hKr _ ?_; clear hKr Kr)
      refine T.sdraw2D 58 [0, 1, 2, 4, 5, 6, 7, 9, 10, 11, 15, 24, 25, 26, 27, 48, 54] (.take 0 (.take 1 (.take 2 (.take 3 (.take 4 (.take 5 (.take 6 (.two 7 (.take 8 (.take 9 (.take 10 (.one 11 (.one 12 (.take 13 .done)))))) 11 (.one 7 (.take 8 (.take 9 (.take 10 (.one 12 (.take 13 .done)))))))))))))) [2, 7] rfl (by decide +kernel) (by decide +kernel) ?x2 ?h2 (fun Kr hKr => ?all2) ?rest2
      case all2 =>
        simp only [go_sem, hjm]
        (repeat (any_goals (first | exact hKr _ (.inl rfl) | exact hKr _ (.inr (by (repeat (first | exact True.intro | refine And.intro (by first | rfl | (simp [look]; done)) ?_)))) | ((first | refine CallK.dataA (sC) ?_ rfl ?_ | refine CallK.tupA (sC) ?_ ?_ | refine CallK.ownA (sC) ?_ ?_); (focus ((first | exact ArgsLe.refl | (repeat (first | exact True.intro | refine And.intro (by first | exact AvLe.refl | exact AvLe.loose | exact AvLe.nil | exact AvLe.nilT | exact AvLe.slk | (refine AvLe.agg ?_; exact ArgsLe.refl) | (refine AvLe.agg ?_; (repeat (first | exact True.intro | refine And.intro (by first | exact AvLe.refl | exact AvLe.loose | exact AvLe.nil | exact AvLe.nilT | exact AvLe.slk) ?_)))) ?_))); done)); simp only [go_sem, hjm]) | (refine And.intro ?_ ?_) | (first | exact True.intro | omega | rfl | (simp; done) | (simp; omega)))))
        all_goals (first | exact hKr _ (.inl rfl) | exact hKr _ (.inr (by (repeat (first | exact True.intro | refine And.intro (by first | rfl | (simp [look]; done)) ?_)))))
      case rest2 =>
      refine T.seqK fun K62 hK62 => ?_
      refine T.sregD 58 [0, 1, 2, 4, 5, 6, 7, 9, 10, 11, 15, 24, 25, 26, 27, 48, 54] fun Kr hKr => ?_
      simp only [go_sem]
      (repeat (refine ⟨by (first | exact True.intro | omega | rfl | (simp; done) | (simp; omega)), ?_⟩)); try (refine hKr _ ?_; clear hKr Kr)
      refine T.condTD rfl rfl (fun hc2 => ?_) (fun hc2 => ?_) <;> try simp at hc2
      refine T.skip ?_
      refine hK62 _ ?_
      refine T.seqK fun K63 hK63 => ?_
      refine T.sregD 58 [0, 1, 2, 4, 5, 6, 7, 9, 10, 11, 15, 24, 25, 26, 27, 48, 54] fun Kr hKr => ?_
      simp only [go_sem]
      (repeat (refine ⟨by (first | exact True.intro | omega | rfl | (simp; done) | (simp; omega)), ?_⟩)); try (refine hKr _ ?_; clear hKr Kr)
      refine T.condTD rfl rfl (fun hc3 => ?_) (fun hc3 => ?_) <;> try simp at hc3
      refine T.skip ?_
      refine hK63 _ ?_
      refine T.regD 58 [0, 1, 2, 4, 5, 6, 7, 9, 10, 11, 15, 24, 25, 26, 27, 48, 54] fun Kr hKr => ?_
      simp only [go_sem]
      (repeat (refine ⟨by (first | exact True.intro | omega | rfl | (simp; done) | (simp; omega)), ?_⟩)); try (refine hKr _ ?_; clear hKr Kr)
      refine hK61 _ ?_
      refine T.regD 58 [0, 1, 2, 4, 5, 6, 7, 9, 10, 11, 15, 24, 25, 26, 27, 48, 54] fun Kr hKr => ?_
      simp only [go_sem]
      (repeat (refine ⟨by (first | exact True.intro | omega | rfl | (simp; done) | (simp; omega)), ?_⟩)); try (refine hKr _ ?_; clear hKr Kr)
      refine ⟨(q + 1, ⟨i', f', t', true⟩, out), ?_, ?_, Le.fitS (by (repeat (first | exact DFit.nil | refine DFit.cons (by first | rfl | (simp [slook]; done) | (simp [slook]; omega)) ?_))) ?_⟩
      · exact ⟨by simp only; omega, hd, hrest, by simp only; omega⟩
      · simp only; omega
      · (repeat (first | exact True.intro | refine And.intro (by first | rfl | (simp [look]; done)) ?_))
    | false =>
      simp only [Bool.false_eq_true, if_false] at hd
      have happ : intsOf (ofN (out ++ [j])) = intsOf (ofN out) ++ [.int .i64 j] := by simp [intsOf, ofN]
      refine T.sregD 58 [0, 1, 2, 4, 5, 6, 7, 9, 10, 11, 15, 24, 25, 26, 27, 48, 54] fun Kr hKr => ?_
      simp only [go_sem]
      (repeat (refine ⟨by (first | exact True.intro | omega | rfl | (simp; done) | (simp; omega)), ?_⟩)); try (refine hKr _ ?_; clear hKr Kr)
      refine T.sdraw2D 58 [0, 1, 2, 4, 5, 6, 7, 9, 10, 11, 15, 24, 25, 26, 27, 48, 54] (.take 0 (.take 1 (.take 2 (.take 3 (.take 4 (.take 5 (.take 6 (.two 7 (.take 8 (.take 9 (.take 10 (.one 11 (.one 12 (.take 13 .done)))))) 11 (.one 7 (.take 8 (.take 9 (.take 10 (.one 12 (.take 13 .done)))))))))))))) [2, 7] rfl (by decide +kernel) (by decide +kernel) ?x3 ?h3 (fun Kr hKr => ?all3) ?rest3
      case all3 =>
        simp only [go_sem, hjm]
        (repeat (any_goals (first | exact hKr _ (.inl rfl) | exact hKr _ (.inr (by (repeat (first | exact True.intro | refine And.intro (by first | rfl | (simp [look]; done)) ?_)))) | ((first | refine CallK.dataA (sC) ?_ rfl ?_ | refine CallK.tupA (sC) ?_ ?_ | refine CallK.ownA (sC) ?_ ?_); (focus ((first | exact ArgsLe.refl | (repeat (first | exact True.intro | refine And.intro (by first | exact AvLe.refl | exact AvLe.loose | exact AvLe.nil | exact AvLe.nilT | exact AvLe.slk | (refine AvLe.agg ?_; exact ArgsLe.refl) | (refine AvLe.agg ?_; (repeat (first | exact True.intro | refine And.intro (by first | exact AvLe.refl | exact AvLe.loose | exact AvLe.nil | exact AvLe.nilT | exact AvLe.slk) ?_)))) ?_))); done)); simp only [go_sem, hjm]) | (refine And.intro ?_ ?_) | (first | exact True.intro | omega | rfl | (simp; done) | (simp; omega)))))
        all_goals (first | exact hKr _ (.inl rfl) | exact hKr _ (.inr (by (repeat (first | exact True.intro | refine And.intro (by first | rfl | (simp [look]; done)) ?_)))))
      case rest3 =>
      refine T.seqK fun K62 hK62 => ?_
      refine T.sregD 58 [0, 1, 2, 4, 5, 6, 7, 9, 10, 11, 15, 24, 25, 26, 27, 48, 54] fun Kr hKr => ?_
      simp only [go_sem]
      (repeat (refine ⟨by (first | exact True.intro | omega | rfl | (simp; done) | (simp; omega)), ?_⟩)); try (refine hKr _ ?_; clear hKr Kr)
      refine T.condTD rfl rfl (fun hc2 => ?_) (fun hc2 => ?_) <;> try simp at hc2
      refine T.regD 58 [0, 1, 2, 4, 5, 6, 7, 9, 10, 11, 15, 24, 25, 26, 27, 48, 54] fun Kr hKr => ?_
      simp only [go_sem]
      (repeat (refine ⟨by (first | exact True.intro | omega | rfl | (simp; done) | (simp; omega)), ?_⟩)); try (refine hKr _ ?_; clear hKr Kr)
      refine hK62 _ ?_
      refine T.seqK fun K63 hK63 => ?_
      refine T.sregD 58 [0, 1, 2, 4, 5, 6, 7, 9, 10, 11, 15, 24, 25, 26, 27, 48, 54] fun Kr hKr => ?_
      simp only [go_sem]
      (repeat (refine ⟨by (first | exact True.intro | omega | rfl | (simp; done) | (simp; omega)), ?_⟩)); try (refine hKr _ ?_; clear hKr Kr)
      refine T.condTD rfl rfl (fun hc3 => ?_) (fun hc3 => ?_) <;> try simp at hc3
      refine T.skip ?_
      refine hK63 _ ?_
      refine T.regD 58 [0, 1, 2, 4, 5, 6, 7, 9, 10, 11, 15, 24, 25, 26, 27, 48, 54] fun Kr hKr => ?_
      simp only [go_sem]
      (repeat (refine ⟨by (first | exact True.intro | omega | rfl | (simp; done) | (simp; omega)), ?_⟩)); try (refine hKr _ ?_; clear hKr Kr)
      refine hK61 _ ?_
      refine T.regD 58 [0, 1, 2, 4, 5, 6, 7, 9, 10, 11, 15, 24, 25, 26, 27, 48, 54] fun Kr hKr => ?_
      simp only [go_sem]
      (repeat (refine ⟨by (first | exact True.intro | omega | rfl | (simp; done) | (simp; omega)), ?_⟩)); try (refine hKr _ ?_; clear hKr Kr)
      refine ⟨(q + 1, ⟨i', f', t', false⟩, out ++ [j]), ?_, ?_, Le.fitS (by (repeat (first | exact DFit.nil | refine DFit.cons (by first | rfl | (simp [slook, List.length_append, List.length_singleton]; done) | (simp [slook, List.length_append, List.length_singleton]; omega)) ?_))) ?_⟩
      · exact ⟨by simp only; omega, by rw [← hd]; simp, hrest, by simp; omega⟩
      · simp only; omega
      · simp only; rw [happ]; (repeat (first | exact True.intro | refine And.intro (by first | rfl | (simp [look]; done)) ?_))
end Go.Proofs
