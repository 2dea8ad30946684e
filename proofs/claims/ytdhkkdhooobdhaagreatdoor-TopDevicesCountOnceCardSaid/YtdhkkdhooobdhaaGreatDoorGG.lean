/- Devices: the reference's Step and Made (one user). -/
import Derived.Test.YtdhkkdhooobdhaaGreatDoorGF
set_option linter.unusedVariables false
set_option linter.unusedSimpArgs false
namespace Go.Proofs
open Go Go.Ideal
set_option maxRecDepth 8000
set_option maxHeartbeats 4000000

structure StepOk (u : Usr) : Prop where
  ok : OkU u
  r : u.r.length ≤ 300
  o : u.o.length ≤ 300
  l : ∀ d, 0 ≤ d ∧ d ≤ 2 → 0 ≤ lst u.l d ∧ lst u.l d ≤ 1000
theorem learn_len (u : Usr) (r : Rec) (h : u.l.length = 8) : (learnF u r).l.length = 8 := by
  unfold learnF; simp only; rw [lstUp_len, h]
theorem forget_len (u : Usr) (r : Ord) (h : u.l.length = 8) : (forgetF u r).l.length = 8 := by
  unfold forgetF; simp only; rw [lstUp_len, h]
theorem Step24_spec (u : Usr) (x : Raw) (hu : StepOk u) (hx : OkRaw x) : Ideal.Spec Tryz.prog 43 [usrA u, rawA x] (usrA (stepU u x)) none := by
  have l8 := hu.ok.l
  have hT : u.l.take 8 = u.l := List.take_of_length_le (by omega)
  have hD : u.l.drop 8 = [] := List.drop_of_length_le (by omega)
  have s1 := IsOrder24_spec x hx
  have s2 := Order24_spec x hx
  have s3 := Record24_spec x hx
  have hno := ordOf_new x
  have hnr := recOf_new x
  have s4 := Forget24_spec u (ordOf x) hu.ok hno (hu.l _ ⟨hno.r.d.1, hno.d⟩) hu.r hu.o
  have s5 := Learn24_spec u (recOf x) hu.ok hnr (hu.l _ hnr.d) hu.r hu.o
  have e1 : stepU u x = if isOrdB x = true then forgetF u (ordOf x) else learnF u (recOf x) := rfl
  have lf := forget_len u (ordOf x) l8
  have ll := learn_len u (recOf x) l8
  generalize forgetF u (ordOf x) = F at *
  generalize learnF u (recOf x) = L at *
  generalize lst u.l (recOf x).d + 1 = n at *
  rw [e1]
  generalize isOrdB x = b at *
  generalize ordOf x = O at *
  generalize recOf x = R at *
  refine Ideal.Spec.of_CD (n := 20) (fn := Tryz.f43) rfl rfl rfl rfl rfl rfl rfl fun w ok => ?_
  refine T.post [.tmp 4] ?_
  refine T.sregD 20 [0, 1, 2, 3, 4, 6] fun Kr hKr => ?_
  simp only [go_sem, l8]
  (repeat (refine ⟨by (first | exact True.intro | omega | rfl | (simp; done) | (simp; omega)), ?_⟩)); try (refine hKr _ ?_; clear hKr Kr)
  refine T.seqK fun K1 hK1 => ?_
  refine T.sregD 20 [0, 1, 2, 3, 4, 6] fun Kr hKr => ?_
  simp only [go_sem]
  (repeat (refine ⟨by (first | exact True.intro | omega | rfl | (simp; done) | (simp; omega)), ?_⟩)); try (refine hKr _ ?_; clear hKr Kr)
  refine CallK.data (fun _ => Spec.args (s1) (by (first | exact ArgsLe.refl | (repeat (first | exact True.intro | refine And.intro (by first | exact AvLe.refl | exact AvLe.loose | exact AvLe.nil | exact AvLe.nilT | exact AvLe.slk | (refine AvLe.agg ?_; exact ArgsLe.refl) | (refine AvLe.agg ?_; (repeat (first | exact True.intro | refine And.intro (by first | exact AvLe.refl | exact AvLe.loose | exact AvLe.nil | exact AvLe.nilT | exact AvLe.slk) ?_)))) ?_))))) rfl ?_
  simp only [go_sem]
  (repeat (refine ⟨by (first | exact True.intro | omega | rfl | (simp; done) | (simp; omega)), ?_⟩)); try (refine hKr _ ?_; clear hKr Kr)
  cases b with
  | true =>
    refine T.condTD rfl rfl (fun hb => ?_) (fun hb => ?_) <;> try simp at hb
    have hTF : F.l.take 8 = F.l := List.take_of_length_le (by omega)
    refine T.sdraw2D 20 [0, 1, 2, 3, 4, 6] (.take 1 (.two 0 (.one 2 (.one 3 (.take 4 (.take 5 (.take 6 (.one 7 .done)))))) 2 (.one 0 (.one 3 (.take 4 (.take 5 (.take 6 (.one 7 .done)))))))) [3] rfl (by decide +kernel) (by decide +kernel) ?x1 ?h1 (fun Kr hKr => ?all1) ?rest1
    case all1 =>
      simp only [go_sem, l8, hT, lf, hD, List.append_nil]
      (repeat (any_goals (first | exact hKr _ (.inl rfl) | exact hKr _ (.inr (by (repeat (first | exact True.intro | refine And.intro (by first | rfl | (simp [look]; done)) ?_)))) | ((first | refine CallK.dataA (s2) ?_ rfl ?_ | refine CallK.tupA (s2) ?_ ?_ | refine CallK.ownA (s2) ?_ ?_); (focus ((first | exact ArgsLe.refl | (repeat (first | exact True.intro | refine And.intro (by first | exact AvLe.refl | exact AvLe.loose | exact AvLe.nil | exact AvLe.nilT | exact AvLe.slk | (refine AvLe.agg ?_; exact ArgsLe.refl) | (refine AvLe.agg ?_; (repeat (first | exact True.intro | refine And.intro (by first | exact AvLe.refl | exact AvLe.loose | exact AvLe.nil | exact AvLe.nilT | exact AvLe.slk) ?_)))) ?_))); done)); simp only [go_sem, l8, hT, lf, hD, List.append_nil]) | ((first | refine CallK.dataA (s4) ?_ rfl ?_ | refine CallK.tupA (s4) ?_ ?_ | refine CallK.ownA (s4) ?_ ?_); (focus ((first | exact ArgsLe.refl | (repeat (first | exact True.intro | refine And.intro (by first | exact AvLe.refl | exact AvLe.loose | exact AvLe.nil | exact AvLe.nilT | exact AvLe.slk | (refine AvLe.agg ?_; exact ArgsLe.refl) | (refine AvLe.agg ?_; (repeat (first | exact True.intro | refine And.intro (by first | exact AvLe.refl | exact AvLe.loose | exact AvLe.nil | exact AvLe.nilT | exact AvLe.slk) ?_)))) ?_))); done)); simp only [go_sem, l8, hT, lf, hD, List.append_nil]) | (refine And.intro ?_ ?_) | (first | exact True.intro | omega | rfl | (simp; done) | (simp; omega)))))
      all_goals (first | exact hKr _ (.inl rfl) | exact hKr _ (.inr (by (repeat (first | exact True.intro | refine And.intro (by first | rfl | (simp [look]; done)) ?_)))))
    case rest1 =>
    refine T.sregD 20 [0, 1, 2, 3, 4, 6] fun Kr hKr => ?_
    simp only [go_sem, lf, hTF]
    (repeat (refine ⟨by (first | exact True.intro | omega | rfl | (simp; done) | (simp; omega)), ?_⟩)); try (refine hKr _ ?_; clear hKr Kr)
    refine T.ret ?_
    simp only [go_sem, lf, hTF]
    exact ⟨ResCellD rfl rfl rfl rfl (by simp only [go_sem, lf]) (by simp only [go_sem, lf, hTF, if_true]) rfl, trivial⟩
  | false =>
    refine T.condTD rfl rfl (fun hb => ?_) (fun hb => ?_) <;> try simp at hb
    refine T.skip ?_
    refine hK1 _ ?_
    obtain ⟨Lr, Lo, Ll⟩ := L
    obtain ⟨b0, b1, b2, b3, b4, b5, b6, b7, rfl⟩ := l8_lit ll
    refine T.sdrawD 20 [0, 1, 2, 3, 4, 6] (.take 0 (.take 1 (.one 2 (.one 3 (.take 4 (.one 5 .done)))))) [2, 3] rfl (by decide +kernel) (by decide +kernel) fun Kr hKr => ?_
    simp only [go_sem, l8, hT]
    (repeat (refine ⟨by (first | exact True.intro | omega | rfl | (simp; done) | (simp; omega)), ?_⟩)); try (refine hKr _ ?_; clear hKr Kr)
    refine CallK.data (fun _ => Spec.args (s3) (by (first | exact ArgsLe.refl | (repeat (first | exact True.intro | refine And.intro (by first | exact AvLe.refl | exact AvLe.loose | exact AvLe.nil | exact AvLe.nilT | exact AvLe.slk | (refine AvLe.agg ?_; exact ArgsLe.refl) | (refine AvLe.agg ?_; (repeat (first | exact True.intro | refine And.intro (by first | exact AvLe.refl | exact AvLe.loose | exact AvLe.nil | exact AvLe.nilT | exact AvLe.slk) ?_)))) ?_))))) rfl ?_
    simp only [go_sem]
    (repeat (refine ⟨by (first | exact True.intro | omega | rfl | (simp; done) | (simp; omega)), ?_⟩)); try (refine hKr _ ?_; clear hKr Kr)
    refine CallK.data (fun _ => Spec.args (s5) (by (first | exact ArgsLe.refl | (repeat (first | exact True.intro | refine And.intro (by first | exact AvLe.refl | exact AvLe.loose | exact AvLe.nil | exact AvLe.nilT | exact AvLe.slk | (refine AvLe.agg ?_; exact ArgsLe.refl) | (refine AvLe.agg ?_; (repeat (first | exact True.intro | refine And.intro (by first | exact AvLe.refl | exact AvLe.loose | exact AvLe.nil | exact AvLe.nilT | exact AvLe.slk) ?_)))) ?_))))) rfl ?_
    simp only [go_sem, intsOf_cons, List.cons_append, List.nil_append]
    (repeat (refine ⟨by (first | exact True.intro | omega | rfl | (simp; done) | (simp; omega)), ?_⟩)); try (refine hKr _ ?_; clear hKr Kr)
    refine T.ret ?_
    simp only [go_sem]
    exact ⟨ResCellD rfl rfl rfl rfl (by simp only [go_sem]) (by simp only [go_sem, intsOf_cons, Bool.false_eq_true, if_false]) rfl, trivial⟩
def rawsOf (l : List Raw) : List AV := l.map rawA
@[go_sem] theorem rawsOf_len (l : List Raw) : (rawsOf l).length = l.length := by simp [rawsOf]
@[go_sem] theorem rawsOf_get {l : List Raw} {i : Nat} (h : i < l.length) : (rawsOf l).getD i .junk = rawA (l.getD i default) := by simp [rawsOf, List.getD, h]
end Go.Proofs
