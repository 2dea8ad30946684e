/- Documents: contracts of the reference's doing, putting, and of its text of a mark. -/
import Derived.Test.YtdhkkdhooobdhaaD6
set_option linter.unusedVariables false
set_option linter.unusedSimpArgs false
namespace Go.Proofs
open Go Go.Ideal
set_option maxRecDepth 8000
set_option maxHeartbeats 4000000

theorem findIdx_some {l : List Mark} {id : Int} {i : Nat} (h : l.findIdx? (fun m => decide (m.id = id)) = some i) : i < l.length ∧ (l.getD i default).id = id ∧ ∀ q, q < i → (l.getD q default).id ≠ id := by
  rw [List.findIdx?_eq_some_iff_getElem] at h
  obtain ⟨hi, h1, h2⟩ := h
  refine ⟨hi, by simpa [List.getD, hi] using h1, fun q hq => ?_⟩
  have := h2 q hq
  simpa [List.getD, show q < l.length by omega] using this
theorem txt_ok {d : Doc} (hd : OkD d) (id : Int) : txtF d id = if fndF d.m id < 0 then ([], 330) else (sub d.s (d.m.getD (fndF d.m id).toNat default).f (d.m.getD (fndF d.m id).toNat default).t, 0) := by
  have hg : ∀ m ∈ d.m, goodM d id m = decide (m.id = id) := by
    intro m hm
    obtain ⟨_, h1, h2, h3⟩ := hd.mks m hm
    simp only [goodM]
    have a1 : m.f ≤ m.t := by omega
    have a2 : m.t ≤ (d.s.length : Int) := by omega
    simp [h1, a1, a2]
  have hn0 : ∀ (l : List Mark), (∀ m ∈ l, m ∈ d.m) → (∀ m ∈ l, m.id ≠ id) → l.find? (goodM d id) = none := by
    intro l h1 h2
    rw [List.find?_eq_none]
    intro x hx
    rw [hg x (h1 x hx)]
    simpa using h2 x hx
  unfold fndF
  cases hf : d.m.findIdx? (fun m => decide (m.id = id)) with
  | none =>
    rw [List.findIdx?_eq_none_iff] at hf
    simp only [txtF]
    rw [hn0 d.m (fun _ h => h) (fun m hm => by simpa using hf m hm)]
    rfl
  | some i =>
    obtain ⟨hi, h1, h2⟩ := findIdx_some hf
    have hm : d.m.getD i default ∈ d.m := by simp [List.getD, hi]
    have := find_take (p := goodM d id) hi (hn0 _ (fun m hm => List.mem_of_mem_take hm) (fun m hm => by
      obtain ⟨q, hq, rfl⟩ := List.mem_take_iff_getElem.1 hm
      have := h2 q (by omega)
      simpa [List.getD, show q < d.m.length by omega] using this)) (by rw [hg _ hm]; simpa using h1)
    have hneg : ¬ ((i : Int) < 0) := by omega
    simp only [txtF, this, hneg, if_false, Int.toNat_natCast]
/-! ### Doing -/
theorem chg_len {s : List UInt8} {e : Edit} (hp : possB e s.length = true) : ((chg s e).length : Int) = if e.k = 1 then (s.length : Int) + e.s.length else if e.k = 2 then s.length - e.n else s.length := by
  obtain ⟨q1, q2, q3, q4, q5, q6, q7⟩ := possB_smE hp
  unfold chg
  by_cases h1 : e.k = 1
  · rw [if_pos h1, if_pos h1]; simp; omega
  have := q6 h1
  rw [if_neg h1, if_neg h1]
  by_cases h2 : e.k = 2
  · rw [if_pos h2, if_pos h2]; simp; omega
  rw [if_neg h2, if_neg h2]
  by_cases h3 : e.k = 3
  · rw [if_pos h3]
    have := q7 h3
    simp; omega
  · rw [if_neg h3]
theorem DoR_spec (d : Doc) (e : Edit) (hd : OkD d) (hl : e.s.length ≤ 100000) : Ideal.Spec Try.prog 80 [docA d, editA e] (.tup [docA (doF d e).1, .int .i64 (doF d e).2]) none := by
  have hlen := hd.len
  have hcnt := hd.cnt
  have sp := Possible_spec e d.s.length ⟨by omega, by omega⟩ (by omega)
  have sc := fun hp => text_spec d.s e (by omega) hl hp
  refine Spec.weakT (rs := [docX false (doF d e), .int .i64 (doF d e).2]) ?_ (docX_fin _ _) rfl (docX_le _ _ (doF_no d e))
  refine Ideal.Spec.of_MD (n := 52) (fn := Try.f80) rfl rfl rfl rfl (docX_fin _ _) rfl rfl fun w ok => ?_
  refine T.post [.tmp 4] ?_
  refine T.sregD 52 [0, 1, 2, 3, 4, 5, 6, 7, 8, 9, 15, 25, 31, 44] fun Kr hKr => ?_
  simp only [go_sem]
  (repeat (refine ⟨by (first | exact True.intro | omega | rfl | (simp; done) | (simp; omega)), ?_⟩)); try (refine hKr _ ?_; clear hKr Kr)
  refine T.seqK fun K1 hK1 => ?_
  refine T.sregD 52 [0, 1, 2, 3, 4, 5, 6, 7, 8, 9, 15, 25, 31, 44] fun Kr hKr => ?_
  simp only [go_sem]
  (repeat (refine ⟨by (first | exact True.intro | omega | rfl | (simp; done) | (simp; omega)), ?_⟩)); try (refine hKr _ ?_; clear hKr Kr)
  refine CallK.data (fun _ => Spec.args (sp) (by (first | exact ArgsLe.refl | (repeat (first | exact True.intro | refine And.intro (by first | exact AvLe.refl | exact AvLe.loose | exact AvLe.nil | exact AvLe.nilT | exact AvLe.slk | (refine AvLe.agg ?_; exact ArgsLe.refl) | (refine AvLe.agg ?_; (repeat (first | exact True.intro | refine And.intro (by first | exact AvLe.refl | exact AvLe.loose | exact AvLe.nil | exact AvLe.nilT | exact AvLe.slk) ?_)))) ?_))))) rfl ?_
  simp only [go_sem]
  (repeat (refine ⟨by (first | exact True.intro | omega | rfl | (simp; done) | (simp; omega)), ?_⟩)); try (refine hKr _ ?_; clear hKr Kr)
  refine T.condTD rfl rfl (fun hb => ?_) (fun hb => ?_) <;> simp at hb
  · have ee : doF d e = (noDoc, 290) := by unfold doF; rw [if_pos hb]
    have e2 : docX false (doF d e) = .agg [.str [], .sl true 1 []] := by rw [ee]; rfl
    refine T.sregD 52 [0, 1, 2, 3, 4, 5, 6, 7, 8, 9, 15, 25, 31, 44] fun Kr hKr => ?_
    simp only [go_sem]
    (repeat (refine ⟨by (first | exact True.intro | omega | rfl | (simp; done) | (simp; omega)), ?_⟩)); try (refine hKr _ ?_; clear hKr Kr)
    refine T.ret ?_
    simp only [go_sem]
    exact ⟨ResCellD rfl rfl rfl rfl (by simp only [go_sem]) (by rw [e2]; simp only [go_sem]) (by rw [e2]; rfl), ResAtD (by rw [ee]; rfl) rfl rfl, trivial⟩
  have hcl := chg_len hb
  obtain ⟨q1, q2, q3, q4, q5, q6, q7⟩ := possB_smE hb
  have hW := SmW_of hlen hb hl
  refine T.skip ?_
  refine hK1 _ ?_
  refine T.sregD 52 [0, 1, 2, 3, 4, 5, 6, 7, 8, 9, 15, 25, 31, 44] fun Kr hKr => ?_
  simp only [go_sem]
  (repeat (refine ⟨by (first | exact True.intro | omega | rfl | (simp; done) | (simp; omega)), ?_⟩)); try (refine hKr _ ?_; clear hKr Kr)
  refine CallK.data (fun _ => Spec.args (sc hb) (by (first | exact ArgsLe.refl | (repeat (first | exact True.intro | refine And.intro (by first | exact AvLe.refl | exact AvLe.loose | exact AvLe.nil | exact AvLe.nilT | exact AvLe.slk | (refine AvLe.agg ?_; exact ArgsLe.refl) | (refine AvLe.agg ?_; (repeat (first | exact True.intro | refine And.intro (by first | exact AvLe.refl | exact AvLe.loose | exact AvLe.nil | exact AvLe.nilT | exact AvLe.slk) ?_)))) ?_))))) rfl ?_
  simp only [go_sem]
  (repeat (refine ⟨by (first | exact True.intro | omega | rfl | (simp; done) | (simp; omega)), ?_⟩)); try (refine hKr _ ?_; clear hKr Kr)
  refine T.seqK fun K2 hK2 => ?_
  refine T.sregD 52 [0, 1, 2, 3, 4, 5, 6, 7, 8, 9, 15, 25, 31, 44] fun Kr hKr => ?_
  simp only [go_sem]
  (repeat (refine ⟨by (first | exact True.intro | omega | rfl | (simp; done) | (simp; omega)), ?_⟩)); try (refine hKr _ ?_; clear hKr Kr)
  refine T.condTD rfl rfl (fun hc => ?_) (fun hc => ?_) <;> simp at hc
  · have hk1 : e.k = 1 := by
      by_cases h1 : e.k = 1
      · exact h1
      · rw [if_neg h1] at hcl
        have := q6 h1
        split at hcl <;> omega
    rw [if_pos hk1] at hcl
    have ee : doF d e = (noDoc, 2) := by unfold doF; rw [if_neg (by rw [hb]; decide), if_pos ⟨hk1, by omega⟩]
    have e2 : docX false (doF d e) = .agg [.str [], .sl true 1 []] := by rw [ee]; rfl
    refine T.sregD 52 [0, 1, 2, 3, 4, 5, 6, 7, 8, 9, 15, 25, 31, 44] fun Kr hKr => ?_
    simp only [go_sem]
    (repeat (refine ⟨by (first | exact True.intro | omega | rfl | (simp; done) | (simp; omega)), ?_⟩)); try (refine hKr _ ?_; clear hKr Kr)
    refine T.ret ?_
    simp only [go_sem]
    exact ⟨ResCellD rfl rfl rfl rfl (by simp only [go_sem]) (by rw [e2]; simp only [go_sem]) (by rw [e2]; rfl), ResAtD (by rw [ee]; rfl) rfl rfl, trivial⟩
  have ee : doF d e = (⟨chg d.s e, carL d.m e⟩, 0) := by
    unfold doF; rw [if_neg (by rw [hb]; decide), if_neg]
    intro h
    rw [if_pos h.1] at hcl; omega
  have e2 : docX false (doF d e) = .agg [.str (chg d.s e), .sl false 4 (mksOf (carL d.m e))] := by rw [ee]; rfl
  refine T.skip ?_
  refine hK2 _ ?_
  refine T.seqK fun K3 hK3 => ?_
  refine T.sregD 52 [0, 1, 2, 3, 4, 5, 6, 7, 8, 9, 15, 25, 31, 44] fun Kr hKr => ?_
  simp only [go_sem]
  (repeat (refine ⟨by (first | exact True.intro | omega | rfl | (simp; done) | (simp; omega)), ?_⟩)); try (refine hKr _ ?_; clear hKr Kr)
  generalize chg d.s e = txt at *
  refine T.bloop (fun i : Nat => ⟨dense 52 [(2, .op 2 0 0), (3, .op 3 0 0), (4, .op 4 0 0), (6, .op 6 0 0), (7, .int .i64 i)], [(49, ⟨4, 65, false, mksOf (carL (d.m.take i) e)⟩), (6, ⟨2, 26, true, [.agg [.str txt, .osl 49 0 (carL (d.m.take i) e).length]]⟩), (4, ⟨2, 26, true, [.agg [.str [], .sl true 1 []]]⟩), (3, ⟨5, 49, true, [editA e]⟩), (2, ⟨2, 26, true, [docA d]⟩)]⟩) (fun i => i ≤ d.m.length) (fun i => d.m.length - i) 0 (by simp) ?_ fun i hi => ?_
  · refine (Le.ownC 6 1 49 4 65).trans ?_
    simp only [go_sem]
    refine Le.fitS (by (repeat (first | exact DFit.nil | refine DFit.cons (by first | rfl | (simp [slook]; done) | (simp [slook]; omega)) ?_))) (by (repeat (first | exact True.intro | refine And.intro (by first | rfl | (simp [look]; done)) ?_)))
  have hle : (carL (d.m.take i) e).length ≤ i := Nat.le_trans (carL_len _ _) (by simp; omega)
  refine T.seqK fun K4 hK4 => ?_
  refine T.sregD 52 [0, 1, 2, 3, 4, 5, 6, 7, 8, 9, 15, 25, 31, 44] fun Kr hKr => ?_
  simp only [go_sem]
  (repeat (refine ⟨by (first | exact True.intro | omega | rfl | (simp; done) | (simp; omega)), ?_⟩)); try (refine hKr _ ?_; clear hKr Kr)
  refine T.condFD rfl rfl (fun hx => ?_) (fun hx => ?_) <;> simp at hx
  · -- no: exit
    refine T.exit ?_
    simp only [if_true]
    refine hK3 _ ?_
    have : i = d.m.length := by omega
    subst this
    rw [List.take_length]
    generalize carL d.m e = C at *
    refine T.sregD 52 [0, 1, 2, 3, 4, 5, 6, 7, 8, 9, 15, 25, 31, 44] fun Kr hKr => ?_
    simp only [go_sem, Nat.le_refl]
    (repeat (refine ⟨by (first | exact True.intro | omega | rfl | (simp; done) | (simp; omega)), ?_⟩)); try (refine hKr _ ?_; clear hKr Kr)
    refine T.ret ?_
    simp only [go_sem]
    exact ⟨ResCellD rfl rfl rfl rfl (by simp only [go_sem]) (by rw [e2]; simp only [go_sem, List.take_length]) (by rw [e2]; rfl), ResAtD (by rw [ee]; rfl) rfl rfl, trivial⟩
  refine T.skip ?_
  refine hK4 _ ?_
  refine T.seqK fun K5 hK5 => ?_
  refine T.block ?_
  have hm : d.m.getD i default ∈ d.m := by simp [List.getD, hx]
  have sr := CarryR_spec e (d.m.getD i default) (hd.sm _ hm) hW
  obtain ⟨_, g1, g2, g3⟩ := hd.mks _ hm
  have hn0 : e.k = 1 ∨ 0 ≤ e.n := by
    by_cases h : e.k = 1
    · exact .inl h
    · exact .inr (q6 h).1
  have hceq : carR e (d.m.getD i default) = carM e (d.m.getD i default) := by
    rcases hn0 with h | h
    · simp only [carR, carM]; rw [if_pos h, if_pos h]
    · exact carR_eq ⟨q1, q2⟩ h g2
  rw [hceq] at sr
  have hstep := carL_take (e := e) hx
  cases hr : carM e (d.m.getD i default) with
  | none =>
    rw [hr] at sr hstep
    simp only [List.append_nil] at hstep
    refine T.sdraw2D 52 [0, 1, 2, 3, 4, 5, 6, 7, 8, 9, 15, 25, 31, 44] (.take 0 (.take 1 (.take 2 (.take 3 (.take 4 (.take 5 (.two 6 (.take 7 (.take 8 (.take 9 (.one 10 (.one 11 (.take 12 .done)))))) 10 (.one 6 (.take 7 (.take 8 (.take 9 (.one 11 (.take 12 .done))))))))))))) [2, 3] rfl (by decide +kernel) (by decide +kernel) ?x1 ?h1 (fun Kr hKr => ?all1) ?rest1
    case all1 =>
      simp only [go_sem, hx]
      (repeat (any_goals (first | exact hKr _ (.inl rfl) | exact hKr _ (.inr (by (repeat (first | exact True.intro | refine And.intro (by first | rfl | (simp [look]; done)) ?_)))) | ((first | refine CallK.dataA (sr) ?_ rfl ?_ | refine CallK.tupA (sr) ?_ ?_ | refine CallK.ownA (sr) ?_ ?_); (focus ((first | exact ArgsLe.refl | (repeat (first | exact True.intro | refine And.intro (by first | exact AvLe.refl | exact AvLe.loose | exact AvLe.nil | exact AvLe.nilT | exact AvLe.slk | (refine AvLe.agg ?_; exact ArgsLe.refl) | (refine AvLe.agg ?_; (repeat (first | exact True.intro | refine And.intro (by first | exact AvLe.refl | exact AvLe.loose | exact AvLe.nil | exact AvLe.nilT | exact AvLe.slk) ?_)))) ?_))); done)); simp only [go_sem, hx]) | (refine And.intro ?_ ?_) | (first | exact True.intro | omega | rfl | (simp; done) | (simp; omega)))))
      all_goals (first | exact hKr _ (.inl rfl) | exact hKr _ (.inr (by (repeat (first | exact True.intro | refine And.intro (by first | rfl | (simp [look]; done)) ?_)))))
    case rest1 =>
    refine T.sregD 52 [0, 1, 2, 3, 4, 5, 6, 7, 8, 9, 15, 25, 31, 44] fun Kr hKr => ?_
    simp only [go_sem]
    (repeat (refine ⟨by (first | exact True.intro | omega | rfl | (simp; done) | (simp; omega)), ?_⟩)); try (refine hKr _ ?_; clear hKr Kr)
    refine T.condTD rfl rfl (fun hy => ?_) (fun hy => ?_) <;> try simp at hy
    refine T.skip ?_
    refine hK5 _ ?_
    refine T.regD 52 [0, 1, 2, 3, 4, 5, 6, 7, 8, 9, 15, 25, 31, 44] fun Kr hKr => ?_
    simp only [go_sem]
    (repeat (refine ⟨by (first | exact True.intro | omega | rfl | (simp; done) | (simp; omega)), ?_⟩)); try (refine hKr _ ?_; clear hKr Kr)
    refine ⟨i + 1, ?_, ?_, Le.fitS (by (repeat (first | exact DFit.nil | refine DFit.cons (by first | rfl | (simp [slook, hstep]; done) | (simp [slook, hstep]; omega)) ?_))) ?_⟩
    · omega
    · omega
    · rw [hstep]; (repeat (first | exact True.intro | refine And.intro (by first | rfl | (simp [look]; done)) ?_))
  | some m' =>
    rw [hr] at sr hstep
    simp only at hstep
    generalize hC : carL (d.m.take i) e = C at *
    have happ : mksOf (C ++ [m']) = mksOf C ++ [.agg [.int .i64 m'.id, .int .i64 m'.f, .int .i64 m'.t, .bool m'.w]] := mksOf_app _ _
    refine T.sdraw2D 52 [0, 1, 2, 3, 4, 5, 6, 7, 8, 9, 15, 25, 31, 44] (.take 0 (.take 1 (.take 2 (.take 3 (.take 4 (.take 5 (.two 6 (.take 7 (.take 8 (.take 9 (.one 10 (.one 11 (.take 12 .done)))))) 10 (.one 6 (.take 7 (.take 8 (.take 9 (.one 11 (.take 12 .done))))))))))))) [2, 3] rfl (by decide +kernel) (by decide +kernel) ?x2 ?h2 (fun Kr hKr => ?all2) ?rest2
    case all2 =>
      simp only [go_sem, hx]
      (repeat (any_goals (first | exact hKr _ (.inl rfl) | exact hKr _ (.inr (by (repeat (first | exact True.intro | refine And.intro (by first | rfl | (simp [look]; done)) ?_)))) | ((first | refine CallK.dataA (sr) ?_ rfl ?_ | refine CallK.tupA (sr) ?_ ?_ | refine CallK.ownA (sr) ?_ ?_); (focus ((first | exact ArgsLe.refl | (repeat (first | exact True.intro | refine And.intro (by first | exact AvLe.refl | exact AvLe.loose | exact AvLe.nil | exact AvLe.nilT | exact AvLe.slk | (refine AvLe.agg ?_; exact ArgsLe.refl) | (refine AvLe.agg ?_; (repeat (first | exact True.intro | refine And.intro (by first | exact AvLe.refl | exact AvLe.loose | exact AvLe.nil | exact AvLe.nilT | exact AvLe.slk) ?_)))) ?_))); done)); simp only [go_sem, hx]) | (refine And.intro ?_ ?_) | (first | exact True.intro | omega | rfl | (simp; done) | (simp; omega)))))
      all_goals (first | exact hKr _ (.inl rfl) | exact hKr _ (.inr (by (repeat (first | exact True.intro | refine And.intro (by first | rfl | (simp [look]; done)) ?_)))))
    case rest2 =>
    refine T.sregD 52 [0, 1, 2, 3, 4, 5, 6, 7, 8, 9, 15, 25, 31, 44] fun Kr hKr => ?_
    simp only [go_sem]
    (repeat (refine ⟨by (first | exact True.intro | omega | rfl | (simp; done) | (simp; omega)), ?_⟩)); try (refine hKr _ ?_; clear hKr Kr)
    refine T.condTD rfl rfl (fun hy => ?_) (fun hy => ?_) <;> try simp at hy
    refine T.regD 52 [0, 1, 2, 3, 4, 5, 6, 7, 8, 9, 15, 25, 31, 44] fun Kr hKr => ?_
    simp only [go_sem]
    (repeat (refine ⟨by (first | exact True.intro | omega | rfl | (simp; done) | (simp; omega)), ?_⟩)); try (refine hKr _ ?_; clear hKr Kr)
    refine hK5 _ ?_
    refine T.regD 52 [0, 1, 2, 3, 4, 5, 6, 7, 8, 9, 15, 25, 31, 44] fun Kr hKr => ?_
    simp only [go_sem]
    (repeat (refine ⟨by (first | exact True.intro | omega | rfl | (simp; done) | (simp; omega)), ?_⟩)); try (refine hKr _ ?_; clear hKr Kr)
    refine ⟨i + 1, ?_, ?_, Le.fitS (by (repeat (first | exact DFit.nil | refine DFit.cons (by first | rfl | (simp [slook, hstep]; done) | (simp [slook, hstep]; omega)) ?_))) ?_⟩
    · omega
    · omega
    · rw [hstep, happ]; simp only [List.length_append, List.length_singleton]; (repeat (first | exact True.intro | refine And.intro (by first | rfl | (simp [look]; done)) ?_))

/-! ### Putting -/
def insR (m : Mark) : List Mark → List Mark
  | [] => []
  | x :: l => if m.id < x.id then m :: x :: l else x :: insR m l
def aftB (m : Mark) (l : List Mark) : Bool := l.any fun x => decide (m.id < x.id)
theorem insR_no {m : Mark} {l : List Mark} (h : aftB m l = false) : insR m l = l := by
  induction l with
  | nil => rfl
  | cons x l ih =>
    simp only [aftB, List.any_cons, Bool.or_eq_false_iff, decide_eq_false_iff_not] at h
    simp only [insR]; rw [if_neg h.1, ih h.2]
theorem aftB_snoc (m x : Mark) (l : List Mark) : aftB m (l ++ [x]) = (aftB m l || decide (m.id < x.id)) := by simp [aftB]
theorem insR_snoc (m x : Mark) (l : List Mark) : insR m (l ++ [x]) = if aftB m l = true then insR m l ++ [x] else if m.id < x.id then l ++ [m, x] else l ++ [x] := by
  induction l with
  | nil =>
    simp only [aftB, List.any_nil, Bool.false_eq_true, if_false, List.nil_append, insR]
  | cons y l ih =>
    simp only [List.cons_append, insR]
    by_cases h : m.id < y.id
    · have : aftB m (y :: l) = true := by simp [aftB, h]
      rw [if_pos h, if_pos h, if_pos this]; rfl
    · have : aftB m (y :: l) = aftB m l := by simp [aftB, h]
      rw [if_neg h, if_neg h, this, ih]
      split
      · rfl
      · split <;> rfl
theorem insR_len (m : Mark) (l : List Mark) : (insR m l).length ≤ l.length + 1 := by
  induction l with
  | nil => simp [insR]
  | cons x l ih =>
    simp only [insR]
    split
    · simp
    · simp; exact ih
theorem insL_eq {m : Mark} {l : List Mark} (h : ∀ x ∈ l, x.id ≠ m.id) : insL l (idx l m.id) m = if aftB m l = true then insR m l else l ++ [m] := by
  induction l with
  | nil => simp [insL, idx, aftB]
  | cons x l ih =>
    have h0 := h x (by simp)
    have ih := ih fun y hy => h y (by simp [hy])
    by_cases hx : x.id < m.id
    · have e1 : idx (x :: l) m.id = idx l m.id + 1 := by simp [idx, List.takeWhile_cons, hx]
      have hx' : ¬ m.id < x.id := by omega
      have e2 : aftB m (x :: l) = aftB m l := by simp [aftB, hx']
      have e3 : insL (x :: l) (idx l m.id + 1) m = x :: insL l (idx l m.id) m := by simp [insL]
      rw [e1, e2, e3, ih]
      simp only [insR]
      rw [if_neg hx']
      split <;> rfl
    · have e1 : idx (x :: l) m.id = 0 := by simp [idx, List.takeWhile_cons, hx]
      have hx' : m.id < x.id := by omega
      have e2 : aftB m (x :: l) = true := by simp [aftB, hx']
      rw [e1, e2, if_pos rfl]
      simp only [insR, insL]; rw [if_pos hx']; rfl
theorem idx_map {f : Mark → Mark} (hf : ∀ m, (f m).id = m.id) (l : List Mark) (id : Int) : idx (l.map f) id = idx l id := by
  induction l with
  | nil => rfl
  | cons x l ih =>
    simp only [idx, List.map_cons, List.takeWhile_cons, hf] at ih ⊢
    split <;> simp [ih]
theorem insM_id (a n : Int) (m : Mark) : (insM a n m).id = m.id := by unfold insM; split <;> first | rfl | (split <;> rfl)
@[go_sem] def cmtA (id at_ : Int) (text : List UInt8) : AV := .agg [.int .i64 id, .int .i64 at_, .str text]
theorem hasId_fnd {l : List Mark} {id : Int} : (0 ≤ fndF l id) ↔ hasId l id = true := by
  unfold fndF
  cases hf : l.findIdx? (fun m => decide (m.id = id)) with
  | none =>
    rw [List.findIdx?_eq_none_iff] at hf
    have : hasId l id = false := by
      simp only [hasId, List.any_eq_false]; intro x hx; simpa using hf x hx
    simp [this]
  | some i =>
    obtain ⟨h1, h2, _⟩ := findIdx_some hf
    simp [hasId_at h1 h2]
theorem PutR_spec (d : Doc) (id at_ : Int) (text : List UInt8) (hd : OkD d) (hl : text.length ≤ 100000) :
    Ideal.Spec Try.prog 81 [docA d, cmtA id at_ text] (.tup [docA (putF d id at_ text).1, .int .i64 (putF d id at_ text).2]) none := by
  have hlen := hd.len
  have hcnt := hd.cnt
  have sp := Possible_spec (putE at_ text) d.s.length ⟨by omega, by omega⟩ (by simp only [putE]; omega)
  have sf := Find_spec d id (by omega)
  have sd := DoR_spec d (putE at_ text) hd hl
  have hcl : (carL d.m (putE at_ text)).length = d.m.length := by rw [carL_ins rfl]; simp
  have hno : hasId d.m id = false → ∀ x ∈ carL d.m (putE at_ text), x.id ≠ id := by
    intro h x hx
    rw [carL_ins rfl] at hx
    obtain ⟨y, hy, rfl⟩ := List.mem_map.1 hx
    rw [insM_id]
    simpa using List.any_eq_false.1 h y hy
  have hidx : idx (carL d.m (putE at_ text)) id = idx d.m id := by rw [carL_ins rfl]; exact idx_map (insM_id _ _) _ _
  refine Spec.weakT (rs := [docX false (putF d id at_ text), .int .i64 (putF d id at_ text).2]) ?_ (docX_fin _ _) rfl (docX_le _ _ (putF_no d id at_ text))
  refine Ideal.Spec.of_MD (n := 105) (fn := Try.f81) rfl rfl rfl rfl (docX_fin _ _) rfl rfl fun w ok => ?_
  refine T.post [.tmp 4] ?_
  simp only [putE] at sp sd
  refine T.sregD 105 [0, 1, 2, 3, 4, 5, 6, 7, 8, 9, 10, 11, 12, 35, 50, 68, 83, 97] fun Kr hKr => ?_
  simp only [go_sem]
  (repeat (refine ⟨by (first | exact True.intro | omega | rfl | (simp; done) | (simp; omega)), ?_⟩)); try (refine hKr _ ?_; clear hKr Kr)
  refine T.sregD 105 [0, 1, 2, 3, 4, 5, 6, 7, 8, 9, 10, 11, 12, 35, 50, 68, 83, 97] fun Kr hKr => ?_
  simp only [go_sem]
  (repeat (refine ⟨by (first | exact True.intro | omega | rfl | (simp; done) | (simp; omega)), ?_⟩)); try (refine hKr _ ?_; clear hKr Kr)
  refine T.seqK fun K1 hK1 => ?_
  have fail1 : (possB (putE at_ text) d.s.length = false ∨ id < 0 ∨ hasId d.m id = true) → putF d id at_ text = (noDoc, 290) ∧ docX false (putF d id at_ text) = .agg [.str [], .sl true 1 []] := by
    intro h
    have ee : putF d id at_ text = (noDoc, 290) := by unfold putF; rw [if_pos h]
    exact ⟨ee, by rw [ee]; rfl⟩
  cases hb1 : possB (putE at_ text) d.s.length
  · obtain ⟨ee, e2⟩ := fail1 (.inl hb1)
    unfold putE at hb1
    rw [hb1] at sp
    refine T.sregD 105 [0, 1, 2, 3, 4, 5, 6, 7, 8, 9, 10, 11, 12, 35, 50, 68, 83, 97] fun Kr hKr => ?_
    simp only [go_sem]
    (repeat (refine ⟨by (first | exact True.intro | omega | rfl | (simp; done) | (simp; omega)), ?_⟩)); try (refine hKr _ ?_; clear hKr Kr)
    refine CallK.data (fun _ => Spec.args (sp) (by (first | exact ArgsLe.refl | (repeat (first | exact True.intro | refine And.intro (by first | exact AvLe.refl | exact AvLe.loose | exact AvLe.nil | exact AvLe.nilT | exact AvLe.slk | (refine AvLe.agg ?_; exact ArgsLe.refl) | (refine AvLe.agg ?_; (repeat (first | exact True.intro | refine And.intro (by first | exact AvLe.refl | exact AvLe.loose | exact AvLe.nil | exact AvLe.nilT | exact AvLe.slk) ?_)))) ?_))))) rfl ?_
    simp only [go_sem]
    (repeat (refine ⟨by (first | exact True.intro | omega | rfl | (simp; done) | (simp; omega)), ?_⟩)); try (refine hKr _ ?_; clear hKr Kr)
    refine CallK.data (r := .bool true) (fun h => by cases h) rfl ?_
    simp only [go_sem]
    (repeat (refine ⟨by (first | exact True.intro | omega | rfl | (simp; done) | (simp; omega)), ?_⟩)); try (refine hKr _ ?_; clear hKr Kr)
    refine T.condTD rfl rfl (fun hb => ?_) (fun hb => ?_) <;> try simp at hb
    refine T.sregD 105 [0, 1, 2, 3, 4, 5, 6, 7, 8, 9, 10, 11, 12, 35, 50, 68, 83, 97] fun Kr hKr => ?_
    simp only [go_sem]
    (repeat (refine ⟨by (first | exact True.intro | omega | rfl | (simp; done) | (simp; omega)), ?_⟩)); try (refine hKr _ ?_; clear hKr Kr)
    refine T.ret ?_
    simp only [go_sem]
    exact ⟨ResCellD rfl rfl rfl rfl (by simp only [go_sem]) (by rw [e2]; simp only [go_sem]) (by rw [e2]; rfl), ResAtD (by rw [ee]; rfl) rfl rfl, trivial⟩
  by_cases hb2 : id < 0
  · obtain ⟨ee, e2⟩ := fail1 (.inr (.inl hb2))
    unfold putE at hb1
    rw [hb1] at sp
    have hid : (id < 0) = True := eq_true hb2
    refine T.sregD 105 [0, 1, 2, 3, 4, 5, 6, 7, 8, 9, 10, 11, 12, 35, 50, 68, 83, 97] fun Kr hKr => ?_
    simp only [go_sem]
    (repeat (refine ⟨by (first | exact True.intro | omega | rfl | (simp; done) | (simp; omega)), ?_⟩)); try (refine hKr _ ?_; clear hKr Kr)
    refine CallK.data (fun _ => Spec.args (sp) (by (first | exact ArgsLe.refl | (repeat (first | exact True.intro | refine And.intro (by first | exact AvLe.refl | exact AvLe.loose | exact AvLe.nil | exact AvLe.nilT | exact AvLe.slk | (refine AvLe.agg ?_; exact ArgsLe.refl) | (refine AvLe.agg ?_; (repeat (first | exact True.intro | refine And.intro (by first | exact AvLe.refl | exact AvLe.loose | exact AvLe.nil | exact AvLe.nilT | exact AvLe.slk) ?_)))) ?_))))) rfl ?_
    simp only [go_sem, hid]
    (repeat (refine ⟨by (first | exact True.intro | omega | rfl | (simp; done) | (simp; omega)), ?_⟩)); try (refine hKr _ ?_; clear hKr Kr)
    refine CallK.data (r := .bool true) (fun h => by cases h) rfl ?_
    simp only [go_sem]
    (repeat (refine ⟨by (first | exact True.intro | omega | rfl | (simp; done) | (simp; omega)), ?_⟩)); try (refine hKr _ ?_; clear hKr Kr)
    refine T.condTD rfl rfl (fun hb => ?_) (fun hb => ?_) <;> try simp at hb
    refine T.sregD 105 [0, 1, 2, 3, 4, 5, 6, 7, 8, 9, 10, 11, 12, 35, 50, 68, 83, 97] fun Kr hKr => ?_
    simp only [go_sem]
    (repeat (refine ⟨by (first | exact True.intro | omega | rfl | (simp; done) | (simp; omega)), ?_⟩)); try (refine hKr _ ?_; clear hKr Kr)
    refine T.ret ?_
    simp only [go_sem]
    exact ⟨ResCellD rfl rfl rfl rfl (by simp only [go_sem]) (by rw [e2]; simp only [go_sem]) (by rw [e2]; rfl), ResAtD (by rw [ee]; rfl) rfl rfl, trivial⟩
  have hid : (id < 0) = False := eq_false hb2
  have hb1' := hb1
  unfold putE at hb1'
  rw [hb1'] at sp
  refine T.sregD 105 [0, 1, 2, 3, 4, 5, 6, 7, 8, 9, 10, 11, 12, 35, 50, 68, 83, 97] fun Kr hKr => ?_
  simp only [go_sem]
  (repeat (refine ⟨by (first | exact True.intro | omega | rfl | (simp; done) | (simp; omega)), ?_⟩)); try (refine hKr _ ?_; clear hKr Kr)
  refine CallK.data (fun _ => Spec.args (sp) (by (first | exact ArgsLe.refl | (repeat (first | exact True.intro | refine And.intro (by first | exact AvLe.refl | exact AvLe.loose | exact AvLe.nil | exact AvLe.nilT | exact AvLe.slk | (refine AvLe.agg ?_; exact ArgsLe.refl) | (refine AvLe.agg ?_; (repeat (first | exact True.intro | refine And.intro (by first | exact AvLe.refl | exact AvLe.loose | exact AvLe.nil | exact AvLe.nilT | exact AvLe.slk) ?_)))) ?_))))) rfl ?_
  simp only [go_sem, hid]
  (repeat (refine ⟨by (first | exact True.intro | omega | rfl | (simp; done) | (simp; omega)), ?_⟩)); try (refine hKr _ ?_; clear hKr Kr)
  refine CallK.data (fun _ => Spec.args (sf) (by (first | exact ArgsLe.refl | (repeat (first | exact True.intro | refine And.intro (by first | exact AvLe.refl | exact AvLe.loose | exact AvLe.nil | exact AvLe.nilT | exact AvLe.slk | (refine AvLe.agg ?_; exact ArgsLe.refl) | (refine AvLe.agg ?_; (repeat (first | exact True.intro | refine And.intro (by first | exact AvLe.refl | exact AvLe.loose | exact AvLe.nil | exact AvLe.nilT | exact AvLe.slk) ?_)))) ?_))))) rfl ?_
  simp only [go_sem]
  (repeat (refine ⟨by (first | exact True.intro | omega | rfl | (simp; done) | (simp; omega)), ?_⟩)); try (refine hKr _ ?_; clear hKr Kr)
  refine T.condTD rfl rfl (fun hb => ?_) (fun hb => ?_) <;> simp only [decide_eq_true_eq, decide_eq_false_iff_not, ge_iff_le] at hb
  · obtain ⟨ee, e2⟩ := fail1 (.inr (.inr (hasId_fnd.1 hb)))
    refine T.sregD 105 [0, 1, 2, 3, 4, 5, 6, 7, 8, 9, 10, 11, 12, 35, 50, 68, 83, 97] fun Kr hKr => ?_
    simp only [go_sem]
    (repeat (refine ⟨by (first | exact True.intro | omega | rfl | (simp; done) | (simp; omega)), ?_⟩)); try (refine hKr _ ?_; clear hKr Kr)
    refine T.ret ?_
    simp only [go_sem]
    exact ⟨ResCellD rfl rfl rfl rfl (by simp only [go_sem]) (by rw [e2]; simp only [go_sem]) (by rw [e2]; rfl), ResAtD (by rw [ee]; rfl) rfl rfl, trivial⟩
  have hb3 : hasId d.m id = false := by
    cases h : hasId d.m id
    · rfl
    · exact absurd (hasId_fnd.2 h) hb
  have hnot : ¬ (possB (putE at_ text) d.s.length = false ∨ id < 0 ∨ hasId d.m id = true) := by rw [hb1, hb3]; simp; omega
  refine T.skip ?_
  refine hK1 _ ?_
  refine T.sregD 105 [0, 1, 2, 3, 4, 5, 6, 7, 8, 9, 10, 11, 12, 35, 50, 68, 83, 97] fun Kr hKr => ?_
  simp only [go_sem]
  (repeat (refine ⟨by (first | exact True.intro | omega | rfl | (simp; done) | (simp; omega)), ?_⟩)); try (refine hKr _ ?_; clear hKr Kr)
  refine CallK.tup (fun _ => Spec.args (sd) (by (first | exact ArgsLe.refl | (repeat (first | exact True.intro | refine And.intro (by first | exact AvLe.refl | exact AvLe.loose | exact AvLe.nil | exact AvLe.nilT | exact AvLe.slk | (refine AvLe.agg ?_; exact ArgsLe.refl) | (refine AvLe.agg ?_; (repeat (first | exact True.intro | refine And.intro (by first | exact AvLe.refl | exact AvLe.loose | exact AvLe.nil | exact AvLe.nilT | exact AvLe.slk) ?_)))) ?_))))) ?_
  simp only [go_sem]
  (repeat (refine ⟨by (first | exact True.intro | omega | rfl | (simp; done) | (simp; omega)), ?_⟩)); try (refine hKr _ ?_; clear hKr Kr)
  refine T.seqK fun K2 hK2 => ?_
  by_cases hbig : (d.s.length : Int) + text.length > 400
  · have e0 : doF d ⟨1, at_, 0, 0, text⟩ = (noDoc, 2) := by unfold doF; rw [if_neg (by rw [hb1']; decide), if_pos ⟨rfl, hbig⟩]
    have ee : putF d id at_ text = (noDoc, 2) := by unfold putF; rw [if_neg hnot, if_pos (.inl hbig)]
    have e2 : docX false (putF d id at_ text) = .agg [.str [], .sl true 1 []] := by rw [ee]; rfl
    rw [e0]
    refine T.sregD 105 [0, 1, 2, 3, 4, 5, 6, 7, 8, 9, 10, 11, 12, 35, 50, 68, 83, 97] fun Kr hKr => ?_
    simp only [go_sem, cond_or]
    (repeat (refine ⟨by (first | exact True.intro | omega | rfl | (simp; done) | (simp; omega)), ?_⟩)); try (refine hKr _ ?_; clear hKr Kr)
    refine T.condTD rfl rfl (fun hc => ?_) (fun hc => ?_) <;> try simp at hc
    refine T.sregD 105 [0, 1, 2, 3, 4, 5, 6, 7, 8, 9, 10, 11, 12, 35, 50, 68, 83, 97] fun Kr hKr => ?_
    simp only [go_sem]
    (repeat (refine ⟨by (first | exact True.intro | omega | rfl | (simp; done) | (simp; omega)), ?_⟩)); try (refine hKr _ ?_; clear hKr Kr)
    refine T.ret ?_
    simp only [go_sem]
    exact ⟨ResCellD rfl rfl rfl rfl (by simp only [go_sem]) (by rw [e2]; simp only [go_sem]) (by rw [e2]; rfl), ResAtD (by rw [ee]; rfl) rfl rfl, trivial⟩
  have e0 : doF d ⟨1, at_, 0, 0, text⟩ = (⟨chg d.s (putE at_ text), carL d.m (putE at_ text)⟩, 0) := by unfold doF; rw [if_neg (by rw [hb1']; decide), if_neg (by simp only [true_and]; exact hbig)]; rfl
  rw [e0]
  refine T.sregD 105 [0, 1, 2, 3, 4, 5, 6, 7, 8, 9, 10, 11, 12, 35, 50, 68, 83, 97] fun Kr hKr => ?_
  simp only [go_sem, cond_or]
  (repeat (refine ⟨by (first | exact True.intro | omega | rfl | (simp; done) | (simp; omega)), ?_⟩)); try (refine hKr _ ?_; clear hKr Kr)
  refine T.condTD rfl rfl (fun hc => ?_) (fun hc => ?_) <;> simp only [decide_eq_true_eq, decide_eq_false_iff_not] at hc
  · have ee : putF d id at_ text = (noDoc, 2) := by unfold putF; rw [if_neg hnot, if_pos (by omega)]
    have e2 : docX false (putF d id at_ text) = .agg [.str [], .sl true 1 []] := by rw [ee]; rfl
    refine T.sregD 105 [0, 1, 2, 3, 4, 5, 6, 7, 8, 9, 10, 11, 12, 35, 50, 68, 83, 97] fun Kr hKr => ?_
    simp only [go_sem]
    (repeat (refine ⟨by (first | exact True.intro | omega | rfl | (simp; done) | (simp; omega)), ?_⟩)); try (refine hKr _ ?_; clear hKr Kr)
    refine T.ret ?_
    simp only [go_sem]
    exact ⟨ResCellD rfl rfl rfl rfl (by simp only [go_sem]) (by rw [e2]; simp only [go_sem]) (by rw [e2]; rfl), ResAtD (by rw [ee]; rfl) rfl rfl, trivial⟩
  have hat : 0 ≤ at_ ∧ at_ ≤ 400 := by
    have := possB_smE hb1'; simp only at this; omega
  obtain ⟨hat1, hat2⟩ := hat
  generalize hM : (⟨id, at_, at_ + text.length, true⟩ : Mark) = M at *
  have hMid : M.id = id := by rw [← hM]
  have hMA : mkA M = .agg [.int .i64 id, .int .i64 at_, .int .i64 (at_ + text.length), .bool true] := by rw [← hM]; rfl
  have hins := insL_eq (m := M) (l := carL d.m (putE at_ text)) (by rw [hMid]; exact hno hb3)
  rw [hMid, hidx] at hins
  have ee : putF d id at_ text = (⟨chg d.s (putE at_ text), insL (carL d.m (putE at_ text)) (idx d.m id) M⟩, 0) := by
    unfold putF; rw [if_neg hnot, if_neg (by omega), hM]
  rw [hins] at ee
  generalize carL d.m (putE at_ text) = C at *
  generalize chg d.s (putE at_ text) = txt at *
  refine T.skip ?_
  refine hK2 _ ?_
  refine T.sregD 105 [0, 1, 2, 3, 4, 5, 6, 7, 8, 9, 10, 11, 12, 35, 50, 68, 83, 97] fun Kr hKr => ?_
  simp only [go_sem]
  (repeat (refine ⟨by (first | exact True.intro | omega | rfl | (simp; done) | (simp; omega)), ?_⟩)); try (refine hKr _ ?_; clear hKr Kr)
  refine T.sregD 105 [0, 1, 2, 3, 4, 5, 6, 7, 8, 9, 10, 11, 12, 35, 50, 68, 83, 97] fun Kr hKr => ?_
  simp only [go_sem]
  (repeat (refine ⟨by (first | exact True.intro | omega | rfl | (simp; done) | (simp; omega)), ?_⟩)); try (refine hKr _ ?_; clear hKr Kr)
  refine T.seqK fun K3 hK3 => ?_
  refine T.sregD 105 [0, 1, 2, 3, 4, 5, 6, 7, 8, 9, 10, 11, 12, 35, 50, 68, 83, 97] fun Kr hKr => ?_
  simp only [go_sem]
  (repeat (refine ⟨by (first | exact True.intro | omega | rfl | (simp; done) | (simp; omega)), ?_⟩)); try (refine hKr _ ?_; clear hKr Kr)
  refine T.bloop (fun i : Nat => ⟨dense 105 [(3, .op 3 0 0), (4, .op 4 0 0), (7, .op 7 0 0), (9, .osl 52 0 (insR M (C.take i)).length), (10, .bool (aftB M (C.take i))), (11, .op 11 0 0), (12, .int .i64 i)], [(52, ⟨4, 65, false, mksOf (insR M (C.take i))⟩), (11, ⟨4, 65, true, [.agg [.int .i64 id, .int .i64 at_, .int .i64 (at_ + text.length), .bool true]]⟩), (7, ⟨2, 26, true, [.agg [.str txt, .sl false 4 (mksOf C)]]⟩), (4, ⟨2, 26, true, [.agg [.str [], .sl true 1 []]]⟩), (3, ⟨3, 142, true, [cmtA id at_ text]⟩)]⟩) (fun i => i ≤ C.length) (fun i => C.length - i) 0 (by simp) ?_ fun i hi => ?_
  · refine Le.fitS (by (repeat (first | exact DFit.nil | refine DFit.cons (by first | rfl | (simp [slook]; done) | (simp [slook]; omega)) ?_))) (by (repeat (first | exact True.intro | refine And.intro (by first | rfl | (simp [look]; done)) ?_)))
  have hle := insR_len M (C.take i)
  have hti : (C.take i).length ≤ i := by simp; omega
  refine T.seqK fun K4 hK4 => ?_
  refine T.sregD 105 [0, 1, 2, 3, 4, 5, 6, 7, 8, 9, 10, 11, 12, 35, 50, 68, 83, 97] fun Kr hKr => ?_
  simp only [go_sem]
  (repeat (refine ⟨by (first | exact True.intro | omega | rfl | (simp; done) | (simp; omega)), ?_⟩)); try (refine hKr _ ?_; clear hKr Kr)
  refine T.condFD rfl rfl (fun hx => ?_) (fun hx => ?_) <;> simp at hx
  · -- no: exit
    refine T.exit ?_
    simp only [if_true]
    refine hK3 _ ?_
    have : i = C.length := by omega
    subst this
    rw [List.take_length] at hle ⊢
    refine T.seqK fun K5 hK5 => ?_
    refine T.sregD 105 [0, 1, 2, 3, 4, 5, 6, 7, 8, 9, 10, 11, 12, 35, 50, 68, 83, 97] fun Kr hKr => ?_
    simp only [go_sem]
    (repeat (refine ⟨by (first | exact True.intro | omega | rfl | (simp; done) | (simp; omega)), ?_⟩)); try (refine hKr _ ?_; clear hKr Kr)
    refine T.condTD rfl rfl (fun hy => ?_) (fun hy => ?_) <;> simp only [Bool.not_eq_true', Bool.not_eq_false'] at hy
    · rw [hy] at ee
      simp only [Bool.false_eq_true, if_false] at ee
      have e2 : docX false (putF d id at_ text) = .agg [.str txt, .sl false 4 (mksOf (C ++ [M]))] := by rw [ee]; rfl
      rw [insR_no hy]
      refine T.regD 105 [0, 1, 2, 3, 4, 5, 6, 7, 8, 9, 10, 11, 12, 35, 50, 68, 83, 97] fun Kr hKr => ?_
      simp only [go_sem]
      (repeat (refine ⟨by (first | exact True.intro | omega | rfl | (simp; done) | (simp; omega)), ?_⟩)); try (refine hKr _ ?_; clear hKr Kr)
      refine hK5 _ ?_
      refine T.sregD 105 [0, 1, 2, 3, 4, 5, 6, 7, 8, 9, 10, 11, 12, 35, 50, 68, 83, 97] fun Kr hKr => ?_
      simp only [go_sem]
      (repeat (refine ⟨by (first | exact True.intro | omega | rfl | (simp; done) | (simp; omega)), ?_⟩)); try (refine hKr _ ?_; clear hKr Kr)
      refine T.sregD 105 [0, 1, 2, 3, 4, 5, 6, 7, 8, 9, 10, 11, 12, 35, 50, 68, 83, 97] fun Kr hKr => ?_
      simp only [go_sem, Nat.le_refl]
      (repeat (refine ⟨by (first | exact True.intro | omega | rfl | (simp; done) | (simp; omega)), ?_⟩)); try (refine hKr _ ?_; clear hKr Kr)
      refine T.ret ?_
      simp only [go_sem]
      have e3 : mksOf C ++ [.agg [.int .i64 id, .int .i64 at_, .int .i64 (at_ + text.length), .bool true]] = mksOf (C ++ [M]) := by rw [mksOf_app, ← hMA]; rfl
      have e4 : (mksOf (C ++ [M])).take (C.length + 1) = mksOf (C ++ [M]) := List.take_of_length_le (by rw [mksOf_len]; simp)
      exact ⟨ResCellD rfl rfl rfl rfl (by simp only [go_sem]) (by rw [e2]; simp only [go_sem, e3, e4]) (by rw [e2]; rfl), ResAtD (by rw [ee]; rfl) rfl rfl, trivial⟩
    rw [hy] at ee
    simp only [if_true] at ee
    have e2 : docX false (putF d id at_ text) = .agg [.str txt, .sl false 4 (mksOf (insR M C))] := by rw [ee]; rfl
    refine T.skip ?_
    refine hK5 _ ?_
    generalize insR M C = D at *
    refine T.sregD 105 [0, 1, 2, 3, 4, 5, 6, 7, 8, 9, 10, 11, 12, 35, 50, 68, 83, 97] fun Kr hKr => ?_
    simp only [go_sem]
    (repeat (refine ⟨by (first | exact True.intro | omega | rfl | (simp; done) | (simp; omega)), ?_⟩)); try (refine hKr _ ?_; clear hKr Kr)
    refine T.sregD 105 [0, 1, 2, 3, 4, 5, 6, 7, 8, 9, 10, 11, 12, 35, 50, 68, 83, 97] fun Kr hKr => ?_
    simp only [go_sem, Nat.le_refl]
    (repeat (refine ⟨by (first | exact True.intro | omega | rfl | (simp; done) | (simp; omega)), ?_⟩)); try (refine hKr _ ?_; clear hKr Kr)
    refine T.ret ?_
    simp only [go_sem]
    exact ⟨ResCellD rfl rfl rfl rfl (by simp only [go_sem]) (by rw [e2]; simp only [go_sem, List.take_length]) (by rw [e2]; rfl), ResAtD (by rw [ee]; rfl) rfl rfl, trivial⟩
  refine T.skip ?_
  refine hK4 _ ?_
  refine T.seqK fun K5 hK5 => ?_
  refine T.block ?_
  refine T.seqK fun K6 hK6 => ?_
  have hsn := insR_snoc M (C.getD i default) (C.take i)
  have han := aftB_snoc M (C.getD i default) (C.take i)
  rw [← take_succ_d hx, hMid] at hsn han
  refine T.sdrawD 105 [0, 1, 2, 3, 4, 5, 6, 7, 8, 9, 10, 11, 12, 35, 50, 68, 83, 97] (.take 0 (.take 1 (.take 2 (.take 3 (.take 4 (.take 5 (.take 6 (.take 7 (.take 8 (.take 9 (.take 10 (.take 11 (.take 12 .done))))))))))))) [3, 7] rfl (by decide +kernel) (by decide +kernel) fun Kr hKr => ?_
  simp only [go_sem, hx, cond_and]
  (repeat (refine ⟨by (first | exact True.intro | omega | rfl | (simp; done) | (simp; omega)), ?_⟩)); try (refine hKr _ ?_; clear hKr Kr)
  refine T.condTD rfl rfl (fun hy => ?_) (fun hy => ?_)
  · -- yes
    simp only [Bool.and_eq_true, Bool.not_eq_true', decide_eq_true_eq] at hy
    obtain ⟨hy1, hy2⟩ := hy
    rw [hy1] at hsn han
    simp only [Bool.false_eq_true, if_false, Bool.false_or] at hsn han
    rw [if_pos hy2] at hsn
    rw [insR_no hy1] at hle ⊢
    refine T.regD 105 [0, 1, 2, 3, 4, 5, 6, 7, 8, 9, 10, 11, 12, 35, 50, 68, 83, 97] fun Kr hKr => ?_
    simp only [go_sem]
    (repeat (refine ⟨by (first | exact True.intro | omega | rfl | (simp; done) | (simp; omega)), ?_⟩)); try (refine hKr _ ?_; clear hKr Kr)
    refine hK6 _ ?_
    refine T.regD 105 [0, 1, 2, 3, 4, 5, 6, 7, 8, 9, 10, 11, 12, 35, 50, 68, 83, 97] fun Kr hKr => ?_
    simp only [go_sem, hx]
    (repeat (refine ⟨by (first | exact True.intro | omega | rfl | (simp; done) | (simp; omega)), ?_⟩)); try (refine hKr _ ?_; clear hKr Kr)
    refine hK5 _ ?_
    refine T.regD 105 [0, 1, 2, 3, 4, 5, 6, 7, 8, 9, 10, 11, 12, 35, 50, 68, 83, 97] fun Kr hKr => ?_
    simp only [go_sem]
    (repeat (refine ⟨by (first | exact True.intro | omega | rfl | (simp; done) | (simp; omega)), ?_⟩)); try (refine hKr _ ?_; clear hKr Kr)
    have e3 : mksOf (C.take i) ++ [.agg [.int .i64 id, .int .i64 at_, .int .i64 (at_ + text.length), .bool true], .agg [.int .i64 (C.getD i default).id, .int .i64 (C.getD i default).f, .int .i64 (C.getD i default).t, .bool (C.getD i default).w]] = mksOf (insR M (C.take (i + 1))) := by
      rw [hsn, mksOf_app, ← hMA]; rfl
    have e5 : (C.take i).length + 1 + 1 = (insR M (C.take (i + 1))).length := by rw [hsn]; simp
    have e6 : aftB M (C.take (i + 1)) = true := by rw [han]; exact decide_eq_true hy2
    refine ⟨i + 1, ?_, ?_, Le.fitS (by (repeat (first | exact DFit.nil | refine DFit.cons (by first | rfl | (simp [slook, e6, ← e5]; done) | (simp [slook, e6, ← e5]; omega)) ?_))) ?_⟩
    · omega
    · omega
    · rw [← e3]; (repeat (first | exact True.intro | refine And.intro (by first | rfl | (simp [look]; done)) ?_))
  have hsame : insR M (C.take (i + 1)) = insR M (C.take i) ++ [C.getD i default] ∧ aftB M (C.take (i + 1)) = aftB M (C.take i) := by
    cases ha : aftB M (C.take i)
    · rw [ha] at hy hsn han
      simp only [Bool.not_false, Bool.true_and, decide_eq_false_iff_not] at hy
      rw [if_neg (by decide), if_neg hy] at hsn
      rw [han, hsn, insR_no ha]
      exact ⟨take_succ_d hx, by simpa using hy⟩
    · rw [ha] at hsn han
      rw [if_pos rfl] at hsn
      exact ⟨hsn, by rw [han]; rfl⟩
  obtain ⟨hs1, hs2⟩ := hsame
  generalize insR M (C.take i) = D at *
  refine T.skip ?_
  refine hK6 _ ?_
  refine T.regD 105 [0, 1, 2, 3, 4, 5, 6, 7, 8, 9, 10, 11, 12, 35, 50, 68, 83, 97] fun Kr hKr => ?_
  simp only [go_sem, hx]
  (repeat (refine ⟨by (first | exact True.intro | omega | rfl | (simp; done) | (simp; omega)), ?_⟩)); try (refine hKr _ ?_; clear hKr Kr)
  refine hK5 _ ?_
  refine T.regD 105 [0, 1, 2, 3, 4, 5, 6, 7, 8, 9, 10, 11, 12, 35, 50, 68, 83, 97] fun Kr hKr => ?_
  simp only [go_sem]
  (repeat (refine ⟨by (first | exact True.intro | omega | rfl | (simp; done) | (simp; omega)), ?_⟩)); try (refine hKr _ ?_; clear hKr Kr)
  have e3 : mksOf D ++ [.agg [.int .i64 (C.getD i default).id, .int .i64 (C.getD i default).f, .int .i64 (C.getD i default).t, .bool (C.getD i default).w]] = mksOf (insR M (C.take (i + 1))) := by
    rw [hs1, mksOf_app]; rfl
  have e5 : D.length + 1 = (insR M (C.take (i + 1))).length := by rw [hs1]; simp
  refine ⟨i + 1, ?_, ?_, Le.fitS (by (repeat (first | exact DFit.nil | refine DFit.cons (by first | rfl | (simp [slook, hs2, ← e5]; done) | (simp [slook, hs2, ← e5]; omega)) ?_))) ?_⟩
  · omega
  · omega
  · rw [← e3]; (repeat (first | exact True.intro | refine And.intro (by first | rfl | (simp [look]; done)) ?_))
end Go.Proofs
