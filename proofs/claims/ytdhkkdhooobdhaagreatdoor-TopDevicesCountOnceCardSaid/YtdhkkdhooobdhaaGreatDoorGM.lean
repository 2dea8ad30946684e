/- Devices: the reference's teams: Step. -/
import Derived.Test.YtdhkkdhooobdhaaGreatDoorGJ
import Derived.Test.YtdhkkdhooobdhaaGreatDoorH7
set_option linter.unusedVariables false
set_option linter.unusedSimpArgs false
namespace Go.Proofs
open Go Go.Ideal
set_option maxRecDepth 8000
set_option maxHeartbeats 4000000

def usrL (u : Usr) : List AV := .sl false 6 (recsOf u.r) :: .sl false 7 (ordsOf u.o) :: intsOf u.l
def teamA (t : List Usr) : AV := .agg (t.flatMap usrL)
@[go_sem] def rawTA (x : RawT) : AV := .agg [.int .u8 x.x.kind, .int .u8 x.x.dev, .int .u8 x.x.ep, .int .u8 x.x.wd, .int .u8 x.x.app, .int .u8 x.x.n, .bool x.sync, .int .u8 x.wth]
structure OkRawT (x : RawT) : Prop where
  q : OkRaw x.x
  w : 0 ≤ x.wth ∧ x.wth < 256
structure TeamOk (t : List Usr) : Prop where
  len : t.length = 3
  val : ∀ i, i < 3 → ValU (t.getD i default)
  st : ∀ i, i < 3 → StepOk (t.getD i default)
  mg : ∀ i k, i < 3 → k < 3 → ∃ m, mergeF (t.getD i default) (t.getD k default) = (m, 0) ∧ m.l.length = 8
theorem TInv.teamOk {b : Bool} {k : Nat} {t : List Usr} (h : TInv b k t) (hk : k ≤ 100) : TeamOk t := by
  obtain ⟨G, O, h⟩ := h
  refine ⟨h.len, fun i hi => h.val hk hi, fun i hi => ?_, fun i j hi hj => ?_⟩
  · have hv := h.val hk hi
    exact ⟨hv.ok, by have := hv.rl; omega, by have := hv.ol; omega, fun d hd => by have := h.low i hi d (by omega); omega⟩
  · obtain ⟨m, h1, h2, _⟩ := (h.part hi).merge (h.part hj) h.log h.size hk
    exact ⟨m, h1, by rw [h2.l, maxL_len]⟩
theorem len3 {t : List Usr} (h : t.length = 3) : ∃ a b c, t = [a, b, c] := by
  match t, h with
  | [a, b, c], _ => exact ⟨a, b, c, rfl⟩
theorem step_len (u : Usr) (x : Raw) (h : u.l.length = 8) : (stepU u x).l.length = 8 := by
  unfold stepU; split
  · exact forget_len u _ h
  · exact learn_len u _ h
theorem usr_lit {u : Usr} (h : u.l.length = 8) : ∃ r o a0 a1 a2 a3 a4 a5 a6 a7, u = ⟨r, o, [a0, a1, a2, a3, a4, a5, a6, a7]⟩ := by
  obtain ⟨r, o, l⟩ := u
  obtain ⟨a0, a1, a2, a3, a4, a5, a6, a7, rfl⟩ := l8_lit h
  exact ⟨r, o, a0, a1, a2, a3, a4, a5, a6, a7, rfl⟩
theorem Step26_spec (t : List Usr) (x : RawT) (ht : TeamOk t) (hx : OkRawT x) : Ideal.Spec Tryz.prog 16 [teamA t, rawTA x] (teamA (stepT t x)) none := by
  obtain ⟨a, b, c, rfl⟩ := len3 ht.len
  have hi : x.x.dev % 3 = 0 ∨ x.x.dev % 3 = 1 ∨ x.x.dev % 3 = 2 := by omega
  have hk : x.wth % 3 = 0 ∨ x.wth % 3 = 1 ∨ x.wth % 3 = 2 := by omega
  have dv := hx.q.dev
  have wv := hx.w
  have hr1 : remv x.x.dev 3 = x.x.dev % 3 := remv_nn hx.q.dev.1
  have hr2 : remv x.wth 3 = x.wth % 3 := remv_nn hx.w.1
  have ea : stepT [a, b, c] x = if x.sync = true then (if (mergeF ([a, b, c].getD (x.x.dev % 3).toNat default) ([a, b, c].getD (x.wth % 3).toNat default)).2 = 0 then [a, b, c].set (x.x.dev % 3).toNat (mergeF ([a, b, c].getD (x.x.dev % 3).toNat default) ([a, b, c].getD (x.wth % 3).toNat default)).1 else [a, b, c])
    else [a, b, c].set (x.x.dev % 3).toNat (stepU ([a, b, c].getD (x.x.dev % 3).toNat default) x.x) := rfl
  have la : a.l.length = 8 := (ht.val 0 (by omega)).l
  have lb : b.l.length = 8 := (ht.val 1 (by omega)).l
  have lc : c.l.length = 8 := (ht.val 2 (by omega)).l
  cases hs : x.sync with
  | true =>
    rw [hs, if_pos rfl] at ea
    have hm : ∃ m, mergeF ([a, b, c].getD (x.x.dev % 3).toNat default) ([a, b, c].getD (x.wth % 3).toNat default) = (m, 0) ∧ m.l.length = 8 := ht.mg _ _ (by omega) (by omega)
    obtain ⟨m, hm, lm⟩ := hm
    have s1 := MergeR_spec _ _ (ht.val (x.x.dev % 3).toNat (by omega)) (ht.val (x.wth % 3).toNat (by omega))
    rw [hm] at s1 ea
    simp only [if_true] at ea
    rw [ea]
    clear ht hm ea
    obtain ⟨ar, ao, a0, a1, a2, a3, a4, a5, a6, a7, rfl⟩ := usr_lit la
    obtain ⟨br, bo, b0, b1, b2, b3, b4, b5, b6, b7, rfl⟩ := usr_lit lb
    obtain ⟨cr, co, c0, c1, c2, c3, c4, c5, c6, c7, rfl⟩ := usr_lit lc
    obtain ⟨mr, mo, m0, m1, m2, m3, m4, m5, m6, m7, rfl⟩ := usr_lit lm
    clear la lb lc lm
    rcases hi with hi | hi | hi
    · rcases hk with hk | hk | hk
      · rw [hi, hk] at s1
        rw [hi]
        rw [hi] at hr1
        rw [hk] at hr2
        simp only [Int.toNat_zero, Int.toNat_one, Int.reduceToNat, List.getD_cons_zero, List.getD_cons_succ, usrA, intsOf_cons, intsOf_nil] at s1
        simp only [Int.toNat_zero, Int.toNat_one, Int.reduceToNat, List.set_cons_zero, List.set_cons_succ, teamA, usrL, List.flatMap_cons, List.flatMap_nil, intsOf_cons, intsOf_nil, List.cons_append, List.nil_append, List.append_nil]
        refine Ideal.Spec.of_CD (n := 45) (fn := Tryz.f16) rfl rfl rfl rfl rfl rfl rfl fun w ok => ?_
        refine T.post [.tmp 4] ?_
        refine T.sregD 45 [0, 1, 2, 3, 4, 5, 6, 7, 8, 19, 31] fun Kr hKr => ?_
        simp only [go_sem]
        (repeat (refine ⟨by (first | exact True.intro | omega | rfl | (simp; done) | (simp; omega)), ?_⟩)); try (refine hKr _ ?_; clear hKr Kr)
        refine T.sdrawD 45 [0, 1, 2, 3, 4, 5, 6, 7, 8, 19, 31] (.take 0 (.take 1 (.take 2 (.take 3 (.take 4 (.take 5 (.take 6 (.take 7 (.take 8 (.take 9 (.take 10 .done))))))))))) [3] rfl (by decide +kernel) (by decide +kernel) fun Kr hKr => ?_
        simp only [go_sem, hr1, hr2]
        (repeat (refine ⟨by (first | exact True.intro | omega | rfl | (simp; done) | (simp; omega)), ?_⟩)); try (refine hKr _ ?_; clear hKr Kr)
        refine T.seqK fun K147 hK147 => ?_
        refine T.sregD 45 [0, 1, 2, 3, 4, 5, 6, 7, 8, 19, 31] fun Kr hKr => ?_
        simp only [go_sem, hs]
        (repeat (refine ⟨by (first | exact True.intro | omega | rfl | (simp; done) | (simp; omega)), ?_⟩)); try (refine hKr _ ?_; clear hKr Kr)
        refine T.condTD rfl rfl (fun hb => ?_) (fun hb => ?_) <;> try simp at hb
        refine T.sdraw2D 45 [0, 1, 2, 3, 4, 5, 6, 7, 8, 19, 31] (.take 0 (.take 1 (.take 2 (.take 3 (.take 4 (.take 5 (.two 6 (.take 7 (.take 8 (.take 9 (.one 10 (.one 11 (.take 12 .done)))))) 10 (.one 6 (.take 7 (.take 8 (.take 9 (.one 11 (.take 12 .done))))))))))))) [2] rfl (by decide +kernel) (by decide +kernel) ?x1 ?h1 (fun Kr hKr => ?all1) ?rest1
        case all1 =>
          simp only [go_sem]
          (repeat (any_goals (first | exact hKr _ (.inl rfl) | exact hKr _ (.inr (by (repeat (first | exact True.intro | refine And.intro (by first | rfl | (simp [look]; done)) ?_)))) | ((first | refine CallK.dataA (s1) ?_ rfl ?_ | refine CallK.tupA (s1) ?_ ?_ | refine CallK.ownA (s1) ?_ ?_); (focus ((first | exact ArgsLe.refl | (repeat (first | exact True.intro | refine And.intro (by first | exact AvLe.refl | exact AvLe.loose | exact AvLe.nil | exact AvLe.nilT | exact AvLe.slk | (refine AvLe.agg ?_; exact ArgsLe.refl) | (refine AvLe.agg ?_; (repeat (first | exact True.intro | refine And.intro (by first | exact AvLe.refl | exact AvLe.loose | exact AvLe.nil | exact AvLe.nilT | exact AvLe.slk) ?_)))) ?_))); done)); simp only [go_sem]) | (refine And.intro ?_ ?_) | (first | exact True.intro | omega | rfl | (simp; done) | (simp; omega)))))
          all_goals (first | exact hKr _ (.inl rfl) | exact hKr _ (.inr (by (repeat (first | exact True.intro | refine And.intro (by first | rfl | (simp [look]; done)) ?_)))))
        case rest1 =>
        refine T.seqK fun K148 hK148 => ?_
        refine T.sregD 45 [0, 1, 2, 3, 4, 5, 6, 7, 8, 19, 31] fun Kr hKr => ?_
        simp only [go_sem]
        (repeat (refine ⟨by (first | exact True.intro | omega | rfl | (simp; done) | (simp; omega)), ?_⟩)); try (refine hKr _ ?_; clear hKr Kr)
        refine T.condTD rfl rfl (fun hb => ?_) (fun hb => ?_) <;> try simp at hb
        refine T.regD 45 [0, 1, 2, 3, 4, 5, 6, 7, 8, 19, 31] fun Kr hKr => ?_
        simp only [go_sem]
        (repeat (refine ⟨by (first | exact True.intro | omega | rfl | (simp; done) | (simp; omega)), ?_⟩)); try (refine hKr _ ?_; clear hKr Kr)
        refine hK148 _ ?_
        refine T.sregD 45 [0, 1, 2, 3, 4, 5, 6, 7, 8, 19, 31] fun Kr hKr => ?_
        simp only [go_sem]
        (repeat (refine ⟨by (first | exact True.intro | omega | rfl | (simp; done) | (simp; omega)), ?_⟩)); try (refine hKr _ ?_; clear hKr Kr)
        refine T.ret ?_
        simp only [go_sem]
        exact ⟨ResCellD rfl rfl rfl rfl (by simp only [go_sem]) (by simp only [go_sem]) rfl, trivial⟩
      · rw [hi, hk] at s1
        rw [hi]
        rw [hi] at hr1
        rw [hk] at hr2
        simp only [Int.toNat_zero, Int.toNat_one, Int.reduceToNat, List.getD_cons_zero, List.getD_cons_succ, usrA, intsOf_cons, intsOf_nil] at s1
        simp only [Int.toNat_zero, Int.toNat_one, Int.reduceToNat, List.set_cons_zero, List.set_cons_succ, teamA, usrL, List.flatMap_cons, List.flatMap_nil, intsOf_cons, intsOf_nil, List.cons_append, List.nil_append, List.append_nil]
        refine Ideal.Spec.of_CD (n := 45) (fn := Tryz.f16) rfl rfl rfl rfl rfl rfl rfl fun w ok => ?_
        refine T.post [.tmp 4] ?_
        refine T.sregD 45 [0, 1, 2, 3, 4, 5, 6, 7, 8, 19, 31] fun Kr hKr => ?_
        simp only [go_sem]
        (repeat (refine ⟨by (first | exact True.intro | omega | rfl | (simp; done) | (simp; omega)), ?_⟩)); try (refine hKr _ ?_; clear hKr Kr)
        refine T.sdrawD 45 [0, 1, 2, 3, 4, 5, 6, 7, 8, 19, 31] (.take 0 (.take 1 (.take 2 (.take 3 (.take 4 (.take 5 (.take 6 (.take 7 (.take 8 (.take 9 (.take 10 .done))))))))))) [3] rfl (by decide +kernel) (by decide +kernel) fun Kr hKr => ?_
        simp only [go_sem, hr1, hr2]
        (repeat (refine ⟨by (first | exact True.intro | omega | rfl | (simp; done) | (simp; omega)), ?_⟩)); try (refine hKr _ ?_; clear hKr Kr)
        refine T.seqK fun K147 hK147 => ?_
        refine T.sregD 45 [0, 1, 2, 3, 4, 5, 6, 7, 8, 19, 31] fun Kr hKr => ?_
        simp only [go_sem, hs]
        (repeat (refine ⟨by (first | exact True.intro | omega | rfl | (simp; done) | (simp; omega)), ?_⟩)); try (refine hKr _ ?_; clear hKr Kr)
        refine T.condTD rfl rfl (fun hb => ?_) (fun hb => ?_) <;> try simp at hb
        refine T.sdraw2D 45 [0, 1, 2, 3, 4, 5, 6, 7, 8, 19, 31] (.take 0 (.take 1 (.take 2 (.take 3 (.take 4 (.take 5 (.two 6 (.take 7 (.take 8 (.take 9 (.one 10 (.one 11 (.take 12 .done)))))) 10 (.one 6 (.take 7 (.take 8 (.take 9 (.one 11 (.take 12 .done))))))))))))) [2] rfl (by decide +kernel) (by decide +kernel) ?x2 ?h2 (fun Kr hKr => ?all2) ?rest2
        case all2 =>
          simp only [go_sem]
          (repeat (any_goals (first | exact hKr _ (.inl rfl) | exact hKr _ (.inr (by (repeat (first | exact True.intro | refine And.intro (by first | rfl | (simp [look]; done)) ?_)))) | ((first | refine CallK.dataA (s1) ?_ rfl ?_ | refine CallK.tupA (s1) ?_ ?_ | refine CallK.ownA (s1) ?_ ?_); (focus ((first | exact ArgsLe.refl | (repeat (first | exact True.intro | refine And.intro (by first | exact AvLe.refl | exact AvLe.loose | exact AvLe.nil | exact AvLe.nilT | exact AvLe.slk | (refine AvLe.agg ?_; exact ArgsLe.refl) | (refine AvLe.agg ?_; (repeat (first | exact True.intro | refine And.intro (by first | exact AvLe.refl | exact AvLe.loose | exact AvLe.nil | exact AvLe.nilT | exact AvLe.slk) ?_)))) ?_))); done)); simp only [go_sem]) | (refine And.intro ?_ ?_) | (first | exact True.intro | omega | rfl | (simp; done) | (simp; omega)))))
          all_goals (first | exact hKr _ (.inl rfl) | exact hKr _ (.inr (by (repeat (first | exact True.intro | refine And.intro (by first | rfl | (simp [look]; done)) ?_)))))
        case rest2 =>
        refine T.seqK fun K148 hK148 => ?_
        refine T.sregD 45 [0, 1, 2, 3, 4, 5, 6, 7, 8, 19, 31] fun Kr hKr => ?_
        simp only [go_sem]
        (repeat (refine ⟨by (first | exact True.intro | omega | rfl | (simp; done) | (simp; omega)), ?_⟩)); try (refine hKr _ ?_; clear hKr Kr)
        refine T.condTD rfl rfl (fun hb => ?_) (fun hb => ?_) <;> try simp at hb
        refine T.regD 45 [0, 1, 2, 3, 4, 5, 6, 7, 8, 19, 31] fun Kr hKr => ?_
        simp only [go_sem]
        (repeat (refine ⟨by (first | exact True.intro | omega | rfl | (simp; done) | (simp; omega)), ?_⟩)); try (refine hKr _ ?_; clear hKr Kr)
        refine hK148 _ ?_
        refine T.sregD 45 [0, 1, 2, 3, 4, 5, 6, 7, 8, 19, 31] fun Kr hKr => ?_
        simp only [go_sem]
        (repeat (refine ⟨by (first | exact True.intro | omega | rfl | (simp; done) | (simp; omega)), ?_⟩)); try (refine hKr _ ?_; clear hKr Kr)
        refine T.ret ?_
        simp only [go_sem]
        exact ⟨ResCellD rfl rfl rfl rfl (by simp only [go_sem]) (by simp only [go_sem]) rfl, trivial⟩
      · rw [hi, hk] at s1
        rw [hi]
        rw [hi] at hr1
        rw [hk] at hr2
        simp only [Int.toNat_zero, Int.toNat_one, Int.reduceToNat, List.getD_cons_zero, List.getD_cons_succ, usrA, intsOf_cons, intsOf_nil] at s1
        simp only [Int.toNat_zero, Int.toNat_one, Int.reduceToNat, List.set_cons_zero, List.set_cons_succ, teamA, usrL, List.flatMap_cons, List.flatMap_nil, intsOf_cons, intsOf_nil, List.cons_append, List.nil_append, List.append_nil]
        refine Ideal.Spec.of_CD (n := 45) (fn := Tryz.f16) rfl rfl rfl rfl rfl rfl rfl fun w ok => ?_
        refine T.post [.tmp 4] ?_
        refine T.sregD 45 [0, 1, 2, 3, 4, 5, 6, 7, 8, 19, 31] fun Kr hKr => ?_
        simp only [go_sem]
        (repeat (refine ⟨by (first | exact True.intro | omega | rfl | (simp; done) | (simp; omega)), ?_⟩)); try (refine hKr _ ?_; clear hKr Kr)
        refine T.sdrawD 45 [0, 1, 2, 3, 4, 5, 6, 7, 8, 19, 31] (.take 0 (.take 1 (.take 2 (.take 3 (.take 4 (.take 5 (.take 6 (.take 7 (.take 8 (.take 9 (.take 10 .done))))))))))) [3] rfl (by decide +kernel) (by decide +kernel) fun Kr hKr => ?_
        simp only [go_sem, hr1, hr2]
        (repeat (refine ⟨by (first | exact True.intro | omega | rfl | (simp; done) | (simp; omega)), ?_⟩)); try (refine hKr _ ?_; clear hKr Kr)
        refine T.seqK fun K147 hK147 => ?_
        refine T.sregD 45 [0, 1, 2, 3, 4, 5, 6, 7, 8, 19, 31] fun Kr hKr => ?_
        simp only [go_sem, hs]
        (repeat (refine ⟨by (first | exact True.intro | omega | rfl | (simp; done) | (simp; omega)), ?_⟩)); try (refine hKr _ ?_; clear hKr Kr)
        refine T.condTD rfl rfl (fun hb => ?_) (fun hb => ?_) <;> try simp at hb
        refine T.sdraw2D 45 [0, 1, 2, 3, 4, 5, 6, 7, 8, 19, 31] (.take 0 (.take 1 (.take 2 (.take 3 (.take 4 (.take 5 (.two 6 (.take 7 (.take 8 (.take 9 (.one 10 (.one 11 (.take 12 .done)))))) 10 (.one 6 (.take 7 (.take 8 (.take 9 (.one 11 (.take 12 .done))))))))))))) [2] rfl (by decide +kernel) (by decide +kernel) ?x3 ?h3 (fun Kr hKr => ?all3) ?rest3
        case all3 =>
          simp only [go_sem]
          (repeat (any_goals (first | exact hKr _ (.inl rfl) | exact hKr _ (.inr (by (repeat (first | exact True.intro | refine And.intro (by first | rfl | (simp [look]; done)) ?_)))) | ((first | refine CallK.dataA (s1) ?_ rfl ?_ | refine CallK.tupA (s1) ?_ ?_ | refine CallK.ownA (s1) ?_ ?_); (focus ((first | exact ArgsLe.refl | (repeat (first | exact True.intro | refine And.intro (by first | exact AvLe.refl | exact AvLe.loose | exact AvLe.nil | exact AvLe.nilT | exact AvLe.slk | (refine AvLe.agg ?_; exact ArgsLe.refl) | (refine AvLe.agg ?_; (repeat (first | exact True.intro | refine And.intro (by first | exact AvLe.refl | exact AvLe.loose | exact AvLe.nil | exact AvLe.nilT | exact AvLe.slk) ?_)))) ?_))); done)); simp only [go_sem]) | (refine And.intro ?_ ?_) | (first | exact True.intro | omega | rfl | (simp; done) | (simp; omega)))))
          all_goals (first | exact hKr _ (.inl rfl) | exact hKr _ (.inr (by (repeat (first | exact True.intro | refine And.intro (by first | rfl | (simp [look]; done)) ?_)))))
        case rest3 =>
        refine T.seqK fun K148 hK148 => ?_
        refine T.sregD 45 [0, 1, 2, 3, 4, 5, 6, 7, 8, 19, 31] fun Kr hKr => ?_
        simp only [go_sem]
        (repeat (refine ⟨by (first | exact True.intro | omega | rfl | (simp; done) | (simp; omega)), ?_⟩)); try (refine hKr _ ?_; clear hKr Kr)
        refine T.condTD rfl rfl (fun hb => ?_) (fun hb => ?_) <;> try simp at hb
        refine T.regD 45 [0, 1, 2, 3, 4, 5, 6, 7, 8, 19, 31] fun Kr hKr => ?_
        simp only [go_sem]
        (repeat (refine ⟨by (first | exact True.intro | omega | rfl | (simp; done) | (simp; omega)), ?_⟩)); try (refine hKr _ ?_; clear hKr Kr)
        refine hK148 _ ?_
        refine T.sregD 45 [0, 1, 2, 3, 4, 5, 6, 7, 8, 19, 31] fun Kr hKr => ?_
        simp only [go_sem]
        (repeat (refine ⟨by (first | exact True.intro | omega | rfl | (simp; done) | (simp; omega)), ?_⟩)); try (refine hKr _ ?_; clear hKr Kr)
        refine T.ret ?_
        simp only [go_sem]
        exact ⟨ResCellD rfl rfl rfl rfl (by simp only [go_sem]) (by simp only [go_sem]) rfl, trivial⟩
    · rcases hk with hk | hk | hk
      · rw [hi, hk] at s1
        rw [hi]
        rw [hi] at hr1
        rw [hk] at hr2
        simp only [Int.toNat_zero, Int.toNat_one, Int.reduceToNat, List.getD_cons_zero, List.getD_cons_succ, usrA, intsOf_cons, intsOf_nil] at s1
        simp only [Int.toNat_zero, Int.toNat_one, Int.reduceToNat, List.set_cons_zero, List.set_cons_succ, teamA, usrL, List.flatMap_cons, List.flatMap_nil, intsOf_cons, intsOf_nil, List.cons_append, List.nil_append, List.append_nil]
        refine Ideal.Spec.of_CD (n := 45) (fn := Tryz.f16) rfl rfl rfl rfl rfl rfl rfl fun w ok => ?_
        refine T.post [.tmp 4] ?_
        refine T.sregD 45 [0, 1, 2, 3, 4, 5, 6, 7, 8, 19, 31] fun Kr hKr => ?_
        simp only [go_sem]
        (repeat (refine ⟨by (first | exact True.intro | omega | rfl | (simp; done) | (simp; omega)), ?_⟩)); try (refine hKr _ ?_; clear hKr Kr)
        refine T.sdrawD 45 [0, 1, 2, 3, 4, 5, 6, 7, 8, 19, 31] (.take 0 (.take 1 (.take 2 (.take 3 (.take 4 (.take 5 (.take 6 (.take 7 (.take 8 (.take 9 (.take 10 .done))))))))))) [3] rfl (by decide +kernel) (by decide +kernel) fun Kr hKr => ?_
        simp only [go_sem, hr1, hr2]
        (repeat (refine ⟨by (first | exact True.intro | omega | rfl | (simp; done) | (simp; omega)), ?_⟩)); try (refine hKr _ ?_; clear hKr Kr)
        refine T.seqK fun K147 hK147 => ?_
        refine T.sregD 45 [0, 1, 2, 3, 4, 5, 6, 7, 8, 19, 31] fun Kr hKr => ?_
        simp only [go_sem, hs]
        (repeat (refine ⟨by (first | exact True.intro | omega | rfl | (simp; done) | (simp; omega)), ?_⟩)); try (refine hKr _ ?_; clear hKr Kr)
        refine T.condTD rfl rfl (fun hb => ?_) (fun hb => ?_) <;> try simp at hb
        refine T.sdraw2D 45 [0, 1, 2, 3, 4, 5, 6, 7, 8, 19, 31] (.take 0 (.take 1 (.take 2 (.take 3 (.take 4 (.take 5 (.two 6 (.take 7 (.take 8 (.take 9 (.one 10 (.one 11 (.take 12 .done)))))) 10 (.one 6 (.take 7 (.take 8 (.take 9 (.one 11 (.take 12 .done))))))))))))) [2] rfl (by decide +kernel) (by decide +kernel) ?x4 ?h4 (fun Kr hKr => ?all4) ?rest4
        case all4 =>
          simp only [go_sem]
          (repeat (any_goals (first | exact hKr _ (.inl rfl) | exact hKr _ (.inr (by (repeat (first | exact True.intro | refine And.intro (by first | rfl | (simp [look]; done)) ?_)))) | ((first | refine CallK.dataA (s1) ?_ rfl ?_ | refine CallK.tupA (s1) ?_ ?_ | refine CallK.ownA (s1) ?_ ?_); (focus ((first | exact ArgsLe.refl | (repeat (first | exact True.intro | refine And.intro (by first | exact AvLe.refl | exact AvLe.loose | exact AvLe.nil | exact AvLe.nilT | exact AvLe.slk | (refine AvLe.agg ?_; exact ArgsLe.refl) | (refine AvLe.agg ?_; (repeat (first | exact True.intro | refine And.intro (by first | exact AvLe.refl | exact AvLe.loose | exact AvLe.nil | exact AvLe.nilT | exact AvLe.slk) ?_)))) ?_))); done)); simp only [go_sem]) | (refine And.intro ?_ ?_) | (first | exact True.intro | omega | rfl | (simp; done) | (simp; omega)))))
          all_goals (first | exact hKr _ (.inl rfl) | exact hKr _ (.inr (by (repeat (first | exact True.intro | refine And.intro (by first | rfl | (simp [look]; done)) ?_)))))
        case rest4 =>
        refine T.seqK fun K148 hK148 => ?_
        refine T.sregD 45 [0, 1, 2, 3, 4, 5, 6, 7, 8, 19, 31] fun Kr hKr => ?_
        simp only [go_sem]
        (repeat (refine ⟨by (first | exact True.intro | omega | rfl | (simp; done) | (simp; omega)), ?_⟩)); try (refine hKr _ ?_; clear hKr Kr)
        refine T.condTD rfl rfl (fun hb => ?_) (fun hb => ?_) <;> try simp at hb
        refine T.regD 45 [0, 1, 2, 3, 4, 5, 6, 7, 8, 19, 31] fun Kr hKr => ?_
        simp only [go_sem]
        (repeat (refine ⟨by (first | exact True.intro | omega | rfl | (simp; done) | (simp; omega)), ?_⟩)); try (refine hKr _ ?_; clear hKr Kr)
        refine hK148 _ ?_
        refine T.sregD 45 [0, 1, 2, 3, 4, 5, 6, 7, 8, 19, 31] fun Kr hKr => ?_
        simp only [go_sem]
        (repeat (refine ⟨by (first | exact True.intro | omega | rfl | (simp; done) | (simp; omega)), ?_⟩)); try (refine hKr _ ?_; clear hKr Kr)
        refine T.ret ?_
        simp only [go_sem]
        exact ⟨ResCellD rfl rfl rfl rfl (by simp only [go_sem]) (by simp only [go_sem]) rfl, trivial⟩
      · rw [hi, hk] at s1
        rw [hi]
        rw [hi] at hr1
        rw [hk] at hr2
        simp only [Int.toNat_zero, Int.toNat_one, Int.reduceToNat, List.getD_cons_zero, List.getD_cons_succ, usrA, intsOf_cons, intsOf_nil] at s1
        simp only [Int.toNat_zero, Int.toNat_one, Int.reduceToNat, List.set_cons_zero, List.set_cons_succ, teamA, usrL, List.flatMap_cons, List.flatMap_nil, intsOf_cons, intsOf_nil, List.cons_append, List.nil_append, List.append_nil]
        refine Ideal.Spec.of_CD (n := 45) (fn := Tryz.f16) rfl rfl rfl rfl rfl rfl rfl fun w ok => ?_
        refine T.post [.tmp 4] ?_
        refine T.sregD 45 [0, 1, 2, 3, 4, 5, 6, 7, 8, 19, 31] fun Kr hKr => ?_
        simp only [go_sem]
        (repeat (refine ⟨by (first | exact True.intro | omega | rfl | (simp; done) | (simp; omega)), ?_⟩)); try (refine hKr _ ?_; clear hKr Kr)
        refine T.sdrawD 45 [0, 1, 2, 3, 4, 5, 6, 7, 8, 19, 31] (.take 0 (.take 1 (.take 2 (.take 3 (.take 4 (.take 5 (.take 6 (.take 7 (.take 8 (.take 9 (.take 10 .done))))))))))) [3] rfl (by decide +kernel) (by decide +kernel) fun Kr hKr => ?_
        simp only [go_sem, hr1, hr2]
        (repeat (refine ⟨by (first | exact True.intro | omega | rfl | (simp; done) | (simp; omega)), ?_⟩)); try (refine hKr _ ?_; clear hKr Kr)
        refine T.seqK fun K147 hK147 => ?_
        refine T.sregD 45 [0, 1, 2, 3, 4, 5, 6, 7, 8, 19, 31] fun Kr hKr => ?_
        simp only [go_sem, hs]
        (repeat (refine ⟨by (first | exact True.intro | omega | rfl | (simp; done) | (simp; omega)), ?_⟩)); try (refine hKr _ ?_; clear hKr Kr)
        refine T.condTD rfl rfl (fun hb => ?_) (fun hb => ?_) <;> try simp at hb
        refine T.sdraw2D 45 [0, 1, 2, 3, 4, 5, 6, 7, 8, 19, 31] (.take 0 (.take 1 (.take 2 (.take 3 (.take 4 (.take 5 (.two 6 (.take 7 (.take 8 (.take 9 (.one 10 (.one 11 (.take 12 .done)))))) 10 (.one 6 (.take 7 (.take 8 (.take 9 (.one 11 (.take 12 .done))))))))))))) [2] rfl (by decide +kernel) (by decide +kernel) ?x5 ?h5 (fun Kr hKr => ?all5) ?rest5
        case all5 =>
          simp only [go_sem]
          (repeat (any_goals (first | exact hKr _ (.inl rfl) | exact hKr _ (.inr (by (repeat (first | exact True.intro | refine And.intro (by first | rfl | (simp [look]; done)) ?_)))) | ((first | refine CallK.dataA (s1) ?_ rfl ?_ | refine CallK.tupA (s1) ?_ ?_ | refine CallK.ownA (s1) ?_ ?_); (focus ((first | exact ArgsLe.refl | (repeat (first | exact True.intro | refine And.intro (by first | exact AvLe.refl | exact AvLe.loose | exact AvLe.nil | exact AvLe.nilT | exact AvLe.slk | (refine AvLe.agg ?_; exact ArgsLe.refl) | (refine AvLe.agg ?_; (repeat (first | exact True.intro | refine And.intro (by first | exact AvLe.refl | exact AvLe.loose | exact AvLe.nil | exact AvLe.nilT | exact AvLe.slk) ?_)))) ?_))); done)); simp only [go_sem]) | (refine And.intro ?_ ?_) | (first | exact True.intro | omega | rfl | (simp; done) | (simp; omega)))))
          all_goals (first | exact hKr _ (.inl rfl) | exact hKr _ (.inr (by (repeat (first | exact True.intro | refine And.intro (by first | rfl | (simp [look]; done)) ?_)))))
        case rest5 =>
        refine T.seqK fun K148 hK148 => ?_
        refine T.sregD 45 [0, 1, 2, 3, 4, 5, 6, 7, 8, 19, 31] fun Kr hKr => ?_
        simp only [go_sem]
        (repeat (refine ⟨by (first | exact True.intro | omega | rfl | (simp; done) | (simp; omega)), ?_⟩)); try (refine hKr _ ?_; clear hKr Kr)
        refine T.condTD rfl rfl (fun hb => ?_) (fun hb => ?_) <;> try simp at hb
        refine T.regD 45 [0, 1, 2, 3, 4, 5, 6, 7, 8, 19, 31] fun Kr hKr => ?_
        simp only [go_sem]
        (repeat (refine ⟨by (first | exact True.intro | omega | rfl | (simp; done) | (simp; omega)), ?_⟩)); try (refine hKr _ ?_; clear hKr Kr)
        refine hK148 _ ?_
        refine T.sregD 45 [0, 1, 2, 3, 4, 5, 6, 7, 8, 19, 31] fun Kr hKr => ?_
        simp only [go_sem]
        (repeat (refine ⟨by (first | exact True.intro | omega | rfl | (simp; done) | (simp; omega)), ?_⟩)); try (refine hKr _ ?_; clear hKr Kr)
        refine T.ret ?_
        simp only [go_sem]
        exact ⟨ResCellD rfl rfl rfl rfl (by simp only [go_sem]) (by simp only [go_sem]) rfl, trivial⟩
      · rw [hi, hk] at s1
        rw [hi]
        rw [hi] at hr1
        rw [hk] at hr2
        simp only [Int.toNat_zero, Int.toNat_one, Int.reduceToNat, List.getD_cons_zero, List.getD_cons_succ, usrA, intsOf_cons, intsOf_nil] at s1
        simp only [Int.toNat_zero, Int.toNat_one, Int.reduceToNat, List.set_cons_zero, List.set_cons_succ, teamA, usrL, List.flatMap_cons, List.flatMap_nil, intsOf_cons, intsOf_nil, List.cons_append, List.nil_append, List.append_nil]
        refine Ideal.Spec.of_CD (n := 45) (fn := Tryz.f16) rfl rfl rfl rfl rfl rfl rfl fun w ok => ?_
        refine T.post [.tmp 4] ?_
        refine T.sregD 45 [0, 1, 2, 3, 4, 5, 6, 7, 8, 19, 31] fun Kr hKr => ?_
        simp only [go_sem]
        (repeat (refine ⟨by (first | exact True.intro | omega | rfl | (simp; done) | (simp; omega)), ?_⟩)); try (refine hKr _ ?_; clear hKr Kr)
        refine T.sdrawD 45 [0, 1, 2, 3, 4, 5, 6, 7, 8, 19, 31] (.take 0 (.take 1 (.take 2 (.take 3 (.take 4 (.take 5 (.take 6 (.take 7 (.take 8 (.take 9 (.take 10 .done))))))))))) [3] rfl (by decide +kernel) (by decide +kernel) fun Kr hKr => ?_
        simp only [go_sem, hr1, hr2]
        (repeat (refine ⟨by (first | exact True.intro | omega | rfl | (simp; done) | (simp; omega)), ?_⟩)); try (refine hKr _ ?_; clear hKr Kr)
        refine T.seqK fun K147 hK147 => ?_
        refine T.sregD 45 [0, 1, 2, 3, 4, 5, 6, 7, 8, 19, 31] fun Kr hKr => ?_
        simp only [go_sem, hs]
        (repeat (refine ⟨by (first | exact True.intro | omega | rfl | (simp; done) | (simp; omega)), ?_⟩)); try (refine hKr _ ?_; clear hKr Kr)
        refine T.condTD rfl rfl (fun hb => ?_) (fun hb => ?_) <;> try simp at hb
        refine T.sdraw2D 45 [0, 1, 2, 3, 4, 5, 6, 7, 8, 19, 31] (.take 0 (.take 1 (.take 2 (.take 3 (.take 4 (.take 5 (.two 6 (.take 7 (.take 8 (.take 9 (.one 10 (.one 11 (.take 12 .done)))))) 10 (.one 6 (.take 7 (.take 8 (.take 9 (.one 11 (.take 12 .done))))))))))))) [2] rfl (by decide +kernel) (by decide +kernel) ?x6 ?h6 (fun Kr hKr => ?all6) ?rest6
        case all6 =>
          simp only [go_sem]
          (repeat (any_goals (first | exact hKr _ (.inl rfl) | exact hKr _ (.inr (by (repeat (first | exact True.intro | refine And.intro (by first | rfl | (simp [look]; done)) ?_)))) | ((first | refine CallK.dataA (s1) ?_ rfl ?_ | refine CallK.tupA (s1) ?_ ?_ | refine CallK.ownA (s1) ?_ ?_); (focus ((first | exact ArgsLe.refl | (repeat (first | exact True.intro | refine And.intro (by first | exact AvLe.refl | exact AvLe.loose | exact AvLe.nil | exact AvLe.nilT | exact AvLe.slk | (refine AvLe.agg ?_; exact ArgsLe.refl) | (refine AvLe.agg ?_; (repeat (first | exact True.intro | refine And.intro (by first | exact AvLe.refl | exact AvLe.loose | exact AvLe.nil | exact AvLe.nilT | exact AvLe.slk) ?_)))) ?_))); done)); simp only [go_sem]) | (refine And.intro ?_ ?_) | (first | exact True.intro | omega | rfl | (simp; done) | (simp; omega)))))
          all_goals (first | exact hKr _ (.inl rfl) | exact hKr _ (.inr (by (repeat (first | exact True.intro | refine And.intro (by first | rfl | (simp [look]; done)) ?_)))))
        case rest6 =>
        refine T.seqK fun K148 hK148 => ?_
        refine T.sregD 45 [0, 1, 2, 3, 4, 5, 6, 7, 8, 19, 31] fun Kr hKr => ?_
        simp only [go_sem]
        (repeat (refine ⟨by (first | exact True.intro | omega | rfl | (simp; done) | (simp; omega)), ?_⟩)); try (refine hKr _ ?_; clear hKr Kr)
        refine T.condTD rfl rfl (fun hb => ?_) (fun hb => ?_) <;> try simp at hb
        refine T.regD 45 [0, 1, 2, 3, 4, 5, 6, 7, 8, 19, 31] fun Kr hKr => ?_
        simp only [go_sem]
        (repeat (refine ⟨by (first | exact True.intro | omega | rfl | (simp; done) | (simp; omega)), ?_⟩)); try (refine hKr _ ?_; clear hKr Kr)
        refine hK148 _ ?_
        refine T.sregD 45 [0, 1, 2, 3, 4, 5, 6, 7, 8, 19, 31] fun Kr hKr => ?_
        simp only [go_sem]
        (repeat (refine ⟨by (first | exact True.intro | omega | rfl | (simp; done) | (simp; omega)), ?_⟩)); try (refine hKr _ ?_; clear hKr Kr)
        refine T.ret ?_
        simp only [go_sem]
        exact ⟨ResCellD rfl rfl rfl rfl (by simp only [go_sem]) (by simp only [go_sem]) rfl, trivial⟩
    · rcases hk with hk | hk | hk
      · rw [hi, hk] at s1
        rw [hi]
        rw [hi] at hr1
        rw [hk] at hr2
        simp only [Int.toNat_zero, Int.toNat_one, Int.reduceToNat, List.getD_cons_zero, List.getD_cons_succ, usrA, intsOf_cons, intsOf_nil] at s1
        simp only [Int.toNat_zero, Int.toNat_one, Int.reduceToNat, List.set_cons_zero, List.set_cons_succ, teamA, usrL, List.flatMap_cons, List.flatMap_nil, intsOf_cons, intsOf_nil, List.cons_append, List.nil_append, List.append_nil]
        refine Ideal.Spec.of_CD (n := 45) (fn := Tryz.f16) rfl rfl rfl rfl rfl rfl rfl fun w ok => ?_
        refine T.post [.tmp 4] ?_
        refine T.sregD 45 [0, 1, 2, 3, 4, 5, 6, 7, 8, 19, 31] fun Kr hKr => ?_
        simp only [go_sem]
        (repeat (refine ⟨by (first | exact True.intro | omega | rfl | (simp; done) | (simp; omega)), ?_⟩)); try (refine hKr _ ?_; clear hKr Kr)
        refine T.sdrawD 45 [0, 1, 2, 3, 4, 5, 6, 7, 8, 19, 31] (.take 0 (.take 1 (.take 2 (.take 3 (.take 4 (.take 5 (.take 6 (.take 7 (.take 8 (.take 9 (.take 10 .done))))))))))) [3] rfl (by decide +kernel) (by decide +kernel) fun Kr hKr => ?_
        simp only [go_sem, hr1, hr2]
        (repeat (refine ⟨by (first | exact True.intro | omega | rfl | (simp; done) | (simp; omega)), ?_⟩)); try (refine hKr _ ?_; clear hKr Kr)
        refine T.seqK fun K147 hK147 => ?_
        refine T.sregD 45 [0, 1, 2, 3, 4, 5, 6, 7, 8, 19, 31] fun Kr hKr => ?_
        simp only [go_sem, hs]
        (repeat (refine ⟨by (first | exact True.intro | omega | rfl | (simp; done) | (simp; omega)), ?_⟩)); try (refine hKr _ ?_; clear hKr Kr)
        refine T.condTD rfl rfl (fun hb => ?_) (fun hb => ?_) <;> try simp at hb
        refine T.sdraw2D 45 [0, 1, 2, 3, 4, 5, 6, 7, 8, 19, 31] (.take 0 (.take 1 (.take 2 (.take 3 (.take 4 (.take 5 (.two 6 (.take 7 (.take 8 (.take 9 (.one 10 (.one 11 (.take 12 .done)))))) 10 (.one 6 (.take 7 (.take 8 (.take 9 (.one 11 (.take 12 .done))))))))))))) [2] rfl (by decide +kernel) (by decide +kernel) ?x7 ?h7 (fun Kr hKr => ?all7) ?rest7
        case all7 =>
          simp only [go_sem]
          (repeat (any_goals (first | exact hKr _ (.inl rfl) | exact hKr _ (.inr (by (repeat (first | exact True.intro | refine And.intro (by first | rfl | (simp [look]; done)) ?_)))) | ((first | refine CallK.dataA (s1) ?_ rfl ?_ | refine CallK.tupA (s1) ?_ ?_ | refine CallK.ownA (s1) ?_ ?_); (focus ((first | exact ArgsLe.refl | (repeat (first | exact True.intro | refine And.intro (by first | exact AvLe.refl | exact AvLe.loose | exact AvLe.nil | exact AvLe.nilT | exact AvLe.slk | (refine AvLe.agg ?_; exact ArgsLe.refl) | (refine AvLe.agg ?_; (repeat (first | exact True.intro | refine And.intro (by first | exact AvLe.refl | exact AvLe.loose | exact AvLe.nil | exact AvLe.nilT | exact AvLe.slk) ?_)))) ?_))); done)); simp only [go_sem]) | (refine And.intro ?_ ?_) | (first | exact True.intro | omega | rfl | (simp; done) | (simp; omega)))))
          all_goals (first | exact hKr _ (.inl rfl) | exact hKr _ (.inr (by (repeat (first | exact True.intro | refine And.intro (by first | rfl | (simp [look]; done)) ?_)))))
        case rest7 =>
        refine T.seqK fun K148 hK148 => ?_
        refine T.sregD 45 [0, 1, 2, 3, 4, 5, 6, 7, 8, 19, 31] fun Kr hKr => ?_
        simp only [go_sem]
        (repeat (refine ⟨by (first | exact True.intro | omega | rfl | (simp; done) | (simp; omega)), ?_⟩)); try (refine hKr _ ?_; clear hKr Kr)
        refine T.condTD rfl rfl (fun hb => ?_) (fun hb => ?_) <;> try simp at hb
        refine T.regD 45 [0, 1, 2, 3, 4, 5, 6, 7, 8, 19, 31] fun Kr hKr => ?_
        simp only [go_sem]
        (repeat (refine ⟨by (first | exact True.intro | omega | rfl | (simp; done) | (simp; omega)), ?_⟩)); try (refine hKr _ ?_; clear hKr Kr)
        refine hK148 _ ?_
        refine T.sregD 45 [0, 1, 2, 3, 4, 5, 6, 7, 8, 19, 31] fun Kr hKr => ?_
        simp only [go_sem]
        (repeat (refine ⟨by (first | exact True.intro | omega | rfl | (simp; done) | (simp; omega)), ?_⟩)); try (refine hKr _ ?_; clear hKr Kr)
        refine T.ret ?_
        simp only [go_sem]
        exact ⟨ResCellD rfl rfl rfl rfl (by simp only [go_sem]) (by simp only [go_sem]) rfl, trivial⟩
      · rw [hi, hk] at s1
        rw [hi]
        rw [hi] at hr1
        rw [hk] at hr2
        simp only [Int.toNat_zero, Int.toNat_one, Int.reduceToNat, List.getD_cons_zero, List.getD_cons_succ, usrA, intsOf_cons, intsOf_nil] at s1
        simp only [Int.toNat_zero, Int.toNat_one, Int.reduceToNat, List.set_cons_zero, List.set_cons_succ, teamA, usrL, List.flatMap_cons, List.flatMap_nil, intsOf_cons, intsOf_nil, List.cons_append, List.nil_append, List.append_nil]
        refine Ideal.Spec.of_CD (n := 45) (fn := Tryz.f16) rfl rfl rfl rfl rfl rfl rfl fun w ok => ?_
        refine T.post [.tmp 4] ?_
        refine T.sregD 45 [0, 1, 2, 3, 4, 5, 6, 7, 8, 19, 31] fun Kr hKr => ?_
        simp only [go_sem]
        (repeat (refine ⟨by (first | exact True.intro | omega | rfl | (simp; done) | (simp; omega)), ?_⟩)); try (refine hKr _ ?_; clear hKr Kr)
        refine T.sdrawD 45 [0, 1, 2, 3, 4, 5, 6, 7, 8, 19, 31] (.take 0 (.take 1 (.take 2 (.take 3 (.take 4 (.take 5 (.take 6 (.take 7 (.take 8 (.take 9 (.take 10 .done))))))))))) [3] rfl (by decide +kernel) (by decide +kernel) fun Kr hKr => ?_
        simp only [go_sem, hr1, hr2]
        (repeat (refine ⟨by (first | exact True.intro | omega | rfl | (simp; done) | (simp; omega)), ?_⟩)); try (refine hKr _ ?_; clear hKr Kr)
        refine T.seqK fun K147 hK147 => ?_
        refine T.sregD 45 [0, 1, 2, 3, 4, 5, 6, 7, 8, 19, 31] fun Kr hKr => ?_
        simp only [go_sem, hs]
        (repeat (refine ⟨by (first | exact True.intro | omega | rfl | (simp; done) | (simp; omega)), ?_⟩)); try (refine hKr _ ?_; clear hKr Kr)
        refine T.condTD rfl rfl (fun hb => ?_) (fun hb => ?_) <;> try simp at hb
        refine T.sdraw2D 45 [0, 1, 2, 3, 4, 5, 6, 7, 8, 19, 31] (.take 0 (.take 1 (.take 2 (.take 3 (.take 4 (.take 5 (.two 6 (.take 7 (.take 8 (.take 9 (.one 10 (.one 11 (.take 12 .done)))))) 10 (.one 6 (.take 7 (.take 8 (.take 9 (.one 11 (.take 12 .done))))))))))))) [2] rfl (by decide +kernel) (by decide +kernel) ?x8 ?h8 (fun Kr hKr => ?all8) ?rest8
        case all8 =>
          simp only [go_sem]
          (repeat (any_goals (first | exact hKr _ (.inl rfl) | exact hKr _ (.inr (by (repeat (first | exact True.intro | refine And.intro (by first | rfl | (simp [look]; done)) ?_)))) | ((first | refine CallK.dataA (s1) ?_ rfl ?_ | refine CallK.tupA (s1) ?_ ?_ | refine CallK.ownA (s1) ?_ ?_); (focus ((first | exact ArgsLe.refl | (repeat (first | exact True.intro | refine And.intro (by first | exact AvLe.refl | exact AvLe.loose | exact AvLe.nil | exact AvLe.nilT | exact AvLe.slk | (refine AvLe.agg ?_; exact ArgsLe.refl) | (refine AvLe.agg ?_; (repeat (first | exact True.intro | refine And.intro (by first | exact AvLe.refl | exact AvLe.loose | exact AvLe.nil | exact AvLe.nilT | exact AvLe.slk) ?_)))) ?_))); done)); simp only [go_sem]) | (refine And.intro ?_ ?_) | (first | exact True.intro | omega | rfl | (simp; done) | (simp; omega)))))
          all_goals (first | exact hKr _ (.inl rfl) | exact hKr _ (.inr (by (repeat (first | exact True.intro | refine And.intro (by first | rfl | (simp [look]; done)) ?_)))))
        case rest8 =>
        refine T.seqK fun K148 hK148 => ?_
        refine T.sregD 45 [0, 1, 2, 3, 4, 5, 6, 7, 8, 19, 31] fun Kr hKr => ?_
        simp only [go_sem]
        (repeat (refine ⟨by (first | exact True.intro | omega | rfl | (simp; done) | (simp; omega)), ?_⟩)); try (refine hKr _ ?_; clear hKr Kr)
        refine T.condTD rfl rfl (fun hb => ?_) (fun hb => ?_) <;> try simp at hb
        refine T.regD 45 [0, 1, 2, 3, 4, 5, 6, 7, 8, 19, 31] fun Kr hKr => ?_
        simp only [go_sem]
        (repeat (refine ⟨by (first | exact True.intro | omega | rfl | (simp; done) | (simp; omega)), ?_⟩)); try (refine hKr _ ?_; clear hKr Kr)
        refine hK148 _ ?_
        refine T.sregD 45 [0, 1, 2, 3, 4, 5, 6, 7, 8, 19, 31] fun Kr hKr => ?_
        simp only [go_sem]
        (repeat (refine ⟨by (first | exact True.intro | omega | rfl | (simp; done) | (simp; omega)), ?_⟩)); try (refine hKr _ ?_; clear hKr Kr)
        refine T.ret ?_
        simp only [go_sem]
        exact ⟨ResCellD rfl rfl rfl rfl (by simp only [go_sem]) (by simp only [go_sem]) rfl, trivial⟩
      · rw [hi, hk] at s1
        rw [hi]
        rw [hi] at hr1
        rw [hk] at hr2
        simp only [Int.toNat_zero, Int.toNat_one, Int.reduceToNat, List.getD_cons_zero, List.getD_cons_succ, usrA, intsOf_cons, intsOf_nil] at s1
        simp only [Int.toNat_zero, Int.toNat_one, Int.reduceToNat, List.set_cons_zero, List.set_cons_succ, teamA, usrL, List.flatMap_cons, List.flatMap_nil, intsOf_cons, intsOf_nil, List.cons_append, List.nil_append, List.append_nil]
        refine Ideal.Spec.of_CD (n := 45) (fn := Tryz.f16) rfl rfl rfl rfl rfl rfl rfl fun w ok => ?_
        refine T.post [.tmp 4] ?_
        refine T.sregD 45 [0, 1, 2, 3, 4, 5, 6, 7, 8, 19, 31] fun Kr hKr => ?_
        simp only [go_sem]
        (repeat (refine ⟨by (first | exact True.intro | omega | rfl | (simp; done) | (simp; omega)), ?_⟩)); try (refine hKr _ ?_; clear hKr Kr)
        refine T.sdrawD 45 [0, 1, 2, 3, 4, 5, 6, 7, 8, 19, 31] (.take 0 (.take 1 (.take 2 (.take 3 (.take 4 (.take 5 (.take 6 (.take 7 (.take 8 (.take 9 (.take 10 .done))))))))))) [3] rfl (by decide +kernel) (by decide +kernel) fun Kr hKr => ?_
        simp only [go_sem, hr1, hr2]
        (repeat (refine ⟨by (first | exact True.intro | omega | rfl | (simp; done) | (simp; omega)), ?_⟩)); try (refine hKr _ ?_; clear hKr Kr)
        refine T.seqK fun K147 hK147 => ?_
        refine T.sregD 45 [0, 1, 2, 3, 4, 5, 6, 7, 8, 19, 31] fun Kr hKr => ?_
        simp only [go_sem, hs]
        (repeat (refine ⟨by (first | exact True.intro | omega | rfl | (simp; done) | (simp; omega)), ?_⟩)); try (refine hKr _ ?_; clear hKr Kr)
        refine T.condTD rfl rfl (fun hb => ?_) (fun hb => ?_) <;> try simp at hb
        refine T.sdraw2D 45 [0, 1, 2, 3, 4, 5, 6, 7, 8, 19, 31] (.take 0 (.take 1 (.take 2 (.take 3 (.take 4 (.take 5 (.two 6 (.take 7 (.take 8 (.take 9 (.one 10 (.one 11 (.take 12 .done)))))) 10 (.one 6 (.take 7 (.take 8 (.take 9 (.one 11 (.take 12 .done))))))))))))) [2] rfl (by decide +kernel) (by decide +kernel) ?x9 ?h9 (fun Kr hKr => ?all9) ?rest9
        case all9 =>
          simp only [go_sem]
          (repeat (any_goals (first | exact hKr _ (.inl rfl) | exact hKr _ (.inr (by (repeat (first | exact True.intro | refine And.intro (by first | rfl | (simp [look]; done)) ?_)))) | ((first | refine CallK.dataA (s1) ?_ rfl ?_ | refine CallK.tupA (s1) ?_ ?_ | refine CallK.ownA (s1) ?_ ?_); (focus ((first | exact ArgsLe.refl | (repeat (first | exact True.intro | refine And.intro (by first | exact AvLe.refl | exact AvLe.loose | exact AvLe.nil | exact AvLe.nilT | exact AvLe.slk | (refine AvLe.agg ?_; exact ArgsLe.refl) | (refine AvLe.agg ?_; (repeat (first | exact True.intro | refine And.intro (by first | exact AvLe.refl | exact AvLe.loose | exact AvLe.nil | exact AvLe.nilT | exact AvLe.slk) ?_)))) ?_))); done)); simp only [go_sem]) | (refine And.intro ?_ ?_) | (first | exact True.intro | omega | rfl | (simp; done) | (simp; omega)))))
          all_goals (first | exact hKr _ (.inl rfl) | exact hKr _ (.inr (by (repeat (first | exact True.intro | refine And.intro (by first | rfl | (simp [look]; done)) ?_)))))
        case rest9 =>
        refine T.seqK fun K148 hK148 => ?_
        refine T.sregD 45 [0, 1, 2, 3, 4, 5, 6, 7, 8, 19, 31] fun Kr hKr => ?_
        simp only [go_sem]
        (repeat (refine ⟨by (first | exact True.intro | omega | rfl | (simp; done) | (simp; omega)), ?_⟩)); try (refine hKr _ ?_; clear hKr Kr)
        refine T.condTD rfl rfl (fun hb => ?_) (fun hb => ?_) <;> try simp at hb
        refine T.regD 45 [0, 1, 2, 3, 4, 5, 6, 7, 8, 19, 31] fun Kr hKr => ?_
        simp only [go_sem]
        (repeat (refine ⟨by (first | exact True.intro | omega | rfl | (simp; done) | (simp; omega)), ?_⟩)); try (refine hKr _ ?_; clear hKr Kr)
        refine hK148 _ ?_
        refine T.sregD 45 [0, 1, 2, 3, 4, 5, 6, 7, 8, 19, 31] fun Kr hKr => ?_
        simp only [go_sem]
        (repeat (refine ⟨by (first | exact True.intro | omega | rfl | (simp; done) | (simp; omega)), ?_⟩)); try (refine hKr _ ?_; clear hKr Kr)
        refine T.ret ?_
        simp only [go_sem]
        exact ⟨ResCellD rfl rfl rfl rfl (by simp only [go_sem]) (by simp only [go_sem]) rfl, trivial⟩
  | false =>
    rw [hs, if_neg (by decide)] at ea
    have s1 := Step24_spec _ x.x (ht.st (x.x.dev % 3).toNat (by omega)) hx.q
    have lm : (stepU ([a, b, c].getD (x.x.dev % 3).toNat default) x.x).l.length = 8 := step_len _ _ (ht.val (x.x.dev % 3).toNat (by omega)).l
    rw [ea]
    clear ht ea
    generalize stepU ([a, b, c].getD (x.x.dev % 3).toNat default) x.x = m at *
    obtain ⟨ar, ao, a0, a1, a2, a3, a4, a5, a6, a7, rfl⟩ := usr_lit la
    obtain ⟨br, bo, b0, b1, b2, b3, b4, b5, b6, b7, rfl⟩ := usr_lit lb
    obtain ⟨cr, co, c0, c1, c2, c3, c4, c5, c6, c7, rfl⟩ := usr_lit lc
    obtain ⟨mr, mo, m0, m1, m2, m3, m4, m5, m6, m7, rfl⟩ := usr_lit lm
    clear la lb lc lm
    rcases hi with hi | hi | hi <;>
    · rw [hi] at s1
      rw [hi]
      rw [hi] at hr1
      simp only [Int.toNat_zero, Int.toNat_one, Int.reduceToNat, List.getD_cons_zero, List.getD_cons_succ, usrA, intsOf_cons, intsOf_nil] at s1
      simp only [Int.toNat_zero, Int.toNat_one, Int.reduceToNat, List.set_cons_zero, List.set_cons_succ, teamA, usrL, List.flatMap_cons, List.flatMap_nil, intsOf_cons, intsOf_nil, List.cons_append, List.nil_append, List.append_nil]
      refine Ideal.Spec.of_CD (n := 45) (fn := Tryz.f16) rfl rfl rfl rfl rfl rfl rfl fun w ok => ?_
      refine T.post [.tmp 4] ?_
      refine T.sregD 45 [0, 1, 2, 3, 4, 5, 6, 7, 8, 19, 31] fun Kr hKr => ?_
      simp only [go_sem]
      (repeat (refine ⟨by (first | exact True.intro | omega | rfl | (simp; done) | (simp; omega)), ?_⟩)); try (refine hKr _ ?_; clear hKr Kr)
      refine T.sdrawD 45 [0, 1, 2, 3, 4, 5, 6, 7, 8, 19, 31] (.take 0 (.take 1 (.take 2 (.take 3 (.take 4 (.take 5 (.take 6 (.take 7 (.take 8 (.take 9 (.take 10 .done))))))))))) [3] rfl (by decide +kernel) (by decide +kernel) fun Kr hKr => ?_
      simp only [go_sem, hr1]
      (repeat (refine ⟨by (first | exact True.intro | omega | rfl | (simp; done) | (simp; omega)), ?_⟩)); try (refine hKr _ ?_; clear hKr Kr)
      refine T.seqK fun K147 hK147 => ?_
      refine T.sregD 45 [0, 1, 2, 3, 4, 5, 6, 7, 8, 19, 31] fun Kr hKr => ?_
      simp only [go_sem, hs]
      (repeat (refine ⟨by (first | exact True.intro | omega | rfl | (simp; done) | (simp; omega)), ?_⟩)); try (refine hKr _ ?_; clear hKr Kr)
      refine T.condTD rfl rfl (fun hb => ?_) (fun hb => ?_) <;> try simp at hb
      refine T.skip ?_
      refine hK147 _ ?_
      refine T.sdrawD 45 [0, 1, 2, 3, 4, 5, 6, 7, 8, 19, 31] (.take 0 (.take 1 (.take 2 (.take 4 (.take 5 (.one 3 (.one 6 (.take 7 (.one 8 .done))))))))) [3] rfl (by decide +kernel) (by decide +kernel) fun Kr hKr => ?_
      simp only [go_sem]
      (repeat (refine ⟨by (first | exact True.intro | omega | rfl | (simp; done) | (simp; omega)), ?_⟩)); try (refine hKr _ ?_; clear hKr Kr)
      refine CallK.data (fun _ => Spec.args (s1) (by (first | exact ArgsLe.refl | (repeat (first | exact True.intro | refine And.intro (by first | exact AvLe.refl | exact AvLe.loose | exact AvLe.nil | exact AvLe.nilT | exact AvLe.slk | (refine AvLe.agg ?_; exact ArgsLe.refl) | (refine AvLe.agg ?_; (repeat (first | exact True.intro | refine And.intro (by first | exact AvLe.refl | exact AvLe.loose | exact AvLe.nil | exact AvLe.nilT | exact AvLe.slk) ?_)))) ?_))))) rfl ?_
      simp only [go_sem]
      (repeat (refine ⟨by (first | exact True.intro | omega | rfl | (simp; done) | (simp; omega)), ?_⟩)); try (refine hKr _ ?_; clear hKr Kr)
      refine T.sregD 45 [0, 1, 2, 3, 4, 5, 6, 7, 8, 19, 31] fun Kr hKr => ?_
      simp only [go_sem]
      (repeat (refine ⟨by (first | exact True.intro | omega | rfl | (simp; done) | (simp; omega)), ?_⟩)); try (refine hKr _ ?_; clear hKr Kr)
      refine T.ret ?_
      simp only [go_sem]
      exact ⟨ResCellD rfl rfl rfl rfl (by simp only [go_sem]) (by simp only [go_sem]) rfl, trivial⟩
end Go.Proofs
