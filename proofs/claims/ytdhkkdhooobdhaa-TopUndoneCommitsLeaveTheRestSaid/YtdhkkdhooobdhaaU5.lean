/- Undo: contract of undoing. -/
import Derived.Test.YtdhkkdhooobdhaaU4
set_option linter.unusedVariables false
set_option linter.unusedSimpArgs false
namespace Go.Proofs
open Go Go.Ideal
set_option maxRecDepth 8000
set_option maxHeartbeats 4000000

/-- Steps whose edits are without the text of a mark. -/
def updF (st : List Stp) : List Nat → Mark → List Stp → List Stp
  | [], _, out => out
  | j :: l, m, out => updF st l ((carM (st.getD j default).e m).getD noMark) (out.set j ⟨(out.getD j default).app, (out.getD j default).id, movU (st.getD j default).e m, (out.getD j default).und⟩)
/-- Its mark is small and there along these steps. -/
def Chu (st : List Stp) : Mark → List Nat → Prop
  | _, [] => True
  | m, j :: l => SmM m ∧ SmW (st.getD j default).e ∧ ∃ m', carM (st.getD j default).e m = some m' ∧ Chu st m' l
def offS (st : List Stp) (i : Nat) : List Stp := st.set i ⟨(st.getD i default).app, (st.getD i default).id, (st.getD i default).e, true⟩
def undS (p : Past) (i : Nat) : List Stp := updF p.st (latL p.st i p.st.length) (fstM (p.st.getD i default)) (offS p.st i)
def undU (p : Past) (i : Int) : Past × List Nat × Int :=
  if (depU p i).2 ≠ 0 then (noPast, [], (depU p i).2)
  else if (depU p i).1 ≠ [] then (noPast, (depU p i).1, 320)
  else if (repF (p.st.getD i.toNat default).app (undS p i.toNat) noDoc).2 ≠ 0 then (noPast, [], (repF (p.st.getD i.toNat default).app (undS p i.toNat) noDoc).2)
  else (⟨p.docs.set (p.st.getD i.toNat default).app.toNat (repF (p.st.getD i.toNat default).app (undS p i.toNat) noDoc).1, undS p i.toNat⟩, [], 0)
theorem undU_no (p : Past) (i : Int) (h : (undU p i).2.2 ≠ 0) : (undU p i).1 = noPast := by
  unfold undU at h ⊢
  split
  · rfl
  · split
    · rfl
    · split
      · rfl
      · rename_i h1 h2 h3; rw [if_neg h1, if_neg h2, if_neg h3] at h; exact absurd rfl h
theorem updF_e (st : List Stp) (P : Edit → Prop) : ∀ (l : List Nat) (m : Mark) (out : List Stp), (∀ s ∈ out, P s.e) → (∀ j ∈ l, ∀ m, P (movU (st.getD j default).e m)) → ∀ s ∈ updF st l m out, P s.e
  | [], _, _ => fun h _ => h
  | j :: l, m, out => fun h h2 => by
    rw [updF]
    refine updF_e st P l _ _ (fun s hs => ?_) fun j hj => h2 j (by simp [hj])
    rcases List.mem_or_eq_of_mem_set hs with h3 | rfl
    · exact h s h3
    · exact h2 j (by simp) m
theorem movU_s (e : Edit) (m : Mark) : (movU e m).s = e.s := by unfold movU; split <;> rfl
theorem movU_k (e : Edit) (m : Mark) : (movU e m).k = e.k := by unfold movU; split <;> rfl
@[go_sem] theorem stsOf_set (l : List Stp) (i : Nat) (a id k x n t : Int) (s : List UInt8) (b : Bool) :
    (stsOf l).set i (.agg [.int .i64 a, .int .i64 id, .int .i64 k, .int .i64 x, .int .i64 n, .int .i64 t, .str s, .bool b]) = stsOf (l.set i ⟨a, id, ⟨k, x, n, t, s⟩, b⟩) := by
  simp [stsOf, List.map_set, stA]
theorem undU_fin (p : Past) (i : Int) : [pastX ((undU p i).1, (undU p i).2.2), AV.sl (decide ((undU p i).2.1 = [])) 1 (intsOf (ofN (undU p i).2.1)), AV.int .i64 (undU p i).2.2].all AV.fin = true := by
  simp only [List.all_cons, List.all_nil, pastX_fin]; rfl
theorem Undo_spec (p : Past) (i : Int) (hp : OkP p) (hl : ∀ s ∈ p.st, s.e.s.length ≤ 100000)
    (hc : isCom p i = true → Sm (p.st.getD i.toNat default).e.a ∧ Chn p.st (fstM (p.st.getD i.toNat default)) (latL p.st i.toNat p.st.length))
    (hu : (depU p i).2 = 0 → (depU p i).1 = [] → Chu p.st (fstM (p.st.getD i.toNat default)) (latL p.st i.toNat p.st.length)) :
    Ideal.Spec Try.prog 11 [pastA p, .int .i64 i] (.tup [pastA (undU p i).1, .sl false 1 (intsOf (ofN (undU p i).2.1)), .int .i64 (undU p i).2.2]) none := by
  have h1 := hp.dl
  have h2 := hp.sl
  have s1 := Depends_spec p i hp hl hc
  refine Spec.weakT (rs := [pastX ((undU p i).1, (undU p i).2.2), .sl (decide ((undU p i).2.1 = [])) 1 (intsOf (ofN (undU p i).2.1)), .int .i64 (undU p i).2.2]) ?_ (undU_fin p i) rfl ⟨pastX_le _ (undU_no p i), AvLe.loose, AvLe.refl, trivial⟩
  refine Ideal.Spec.of_MD (n := 102) (fn := Try.f11) rfl rfl rfl rfl (undU_fin p i) rfl rfl fun w ok => ?_
  refine T.post [.tmp 4, .tmp 5] ?_
  refine T.sregD 102 [0, 1, 2, 4, 5, 6, 7, 8, 9, 10, 12, 13, 14, 15, 23, 28, 46, 47, 48, 49, 89] fun Kr hKr => ?_
  simp only [go_sem]
  (repeat (refine ⟨by (first | exact True.intro | omega | rfl | (simp; done) | (simp; omega)), ?_⟩)); try (refine hKr _ ?_; clear hKr Kr)
  refine T.sregD 102 [0, 1, 2, 4, 5, 6, 7, 8, 9, 10, 12, 13, 14, 15, 23, 28, 46, 47, 48, 49, 89] fun Kr hKr => ?_
  simp only [go_sem]
  (repeat (refine ⟨by (first | exact True.intro | omega | rfl | (simp; done) | (simp; omega)), ?_⟩)); try (refine hKr _ ?_; clear hKr Kr)
  refine CallK.tup (fun _ => Spec.args (s1) (by (first | exact ArgsLe.refl | (repeat (first | exact True.intro | refine And.intro (by first | exact AvLe.refl | exact AvLe.loose | exact AvLe.nil | exact AvLe.nilT | exact AvLe.slk | (refine AvLe.agg ?_; exact ArgsLe.refl) | (refine AvLe.agg ?_; (repeat (first | exact True.intro | refine And.intro (by first | exact AvLe.refl | exact AvLe.loose | exact AvLe.nil | exact AvLe.nilT | exact AvLe.slk) ?_)))) ?_))))) ?_
  simp only [go_sem]
  (repeat (refine ⟨by (first | exact True.intro | omega | rfl | (simp; done) | (simp; omega)), ?_⟩)); try (refine hKr _ ?_; clear hKr Kr)
  refine T.seqK fun K123 hK123 => ?_
  refine T.sregD 102 [0, 1, 2, 4, 5, 6, 7, 8, 9, 10, 12, 13, 14, 15, 23, 28, 46, 47, 48, 49, 89] fun Kr hKr => ?_
  simp only [go_sem]
  (repeat (refine ⟨by (first | exact True.intro | omega | rfl | (simp; done) | (simp; omega)), ?_⟩)); try (refine hKr _ ?_; clear hKr Kr)
  refine T.condTD rfl rfl (fun hb => ?_) (fun hb => ?_) <;> try simp at hb
  · -- yes
    have ee : undU p i = (noPast, [], (depU p i).2) := by unfold undU; rw [if_pos hb]
    have e2 : pastX ((undU p i).1, (undU p i).2.2) = .agg [.sl true 1 [], .sl true 1 []] := by rw [ee]; unfold pastX; rw [if_neg hb]
    refine T.sregD 102 [0, 1, 2, 4, 5, 6, 7, 8, 9, 10, 12, 13, 14, 15, 23, 28, 46, 47, 48, 49, 89] fun Kr hKr => ?_
    simp only [go_sem]
    (repeat (refine ⟨by (first | exact True.intro | omega | rfl | (simp; done) | (simp; omega)), ?_⟩)); try (refine hKr _ ?_; clear hKr Kr)
    refine T.ret ?_
    simp only [go_sem]
    exact ⟨ResCellD rfl rfl rfl rfl (by simp only [go_sem]) (by rw [e2]; simp only [go_sem]) (by rw [e2]; rfl), AtD (by rw [ee]; simp only [go_sem]) rfl rfl, ResAtD (by rw [ee]; simp only [go_sem]) rfl rfl, trivial⟩
  have e1 : undU p i = if (depU p i).1 ≠ [] then (noPast, (depU p i).1, 320)
    else if (repF (p.st.getD i.toNat default).app (undS p i.toNat) noDoc).2 ≠ 0 then (noPast, [], (repF (p.st.getD i.toNat default).app (undS p i.toNat) noDoc).2)
    else (⟨p.docs.set (p.st.getD i.toNat default).app.toNat (repF (p.st.getD i.toNat default).app (undS p i.toNat) noDoc).1, undS p i.toNat⟩, [], 0) := by unfold undU; rw [if_neg (by omega)]
  refine T.skip ?_
  refine hK123 _ ?_
  refine T.seqK fun K124 hK124 => ?_
  refine T.sregD 102 [0, 1, 2, 4, 5, 6, 7, 8, 9, 10, 12, 13, 14, 15, 23, 28, 46, 47, 48, 49, 89] fun Kr hKr => ?_
  simp only [go_sem]
  (repeat (refine ⟨by (first | exact True.intro | omega | rfl | (simp; done) | (simp; omega)), ?_⟩)); try (refine hKr _ ?_; clear hKr Kr)
  refine T.condTD rfl rfl (fun hc2 => ?_) (fun hc2 => ?_) <;> try simp at hc2
  · -- yes
    have hne : (depU p i).1 ≠ [] := by intro h; rw [h] at hc2; simp at hc2
    have ee : undU p i = (noPast, (depU p i).1, 320) := by rw [e1, if_pos hne]
    have e2 : pastX ((undU p i).1, (undU p i).2.2) = .agg [.sl true 1 [], .sl true 1 []] := by rw [ee]; rfl
    refine T.sregD 102 [0, 1, 2, 4, 5, 6, 7, 8, 9, 10, 12, 13, 14, 15, 23, 28, 46, 47, 48, 49, 89] fun Kr hKr => ?_
    simp only [go_sem]
    (repeat (refine ⟨by (first | exact True.intro | omega | rfl | (simp; done) | (simp; omega)), ?_⟩)); try (refine hKr _ ?_; clear hKr Kr)
    refine T.ret ?_
    simp only [go_sem]
    exact ⟨ResCellD rfl rfl rfl rfl (by simp only [go_sem]) (by rw [e2]; simp only [go_sem]) (by rw [e2]; rfl), AtD (by rw [ee]; simp only [hne, decide_false]; simp only [go_sem]) rfl rfl, ResAtD (by rw [ee]; simp only [go_sem]) rfl rfl, trivial⟩
  have hnil : (depU p i).1 = [] := by
    cases hL : (depU p i).1 with
    | nil => rfl
    | cons x y => rw [hL] at hc2; simp at hc2
  rw [if_neg (by simp [hnil])] at e1
  have hcom : isCom p i = true := by
    cases h : isCom p i with
    | true => rfl
    | false => unfold depU at hb; rw [h] at hb; simp at hb
  have hi : 0 ≤ i ∧ i < p.st.length ∧ 0 ≤ (p.st.getD i.toNat default).app ∧ (p.st.getD i.toNat default).app < p.docs.length := by
    unfold isCom at hcom
    split at hcom
    · cases hcom
    · simp only [Bool.and_eq_true, decide_eq_true_eq] at hcom
      omega
  obtain ⟨hi1, hi2, ha1, ha2⟩ := hi
  have hcu := hu hb hnil
  obtain ⟨hca, _⟩ := hc hcom
  obtain ⟨n, rfl⟩ : ∃ n : Nat, i = n := ⟨i.toNat, by omega⟩
  have hn : n < p.st.length := by omega
  simp only [Int.toNat_natCast] at hcu hca e1 ha1 ha2
  have hmem : p.st.getD n default ∈ p.st := by simp [List.getD, hn]
  have sF := firstMark_spec (p.st.getD n default) hca (hl _ hmem)
  have sL := later_spec p n (by omega) hn
  have sS := cloneS_spec p.st (by omega)
  have sD := cloneD_spec p.docs (by omega)
  refine T.skip ?_
  refine hK124 _ ?_
  refine T.sregD 102 [0, 1, 2, 4, 5, 6, 7, 8, 9, 10, 12, 13, 14, 15, 23, 28, 46, 47, 48, 49, 89] fun Kr hKr => ?_
  simp only [go_sem]
  (repeat (refine ⟨by (first | exact True.intro | omega | rfl | (simp; done) | (simp; omega)), ?_⟩)); try (refine hKr _ ?_; clear hKr Kr)
  refine CallK.own (Spec.args (sS) (by (first | exact ArgsLe.refl | (repeat (first | exact True.intro | refine And.intro (by first | exact AvLe.refl | exact AvLe.loose | exact AvLe.nil | exact AvLe.nilT | exact AvLe.slk | (refine AvLe.agg ?_; exact ArgsLe.refl) | (refine AvLe.agg ?_; (repeat (first | exact True.intro | refine And.intro (by first | exact AvLe.refl | exact AvLe.loose | exact AvLe.nil | exact AvLe.nilT | exact AvLe.slk) ?_)))) ?_))))) ?_
  simp only [go_sem]
  (repeat (refine ⟨by (first | exact True.intro | omega | rfl | (simp; done) | (simp; omega)), ?_⟩)); try (refine hKr _ ?_; clear hKr Kr)
  refine T.sregD 102 [0, 1, 2, 4, 5, 6, 7, 8, 9, 10, 12, 13, 14, 15, 23, 28, 46, 47, 48, 49, 89] fun Kr hKr => ?_
  simp only [go_sem, hn]
  (repeat (refine ⟨by (first | exact True.intro | omega | rfl | (simp; done) | (simp; omega)), ?_⟩)); try (refine hKr _ ?_; clear hKr Kr)
  have hoff : p.st.set n ⟨(p.st.getD n default).app, (p.st.getD n default).id, ⟨(p.st.getD n default).e.k, (p.st.getD n default).e.a, (p.st.getD n default).e.n, (p.st.getD n default).e.t, (p.st.getD n default).e.s⟩, true⟩ = offS p.st n := rfl
  rw [hoff]
  have holn : (offS p.st n).length = p.st.length := by simp [offS]
  refine T.sregD 102 [0, 1, 2, 4, 5, 6, 7, 8, 9, 10, 12, 13, 14, 15, 23, 28, 46, 47, 48, 49, 89] fun Kr hKr => ?_
  simp only [go_sem, hn]
  (repeat (refine ⟨by (first | exact True.intro | omega | rfl | (simp; done) | (simp; omega)), ?_⟩)); try (refine hKr _ ?_; clear hKr Kr)
  refine CallK.data (fun _ => Spec.args (sF) (by (first | exact ArgsLe.refl | (repeat (first | exact True.intro | refine And.intro (by first | exact AvLe.refl | exact AvLe.loose | exact AvLe.nil | exact AvLe.nilT | exact AvLe.slk | (refine AvLe.agg ?_; exact ArgsLe.refl) | (refine AvLe.agg ?_; (repeat (first | exact True.intro | refine And.intro (by first | exact AvLe.refl | exact AvLe.loose | exact AvLe.nil | exact AvLe.nilT | exact AvLe.slk) ?_)))) ?_))))) rfl ?_
  simp only [go_sem]
  (repeat (refine ⟨by (first | exact True.intro | omega | rfl | (simp; done) | (simp; omega)), ?_⟩)); try (refine hKr _ ?_; clear hKr Kr)
  refine T.seqK fun K125 hK125 => ?_
  refine T.sregD 102 [0, 1, 2, 4, 5, 6, 7, 8, 9, 10, 12, 13, 14, 15, 23, 28, 46, 47, 48, 49, 89] fun Kr hKr => ?_
  simp only [go_sem]
  (repeat (refine ⟨by (first | exact True.intro | omega | rfl | (simp; done) | (simp; omega)), ?_⟩)); try (refine hKr _ ?_; clear hKr Kr)
  refine CallK.data (fun _ => Spec.args (sL) (by (first | exact ArgsLe.refl | (repeat (first | exact True.intro | refine And.intro (by first | exact AvLe.refl | exact AvLe.loose | exact AvLe.nil | exact AvLe.nilT | exact AvLe.slk | (refine AvLe.agg ?_; exact ArgsLe.refl) | (refine AvLe.agg ?_; (repeat (first | exact True.intro | refine And.intro (by first | exact AvLe.refl | exact AvLe.loose | exact AvLe.nil | exact AvLe.nilT | exact AvLe.slk) ?_)))) ?_))))) rfl ?_
  simp only [go_sem]
  (repeat (refine ⟨by (first | exact True.intro | omega | rfl | (simp; done) | (simp; omega)), ?_⟩)); try (refine hKr _ ?_; clear hKr Kr)
  have hL : ∀ j ∈ latL p.st n p.st.length, j < p.st.length := by
    intro j hj
    have := (List.mem_filter.1 hj).1
    simpa using this
  have hLl := latL_len p.st n p.st.length
  have eS : undS p n = updF p.st (latL p.st n p.st.length) (fstM (p.st.getD n default)) (offS p.st n) := rfl
  generalize latL p.st n p.st.length = L at *
  generalize fstM (p.st.getD n default) = m0 at *
  generalize hof : offS p.st n = out0 at *
  refine T.bloop (fun x : Nat × Mark × List Stp => ⟨dense 102 [(1, .int .i64 n), (2, .op 2 0 0), (4, .op 4 0 0), (9, .osl 33 0 p.st.length), (10, .op 10 0 0), (46, .sl false 1 (intsOf (ofN L))), (47, .int .i64 L.length), (48, .int .i64 x.1)],
      [(10, ⟨4, 65, true, [mkA x.2.1]⟩), (33, ⟨8, 51, false, stsOf x.2.2⟩), (4, ⟨2, 33, true, [.agg [.sl true 1 [], .sl true 1 []]]⟩), (2, ⟨2, 33, true, [pastA p]⟩)]⟩)
    (fun x => x.1 ≤ L.length ∧ x.2.2.length = p.st.length ∧ updF p.st (L.drop x.1) x.2.1 x.2.2 = updF p.st L m0 out0 ∧ Chu p.st x.2.1 (L.drop x.1)) (fun x => L.length - x.1) (0, m0, out0) ⟨by simp, holn, by simp, by simpa using hcu⟩ ?_ fun x hx => ?_
  · refine Le.fitS (by (repeat (first | exact DFit.nil | refine DFit.cons (by first | rfl | (simp [slook]; done) | (simp [slook]; omega)) ?_))) (by (repeat (first | exact True.intro | refine And.intro (by first | rfl | (simp [look]; done)) ?_)))
  obtain ⟨q, m, out⟩ := x
  obtain ⟨hq, hol, hd, hcn⟩ := hx
  simp only at hq hol hd hcn ⊢
  refine T.sregD 102 [0, 1, 2, 4, 5, 6, 7, 8, 9, 10, 12, 13, 14, 15, 23, 28, 46, 47, 48, 49, 89] fun Kr hKr => ?_
  simp only [go_sem]
  (repeat (refine ⟨by (first | exact True.intro | omega | rfl | (simp; done) | (simp; omega)), ?_⟩)); try (refine hKr _ ?_; clear hKr Kr)
  refine T.seqK fun K126 hK126 => ?_
  refine T.condFD rfl rfl (fun hb2 => ?_) (fun hb2 => ?_) <;> simp at hb2
  · -- no: exit
    refine T.exit ?_
    simp only [if_true]
    refine hK125 _ ?_
    have : q = L.length := by omega
    subst this
    rw [List.drop_length] at hd
    have hd : out = undS p n := by rw [eS, ← hd]; rfl
    subst hd
    refine T.sregD 102 [0, 1, 2, 4, 5, 6, 7, 8, 9, 10, 12, 13, 14, 15, 23, 28, 46, 47, 48, 49, 89] fun Kr hKr => ?_
    simp only [go_sem, hn]
    (repeat (refine ⟨by (first | exact True.intro | omega | rfl | (simp; done) | (simp; omega)), ?_⟩)); try (refine hKr _ ?_; clear hKr Kr)
    have hal : ∀ s ∈ undS p n, s.e.s.length ≤ 100000 := by
      rw [eS, ← hof]
      refine updF_e p.st (fun e => e.s.length ≤ 100000) _ _ _ (fun s hs => ?_) fun j hj m => ?_
      · unfold offS at hs
        rcases List.mem_or_eq_of_mem_set hs with h3 | rfl
        · exact hl s h3
        · exact hl (p.st.getD n default) hmem
      · rw [movU_s]; exact hl _ (by have := hL j hj; simp [List.getD, this])
    have sR := replay_spec (undS p n) (p.st.getD n default).app (by omega) hal
    have hT : (undS p n).take p.st.length = undS p n := List.take_of_length_le (by omega)
    obtain ⟨a, happ⟩ : ∃ a : Nat, (p.st.getD n default).app = a := ⟨(p.st.getD n default).app.toNat, by omega⟩
    rw [happ] at e1 sR ha1 ha2 ⊢
    simp only [Int.toNat_natCast] at e1
    have ha : a < p.docs.length := by omega
    generalize repF (a : Int) (undS p n) noDoc = R at *
    refine T.weaken (Le.frz 33) ?_
    simp only [go_sem, hT, hol, Nat.le_refl]
    refine T.sregD 102 [0, 1, 2, 4, 5, 6, 7, 8, 9, 10, 12, 13, 14, 15, 23, 28, 46, 47, 48, 49, 89] fun Kr hKr => ?_
    simp only [go_sem]
    (repeat (refine ⟨by (first | exact True.intro | omega | rfl | (simp; done) | (simp; omega)), ?_⟩)); try (refine hKr _ ?_; clear hKr Kr)
    refine CallK.tup (fun _ => Spec.args (sR) (by (first | exact ArgsLe.refl | (repeat (first | exact True.intro | refine And.intro (by first | exact AvLe.refl | exact AvLe.loose | exact AvLe.nil | exact AvLe.nilT | exact AvLe.slk | (refine AvLe.agg ?_; exact ArgsLe.refl) | (refine AvLe.agg ?_; (repeat (first | exact True.intro | refine And.intro (by first | exact AvLe.refl | exact AvLe.loose | exact AvLe.nil | exact AvLe.nilT | exact AvLe.slk) ?_)))) ?_))))) ?_
    simp only [go_sem]
    (repeat (refine ⟨by (first | exact True.intro | omega | rfl | (simp; done) | (simp; omega)), ?_⟩)); try (refine hKr _ ?_; clear hKr Kr)
    refine T.seqK fun K127 hK127 => ?_
    refine T.sregD 102 [0, 1, 2, 4, 5, 6, 7, 8, 9, 10, 12, 13, 14, 15, 23, 28, 46, 47, 48, 49, 89] fun Kr hKr => ?_
    simp only [go_sem]
    (repeat (refine ⟨by (first | exact True.intro | omega | rfl | (simp; done) | (simp; omega)), ?_⟩)); try (refine hKr _ ?_; clear hKr Kr)
    refine T.condTD rfl rfl (fun hb3 => ?_) (fun hb3 => ?_) <;> try simp at hb3
    · -- yes
      have ee : undU p n = (noPast, [], R.2) := by rw [e1, if_pos hb3]
      have e2 : pastX ((undU p n).1, (undU p n).2.2) = .agg [.sl true 1 [], .sl true 1 []] := by rw [ee]; unfold pastX; rw [if_neg hb3]
      refine T.sregD 102 [0, 1, 2, 4, 5, 6, 7, 8, 9, 10, 12, 13, 14, 15, 23, 28, 46, 47, 48, 49, 89] fun Kr hKr => ?_
      simp only [go_sem]
      (repeat (refine ⟨by (first | exact True.intro | omega | rfl | (simp; done) | (simp; omega)), ?_⟩)); try (refine hKr _ ?_; clear hKr Kr)
      refine T.ret ?_
      simp only [go_sem]
      exact ⟨ResCellD rfl rfl rfl rfl (by simp only [go_sem]) (by rw [e2]; simp only [go_sem]) (by rw [e2]; rfl), AtD (by rw [ee]; simp only [go_sem]) rfl rfl, ResAtD (by rw [ee]; simp only [go_sem]) rfl rfl, trivial⟩
    have ee : undU p n = (⟨p.docs.set a R.1, undS p n⟩, [], 0) := by rw [e1, if_neg (by omega)]
    have e2 : pastX ((undU p n).1, (undU p n).2.2) = .agg [.sl false 2 (docsOf (p.docs.set a R.1)), .sl false 8 (stsOf (undS p n))] := by rw [ee]; rfl
    have hT2 : (p.docs.set a ⟨R.1.s, R.1.m⟩).take p.docs.length = p.docs.set a R.1 := List.take_of_length_le (by simp)
    refine T.skip ?_
    refine hK127 _ ?_
    refine T.sregD 102 [0, 1, 2, 4, 5, 6, 7, 8, 9, 10, 12, 13, 14, 15, 23, 28, 46, 47, 48, 49, 89] fun Kr hKr => ?_
    simp only [go_sem]
    (repeat (refine ⟨by (first | exact True.intro | omega | rfl | (simp; done) | (simp; omega)), ?_⟩)); try (refine hKr _ ?_; clear hKr Kr)
    refine CallK.own (Spec.args (sD) (by (first | exact ArgsLe.refl | (repeat (first | exact True.intro | refine And.intro (by first | exact AvLe.refl | exact AvLe.loose | exact AvLe.nil | exact AvLe.nilT | exact AvLe.slk | (refine AvLe.agg ?_; exact ArgsLe.refl) | (refine AvLe.agg ?_; (repeat (first | exact True.intro | refine And.intro (by first | exact AvLe.refl | exact AvLe.loose | exact AvLe.nil | exact AvLe.nilT | exact AvLe.slk) ?_)))) ?_))))) ?_
    simp only [go_sem]
    (repeat (refine ⟨by (first | exact True.intro | omega | rfl | (simp; done) | (simp; omega)), ?_⟩)); try (refine hKr _ ?_; clear hKr Kr)
    refine T.sregD 102 [0, 1, 2, 4, 5, 6, 7, 8, 9, 10, 12, 13, 14, 15, 23, 28, 46, 47, 48, 49, 89] fun Kr hKr => ?_
    simp only [go_sem, ha]
    (repeat (refine ⟨by (first | exact True.intro | omega | rfl | (simp; done) | (simp; omega)), ?_⟩)); try (refine hKr _ ?_; clear hKr Kr)
    refine T.sregD 102 [0, 1, 2, 4, 5, 6, 7, 8, 9, 10, 12, 13, 14, 15, 23, 28, 46, 47, 48, 49, 89] fun Kr hKr => ?_
    simp only [go_sem, Nat.le_refl, List.length_set, hT2]
    (repeat (refine ⟨by (first | exact True.intro | omega | rfl | (simp; done) | (simp; omega)), ?_⟩)); try (refine hKr _ ?_; clear hKr Kr)
    refine T.ret ?_
    simp only [go_sem, Nat.le_refl, List.length_set, hT2]
    exact ⟨ResCellD rfl rfl rfl rfl (by simp only [go_sem]) (by rw [e2]; simp only [go_sem]) (by rw [e2]; rfl), AtD (by rw [ee]; simp only [go_sem]) rfl rfl, ResAtD (by rw [ee]; simp only [go_sem]) rfl rfl, trivial⟩
  rw [drop_d hb2] at hd hcn
  have hjm : L.getD q default < p.st.length := hL _ (by simp [List.getD, hb2])
  refine T.skip ?_
  refine hK126 _ ?_
  refine T.seqK fun K128 hK128 => ?_
  refine T.block ?_
  refine T.sregD 102 [0, 1, 2, 4, 5, 6, 7, 8, 9, 10, 12, 13, 14, 15, 23, 28, 46, 47, 48, 49, 89] fun Kr hKr => ?_
  simp only [go_sem, hb2]
  (repeat (refine ⟨by (first | exact True.intro | omega | rfl | (simp; done) | (simp; omega)), ?_⟩)); try (refine hKr _ ?_; clear hKr Kr)
  generalize L.getD q default = j at *
  obtain ⟨hsm, hsw, m', hcr, hrest⟩ := hcn
  have sM := moved_spec_U (p.st.getD j default).e m hsm hsw
  have sC := Carry_spec (p.st.getD j default).e m hsm hsw
  rw [updF, hcr] at hd
  rw [hcr] at sC
  have hjo : j < out.length := by omega
  refine T.sdrawD 102 [0, 1, 2, 4, 5, 6, 7, 8, 9, 10, 12, 13, 14, 15, 23, 28, 46, 47, 48, 49, 89] (.take 0 (.take 1 (.take 2 (.take 3 (.take 4 (.take 5 (.take 6 (.take 7 (.take 8 (.one 9 (.take 10 (.take 11 (.one 12 .done))))))))))))) [2, 10] rfl (by decide +kernel) (by decide +kernel) fun Kr hKr => ?_
  simp only [go_sem, hjm, hjo]
  (repeat (refine ⟨by (first | exact True.intro | omega | rfl | (simp; done) | (simp; omega)), ?_⟩)); try (refine hKr _ ?_; clear hKr Kr)
  refine CallK.data (fun _ => Spec.args (sM) (by (first | exact ArgsLe.refl | (repeat (first | exact True.intro | refine And.intro (by first | exact AvLe.refl | exact AvLe.loose | exact AvLe.nil | exact AvLe.nilT | exact AvLe.slk | (refine AvLe.agg ?_; exact ArgsLe.refl) | (refine AvLe.agg ?_; (repeat (first | exact True.intro | refine And.intro (by first | exact AvLe.refl | exact AvLe.loose | exact AvLe.nil | exact AvLe.nilT | exact AvLe.slk) ?_)))) ?_))))) rfl ?_
  simp only [go_sem, hol, hjo, hjm]
  (repeat (refine ⟨by (first | exact True.intro | omega | rfl | (simp; done) | (simp; omega)), ?_⟩)); try (refine hKr _ ?_; clear hKr Kr)
  refine T.drawD 102 [0, 1, 2, 4, 5, 6, 7, 8, 9, 10, 12, 13, 14, 15, 23, 28, 46, 47, 48, 49, 89] (.take 1 (.take 2 (.take 3 (.take 4 (.take 5 (.take 6 (.one 0 (.one 7 (.take 8 (.take 9 (.take 10 (.one 11 .done)))))))))))) [2] rfl (by decide +kernel) (by decide +kernel) fun Kr hKr => ?_
  simp only [go_sem, hjm]
  (repeat (refine ⟨by (first | exact True.intro | omega | rfl | (simp; done) | (simp; omega)), ?_⟩)); try (refine hKr _ ?_; clear hKr Kr)
  refine CallK.tup (fun _ => Spec.args (sC) (by (first | exact ArgsLe.refl | (repeat (first | exact True.intro | refine And.intro (by first | exact AvLe.refl | exact AvLe.loose | exact AvLe.nil | exact AvLe.nilT | exact AvLe.slk | (refine AvLe.agg ?_; exact ArgsLe.refl) | (refine AvLe.agg ?_; (repeat (first | exact True.intro | refine And.intro (by first | exact AvLe.refl | exact AvLe.loose | exact AvLe.nil | exact AvLe.nilT | exact AvLe.slk) ?_)))) ?_))))) ?_
  simp only [go_sem]
  (repeat (refine ⟨by (first | exact True.intro | omega | rfl | (simp; done) | (simp; omega)), ?_⟩)); try (refine hKr _ ?_; clear hKr Kr)
  refine hK128 _ ?_
  refine T.regD 102 [0, 1, 2, 4, 5, 6, 7, 8, 9, 10, 12, 13, 14, 15, 23, 28, 46, 47, 48, 49, 89] fun Kr hKr => ?_
  simp only [go_sem]
  (repeat (refine ⟨by (first | exact True.intro | omega | rfl | (simp; done) | (simp; omega)), ?_⟩)); try (refine hKr _ ?_; clear hKr Kr)
  refine ⟨(q + 1, m', out.set j ⟨(out.getD j default).app, (out.getD j default).id, movU (p.st.getD j default).e m, (out.getD j default).und⟩), ?_, ?_, Le.fitS (by (repeat (first | exact DFit.nil | refine DFit.cons (by first | rfl | (simp [slook]; done) | (simp [slook]; omega)) ?_))) ?_⟩
  · exact ⟨by simp only; omega, by simp; omega, hd, hrest⟩
  · simp only; omega
  · (repeat (first | exact True.intro | refine And.intro (by first | rfl | (simp [look]; done)) ?_))
end Go.Proofs
