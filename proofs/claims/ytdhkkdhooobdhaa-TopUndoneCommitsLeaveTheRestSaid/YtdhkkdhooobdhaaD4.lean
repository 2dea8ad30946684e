/- Documents: marks that are carried; searching and inserting a mark. -/
import Derived.Test.YtdhkkdhooobdhaaD3
set_option linter.unusedVariables false
set_option linter.unusedSimpArgs false
namespace Go.Proofs
open Go Go.Ideal
set_option maxRecDepth 8000
set_option maxHeartbeats 4000000

/-! ### Carried marks -/
def carL (l : List Mark) (e : Edit) : List Mark := l.filterMap (carM e)
theorem carL_len (l : List Mark) (e : Edit) : (carL l e).length ≤ l.length := List.length_filterMap_le _ _
theorem carL_take {l : List Mark} {e : Edit} {i : Nat} (h : i < l.length) : carL (l.take (i + 1)) e = carL (l.take i) e ++ (match carM e (l.getD i default) with | some m => [m] | none => []) := by
  rw [take_succ_d h, carL, List.filterMap_append]
  simp only [List.filterMap_cons, List.filterMap_nil, carL]
  cases carM e (l.getD i default) <;> rfl
@[go_sem] theorem mksOf_set (l : List Mark) (i : Nat) (a b c : Int) (w : Bool) : (mksOf l).set i (.agg [.int .i64 a, .int .i64 b, .int .i64 c, .bool w]) = mksOf (l.set i ⟨a, b, c, w⟩) := by
  simp [mksOf, List.map_set, mkA]
/-- What lies in the memory of the carried marks after some of them. -/
def carMid (l : List Mark) (e : Edit) (i : Nat) : List Mark := carL (l.take i) e ++ l.drop (carL (l.take i) e).length
theorem carMid_len (l : List Mark) (e : Edit) (i : Nat) : (carMid l e i).length = l.length := by
  have h1 := carL_len (l.take i) e
  have h2 : (l.take i).length ≤ l.length := by simp; omega
  simp only [carMid, List.length_append, List.length_drop]; omega
theorem carMid_some {l : List Mark} {e : Edit} {i : Nat} {m : Mark} (h : i < l.length) (hm : carM e (l.getD i default) = some m) : (carMid l e i).set (carL (l.take i) e).length m = carMid l e (i + 1) ∧ (carL (l.take (i + 1)) e).length = (carL (l.take i) e).length + 1 := by
  have h1 := carL_len (l.take i) e
  have h2 : (l.take i).length = i := by simp; omega
  have e1 := carL_take (e := e) h
  rw [hm] at e1
  simp only at e1
  refine ⟨?_, by rw [e1]; simp⟩
  simp only [carMid]
  rw [e1, List.set_append_right _ _ (Nat.le_refl _), Nat.sub_self, drop_d (show (carL (l.take i) e).length < l.length by omega)]
  simp
theorem carMid_none {l : List Mark} {e : Edit} {i : Nat} (h : i < l.length) (hm : carM e (l.getD i default) = none) : carMid l e (i + 1) = carMid l e i ∧ carL (l.take (i + 1)) e = carL (l.take i) e := by
  have e1 := carL_take (e := e) h
  rw [hm] at e1
  simp only [List.append_nil] at e1
  exact ⟨by simp only [carMid, e1], e1⟩

theorem carried_spec (l : List Mark) (e : Edit) (hl : l.length ≤ 100000) (hm : ∀ m ∈ l, SmM m) (he : SmW e) : Ideal.Spec Try.prog 55 [.sl false 4 (mksOf l), editA e] (.sl true 4 (mksOf (carL l e))) none := by
  have sc := carry_spec e
  have sr := fun m hm => carrier_spec e m hm he
  have a1 := car_all (carC_cp e)
  have a2 := car_any (carC_cp e)
  have a3 := car_nm (carC_cp e)
  have a4 := car_frz (carC_cp e)
  generalize carF e = cf at *
  generalize carC e = cc at *
  refine Ideal.Spec.of_TD (n := 44) (fn := Try.f55) rfl rfl rfl rfl rfl rfl rfl fun w ok => ?_
  refine T.sregD 44 [0, 1, 3, 4, 5, 6, 7, 9, 10, 11, 20, 21, 22, 23, 32] fun Kr hKr => ?_
  simp only [go_sem]
  (repeat (refine ⟨by (first | exact True.intro | omega | rfl | (simp; done) | (simp; omega)), ?_⟩)); try (refine hKr _ ?_; clear hKr Kr)
  refine T.sregD 44 [0, 1, 3, 4, 5, 6, 7, 9, 10, 11, 20, 21, 22, 23, 32] fun Kr hKr => ?_
  simp only [go_sem]
  (repeat (refine ⟨by (first | exact True.intro | omega | rfl | (simp; done) | (simp; omega)), ?_⟩)); try (refine hKr _ ?_; clear hKr Kr)
  refine T.sregD 44 [0, 1, 3, 4, 5, 6, 7, 9, 10, 11, 20, 21, 22, 23, 32] fun Kr hKr => ?_
  simp only [go_sem, Nat.min_self, List.drop_replicate, Nat.sub_self, List.replicate_zero]
  (repeat (refine ⟨by (first | exact True.intro | omega | rfl | (simp; done) | (simp; omega)), ?_⟩)); try (refine hKr _ ?_; clear hKr Kr)
  refine T.sregD 44 [0, 1, 3, 4, 5, 6, 7, 9, 10, 11, 20, 21, 22, 23, 32] fun Kr hKr => ?_
  simp only [go_sem]
  (repeat (refine ⟨by (first | exact True.intro | omega | rfl | (simp; done) | (simp; omega)), ?_⟩)); try (refine hKr _ ?_; clear hKr Kr)
  refine CallK.data (fun _ => sc) (show cc.all AV.data0 = true from a1) ?_
  simp only [go_sem, a1, a2, a3, a4]
  (repeat (refine ⟨by (first | exact True.intro | omega | rfl | (simp; done) | (simp; omega)), ?_⟩)); try (refine hKr _ ?_; clear hKr Kr)
  refine T.seqK fun K1 hK1 => ?_
  refine T.sregD 44 [0, 1, 3, 4, 5, 6, 7, 9, 10, 11, 20, 21, 22, 23, 32] fun Kr hKr => ?_
  simp only [go_sem, a1, a2, a3, a4]
  (repeat (refine ⟨by (first | exact True.intro | omega | rfl | (simp; done) | (simp; omega)), ?_⟩)); try (refine hKr _ ?_; clear hKr Kr)
  refine T.bloop (fun i : Nat => ⟨dense 44 [(0, .sl false 4 (mksOf l)), (5, .osl 14 0 l.length), (6, .fn cf cc), (7, .int .i64 (carL (l.take i) e).length), (20, .sl false 4 (mksOf l)), (21, .int .i64 l.length), (22, .int .i64 i)], [(14, ⟨4, 65, false, mksOf (carMid l e i)⟩)]⟩) (fun i => i ≤ l.length) (fun i => l.length - i) 0 (by simp) ?_ fun i hi => ?_
  · have e0 : carMid l e 0 = l := by simp [carMid, carL]
    have e1 : carL (l.take 0) e = [] := rfl
    rw [e0, e1]
    refine Le.fitS (by (repeat (first | exact DFit.nil | refine DFit.cons (by first | rfl | (simp [slook]; done) | (simp [slook]; omega)) ?_))) (by (repeat (first | exact True.intro | refine And.intro (by first | rfl | (simp [look]; done)) ?_)))
  have hle : (carL (l.take i) e).length ≤ i := Nat.le_trans (carL_len _ _) (by simp; omega)
  have hml := carMid_len l e i
  refine T.sregD 44 [0, 1, 3, 4, 5, 6, 7, 9, 10, 11, 20, 21, 22, 23, 32] fun Kr hKr => ?_
  simp only [go_sem, a1, a2, a3, a4]
  (repeat (refine ⟨by (first | exact True.intro | omega | rfl | (simp; done) | (simp; omega)), ?_⟩)); try (refine hKr _ ?_; clear hKr Kr)
  refine T.seqK fun K2 hK2 => ?_
  refine T.condFD rfl rfl (fun hb => ?_) (fun hb => ?_) <;> simp at hb
  · -- no: exit
    refine T.exit ?_
    simp only [if_true]
    refine hK1 _ ?_
    have : i = l.length := by omega
    subst this
    rw [List.take_length] at hle ⊢
    have ef : (carMid l e l.length).take (carL l e).length = carL l e := by simp [carMid, List.take_length]
    refine T.weaken (Le.frz 14) ?_
    simp only [go_sem, a4, Nat.le_refl, hml, List.take_length]
    rw [show (carMid l e l.length).take l.length = carMid l e l.length from List.take_of_length_le (by rw [hml]; exact Nat.le_refl _)]
    generalize hM : carMid l e l.length = M at *
    generalize hC : carL l e = C at *
    refine T.sregD 44 [0, 1, 3, 4, 5, 6, 7, 9, 10, 11, 20, 21, 22, 23, 32] fun Kr hKr => ?_
    simp only [go_sem, a1, a2, a3, a4, ef, hml]
    (repeat (refine ⟨by (first | exact True.intro | omega | rfl | (simp; done) | (simp; omega)), ?_⟩)); try (refine hKr _ ?_; clear hKr Kr)
    refine T.ret (Fin.dataD rfl rfl rfl)
  refine T.skip ?_
  refine hK2 _ ?_
  have hmm : l.getD i default ∈ l := by simp [List.getD, hb]
  have srm := sr _ (hm _ hmm)
  cases hr : carM e (l.getD i default) with
  | none =>
    obtain ⟨e1, e2⟩ := carMid_none hb hr
    rw [hr] at srm
    refine T.seqK fun K3 hK3 => ?_
    refine T.block ?_
    refine T.sregD 44 [0, 1, 3, 4, 5, 6, 7, 9, 10, 11, 20, 21, 22, 23, 32] fun Kr hKr => ?_
    simp only [go_sem, a1, a2, a3, a4, hb]
    (repeat (refine ⟨by (first | exact True.intro | omega | rfl | (simp; done) | (simp; omega)), ?_⟩)); try (refine hKr _ ?_; clear hKr Kr)
    refine T.sregD 44 [0, 1, 3, 4, 5, 6, 7, 9, 10, 11, 20, 21, 22, 23, 32] fun Kr hKr => ?_
    simp only [go_sem, a1, a2, a3, a4]
    (repeat (refine ⟨by (first | exact True.intro | omega | rfl | (simp; done) | (simp; omega)), ?_⟩)); try (refine hKr _ ?_; clear hKr Kr)
    refine CallK.tup (fun _ => Spec.args (srm) (by (first | exact ArgsLe.refl | (repeat (first | exact True.intro | refine And.intro (by first | exact AvLe.refl | exact AvLe.loose | exact AvLe.nil | exact AvLe.nilT | exact AvLe.slk | (refine AvLe.agg ?_; exact ArgsLe.refl) | (refine AvLe.agg ?_; (repeat (first | exact True.intro | refine And.intro (by first | exact AvLe.refl | exact AvLe.loose | exact AvLe.nil | exact AvLe.nilT | exact AvLe.slk) ?_)))) ?_))))) ?_
    simp only [go_sem, a1, a2, a3, a4]
    (repeat (refine ⟨by (first | exact True.intro | omega | rfl | (simp; done) | (simp; omega)), ?_⟩)); try (refine hKr _ ?_; clear hKr Kr)
    refine T.sregD 44 [0, 1, 3, 4, 5, 6, 7, 9, 10, 11, 20, 21, 22, 23, 32] fun Kr hKr => ?_
    simp only [go_sem, a1, a2, a3, a4]
    (repeat (refine ⟨by (first | exact True.intro | omega | rfl | (simp; done) | (simp; omega)), ?_⟩)); try (refine hKr _ ?_; clear hKr Kr)
    refine T.condTD rfl rfl (fun hc => ?_) (fun hc => ?_) <;> try simp at hc
    refine T.skip ?_
    refine hK3 _ ?_
    refine T.regD 44 [0, 1, 3, 4, 5, 6, 7, 9, 10, 11, 20, 21, 22, 23, 32] fun Kr hKr => ?_
    simp only [go_sem, a1, a2, a3, a4]
    (repeat (refine ⟨by (first | exact True.intro | omega | rfl | (simp; done) | (simp; omega)), ?_⟩)); try (refine hKr _ ?_; clear hKr Kr)
    refine ⟨i + 1, ?_, ?_, Le.fitS (by (repeat (first | exact DFit.nil | refine DFit.cons (by first | rfl | (simp [slook, e2]; done) | (simp [slook, e2]; omega)) ?_))) ?_⟩
    · omega
    · omega
    · rw [e1]; (repeat (first | exact True.intro | refine And.intro (by first | rfl | (simp [look]; done)) ?_))
  | some m' =>
    obtain ⟨e1, e2⟩ := carMid_some hb hr
    rw [hr] at srm
    generalize carMid l e i = M at *
    generalize hC : carL (l.take i) e = C at *
    refine T.seqK fun K3 hK3 => ?_
    refine T.block ?_
    refine T.sregD 44 [0, 1, 3, 4, 5, 6, 7, 9, 10, 11, 20, 21, 22, 23, 32] fun Kr hKr => ?_
    simp only [go_sem, a1, a2, a3, a4, hb]
    (repeat (refine ⟨by (first | exact True.intro | omega | rfl | (simp; done) | (simp; omega)), ?_⟩)); try (refine hKr _ ?_; clear hKr Kr)
    refine T.sregD 44 [0, 1, 3, 4, 5, 6, 7, 9, 10, 11, 20, 21, 22, 23, 32] fun Kr hKr => ?_
    simp only [go_sem, a1, a2, a3, a4]
    (repeat (refine ⟨by (first | exact True.intro | omega | rfl | (simp; done) | (simp; omega)), ?_⟩)); try (refine hKr _ ?_; clear hKr Kr)
    refine CallK.tup (fun _ => Spec.args (srm) (by (first | exact ArgsLe.refl | (repeat (first | exact True.intro | refine And.intro (by first | exact AvLe.refl | exact AvLe.loose | exact AvLe.nil | exact AvLe.nilT | exact AvLe.slk | (refine AvLe.agg ?_; exact ArgsLe.refl) | (refine AvLe.agg ?_; (repeat (first | exact True.intro | refine And.intro (by first | exact AvLe.refl | exact AvLe.loose | exact AvLe.nil | exact AvLe.nilT | exact AvLe.slk) ?_)))) ?_))))) ?_
    simp only [go_sem, a1, a2, a3, a4]
    (repeat (refine ⟨by (first | exact True.intro | omega | rfl | (simp; done) | (simp; omega)), ?_⟩)); try (refine hKr _ ?_; clear hKr Kr)
    refine T.sregD 44 [0, 1, 3, 4, 5, 6, 7, 9, 10, 11, 20, 21, 22, 23, 32] fun Kr hKr => ?_
    simp only [go_sem, a1, a2, a3, a4]
    (repeat (refine ⟨by (first | exact True.intro | omega | rfl | (simp; done) | (simp; omega)), ?_⟩)); try (refine hKr _ ?_; clear hKr Kr)
    refine T.condTD rfl rfl (fun hc => ?_) (fun hc => ?_) <;> try simp at hc
    have hcl : C.length < l.length := by omega
    refine T.sregD 44 [0, 1, 3, 4, 5, 6, 7, 9, 10, 11, 20, 21, 22, 23, 32] fun Kr hKr => ?_
    simp only [go_sem, a1, a2, a3, a4, hml, hcl]
    (repeat (refine ⟨by (first | exact True.intro | omega | rfl | (simp; done) | (simp; omega)), ?_⟩)); try (refine hKr _ ?_; clear hKr Kr)
    refine T.regD 44 [0, 1, 3, 4, 5, 6, 7, 9, 10, 11, 20, 21, 22, 23, 32] fun Kr hKr => ?_
    simp only [go_sem, a1, a2, a3, a4]
    (repeat (refine ⟨by (first | exact True.intro | omega | rfl | (simp; done) | (simp; omega)), ?_⟩)); try (refine hKr _ ?_; clear hKr Kr)
    refine hK3 _ ?_
    refine T.regD 44 [0, 1, 3, 4, 5, 6, 7, 9, 10, 11, 20, 21, 22, 23, 32] fun Kr hKr => ?_
    simp only [go_sem, a1, a2, a3, a4]
    (repeat (refine ⟨by (first | exact True.intro | omega | rfl | (simp; done) | (simp; omega)), ?_⟩)); try (refine hKr _ ?_; clear hKr Kr)
    refine ⟨i + 1, ?_, ?_, Le.fitS (by (repeat (first | exact DFit.nil | refine DFit.cons (by first | rfl | (simp [slook, e2]; done) | (simp [slook, e2]; omega)) ?_))) ?_⟩
    · omega
    · omega
    · rw [← e1]; (repeat (first | exact True.intro | refine And.intro (by first | rfl | (simp [look]; done)) ?_))

/-! ### Searching -/
def Srt (l : List Mark) : Prop := l.Pairwise fun a b => a.id < b.id
def idx (l : List Mark) (id : Int) : Nat := (l.takeWhile fun m => decide (m.id < id)).length
def hasId (l : List Mark) (id : Int) : Bool := l.any fun m => decide (m.id = id)
theorem Srt.get {l : List Mark} (h : Srt l) {i j : Nat} (hj : j < l.length) (hij : i < j) : (l.getD i default).id < (l.getD j default).id := by
  have := List.pairwise_iff_getElem.1 h i j (by omega) hj hij
  simpa [List.getD, hj, show i < l.length by omega] using this
theorem idx_eq {l : List Mark} {id : Int} {i : Nat} (hi : i ≤ l.length) (h1 : ∀ q, q < i → (l.getD q default).id < id) (h2 : i < l.length → ¬ (l.getD i default).id < id) : idx l id = i := by
  unfold idx
  induction l generalizing i with
  | nil => simp at hi; subst hi; rfl
  | cons a l ih =>
    cases i with
    | zero =>
      have := h2 (by simp)
      simp at this
      rw [List.takeWhile_cons]
      simp [this]
    | succ i =>
      have h0 := h1 0 (by omega)
      simp at h0
      rw [List.takeWhile_cons]
      simp only [h0, decide_true, if_true, List.length_cons]
      rw [ih (i := i) (by simpa using hi) (fun q hq => by simpa using h1 (q + 1) (by omega)) (fun hq => by simpa using h2 (by simpa using hq))]
theorem hasId_at {l : List Mark} {id : Int} {i : Nat} (hi : i < l.length) (h : (l.getD i default).id = id) : hasId l id = true := by
  simp only [hasId, List.any_eq_true]
  exact ⟨l[i], List.getElem_mem hi, by simpa [List.getD, hi] using h⟩
theorem hasId_no {l : List Mark} (hs : Srt l) {id : Int} {i : Nat} (h1 : ∀ q, q < i → (l.getD q default).id < id) (h2 : i < l.length → id < (l.getD i default).id) : hasId l id = false := by
  simp only [hasId, List.any_eq_false]
  intro m hm
  obtain ⟨q, hq⟩ := List.getElem?_of_mem hm
  have hql : q < l.length := (List.getElem?_eq_some_iff.1 hq).1
  have hd : l.getD q default = m := by simp [List.getD, hq]
  have : m.id ≠ id := by
    rcases Nat.lt_trichotomy q i with h | h | h
    · have := h1 q h; rw [hd] at this; omega
    · subst h; have := h2 hql; rw [hd] at this; omega
    · have h3 := h2 (by omega)
      have h4 := hs.get hql h
      rw [hd] at h4; omega
  simpa using this

def cmpI (a b : Int) : Int := if a < b then -1 else if a > b then 1 else 0
theorem isNaN_spec (a : Int) : Ideal.Spec Try.prog 69 [.int .i64 a] (.bool false) none := by
  refine Ideal.Spec.of_TD (n := 6) (fn := Try.f69) rfl rfl rfl rfl rfl rfl rfl fun w ok => ?_
  refine T.sregD 6 [0, 2] fun Kr hKr => ?_
  simp only [go_sem]
  (repeat (refine ⟨by (first | exact True.intro | omega | rfl | (simp; done) | (simp; omega)), ?_⟩)); try (refine hKr _ ?_; clear hKr Kr)
  refine T.sregD 6 [0, 2] fun Kr hKr => ?_
  simp only [go_sem]
  (repeat (refine ⟨by (first | exact True.intro | omega | rfl | (simp; done) | (simp; omega)), ?_⟩)); try (refine hKr _ ?_; clear hKr Kr)
  refine T.ret (Fin.dataD (by simp [slook]) rfl rfl)
theorem compare_spec (a b : Int) : Ideal.Spec Try.prog 52 [.int .i64 a, .int .i64 b] (.int .i64 (cmpI a b)) none := by
  refine Ideal.Spec.of_TD (n := 20) (fn := Try.f52) rfl rfl rfl rfl rfl rfl rfl fun w ok => ?_
  refine T.sregD 20 [0, 1, 4, 5, 6, 11, 12, 13, 16, 19] fun Kr hKr => ?_
  simp only [go_sem]
  (repeat (refine ⟨by (first | exact True.intro | omega | rfl | (simp; done) | (simp; omega)), ?_⟩)); try (refine hKr _ ?_; clear hKr Kr)
  refine T.sregD 20 [0, 1, 4, 5, 6, 11, 12, 13, 16, 19] fun Kr hKr => ?_
  simp only [go_sem]
  (repeat (refine ⟨by (first | exact True.intro | omega | rfl | (simp; done) | (simp; omega)), ?_⟩)); try (refine hKr _ ?_; clear hKr Kr)
  refine CallK.data (fun _ => Spec.args (isNaN_spec a) (by (first | exact ArgsLe.refl | (repeat (first | exact True.intro | refine And.intro (by first | exact AvLe.refl | exact AvLe.loose | exact AvLe.nil | exact AvLe.nilT | exact AvLe.slk | (refine AvLe.agg ?_; exact ArgsLe.refl) | (refine AvLe.agg ?_; (repeat (first | exact True.intro | refine And.intro (by first | exact AvLe.refl | exact AvLe.loose | exact AvLe.nil | exact AvLe.nilT | exact AvLe.slk) ?_)))) ?_))))) rfl ?_
  simp only [go_sem]
  (repeat (refine ⟨by (first | exact True.intro | omega | rfl | (simp; done) | (simp; omega)), ?_⟩)); try (refine hKr _ ?_; clear hKr Kr)
  refine T.sregD 20 [0, 1, 4, 5, 6, 11, 12, 13, 16, 19] fun Kr hKr => ?_
  simp only [go_sem]
  (repeat (refine ⟨by (first | exact True.intro | omega | rfl | (simp; done) | (simp; omega)), ?_⟩)); try (refine hKr _ ?_; clear hKr Kr)
  refine CallK.data (fun _ => Spec.args (isNaN_spec b) (by (first | exact ArgsLe.refl | (repeat (first | exact True.intro | refine And.intro (by first | exact AvLe.refl | exact AvLe.loose | exact AvLe.nil | exact AvLe.nilT | exact AvLe.slk | (refine AvLe.agg ?_; exact ArgsLe.refl) | (refine AvLe.agg ?_; (repeat (first | exact True.intro | refine And.intro (by first | exact AvLe.refl | exact AvLe.loose | exact AvLe.nil | exact AvLe.nilT | exact AvLe.slk) ?_)))) ?_))))) rfl ?_
  simp only [go_sem]
  (repeat (refine ⟨by (first | exact True.intro | omega | rfl | (simp; done) | (simp; omega)), ?_⟩)); try (refine hKr _ ?_; clear hKr Kr)
  refine T.seqK fun K1 hK1 => ?_
  refine T.sregD 20 [0, 1, 4, 5, 6, 11, 12, 13, 16, 19] fun Kr hKr => ?_
  simp only [go_sem]
  (repeat (refine ⟨by (first | exact True.intro | omega | rfl | (simp; done) | (simp; omega)), ?_⟩)); try (refine hKr _ ?_; clear hKr Kr)
  refine T.condTD rfl rfl (fun hb => ?_) (fun hb => ?_) <;> simp at hb
  refine T.skip ?_
  refine hK1 _ ?_
  refine T.seqK fun K2 hK2 => ?_
  refine T.sregD 20 [0, 1, 4, 5, 6, 11, 12, 13, 16, 19] fun Kr hKr => ?_
  simp only [go_sem]
  (repeat (refine ⟨by (first | exact True.intro | omega | rfl | (simp; done) | (simp; omega)), ?_⟩)); try (refine hKr _ ?_; clear hKr Kr)
  refine T.condTD rfl rfl (fun hb => ?_) (fun hb => ?_) <;> simp at hb
  refine T.skip ?_
  refine hK2 _ ?_
  refine T.seqK fun K3 hK3 => ?_
  refine T.sregD 20 [0, 1, 4, 5, 6, 11, 12, 13, 16, 19] fun Kr hKr => ?_
  simp only [go_sem]
  (repeat (refine ⟨by (first | exact True.intro | omega | rfl | (simp; done) | (simp; omega)), ?_⟩)); try (refine hKr _ ?_; clear hKr Kr)
  refine T.condTD rfl rfl (fun hb => ?_) (fun hb => ?_) <;> simp at hb
  · refine T.sregD 20 [0, 1, 4, 5, 6, 11, 12, 13, 16, 19] fun Kr hKr => ?_
    simp only [go_sem]
    (repeat (refine ⟨by (first | exact True.intro | omega | rfl | (simp; done) | (simp; omega)), ?_⟩)); try (refine hKr _ ?_; clear hKr Kr)
    refine T.ret (Fin.dataD (by simp [slook, cmpI, hb]) rfl rfl)
  refine T.skip ?_
  refine hK3 _ ?_
  refine T.seqK fun K4 hK4 => ?_
  refine T.sregD 20 [0, 1, 4, 5, 6, 11, 12, 13, 16, 19] fun Kr hKr => ?_
  simp only [go_sem]
  (repeat (refine ⟨by (first | exact True.intro | omega | rfl | (simp; done) | (simp; omega)), ?_⟩)); try (refine hKr _ ?_; clear hKr Kr)
  have hb' : ¬ a < b := by omega
  refine T.condTD rfl rfl (fun hc => ?_) (fun hc => ?_) <;> simp at hc
  · refine T.sregD 20 [0, 1, 4, 5, 6, 11, 12, 13, 16, 19] fun Kr hKr => ?_
    simp only [go_sem]
    (repeat (refine ⟨by (first | exact True.intro | omega | rfl | (simp; done) | (simp; omega)), ?_⟩)); try (refine hKr _ ?_; clear hKr Kr)
    refine T.ret (Fin.dataD (by simp [slook, cmpI, hb', hc]) rfl rfl)
  refine T.skip ?_
  refine hK4 _ ?_
  have hc' : ¬ b < a := by omega
  refine T.sregD 20 [0, 1, 4, 5, 6, 11, 12, 13, 16, 19] fun Kr hKr => ?_
  simp only [go_sem]
  (repeat (refine ⟨by (first | exact True.intro | omega | rfl | (simp; done) | (simp; omega)), ?_⟩)); try (refine hKr _ ?_; clear hKr Kr)
  refine T.ret (Fin.dataD (by simp [slook, cmpI, hb', hc']) rfl rfl)
theorem Put1_spec (m : Mark) (id : Int) : Ideal.Spec Try.prog 51 [mkA m, .int .i64 id] (.int .i64 (cmpI m.id id)) none := by
  refine Ideal.Spec.of_TD (n := 9) (fn := Try.f51) rfl rfl rfl rfl rfl rfl rfl fun w ok => ?_
  refine T.sregD 9 [0, 1, 2, 4] fun Kr hKr => ?_
  simp only [go_sem]
  (repeat (refine ⟨by (first | exact True.intro | omega | rfl | (simp; done) | (simp; omega)), ?_⟩)); try (refine hKr _ ?_; clear hKr Kr)
  refine T.sregD 9 [0, 1, 2, 4] fun Kr hKr => ?_
  simp only [go_sem]
  (repeat (refine ⟨by (first | exact True.intro | omega | rfl | (simp; done) | (simp; omega)), ?_⟩)); try (refine hKr _ ?_; clear hKr Kr)
  refine CallK.data (fun _ => Spec.args (compare_spec m.id id) (by (first | exact ArgsLe.refl | (repeat (first | exact True.intro | refine And.intro (by first | exact AvLe.refl | exact AvLe.loose | exact AvLe.nil | exact AvLe.nilT | exact AvLe.slk | (refine AvLe.agg ?_; exact ArgsLe.refl) | (refine AvLe.agg ?_; (repeat (first | exact True.intro | refine And.intro (by first | exact AvLe.refl | exact AvLe.loose | exact AvLe.nil | exact AvLe.nilT | exact AvLe.slk) ?_)))) ?_))))) rfl ?_
  simp only [go_sem]
  (repeat (refine ⟨by (first | exact True.intro | omega | rfl | (simp; done) | (simp; omega)), ?_⟩)); try (refine hKr _ ?_; clear hKr Kr)
  refine T.ret (Fin.dataD rfl rfl rfl)
theorem inR_u64 (n : Int) : inR .u64 n ↔ (0 ≤ n ∧ n < 18446744073709551616) := by
  unfold inR IntKind.wrap; simp [IntKind.bits, IntKind.signed]; omega
theorem bs_spec (l : List Mark) (id : Int) (hl : l.length ≤ 100000) (hs : Srt l) : Ideal.Spec Try.prog 50 [.sl false 4 (mksOf l), .int .i64 id, .fn 51 []] (.tup [.int .i64 (idx l id), .bool (hasId l id)]) none := by
  refine Ideal.Spec.of_TD2 (n := 49) (fn := Try.f50) rfl rfl rfl rfl rfl rfl rfl fun w ok => ?_
  refine T.sregD 49 [0, 1, 2, 6, 7, 8, 9, 10, 11, 17, 31] fun Kr hKr => ?_
  simp only [go_sem]
  (repeat (refine ⟨by (first | exact True.intro | omega | rfl | (simp; done) | (simp; omega)), ?_⟩)); try (refine hKr _ ?_; clear hKr Kr)
  refine T.sregD 49 [0, 1, 2, 6, 7, 8, 9, 10, 11, 17, 31] fun Kr hKr => ?_
  simp only [go_sem]
  (repeat (refine ⟨by (first | exact True.intro | omega | rfl | (simp; done) | (simp; omega)), ?_⟩)); try (refine hKr _ ?_; clear hKr Kr)
  refine T.sregD 49 [0, 1, 2, 6, 7, 8, 9, 10, 11, 17, 31] fun Kr hKr => ?_
  simp only [go_sem]
  (repeat (refine ⟨by (first | exact True.intro | omega | rfl | (simp; done) | (simp; omega)), ?_⟩)); try (refine hKr _ ?_; clear hKr Kr)
  refine T.seqK fun K1 hK1 => ?_
  refine T.bloop (fun p : Nat × Nat => ⟨dense 49 [(0, .sl false 4 (mksOf l)), (1, .int .i64 id), (2, .fn 51 []), (8, .int .i64 l.length), (9, .int .i64 p.1), (10, .int .i64 p.2)], []⟩)
    (fun p => p.1 ≤ p.2 ∧ p.2 ≤ l.length ∧ (∀ q, q < p.1 → (l.getD q default).id < id) ∧ (∀ q, p.2 ≤ q → q < l.length → ¬ (l.getD q default).id < id)) (fun p => p.2 - p.1) (0, l.length) ⟨by simp, by simp, by simp, fun q h1 h2 => by simp at h1; omega⟩ ?_ fun p hp => ?_
  · refine Le.fitS (by (repeat (first | exact DFit.nil | refine DFit.cons (by first | rfl | (simp [slook]; done) | (simp [slook]; omega)) ?_))) (by (repeat (first | exact True.intro | refine And.intro (by first | rfl | (simp [look]; done)) ?_)))
  obtain ⟨i, j⟩ := p
  obtain ⟨h1, h2, h3, h4⟩ := hp
  simp only at h1 h2 h3 h4 ⊢
  refine T.seqK fun K2 hK2 => ?_
  refine T.sregD 49 [0, 1, 2, 6, 7, 8, 9, 10, 11, 17, 31] fun Kr hKr => ?_
  simp only [go_sem]
  (repeat (refine ⟨by (first | exact True.intro | omega | rfl | (simp; done) | (simp; omega)), ?_⟩)); try (refine hKr _ ?_; clear hKr Kr)
  refine T.condFD rfl rfl (fun hb => ?_) (fun hb => ?_) <;> simp at hb
  · -- no: exit
    have hij : i = j := by omega
    subst hij
    refine T.exit ?_
    simp only [if_true]
    refine hK1 _ ?_
    have hix : idx l id = i := idx_eq h2 h3 (fun hq => h4 i (Nat.le_refl _) hq)
    rw [hix]
    by_cases hil : i < l.length
    · have hp := Put1_spec (l.getD i default) id
      have hge := h4 i (Nat.le_refl _) hil
      have hf : hasId l id = decide (cmpI (l.getD i default).id id = 0) := by
        by_cases he : (l.getD i default).id = id
        · rw [hasId_at hil he, he]; simp [cmpI]
        · rw [hasId_no hs h3 (fun _ => by omega)]
          have : cmpI (l.getD i default).id id = 1 := by unfold cmpI; rw [if_neg hge, if_pos (by omega)]
          rw [this]; rfl
      rw [hf]
      have hil' : ((i : Int) < (l.length : Int)) = True := by simp [hil]
      refine T.sregD 49 [0, 1, 2, 6, 7, 8, 9, 10, 11, 17, 31] fun Kr hKr => ?_
      simp only [go_sem, hil, hil']
      (repeat (refine ⟨by (first | exact True.intro | omega | rfl | (simp; done) | (simp; omega)), ?_⟩)); try (refine hKr _ ?_; clear hKr Kr)
      refine CallK.data (fun _ => Spec.args (hp) (by (first | exact ArgsLe.refl | (repeat (first | exact True.intro | refine And.intro (by first | exact AvLe.refl | exact AvLe.loose | exact AvLe.nil | exact AvLe.nilT | exact AvLe.slk | (refine AvLe.agg ?_; exact ArgsLe.refl) | (refine AvLe.agg ?_; (repeat (first | exact True.intro | refine And.intro (by first | exact AvLe.refl | exact AvLe.loose | exact AvLe.nil | exact AvLe.nilT | exact AvLe.slk) ?_)))) ?_))))) rfl ?_
      simp only [go_sem]
      (repeat (refine ⟨by (first | exact True.intro | omega | rfl | (simp; done) | (simp; omega)), ?_⟩)); try (refine hKr _ ?_; clear hKr Kr)
      refine T.ret ⟨AtD (by simp [slook]) rfl rfl, AtD (by simp [slook]) rfl rfl⟩
    · have hf : hasId l id = false := hasId_no hs h3 (fun h => absurd h hil)
      rw [hf]
      have hil' : ((i : Int) < (l.length : Int)) = False := by simp; omega
      refine T.sregD 49 [0, 1, 2, 6, 7, 8, 9, 10, 11, 17, 31] fun Kr hKr => ?_
      simp only [go_sem, hil, hil']
      (repeat (refine ⟨by (first | exact True.intro | omega | rfl | (simp; done) | (simp; omega)), ?_⟩)); try (refine hKr _ ?_; clear hKr Kr)
      refine CallK.data (r := .bool true) (fun h => by cases h) rfl ?_
      simp only [go_sem]
      (repeat (refine ⟨by (first | exact True.intro | omega | rfl | (simp; done) | (simp; omega)), ?_⟩)); try (refine hKr _ ?_; clear hKr Kr)
      refine T.ret ⟨AtD (by simp [slook]) rfl rfl, AtD (by simp [slook]) rfl rfl⟩
  refine T.skip ?_
  refine hK2 _ ?_
  refine T.block ?_
  have hh : ((i : Int) + (j : Int)) / 2 = ((i + j) / 2 : Nat) := by omega
  have hx1 : i ≤ (i + j) / 2 := by omega
  have hx2 : (i + j) / 2 < j := by omega
  refine T.sregD 49 [0, 1, 2, 6, 7, 8, 9, 10, 11, 17, 31] fun Kr hKr => ?_
  simp only [go_sem, inR_u64, hh]
  (repeat (refine ⟨by (first | exact True.intro | omega | rfl | (simp; done) | (simp; omega)), ?_⟩)); try (refine hKr _ ?_; clear hKr Kr)
  generalize (i + j) / 2 = h at *
  have hhl : h < l.length := by omega
  have hp := Put1_spec (l.getD h default) id
  refine T.sregD 49 [0, 1, 2, 6, 7, 8, 9, 10, 11, 17, 31] fun Kr hKr => ?_
  simp only [go_sem, hhl]
  (repeat (refine ⟨by (first | exact True.intro | omega | rfl | (simp; done) | (simp; omega)), ?_⟩)); try (refine hKr _ ?_; clear hKr Kr)
  refine CallK.data (fun _ => Spec.args (hp) (by (first | exact ArgsLe.refl | (repeat (first | exact True.intro | refine And.intro (by first | exact AvLe.refl | exact AvLe.loose | exact AvLe.nil | exact AvLe.nilT | exact AvLe.slk | (refine AvLe.agg ?_; exact ArgsLe.refl) | (refine AvLe.agg ?_; (repeat (first | exact True.intro | refine And.intro (by first | exact AvLe.refl | exact AvLe.loose | exact AvLe.nil | exact AvLe.nilT | exact AvLe.slk) ?_)))) ?_))))) rfl ?_
  simp only [go_sem]
  (repeat (refine ⟨by (first | exact True.intro | omega | rfl | (simp; done) | (simp; omega)), ?_⟩)); try (refine hKr _ ?_; clear hKr Kr)
  refine T.condTD rfl rfl (fun hc => ?_) (fun hc => ?_) <;> simp [-List.getD_eq_getElem?_getD] at hc
  · -- right
    have hlt : (l.getD h default).id < id := by
      unfold cmpI at hc; split at hc
      · assumption
      · split at hc <;> omega
    refine T.regD 49 [0, 1, 2, 6, 7, 8, 9, 10, 11, 17, 31] fun Kr hKr => ?_
    simp only [go_sem]
    (repeat (refine ⟨by (first | exact True.intro | omega | rfl | (simp; done) | (simp; omega)), ?_⟩)); try (refine hKr _ ?_; clear hKr Kr)
    refine ⟨(h + 1, j), ?_, ?_, Le.fitS (by (repeat (first | exact DFit.nil | refine DFit.cons (by first | rfl | (simp [slook]; done) | (simp [slook]; omega)) ?_))) ?_⟩
    · refine ⟨by simp only; omega, h2, fun q hq => ?_, h4⟩
      simp only at hq
      rcases Nat.lt_or_ge q h with hqh | hqh
      · have := hs.get hhl hqh; omega
      · have : q = h := by omega
        subst this; exact hlt
    · simp only; omega
    · (repeat (first | exact True.intro | refine And.intro (by first | rfl | (simp [look]; done)) ?_))
  have hge : ¬ (l.getD h default).id < id := by
    intro hlt; unfold cmpI at hc; rw [if_pos hlt] at hc; omega
  refine T.regD 49 [0, 1, 2, 6, 7, 8, 9, 10, 11, 17, 31] fun Kr hKr => ?_
  simp only [go_sem]
  (repeat (refine ⟨by (first | exact True.intro | omega | rfl | (simp; done) | (simp; omega)), ?_⟩)); try (refine hKr _ ?_; clear hKr Kr)
  refine ⟨(i, h), ?_, ?_, Le.fitS (by (repeat (first | exact DFit.nil | refine DFit.cons (by first | rfl | (simp [slook]; done) | (simp [slook]; omega)) ?_))) ?_⟩
  · refine ⟨hx1, by simp only; omega, h3, fun q hq hql => ?_⟩
    simp only at hq
    rcases Nat.eq_or_lt_of_le hq with hqh | hqh
    · subst hqh; exact hge
    · have := hs.get hql hqh; omega
  · simp only; omega
  · (repeat (first | exact True.intro | refine And.intro (by first | rfl | (simp [look]; done)) ?_))

/-! ### Inserting -/
theorem ins_end (L : List Mark) (m : Mark) (hl : L.length ≤ 100000) : Ideal.Spec Try.prog 54 [.sl true 4 (mksOf L), .int .i64 L.length, .sl false 4 [mkA m]] (.sl false 4 (mksOf (L ++ [m]))) none := by
  refine Ideal.Spec.of_TD (n := 95) (fn := Try.f54) rfl rfl rfl rfl rfl rfl rfl fun w ok => ?_
  refine T.post [.tmp 6] ?_
  refine T.sregD 95 [0, 1, 2, 6, 7, 8, 9, 16, 22, 31, 68] fun Kr hKr => ?_
  simp only [go_sem]
  (repeat (refine ⟨by (first | exact True.intro | omega | rfl | (simp; done) | (simp; omega)), ?_⟩)); try (refine hKr _ ?_; clear hKr Kr)
  refine T.sregD 95 [0, 1, 2, 6, 7, 8, 9, 16, 22, 31, 68] fun Kr hKr => ?_
  simp only [go_sem]
  (repeat (refine ⟨by (first | exact True.intro | omega | rfl | (simp; done) | (simp; omega)), ?_⟩)); try (refine hKr _ ?_; clear hKr Kr)
  refine T.sregD 95 [0, 1, 2, 6, 7, 8, 9, 16, 22, 31, 68] fun Kr hKr => ?_
  simp only [go_sem]
  (repeat (refine ⟨by (first | exact True.intro | omega | rfl | (simp; done) | (simp; omega)), ?_⟩)); try (refine hKr _ ?_; clear hKr Kr)
  refine T.seqK fun K1 hK1 => ?_
  refine T.sregD 95 [0, 1, 2, 6, 7, 8, 9, 16, 22, 31, 68] fun Kr hKr => ?_
  simp only [go_sem]
  (repeat (refine ⟨by (first | exact True.intro | omega | rfl | (simp; done) | (simp; omega)), ?_⟩)); try (refine hKr _ ?_; clear hKr Kr)
  refine T.condTD rfl rfl (fun hb => ?_) (fun hb => ?_) <;> simp at hb
  refine T.skip ?_
  refine hK1 _ ?_
  refine T.sregD 95 [0, 1, 2, 6, 7, 8, 9, 16, 22, 31, 68] fun Kr hKr => ?_
  simp only [go_sem]
  (repeat (refine ⟨by (first | exact True.intro | omega | rfl | (simp; done) | (simp; omega)), ?_⟩)); try (refine hKr _ ?_; clear hKr Kr)
  refine T.seqK fun K2 hK2 => ?_
  refine T.sregD 95 [0, 1, 2, 6, 7, 8, 9, 16, 22, 31, 68] fun Kr hKr => ?_
  simp only [go_sem]
  (repeat (refine ⟨by (first | exact True.intro | omega | rfl | (simp; done) | (simp; omega)), ?_⟩)); try (refine hKr _ ?_; clear hKr Kr)
  refine T.condTD rfl rfl (fun hc => ?_) (fun hc => ?_) <;> simp at hc
  refine T.sregD 95 [0, 1, 2, 6, 7, 8, 9, 16, 22, 31, 68] fun Kr hKr => ?_
  simp only [go_sem]
  (repeat (refine ⟨by (first | exact True.intro | omega | rfl | (simp; done) | (simp; omega)), ?_⟩)); try (refine hKr _ ?_; clear hKr Kr)
  refine T.ret ?_
  simp only [go_sem, Nat.le_refl]
  have ht : (mksOf L ++ [mkA m]).take (L.length + 1) = mksOf (L ++ [m]) := by rw [mksOf_app]; exact List.take_of_length_le (by simp [mksOf])
  exact Fin.dataD (show AV.sl false 4 ((mksOf L ++ [mkA m]).take (L.length + 1)) = _ by rw [ht]) rfl rfl
theorem ins_mid (L : List Mark) (m : Mark) (i : Nat) (hl : L.length ≤ 100000) (hi : i < L.length) : Ideal.Spec Try.prog 54 [.slk L.length 4 (mksOf L), .int .i64 i, .sl false 4 [mkA m]] (.sl false 4 (mksOf (L.take i ++ m :: L.drop i))) none := by
  have hz : (L.length : Int) + 1 - (i : Int) = ((L.length + 1 - i : Nat) : Int) := by omega
  refine Ideal.Spec.of_TD (n := 95) (fn := Try.f54) rfl rfl rfl rfl rfl rfl rfl fun w ok => ?_
  refine T.post [.tmp 6] ?_
  refine T.sregD 95 [0, 1, 2, 6, 7, 8, 9, 16, 22, 31, 68] fun Kr hKr => ?_
  simp only [go_sem]
  (repeat (refine ⟨by (first | exact True.intro | omega | rfl | (simp; done) | (simp; omega)), ?_⟩)); try (refine hKr _ ?_; clear hKr Kr)
  refine T.sregD 95 [0, 1, 2, 6, 7, 8, 9, 16, 22, 31, 68] fun Kr hKr => ?_
  simp only [go_sem]
  (repeat (refine ⟨by (first | exact True.intro | omega | rfl | (simp; done) | (simp; omega)), ?_⟩)); try (refine hKr _ ?_; clear hKr Kr)
  refine T.sregD 95 [0, 1, 2, 6, 7, 8, 9, 16, 22, 31, 68] fun Kr hKr => ?_
  simp only [go_sem]
  (repeat (refine ⟨by (first | exact True.intro | omega | rfl | (simp; done) | (simp; omega)), ?_⟩)); try (refine hKr _ ?_; clear hKr Kr)
  refine T.seqK fun K1 hK1 => ?_
  refine T.sregD 95 [0, 1, 2, 6, 7, 8, 9, 16, 22, 31, 68] fun Kr hKr => ?_
  simp only [go_sem]
  (repeat (refine ⟨by (first | exact True.intro | omega | rfl | (simp; done) | (simp; omega)), ?_⟩)); try (refine hKr _ ?_; clear hKr Kr)
  refine T.condTD rfl rfl (fun hb => ?_) (fun hb => ?_) <;> simp at hb
  refine T.skip ?_
  refine hK1 _ ?_
  refine T.sregD 95 [0, 1, 2, 6, 7, 8, 9, 16, 22, 31, 68] fun Kr hKr => ?_
  simp only [go_sem]
  (repeat (refine ⟨by (first | exact True.intro | omega | rfl | (simp; done) | (simp; omega)), ?_⟩)); try (refine hKr _ ?_; clear hKr Kr)
  refine T.seqK fun K2 hK2 => ?_
  refine T.sregD 95 [0, 1, 2, 6, 7, 8, 9, 16, 22, 31, 68] fun Kr hKr => ?_
  simp only [go_sem]
  (repeat (refine ⟨by (first | exact True.intro | omega | rfl | (simp; done) | (simp; omega)), ?_⟩)); try (refine hKr _ ?_; clear hKr Kr)
  refine T.condTD rfl rfl (fun hc => ?_) (fun hc => ?_) <;> simp at hc
  · omega
  refine T.skip ?_
  refine hK2 _ ?_
  refine T.seqK fun K3 hK3 => ?_
  refine T.sregD 95 [0, 1, 2, 6, 7, 8, 9, 16, 22, 31, 68] fun Kr hKr => ?_
  simp only [go_sem]
  (repeat (refine ⟨by (first | exact True.intro | omega | rfl | (simp; done) | (simp; omega)), ?_⟩)); try (refine hKr _ ?_; clear hKr Kr)
  refine T.condTD rfl rfl (fun hd => ?_) (fun hd => by simp at hd; omega)
  have hti : (L.take i).length = i := by simp; omega
  refine T.sregD 95 [0, 1, 2, 6, 7, 8, 9, 16, 22, 31, 68] fun Kr hKr => ?_
  simp only [go_sem, hz, hti]
  (repeat (refine ⟨by (first | exact True.intro | omega | rfl | (simp; done) | (simp; omega)), ?_⟩)); try (refine hKr _ ?_; clear hKr Kr)
  have hx0 : mksOf (L.take i) ++ List.replicate (L.length + 1 - i) (.agg [.int .i64 0, .int .i64 0, .int .i64 0, .bool false]) = mksOf (L.take i ++ List.replicate (L.length + 1 - i) noMark) := by simp [mksOf, mkA, noMark]
  rw [hx0, show i + (L.length + 1 - i) = L.length + 1 by omega]
  have hX0 : (L.take i ++ List.replicate (L.length + 1 - i) noMark).length = L.length + 1 := by simp; omega
  have hX1 : (L.take i ++ List.replicate (L.length + 1 - i) noMark).take i = L.take i := by rw [List.take_append_of_le_length (by omega), List.take_of_length_le (by omega)]
  generalize L.take i ++ List.replicate (L.length + 1 - i) noMark = X0 at *
  have hm1 : min 1 (L.length + 1 - i) = 1 := by omega
  refine T.sregD 95 [0, 1, 2, 6, 7, 8, 9, 16, 22, 31, 68] fun Kr hKr => ?_
  simp only [go_sem, hX0, hX1, hm1]
  (repeat (refine ⟨by (first | exact True.intro | omega | rfl | (simp; done) | (simp; omega)), ?_⟩)); try (refine hKr _ ?_; clear hKr Kr)
  have hx1 : mksOf (L.take i) ++ .agg [.int .i64 m.id, .int .i64 m.f, .int .i64 m.t, .bool m.w] :: mksOf (X0.drop (i + 1)) = mksOf (L.take i ++ m :: X0.drop (i + 1)) := by simp [mksOf, mkA]
  rw [hx1]
  have hY0 : (L.take i ++ m :: X0.drop (i + 1)).length = L.length + 1 := by simp; omega
  have hY1 : (L.take i ++ m :: X0.drop (i + 1)).take (i + 1) = L.take i ++ [m] := by
    rw [List.take_append, hti, List.take_of_length_le (by omega)]; simp [show i + 1 - i = 1 by omega]
  generalize L.take i ++ m :: X0.drop (i + 1) = Y at *
  have hdl : (L.drop i).length = L.length - i := by simp
  have htd : (L.drop i).take (L.length - i) = L.drop i := List.take_of_length_le (by simp)
  have hm2 : min (L.length - i) (L.length + 1 - (i + 1)) = L.length - i := by omega
  have hm3 : i + 1 + (L.length - i) = L.length + 1 := by omega
  have hY2 : Y.drop (L.length + 1) = [] := List.drop_eq_nil_of_le (by omega)
  refine T.sdrawD 95 [0, 1, 2, 6, 7, 8, 9, 16, 22, 31, 68] (.take 0 (.take 1 (.take 2 (.take 3 (.take 4 (.take 5 (.take 6 (.take 7 (.one 8 .done))))))))) [] rfl (by decide +kernel) (by decide +kernel) fun Kr hKr => ?_
  simp only [go_sem, hY0, hY1, hdl, htd, hm2, hm3, hY2]
  (repeat (refine ⟨by (first | exact True.intro | omega | rfl | (simp; done) | (simp; omega)), ?_⟩)); try (refine hKr _ ?_; clear hKr Kr)
  refine T.sregD 95 [0, 1, 2, 6, 7, 8, 9, 16, 22, 31, 68] fun Kr hKr => ?_
  simp only [go_sem]
  (repeat (refine ⟨by (first | exact True.intro | omega | rfl | (simp; done) | (simp; omega)), ?_⟩)); try (refine hKr _ ?_; clear hKr Kr)
  refine T.ret ?_
  simp only [go_sem, Nat.le_refl, hti, hdl, hm3]
  have hfin : (mksOf (L.take i ++ [m]) ++ mksOf (L.drop i)).take (L.length + 1) = mksOf (L.take i ++ m :: L.drop i) := by
    rw [← mksOf_app, List.append_assoc, List.singleton_append, mksOf_take]
    congr 1
    exact List.take_of_length_le (by simp; omega)
  exact Fin.dataD (show AV.sl false 4 ((mksOf (L.take i ++ [m]) ++ mksOf (L.drop i)).take (L.length + 1)) = _ by rw [hfin]) rfl rfl
/-- With the mark at its place. -/
def insL (L : List Mark) (i : Nat) (m : Mark) : List Mark := L.take i ++ m :: L.drop i
theorem ins_spec (L : List Mark) (m : Mark) (i : Nat) (hl : L.length ≤ 100000) (hi : i ≤ L.length) : Ideal.Spec Try.prog 54 [.sl true 4 (mksOf L), .int .i64 i, .sl false 4 [mkA m]] (.sl false 4 (mksOf (insL L i m))) none := by
  rcases Nat.eq_or_lt_of_le hi with h | h
  · subst h
    simp only [insL, List.take_length, List.drop_length]
    exact ins_end L m hl
  · refine Ideal.Spec.args (ins_mid L m i hl h) ?_
    have := AvLe.slk (sz := 4) (xs := mksOf L)
    rw [mksOf_len] at this
    exact ⟨this, AvLe.refl, AvLe.refl, trivial⟩
end Go.Proofs
