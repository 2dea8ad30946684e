/- Devices: records, orders, users; contracts of the functions on one record and one order. -/
import Derived.Test.YtdhkkdhooobdhaaGreatDoorDFacts
import Derived.Test.YtdhkkdhooobdhaaGreatDoorCoreR
import Derived.Test.YtdhkkdhooobdhaaGreatDoorCoreY
set_option linter.unusedVariables false
set_option linter.unusedSimpArgs false
namespace Go.Proofs
open Go Go.Ideal
set_option maxRecDepth 8000
set_option maxHeartbeats 4000000

structure Rec where
  d : Int
  s : Int
  e : Int
  w : List UInt8
  a : Int
  n : Int
  deriving DecidableEq, Inhabited
structure Ord where
  d : Int
  s : Int
  e : Int
  k : Int
  w : List UInt8
  n : Int
  f : Int
  deriving DecidableEq, Inhabited
@[go_sem] def recA (r : Rec) : AV := .agg [.int .i64 r.d, .int .i64 r.s, .int .i64 r.e, .str r.w, .int .i64 r.a, .int .i64 r.n]
@[go_sem] def ordA (o : Ord) : AV := .agg [.int .i64 o.d, .int .i64 o.s, .int .i64 o.e, .int .i64 o.k, .str o.w, .int .i64 o.n, .int .i64 o.f]
@[go_sem] def recC (r : Rec) : AV := .cp [.int .i64 r.d, .int .i64 r.s, .int .i64 r.e, .str r.w, .int .i64 r.a, .int .i64 r.n]
@[go_sem] def ordC (o : Ord) : AV := .cp [.int .i64 o.d, .int .i64 o.s, .int .i64 o.e, .int .i64 o.k, .str o.w, .int .i64 o.n, .int .i64 o.f]
def recsOf (l : List Rec) : List AV := l.map recA
@[go_sem] theorem recsOf_len (l : List Rec) : (recsOf l).length = l.length := by simp [recsOf]
@[go_sem] theorem recsOf_get {l : List Rec} {i : Nat} (h : i < l.length) : (recsOf l).getD i .junk = recA (l.getD i default) := by simp [recsOf, List.getD, h]
theorem recsOf_app (l m : List Rec) : recsOf (l ++ m) = recsOf l ++ recsOf m := by simp [recsOf]
@[go_sem] theorem recsOf_nil : recsOf [] = [] := rfl
@[go_sem] theorem recsOf_take (l : List Rec) (n : Nat) : (recsOf l).take n = recsOf (l.take n) := by simp [recsOf]
@[go_sem] theorem recsOf_drop (l : List Rec) (n : Nat) : (recsOf l).drop n = recsOf (l.drop n) := by simp [recsOf]
def ordsOf (l : List Ord) : List AV := l.map ordA
@[go_sem] theorem ordsOf_len (l : List Ord) : (ordsOf l).length = l.length := by simp [ordsOf]
@[go_sem] theorem ordsOf_get {l : List Ord} {i : Nat} (h : i < l.length) : (ordsOf l).getD i .junk = ordA (l.getD i default) := by simp [ordsOf, List.getD, h]
theorem ordsOf_app (l m : List Ord) : ordsOf (l ++ m) = ordsOf l ++ ordsOf m := by simp [ordsOf]
@[go_sem] theorem ordsOf_nil : ordsOf [] = [] := rfl
@[go_sem] theorem ordsOf_take (l : List Ord) (n : Nat) : (ordsOf l).take n = ordsOf (l.take n) := by simp [ordsOf]
@[go_sem] theorem ordsOf_drop (l : List Ord) (n : Nat) : (ordsOf l).drop n = ordsOf (l.drop n) := by simp [ordsOf]

theorem take_succ_d {α : Type} [Inhabited α] {l : List α} {j : Nat} (h : j < l.length) : l.take (j + 1) = l.take j ++ [l.getD j default] := by
  rw [List.take_add_one]; simp [List.getD, h]
theorem cond_and (a b : Bool) : (bif a then b else false) = (a && b) := by cases a <;> rfl
theorem cond_or (a b : Bool) : (bif a then true else b) = (a || b) := by cases a <;> rfl
/-! ### Places -/
/-- The place (d, s) comes before (d', s'). -/
def befB (d s d' s' : Int) : Bool := decide (d < d') || (decide (d = d') && decide (s < s'))
@[go_sem] def plA (d s : Int) : AV := .agg [.int .i64 d, .int .i64 s]
theorem ofRecord_spec (r : Rec) : Ideal.Spec Tryz.prog 18 [recA r] (plA r.d r.s) none := by
  refine Ideal.Spec.of_CD (n := 8) (fn := Tryz.f18) rfl rfl rfl rfl rfl rfl rfl fun w ok => ?_
  refine T.post [.tmp 2] ?_
  refine T.sregD 8 [0, 1, 2] fun Kr hKr => ?_
  simp only [go_sem]
  (repeat (refine ⟨by (first | exact True.intro | omega | rfl | (simp; done) | (simp; omega)), ?_⟩)); try (refine hKr _ ?_; clear hKr Kr)
  refine T.sregD 8 [0, 1, 2] fun Kr hKr => ?_
  simp only [go_sem]
  (repeat (refine ⟨by (first | exact True.intro | omega | rfl | (simp; done) | (simp; omega)), ?_⟩)); try (refine hKr _ ?_; clear hKr Kr)
  refine T.ret ?_
  simp only [go_sem]
  exact ⟨ResCellD rfl rfl rfl rfl (by simp only [go_sem]) (by simp only [go_sem]) rfl, trivial⟩
theorem ofOrder_spec (r : Ord) : Ideal.Spec Tryz.prog 21 [ordA r] (plA r.d r.s) none := by
  refine Ideal.Spec.of_CD (n := 8) (fn := Tryz.f21) rfl rfl rfl rfl rfl rfl rfl fun w ok => ?_
  refine T.post [.tmp 2] ?_
  refine T.sregD 8 [0, 1, 2] fun Kr hKr => ?_
  simp only [go_sem]
  (repeat (refine ⟨by (first | exact True.intro | omega | rfl | (simp; done) | (simp; omega)), ?_⟩)); try (refine hKr _ ?_; clear hKr Kr)
  refine T.sregD 8 [0, 1, 2] fun Kr hKr => ?_
  simp only [go_sem]
  (repeat (refine ⟨by (first | exact True.intro | omega | rfl | (simp; done) | (simp; omega)), ?_⟩)); try (refine hKr _ ?_; clear hKr Kr)
  refine T.ret ?_
  simp only [go_sem]
  exact ⟨ResCellD rfl rfl rfl rfl (by simp only [go_sem]) (by simp only [go_sem]) rfl, trivial⟩
theorem before_spec (d s d' s' : Int) : Ideal.Spec Tryz.prog 19 [plA d s, plA d' s'] (.bool (befB d s d' s')) none := by
  refine Ideal.Spec.of_TD (n := 20) (fn := Tryz.f19) rfl rfl rfl rfl rfl rfl rfl fun w ok => ?_
  refine T.sregD 20 [0, 1, 2, 3, 4, 9] fun Kr hKr => ?_
  simp only [go_sem]
  (repeat (refine ⟨by (first | exact True.intro | omega | rfl | (simp; done) | (simp; omega)), ?_⟩)); try (refine hKr _ ?_; clear hKr Kr)
  refine T.seqK fun K103 hK103 => ?_
  refine T.sregD 20 [0, 1, 2, 3, 4, 9] fun Kr hKr => ?_
  simp only [go_sem]
  (repeat (refine ⟨by (first | exact True.intro | omega | rfl | (simp; done) | (simp; omega)), ?_⟩)); try (refine hKr _ ?_; clear hKr Kr)
  refine T.condTD rfl rfl (fun hb => ?_) (fun hb => ?_) <;> simp at hb
  · -- yes
    have e : befB d s d' s' = decide (d < d') := by unfold befB; rw [decide_eq_false hb]; simp
    refine T.sregD 20 [0, 1, 2, 3, 4, 9] fun Kr hKr => ?_
    simp only [go_sem]
    (repeat (refine ⟨by (first | exact True.intro | omega | rfl | (simp; done) | (simp; omega)), ?_⟩)); try (refine hKr _ ?_; clear hKr Kr)
    refine T.ret (Fin.dataD (by simp only [slook, e]; rfl) rfl rfl)
  refine T.skip ?_
  refine hK103 _ ?_
  have e : befB d s d' s' = decide (s < s') := by unfold befB; subst hb; simp
  refine T.sregD 20 [0, 1, 2, 3, 4, 9] fun Kr hKr => ?_
  simp only [go_sem]
  (repeat (refine ⟨by (first | exact True.intro | omega | rfl | (simp; done) | (simp; omega)), ?_⟩)); try (refine hKr _ ?_; clear hKr Kr)
  refine T.ret (Fin.dataD (by simp only [slook, e]; rfl) rfl rfl)
theorem in_spec (n lo hi : Int) : Ideal.Spec Tryz.prog 83 [.int .i64 n, .int .i64 lo, .int .i64 hi] (.bool (decide (lo ≤ n) && decide (n ≤ hi))) none := by
  refine Ideal.Spec.of_TD (n := 15) (fn := Tryz.f83) rfl rfl rfl rfl rfl rfl rfl fun w ok => ?_
  refine T.sregD 15 [0, 1, 2, 6] fun Kr hKr => ?_
  simp only [go_sem]
  (repeat (refine ⟨by (first | exact True.intro | omega | rfl | (simp; done) | (simp; omega)), ?_⟩)); try (refine hKr _ ?_; clear hKr Kr)
  refine T.sregD 15 [0, 1, 2, 6] fun Kr hKr => ?_
  simp only [go_sem]
  (repeat (refine ⟨by (first | exact True.intro | omega | rfl | (simp; done) | (simp; omega)), ?_⟩)); try (refine hKr _ ?_; clear hKr Kr)
  refine T.ret (Fin.dataD (by simp only [slook, cond_and]; rfl) rfl rfl)
theorem In2_spec (n lo hi : Int) : Ideal.Spec Tryz.prog 95 [.int .i64 n, .int .i64 lo, .int .i64 hi] (.bool (decide (lo ≤ n) && decide (n ≤ hi))) none := by
  refine Ideal.Spec.of_TD (n := 15) (fn := Tryz.f95) rfl rfl rfl rfl rfl rfl rfl fun w ok => ?_
  refine T.sregD 15 [0, 1, 2, 6] fun Kr hKr => ?_
  simp only [go_sem]
  (repeat (refine ⟨by (first | exact True.intro | omega | rfl | (simp; done) | (simp; omega)), ?_⟩)); try (refine hKr _ ?_; clear hKr Kr)
  refine T.sregD 15 [0, 1, 2, 6] fun Kr hKr => ?_
  simp only [go_sem]
  (repeat (refine ⟨by (first | exact True.intro | omega | rfl | (simp; done) | (simp; omega)), ?_⟩)); try (refine hKr _ ?_; clear hKr Kr)
  refine T.ret (Fin.dataD (by simp only [slook, cond_and]; rfl) rfl rfl)
theorem within_spec (n lo hi : Int) : Ideal.Spec Tryz.prog 51 [.int .i64 n, .int .i64 lo, .int .i64 hi] (.bool (decide (lo ≤ n) && decide (n ≤ hi))) none := by
  refine Ideal.Spec.of_TD (n := 15) (fn := Tryz.f51) rfl rfl rfl rfl rfl rfl rfl fun w ok => ?_
  refine T.sregD 15 [0, 1, 2, 6] fun Kr hKr => ?_
  simp only [go_sem]
  (repeat (refine ⟨by (first | exact True.intro | omega | rfl | (simp; done) | (simp; omega)), ?_⟩)); try (refine hKr _ ?_; clear hKr Kr)
  refine T.sregD 15 [0, 1, 2, 6] fun Kr hKr => ?_
  simp only [go_sem]
  (repeat (refine ⟨by (first | exact True.intro | omega | rfl | (simp; done) | (simp; omega)), ?_⟩)); try (refine hKr _ ?_; clear hKr Kr)
  refine T.ret (Fin.dataD (by simp only [slook, cond_and]; rfl) rfl rfl)
theorem beforeR_spec (d s d' s' : Int) : Ideal.Spec Tryz.prog 94 [.agg [.int .i64 d, .int .i64 s], .agg [.int .i64 d', .int .i64 s']] (.bool (befB d s d' s')) none := by
  refine Ideal.Spec.of_TD (n := 24) (fn := Tryz.f94) rfl rfl rfl rfl rfl rfl rfl fun w ok => ?_
  refine T.sregD 24 [0, 1, 2, 3, 4] fun Kr hKr => ?_
  simp only [go_sem]
  (repeat (refine ⟨by (first | exact True.intro | omega | rfl | (simp; done) | (simp; omega)), ?_⟩)); try (refine hKr _ ?_; clear hKr Kr)
  by_cases h1 : d < d'
  · have h1' : (d < d') = True := eq_true h1
    have e : befB d s d' s' = true := by unfold befB; rw [decide_eq_true h1]; rfl
    refine T.sregD 24 [0, 1, 2, 3, 4] fun Kr hKr => ?_
    simp only [go_sem, h1']
    (repeat (refine ⟨by (first | exact True.intro | omega | rfl | (simp; done) | (simp; omega)), ?_⟩)); try (refine hKr _ ?_; clear hKr Kr)
    refine T.ret (Fin.dataD (by rw [e]; rfl) rfl rfl)
  have h1' : (d < d') = False := eq_false h1
  by_cases h2 : d = d'
  · have h2' : (d = d') = True := eq_true h2
    have e : befB d s d' s' = decide (s < s') := by unfold befB; rw [decide_eq_false h1, decide_eq_true h2]; simp
    refine T.sregD 24 [0, 1, 2, 3, 4] fun Kr hKr => ?_
    simp only [go_sem, h1', h2']
    (repeat (refine ⟨by (first | exact True.intro | omega | rfl | (simp; done) | (simp; omega)), ?_⟩)); try (refine hKr _ ?_; clear hKr Kr)
    refine T.ret (Fin.dataD (by rw [e]; rfl) rfl rfl)
  have h2' : (d = d') = False := eq_false h2
  have e : befB d s d' s' = false := by unfold befB; rw [decide_eq_false h1, decide_eq_false h2]; rfl
  refine T.sregD 24 [0, 1, 2, 3, 4] fun Kr hKr => ?_
  simp only [go_sem, h1', h2']
  (repeat (refine ⟨by (first | exact True.intro | omega | rfl | (simp; done) | (simp; omega)), ?_⟩)); try (refine hKr _ ?_; clear hKr Kr)
  refine T.ret (Fin.dataD (by rw [e]; rfl) rfl rfl)

/-! ### Words -/
def okC (b : UInt8) : Prop := (97 ≤ b.toNat ∧ b.toNat ≤ 122) ∨ (65 ≤ b.toNat ∧ b.toNat ≤ 90) ∨ (48 ≤ b.toNat ∧ b.toNat ≤ 57)
structure WordOk (w : List UInt8) : Prop where
  len : 1 ≤ w.length ∧ w.length ≤ 20
  ok : ∀ i, i < w.length → okC (w.getD i 0)
theorem Plain2_spec (s : List UInt8) (h : WordOk s) : Ideal.Spec Tryz.prog 96 [.str s] (.bool true) none := by
  have hl := h.len
  refine Ideal.Spec.of_TD (n := 36) (fn := Tryz.f96) rfl rfl rfl rfl rfl rfl rfl fun w ok => ?_
  refine T.sregD 36 [0, 2, 3, 4, 8, 35] fun Kr hKr => ?_
  simp only [go_sem]
  (repeat (refine ⟨by (first | exact True.intro | omega | rfl | (simp; done) | (simp; omega)), ?_⟩)); try (refine hKr _ ?_; clear hKr Kr)
  refine T.seqK fun K171 hK171 => ?_
  refine T.sregD 36 [0, 2, 3, 4, 8, 35] fun Kr hKr => ?_
  simp only [go_sem]
  (repeat (refine ⟨by (first | exact True.intro | omega | rfl | (simp; done) | (simp; omega)), ?_⟩)); try (refine hKr _ ?_; clear hKr Kr)
  refine T.bloop (fun i : Nat => ⟨dense 36 [(0, .str s), (3, .int .i64 i)], []⟩) (fun i => i ≤ s.length) (fun i => s.length - i) 0 (by simp) ?_ fun i hi => ?_
  · refine Le.fitS (by (repeat (first | exact DFit.nil | refine DFit.cons (by first | rfl | (simp [slook]; done) | (simp [slook]; omega)) ?_))) (by (repeat (first | exact True.intro | refine And.intro (by first | rfl | (simp [look]; done)) ?_)))
  refine T.seqK fun K172 hK172 => ?_
  refine T.sregD 36 [0, 2, 3, 4, 8, 35] fun Kr hKr => ?_
  simp only [go_sem]
  (repeat (refine ⟨by (first | exact True.intro | omega | rfl | (simp; done) | (simp; omega)), ?_⟩)); try (refine hKr _ ?_; clear hKr Kr)
  refine T.condFD rfl rfl (fun hb => ?_) (fun hb => ?_) <;> simp at hb
  · -- no: exit
    refine T.exit ?_
    simp only [if_true]
    refine hK171 _ ?_
    refine T.sregD 36 [0, 2, 3, 4, 8, 35] fun Kr hKr => ?_
    simp only [go_sem]
    (repeat (refine ⟨by (first | exact True.intro | omega | rfl | (simp; done) | (simp; omega)), ?_⟩)); try (refine hKr _ ?_; clear hKr Kr)
    refine T.ret (Fin.dataD rfl rfl rfl)
  have ho := h.ok i hb
  refine T.skip ?_
  refine hK172 _ ?_
  refine T.seqK fun K173 hK173 => ?_
  refine T.block ?_
  refine T.sregD 36 [0, 2, 3, 4, 8, 35] fun Kr hKr => ?_
  simp only [go_sem, hb]
  (repeat (refine ⟨by (first | exact True.intro | omega | rfl | (simp; done) | (simp; omega)), ?_⟩)); try (refine hKr _ ?_; clear hKr Kr)
  generalize s.getD i 0 = b at *
  unfold okC at ho
  refine T.sregD 36 [0, 2, 3, 4, 8, 35] fun Kr hKr => ?_
  simp only [go_sem]
  (repeat (refine ⟨by (first | exact True.intro | omega | rfl | (simp; done) | (simp; omega)), ?_⟩)); try (refine hKr _ ?_; clear hKr Kr)
  refine T.condTD rfl rfl (fun hc => ?_) (fun hc => ?_)
  · exfalso
    simp only [cond_or, cond_and, Bool.and_eq_true, Bool.or_eq_true, decide_eq_true_eq] at hc
    omega
  refine T.skip ?_
  refine hK173 _ ?_
  refine T.regD 36 [0, 2, 3, 4, 8, 35] fun Kr hKr => ?_
  simp only [go_sem]
  (repeat (refine ⟨by (first | exact True.intro | omega | rfl | (simp; done) | (simp; omega)), ?_⟩)); try (refine hKr _ ?_; clear hKr Kr)
  refine ⟨i + 1, ?_, ?_, Le.fitS (by (repeat (first | exact DFit.nil | refine DFit.cons (by first | rfl | (simp [slook]; done) | (simp [slook]; omega)) ?_))) ?_⟩
  · omega
  · omega
  · (repeat (first | exact True.intro | refine And.intro (by first | rfl | (simp [look]; done)) ?_))
theorem Word2_spec (s : List UInt8) (h : WordOk s) : Ideal.Spec Tryz.prog 84 [.str s] (.bool true) none := by
  have hl := h.len
  have s1 := In2_spec s.length 1 20
  rw [decide_eq_true (by omega), decide_eq_true (by omega)] at s1
  have s2 := Plain2_spec s h
  refine Ideal.Spec.of_TD (n := 10) (fn := Tryz.f84) rfl rfl rfl rfl rfl rfl rfl fun w ok => ?_
  refine T.sregD 10 [0, 2] fun Kr hKr => ?_
  simp only [go_sem]
  (repeat (refine ⟨by (first | exact True.intro | omega | rfl | (simp; done) | (simp; omega)), ?_⟩)); try (refine hKr _ ?_; clear hKr Kr)
  refine T.sregD 10 [0, 2] fun Kr hKr => ?_
  simp only [go_sem]
  (repeat (refine ⟨by (first | exact True.intro | omega | rfl | (simp; done) | (simp; omega)), ?_⟩)); try (refine hKr _ ?_; clear hKr Kr)
  refine CallK.data (fun _ => Spec.args (s1) (by (first | exact ArgsLe.refl | (repeat (first | exact True.intro | refine And.intro (by first | exact AvLe.refl | exact AvLe.loose | exact AvLe.nil | exact AvLe.nilT | exact AvLe.slk | (refine AvLe.agg ?_; exact ArgsLe.refl) | (refine AvLe.agg ?_; (repeat (first | exact True.intro | refine And.intro (by first | exact AvLe.refl | exact AvLe.loose | exact AvLe.nil | exact AvLe.nilT | exact AvLe.slk) ?_)))) ?_))))) rfl ?_
  simp only [go_sem]
  (repeat (refine ⟨by (first | exact True.intro | omega | rfl | (simp; done) | (simp; omega)), ?_⟩)); try (refine hKr _ ?_; clear hKr Kr)
  refine CallK.data (fun _ => Spec.args (s2) (by (first | exact ArgsLe.refl | (repeat (first | exact True.intro | refine And.intro (by first | exact AvLe.refl | exact AvLe.loose | exact AvLe.nil | exact AvLe.nilT | exact AvLe.slk | (refine AvLe.agg ?_; exact ArgsLe.refl) | (refine AvLe.agg ?_; (repeat (first | exact True.intro | refine And.intro (by first | exact AvLe.refl | exact AvLe.loose | exact AvLe.nil | exact AvLe.nilT | exact AvLe.slk) ?_)))) ?_))))) rfl ?_
  simp only [go_sem]
  (repeat (refine ⟨by (first | exact True.intro | omega | rfl | (simp; done) | (simp; omega)), ?_⟩)); try (refine hKr _ ?_; clear hKr Kr)
  refine T.ret (Fin.dataD rfl rfl rfl)
theorem class_spec (b : UInt8) (h : okC b) : Ideal.Spec Tryz.prog 97 [.int .u8 b.toNat] (.int .i64 (if 97 ≤ b.toNat ∧ b.toNat ≤ 122 then 1 else if 65 ≤ b.toNat ∧ b.toNat ≤ 90 then 2 else 3)) none := by
  unfold okC at h
  refine Ideal.Spec.of_TD (n := 24) (fn := Tryz.f97) rfl rfl rfl rfl rfl rfl rfl fun w ok => ?_
  refine T.sregD 24 [0, 2, 3, 10, 17] fun Kr hKr => ?_
  simp only [go_sem]
  (repeat (refine ⟨by (first | exact True.intro | omega | rfl | (simp; done) | (simp; omega)), ?_⟩)); try (refine hKr _ ?_; clear hKr Kr)
  refine T.seqK fun K177 hK177 => ?_
  refine T.block ?_
  refine T.sregD 24 [0, 2, 3, 10, 17] fun Kr hKr => ?_
  simp only [go_sem, cond_and]
  (repeat (refine ⟨by (first | exact True.intro | omega | rfl | (simp; done) | (simp; omega)), ?_⟩)); try (refine hKr _ ?_; clear hKr Kr)
  refine T.condTD rfl rfl (fun hb => ?_) (fun hb => ?_) <;> simp only [Bool.and_eq_true, Bool.and_eq_false_iff, decide_eq_true_eq, decide_eq_false_iff_not] at hb
  · -- yes
    refine T.sregD 24 [0, 2, 3, 10, 17] fun Kr hKr => ?_
    simp only [go_sem]
    (repeat (refine ⟨by (first | exact True.intro | omega | rfl | (simp; done) | (simp; omega)), ?_⟩)); try (refine hKr _ ?_; clear hKr Kr)
    refine T.ret (Fin.dataD (by rw [if_pos (by omega)]; rfl) rfl rfl)
  refine T.sregD 24 [0, 2, 3, 10, 17] fun Kr hKr => ?_
  simp only [go_sem, cond_and]
  (repeat (refine ⟨by (first | exact True.intro | omega | rfl | (simp; done) | (simp; omega)), ?_⟩)); try (refine hKr _ ?_; clear hKr Kr)
  refine T.condTD rfl rfl (fun hc => ?_) (fun hc => ?_) <;> simp only [Bool.and_eq_true, Bool.and_eq_false_iff, decide_eq_true_eq, decide_eq_false_iff_not] at hc
  · -- yes
    refine T.sregD 24 [0, 2, 3, 10, 17] fun Kr hKr => ?_
    simp only [go_sem]
    (repeat (refine ⟨by (first | exact True.intro | omega | rfl | (simp; done) | (simp; omega)), ?_⟩)); try (refine hKr _ ?_; clear hKr Kr)
    refine T.ret (Fin.dataD (by rw [if_neg (by omega), if_pos (by omega)]; rfl) rfl rfl)
  refine T.sregD 24 [0, 2, 3, 10, 17] fun Kr hKr => ?_
  simp only [go_sem, cond_and]
  (repeat (refine ⟨by (first | exact True.intro | omega | rfl | (simp; done) | (simp; omega)), ?_⟩)); try (refine hKr _ ?_; clear hKr Kr)
  refine T.condTD rfl rfl (fun hd => ?_) (fun hd => ?_) <;> simp only [Bool.and_eq_true, Bool.and_eq_false_iff, decide_eq_true_eq, decide_eq_false_iff_not] at hd
  · -- yes
    refine T.sregD 24 [0, 2, 3, 10, 17] fun Kr hKr => ?_
    simp only [go_sem]
    (repeat (refine ⟨by (first | exact True.intro | omega | rfl | (simp; done) | (simp; omega)), ?_⟩)); try (refine hKr _ ?_; clear hKr Kr)
    refine T.ret (Fin.dataD (by rw [if_neg (by omega), if_neg (by omega)]; rfl) rfl rfl)
  exfalso; omega
theorem allKnown_spec (s : List UInt8) (h : WordOk s) : Ideal.Spec Tryz.prog 85 [.str s] (.bool true) none := by
  have hl := h.len
  refine Ideal.Spec.of_TD (n := 15) (fn := Tryz.f85) rfl rfl rfl rfl rfl rfl rfl fun w ok => ?_
  refine T.sregD 15 [0, 2, 3, 5, 6, 7, 13] fun Kr hKr => ?_
  simp only [go_sem]
  (repeat (refine ⟨by (first | exact True.intro | omega | rfl | (simp; done) | (simp; omega)), ?_⟩)); try (refine hKr _ ?_; clear hKr Kr)
  refine T.seqK fun K174 hK174 => ?_
  refine T.sregD 15 [0, 2, 3, 5, 6, 7, 13] fun Kr hKr => ?_
  simp only [go_sem]
  (repeat (refine ⟨by (first | exact True.intro | omega | rfl | (simp; done) | (simp; omega)), ?_⟩)); try (refine hKr _ ?_; clear hKr Kr)
  refine T.bloop (fun i : Nat => ⟨dense 15 [(0, .str s), (5, .int .i64 s.length), (6, .int .i64 i)], []⟩) (fun i => i ≤ s.length) (fun i => s.length - i) 0 (by simp) ?_ fun i hi => ?_
  · refine Le.fitS (by (repeat (first | exact DFit.nil | refine DFit.cons (by first | rfl | (simp [slook]; done) | (simp [slook]; omega)) ?_))) (by (repeat (first | exact True.intro | refine And.intro (by first | rfl | (simp [look]; done)) ?_)))
  refine T.sregD 15 [0, 2, 3, 5, 6, 7, 13] fun Kr hKr => ?_
  simp only [go_sem]
  (repeat (refine ⟨by (first | exact True.intro | omega | rfl | (simp; done) | (simp; omega)), ?_⟩)); try (refine hKr _ ?_; clear hKr Kr)
  refine T.seqK fun K175 hK175 => ?_
  refine T.condFD rfl rfl (fun hb => ?_) (fun hb => ?_) <;> simp at hb
  · -- no: exit
    refine T.exit ?_
    simp only [if_true]
    refine hK174 _ ?_
    refine T.sregD 15 [0, 2, 3, 5, 6, 7, 13] fun Kr hKr => ?_
    simp only [go_sem]
    (repeat (refine ⟨by (first | exact True.intro | omega | rfl | (simp; done) | (simp; omega)), ?_⟩)); try (refine hKr _ ?_; clear hKr Kr)
    refine T.ret (Fin.dataD rfl rfl rfl)
  have ho := h.ok i hb
  have s1 := class_spec _ ho
  have hne : ((if 97 ≤ (s.getD i 0).toNat ∧ (s.getD i 0).toNat ≤ 122 then (1 : Int) else if 65 ≤ (s.getD i 0).toNat ∧ (s.getD i 0).toNat ≤ 90 then 2 else 3) = 0) = False := eq_false (by (repeat' split) <;> omega)
  generalize (if 97 ≤ (s.getD i 0).toNat ∧ (s.getD i 0).toNat ≤ 122 then (1 : Int) else if 65 ≤ (s.getD i 0).toNat ∧ (s.getD i 0).toNat ≤ 90 then 2 else 3) = q at *
  refine T.skip ?_
  refine hK175 _ ?_
  refine T.seqK fun K176 hK176 => ?_
  refine T.block ?_
  refine T.sregD 15 [0, 2, 3, 5, 6, 7, 13] fun Kr hKr => ?_
  simp only [go_sem]
  (repeat (refine ⟨by (first | exact True.intro | omega | rfl | (simp; done) | (simp; omega)), ?_⟩)); try (refine hKr _ ?_; clear hKr Kr)
  refine T.sregD 15 [0, 2, 3, 5, 6, 7, 13] fun Kr hKr => ?_
  simp only [go_sem, hb]
  (repeat (refine ⟨by (first | exact True.intro | omega | rfl | (simp; done) | (simp; omega)), ?_⟩)); try (refine hKr _ ?_; clear hKr Kr)
  refine CallK.data (fun _ => Spec.args (s1) (by (first | exact ArgsLe.refl | (repeat (first | exact True.intro | refine And.intro (by first | exact AvLe.refl | exact AvLe.loose | exact AvLe.nil | exact AvLe.nilT | exact AvLe.slk | (refine AvLe.agg ?_; exact ArgsLe.refl) | (refine AvLe.agg ?_; (repeat (first | exact True.intro | refine And.intro (by first | exact AvLe.refl | exact AvLe.loose | exact AvLe.nil | exact AvLe.nilT | exact AvLe.slk) ?_)))) ?_))))) rfl ?_
  simp only [go_sem, hne]
  (repeat (refine ⟨by (first | exact True.intro | omega | rfl | (simp; done) | (simp; omega)), ?_⟩)); try (refine hKr _ ?_; clear hKr Kr)
  refine T.condTD rfl rfl (fun hc => ?_) (fun hc => ?_)
  · exfalso; simp at hc
  refine T.skip ?_
  refine hK176 _ ?_
  refine T.regD 15 [0, 2, 3, 5, 6, 7, 13] fun Kr hKr => ?_
  simp only [go_sem]
  (repeat (refine ⟨by (first | exact True.intro | omega | rfl | (simp; done) | (simp; omega)), ?_⟩)); try (refine hKr _ ?_; clear hKr Kr)
  refine ⟨i + 1, ?_, ?_, Le.fitS (by (repeat (first | exact DFit.nil | refine DFit.cons (by first | rfl | (simp [slook]; done) | (simp [slook]; omega)) ?_))) ?_⟩
  · omega
  · omega
  · (repeat (first | exact True.intro | refine And.intro (by first | rfl | (simp [look]; done)) ?_))
theorem WordS_spec (s : List UInt8) (h : WordOk s) : Ideal.Spec Tryz.prog 50 [.str s] (.bool true) none := by
  have hl := h.len
  have s2 := allKnown_spec s h
  have h1 : ((s.length : Int) ≥ 1) = True := eq_true (by omega)
  have h2 : ((s.length : Int) ≤ 20) = True := eq_true (by omega)
  refine Ideal.Spec.of_TD (n := 15) (fn := Tryz.f50) rfl rfl rfl rfl rfl rfl rfl fun w ok => ?_
  refine T.sregD 15 [0, 2] fun Kr hKr => ?_
  simp only [go_sem]
  (repeat (refine ⟨by (first | exact True.intro | omega | rfl | (simp; done) | (simp; omega)), ?_⟩)); try (refine hKr _ ?_; clear hKr Kr)
  refine T.sregD 15 [0, 2] fun Kr hKr => ?_
  simp only [go_sem, h1, h2]
  (repeat (refine ⟨by (first | exact True.intro | omega | rfl | (simp; done) | (simp; omega)), ?_⟩)); try (refine hKr _ ?_; clear hKr Kr)
  refine CallK.data (fun _ => Spec.args (s2) (by (first | exact ArgsLe.refl | (repeat (first | exact True.intro | refine And.intro (by first | exact AvLe.refl | exact AvLe.loose | exact AvLe.nil | exact AvLe.nilT | exact AvLe.slk | (refine AvLe.agg ?_; exact ArgsLe.refl) | (refine AvLe.agg ?_; (repeat (first | exact True.intro | refine And.intro (by first | exact AvLe.refl | exact AvLe.loose | exact AvLe.nil | exact AvLe.nilT | exact AvLe.slk) ?_)))) ?_))))) rfl ?_
  simp only [go_sem]
  (repeat (refine ⟨by (first | exact True.intro | omega | rfl | (simp; done) | (simp; omega)), ?_⟩)); try (refine hKr _ ?_; clear hKr Kr)
  refine T.ret (Fin.dataD rfl rfl rfl)
end Go.Proofs
