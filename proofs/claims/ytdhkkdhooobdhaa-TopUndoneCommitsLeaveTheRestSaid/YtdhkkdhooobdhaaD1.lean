/- Documents: marks, edits; contracts of the functions that carry a mark. -/
import Derived.Test.YtdhkkdhooobdhaaDFacts
import Derived.Test.YtdhkkdhooobdhaaCoreR
set_option linter.unusedVariables false
set_option linter.unusedSimpArgs false
namespace Go.Proofs
open Go Go.Ideal
set_option maxRecDepth 8000
set_option maxHeartbeats 4000000

structure Mark where
  id : Int
  f : Int
  t : Int
  w : Bool
  deriving DecidableEq, Inhabited
structure Doc where
  s : List UInt8
  m : List Mark
  deriving DecidableEq, Inhabited
structure Edit where
  k : Int
  a : Int
  n : Int
  t : Int
  s : List UInt8
  deriving DecidableEq, Inhabited
@[go_sem] def mkA (m : Mark) : AV := .agg [.int .i64 m.id, .int .i64 m.f, .int .i64 m.t, .bool m.w]
@[go_sem] def editA (e : Edit) : AV := .agg [.int .i64 e.k, .int .i64 e.a, .int .i64 e.n, .int .i64 e.t, .str e.s]
def mksOf (l : List Mark) : List AV := l.map mkA
@[go_sem] theorem mksOf_len (l : List Mark) : (mksOf l).length = l.length := by simp [mksOf]
@[go_sem] theorem mksOf_get {l : List Mark} {i : Nat} (h : i < l.length) : (mksOf l).getD i .junk = mkA (l.getD i default) := by simp [mksOf, List.getD, h]
theorem mksOf_app (l m : List Mark) : mksOf (l ++ m) = mksOf l ++ mksOf m := by simp [mksOf]
@[go_sem] theorem mksOf_nil : mksOf [] = [] := rfl
@[go_sem] theorem mksOf_take (l : List Mark) (n : Nat) : (mksOf l).take n = mksOf (l.take n) := by simp [mksOf]
@[go_sem] theorem mksOf_drop (l : List Mark) (n : Nat) : (mksOf l).drop n = mksOf (l.drop n) := by simp [mksOf]
@[go_sem] def docA (d : Doc) : AV := .agg [.str d.s, .sl false 4 (mksOf d.m)]
def noMark : Mark := ⟨0, 0, 0, false⟩
def noDoc : Doc := ⟨[], []⟩

theorem take_succ_d {α : Type} [Inhabited α] {l : List α} {j : Nat} (h : j < l.length) : l.take (j + 1) = l.take j ++ [l.getD j default] := by
  rw [List.take_add_one]; simp [List.getD, h]
theorem drop_d {α : Type} [Inhabited α] {l : List α} {j : Nat} (h : j < l.length) : l.drop j = l.getD j default :: l.drop (j + 1) := by
  rw [List.drop_eq_getElem_cons h]; simp [List.getD, h]

/-! ### Carrying -/
def shutP (p a n : Int) : Int := if p ≤ a then p else if p - a ≤ n then a else p - n
def insM (a n : Int) (m : Mark) : Mark := if m.t ≤ a then m else if m.f ≥ a then ⟨m.id, m.f + n, m.t + n, m.w⟩ else ⟨m.id, m.f, m.t + n, false⟩
/-- By a Delete, even if nothing remains. -/
def delW (a n : Int) (m : Mark) : Mark := ⟨m.id, shutP m.f a n, shutP m.t a n, m.w && decide (shutP m.t a n - shutP m.f a n = m.t - m.f)⟩
def delM (a n : Int) (m : Mark) : Option Mark := if shutP m.t a n ≤ shutP m.f a n then none else some (delW a n m)
def movM (e : Edit) (m : Mark) : Option Mark :=
  if m.f ≥ e.a ∧ m.t - e.a ≤ e.n then some ⟨m.id, m.f + (e.t - e.a), m.t + (e.t - e.a), m.w⟩
  else match delM e.a e.n m with
    | none => none
    | some m => some (insM e.t e.n m)
def carM (e : Edit) (m : Mark) : Option Mark :=
  if e.k = 1 then some (insM e.a e.s.length m) else if e.k = 2 then delM e.a e.n m else if e.k = 3 ∧ e.n > 0 then movM e m else some m
/-- Places that are small enough. -/
def Sm (p : Int) : Prop := 0 ≤ p ∧ p ≤ 100000
def SmM (m : Mark) : Prop := Sm m.f ∧ Sm m.t
def SmE (e : Edit) : Prop := Sm e.a ∧ Sm e.n ∧ Sm e.t ∧ e.s.length ≤ 100000
/-- As far as they are used. -/
def SmW (e : Edit) : Prop := Sm e.a ∧ (e.k ≠ 1 → Sm e.n) ∧ (e.k = 3 → Sm e.t) ∧ e.s.length ≤ 100000
@[go_sem] def omA (r : Option Mark) : AV := .tup [mkA (r.getD noMark), .bool r.isSome]

theorem inserted1_spec (a n : Int) (m : Mark) (hm : SmM m) (hn : Sm n) : Ideal.Spec Try.prog 73 [mkA m, .cp [.int .i64 a], .cp [.int .i64 n]] (omA (some (insM a n m))) none := by
  obtain ⟨⟨h1, h2⟩, h3, h4⟩ := hm
  obtain ⟨h5, h6⟩ := hn
  refine Ideal.Spec.of_MD (n := 33) (fn := Try.f73) rfl rfl rfl rfl rfl rfl rfl fun w ok => ?_
  refine T.post [.tmp 4] ?_
  refine T.sregD 33 [0, 1, 2, 3, 4, 5, 12, 17] fun Kr hKr => ?_
  simp only [go_sem]
  (repeat (refine ⟨by (first | exact True.intro | omega | rfl | (simp; done) | (simp; omega)), ?_⟩)); try (refine hKr _ ?_; clear hKr Kr)
  refine T.seqK fun K126 hK126 => ?_
  refine T.block ?_
  refine T.sregD 33 [0, 1, 2, 3, 4, 5, 12, 17] fun Kr hKr => ?_
  simp only [go_sem]
  (repeat (refine ⟨by (first | exact True.intro | omega | rfl | (simp; done) | (simp; omega)), ?_⟩)); try (refine hKr _ ?_; clear hKr Kr)
  refine T.condTD rfl rfl (fun hb => ?_) (fun hb => ?_) <;> simp at hb
  · -- yes
    have e : insM a n m = m := by simp [insM, hb]
    refine T.skip ?_
    refine hK126 _ ?_
    refine T.sregD 33 [0, 1, 2, 3, 4, 5, 12, 17] fun Kr hKr => ?_
    simp only [go_sem]
    (repeat (refine ⟨by (first | exact True.intro | omega | rfl | (simp; done) | (simp; omega)), ?_⟩)); try (refine hKr _ ?_; clear hKr Kr)
    refine T.ret ?_
    simp only [go_sem]
    exact ⟨ResCellD rfl rfl rfl rfl (by simp only [go_sem]) (by simp only [go_sem, e]) rfl, ResAtD rfl rfl rfl, trivial⟩
  have hb' : ¬ m.t ≤ a := by omega
  refine T.sregD 33 [0, 1, 2, 3, 4, 5, 12, 17] fun Kr hKr => ?_
  simp only [go_sem]
  (repeat (refine ⟨by (first | exact True.intro | omega | rfl | (simp; done) | (simp; omega)), ?_⟩)); try (refine hKr _ ?_; clear hKr Kr)
  refine T.condTD rfl rfl (fun hc => ?_) (fun hc => ?_) <;> simp at hc
  · -- yes
    have e : insM a n m = ⟨m.id, m.f + n, m.t + n, m.w⟩ := by simp [insM, hb', hc]
    refine T.sregD 33 [0, 1, 2, 3, 4, 5, 12, 17] fun Kr hKr => ?_
    simp only [go_sem]
    (repeat (refine ⟨by (first | exact True.intro | omega | rfl | (simp; done) | (simp; omega)), ?_⟩)); try (refine hKr _ ?_; clear hKr Kr)
    refine T.regD 33 [0, 1, 2, 3, 4, 5, 12, 17] fun Kr hKr => ?_
    simp only [go_sem]
    (repeat (refine ⟨by (first | exact True.intro | omega | rfl | (simp; done) | (simp; omega)), ?_⟩)); try (refine hKr _ ?_; clear hKr Kr)
    refine hK126 _ ?_
    refine T.sregD 33 [0, 1, 2, 3, 4, 5, 12, 17] fun Kr hKr => ?_
    simp only [go_sem]
    (repeat (refine ⟨by (first | exact True.intro | omega | rfl | (simp; done) | (simp; omega)), ?_⟩)); try (refine hKr _ ?_; clear hKr Kr)
    refine T.ret ?_
    simp only [go_sem]
    exact ⟨ResCellD rfl rfl rfl rfl (by simp only [go_sem]) (by simp only [go_sem, e]) rfl, ResAtD rfl rfl rfl, trivial⟩
  have hc' : ¬ m.f ≥ a := by omega
  have e : insM a n m = ⟨m.id, m.f, m.t + n, false⟩ := by simp [insM, hb', hc']
  refine T.sregD 33 [0, 1, 2, 3, 4, 5, 12, 17] fun Kr hKr => ?_
  simp only [go_sem]
  (repeat (refine ⟨by (first | exact True.intro | omega | rfl | (simp; done) | (simp; omega)), ?_⟩)); try (refine hKr _ ?_; clear hKr Kr)
  refine T.regD 33 [0, 1, 2, 3, 4, 5, 12, 17] fun Kr hKr => ?_
  simp only [go_sem]
  (repeat (refine ⟨by (first | exact True.intro | omega | rfl | (simp; done) | (simp; omega)), ?_⟩)); try (refine hKr _ ?_; clear hKr Kr)
  refine hK126 _ ?_
  refine T.sregD 33 [0, 1, 2, 3, 4, 5, 12, 17] fun Kr hKr => ?_
  simp only [go_sem]
  (repeat (refine ⟨by (first | exact True.intro | omega | rfl | (simp; done) | (simp; omega)), ?_⟩)); try (refine hKr _ ?_; clear hKr Kr)
  refine T.ret ?_
  simp only [go_sem]
  exact ⟨ResCellD rfl rfl rfl rfl (by simp only [go_sem]) (by simp only [go_sem, e]) rfl, ResAtD rfl rfl rfl, trivial⟩

theorem deleted1_spec (p a n : Int) (hp : Sm p) (ha : Sm a) (hn : Sm n) : Ideal.Spec Try.prog 74 [.int .i64 p, .cp [.int .i64 a], .cp [.int .i64 n]] (.int .i64 (shutP p a n)) none := by
  obtain ⟨h1, h2⟩ := hp
  obtain ⟨h3, h4⟩ := ha
  obtain ⟨h5, h6⟩ := hn
  refine Ideal.Spec.of_TD (n := 20) (fn := Try.f74) rfl rfl rfl rfl rfl rfl rfl fun w ok => ?_
  refine T.sregD 20 [0, 1, 2, 4, 5, 10] fun Kr hKr => ?_
  simp only [go_sem]
  (repeat (refine ⟨by (first | exact True.intro | omega | rfl | (simp; done) | (simp; omega)), ?_⟩)); try (refine hKr _ ?_; clear hKr Kr)
  refine T.seqK fun K127 hK127 => ?_
  refine T.block ?_
  refine T.sregD 20 [0, 1, 2, 4, 5, 10] fun Kr hKr => ?_
  simp only [go_sem]
  (repeat (refine ⟨by (first | exact True.intro | omega | rfl | (simp; done) | (simp; omega)), ?_⟩)); try (refine hKr _ ?_; clear hKr Kr)
  refine T.condTD rfl rfl (fun hb => ?_) (fun hb => ?_) <;> simp at hb
  · -- yes
    refine T.sregD 20 [0, 1, 2, 4, 5, 10] fun Kr hKr => ?_
    simp only [go_sem]
    (repeat (refine ⟨by (first | exact True.intro | omega | rfl | (simp; done) | (simp; omega)), ?_⟩)); try (refine hKr _ ?_; clear hKr Kr)
    refine T.ret (Fin.dataD (by simp [slook, shutP, hb]) rfl rfl)
  have hb' : ¬ p ≤ a := by omega
  refine T.sregD 20 [0, 1, 2, 4, 5, 10] fun Kr hKr => ?_
  simp only [go_sem]
  (repeat (refine ⟨by (first | exact True.intro | omega | rfl | (simp; done) | (simp; omega)), ?_⟩)); try (refine hKr _ ?_; clear hKr Kr)
  refine T.condTD rfl rfl (fun hc => ?_) (fun hc => ?_) <;> simp at hc
  · -- yes
    refine T.sregD 20 [0, 1, 2, 4, 5, 10] fun Kr hKr => ?_
    simp only [go_sem]
    (repeat (refine ⟨by (first | exact True.intro | omega | rfl | (simp; done) | (simp; omega)), ?_⟩)); try (refine hKr _ ?_; clear hKr Kr)
    refine T.ret (Fin.dataD (by simp [slook, shutP, hb', hc]) rfl rfl)
  have hc' : ¬ p - a ≤ n := by omega
  refine T.skip ?_
  refine hK127 _ ?_
  refine T.sregD 20 [0, 1, 2, 4, 5, 10] fun Kr hKr => ?_
  simp only [go_sem]
  (repeat (refine ⟨by (first | exact True.intro | omega | rfl | (simp; done) | (simp; omega)), ?_⟩)); try (refine hKr _ ?_; clear hKr Kr)
  refine T.ret (Fin.dataD (by simp [slook, shutP, hb', hc']) rfl rfl)

theorem shutP_sm {p a n : Int} (hp : Sm p) (ha : Sm a) (hn : Sm n) : Sm (shutP p a n) := by
  unfold shutP Sm at *
  split
  · omega
  · split <;> omega

theorem deleted2_spec (a n : Int) (m : Mark) (hm : SmM m) (ha : Sm a) (hn : Sm n) : Ideal.Spec Try.prog 75 [mkA m, .cp [.fn 74 [.cp [.int .i64 a], .cp [.int .i64 n]]]] (omA (delM a n m)) none := by
  have s1 := deleted1_spec m.f a n hm.1 ha hn
  have s2 := deleted1_spec m.t a n hm.2 ha hn
  obtain ⟨h1, h2⟩ := hm.1
  obtain ⟨h3, h4⟩ := hm.2
  obtain ⟨h5, h6⟩ := shutP_sm hm.1 ha hn
  obtain ⟨h7, h8⟩ := shutP_sm hm.2 ha hn
  refine Ideal.Spec.of_MD (n := 38) (fn := Try.f75) rfl rfl rfl rfl rfl rfl rfl fun w ok => ?_
  refine T.post [.tmp 3] ?_
  refine T.sregD 38 [0, 1, 2, 3, 4, 5, 6, 17] fun Kr hKr => ?_
  simp only [go_sem]
  (repeat (refine ⟨by (first | exact True.intro | omega | rfl | (simp; done) | (simp; omega)), ?_⟩)); try (refine hKr _ ?_; clear hKr Kr)
  refine T.sdrawD 38 [0, 1, 2, 3, 4, 5, 6, 17] (.take 0 (.take 1 (.take 2 (.take 4 (.take 5 (.take 6 (.one 3 (.one 7 (.take 8 (.take 9 .done)))))))))) [2] rfl (by decide +kernel) (by decide +kernel) fun Kr hKr => ?_
  simp only [go_sem]
  (repeat (refine ⟨by (first | exact True.intro | omega | rfl | (simp; done) | (simp; omega)), ?_⟩)); try (refine hKr _ ?_; clear hKr Kr)
  refine CallK.data (fun _ => Spec.args (s1) (by (first | exact ArgsLe.refl | (repeat (first | exact True.intro | refine And.intro (by first | exact AvLe.refl | exact AvLe.loose | exact AvLe.nil | exact AvLe.nilT | exact AvLe.slk | (refine AvLe.agg ?_; exact ArgsLe.refl) | (refine AvLe.agg ?_; (repeat (first | exact True.intro | refine And.intro (by first | exact AvLe.refl | exact AvLe.loose | exact AvLe.nil | exact AvLe.nilT | exact AvLe.slk) ?_)))) ?_))))) rfl ?_
  simp only [go_sem]
  (repeat (refine ⟨by (first | exact True.intro | omega | rfl | (simp; done) | (simp; omega)), ?_⟩)); try (refine hKr _ ?_; clear hKr Kr)
  refine CallK.data (fun _ => Spec.args (s2) (by (first | exact ArgsLe.refl | (repeat (first | exact True.intro | refine And.intro (by first | exact AvLe.refl | exact AvLe.loose | exact AvLe.nil | exact AvLe.nilT | exact AvLe.slk | (refine AvLe.agg ?_; exact ArgsLe.refl) | (refine AvLe.agg ?_; (repeat (first | exact True.intro | refine And.intro (by first | exact AvLe.refl | exact AvLe.loose | exact AvLe.nil | exact AvLe.nilT | exact AvLe.slk) ?_)))) ?_))))) rfl ?_
  simp only [go_sem]
  (repeat (refine ⟨by (first | exact True.intro | omega | rfl | (simp; done) | (simp; omega)), ?_⟩)); try (refine hKr _ ?_; clear hKr Kr)
  refine T.seqK fun K128 hK128 => ?_
  refine T.sregD 38 [0, 1, 2, 3, 4, 5, 6, 17] fun Kr hKr => ?_
  simp only [go_sem]
  (repeat (refine ⟨by (first | exact True.intro | omega | rfl | (simp; done) | (simp; omega)), ?_⟩)); try (refine hKr _ ?_; clear hKr Kr)
  refine T.condTD rfl rfl (fun hb => ?_) (fun hb => ?_) <;> simp at hb
  · -- yes
    have e : delM a n m = none := by simp [delM, hb]
    refine T.sregD 38 [0, 1, 2, 3, 4, 5, 6, 17] fun Kr hKr => ?_
    simp only [go_sem]
    (repeat (refine ⟨by (first | exact True.intro | omega | rfl | (simp; done) | (simp; omega)), ?_⟩)); try (refine hKr _ ?_; clear hKr Kr)
    refine T.ret ?_
    simp only [go_sem]
    exact ⟨ResCellD rfl rfl rfl rfl (by simp only [go_sem]) (by simp only [go_sem, e, noMark]) rfl, ResAtD (by simp [slook, e]) rfl rfl, trivial⟩
  have e : delM a n m = some (delW a n m) := by simp [delM]; omega
  refine T.skip ?_
  refine hK128 _ ?_
  have hif : ∀ (b c : Bool), (bif b then c else false) = (b && c) := by intro b c; cases b <;> rfl
  refine T.sregD 38 [0, 1, 2, 3, 4, 5, 6, 17] fun Kr hKr => ?_
  simp only [go_sem]
  (repeat (refine ⟨by (first | exact True.intro | omega | rfl | (simp; done) | (simp; omega)), ?_⟩)); try (refine hKr _ ?_; clear hKr Kr)
  refine T.sregD 38 [0, 1, 2, 3, 4, 5, 6, 17] fun Kr hKr => ?_
  simp only [go_sem]
  (repeat (refine ⟨by (first | exact True.intro | omega | rfl | (simp; done) | (simp; omega)), ?_⟩)); try (refine hKr _ ?_; clear hKr Kr)
  refine T.sregD 38 [0, 1, 2, 3, 4, 5, 6, 17] fun Kr hKr => ?_
  simp only [go_sem]
  (repeat (refine ⟨by (first | exact True.intro | omega | rfl | (simp; done) | (simp; omega)), ?_⟩)); try (refine hKr _ ?_; clear hKr Kr)
  refine T.ret ?_
  simp only [go_sem]
  exact ⟨ResCellD rfl rfl rfl rfl (by simp only [go_sem]) (by simp only [go_sem, hif, e, delW]) rfl, ResAtD (by simp [slook, e]) rfl rfl, trivial⟩

/-! The carriers -/
theorem inserted_spec (a n : Int) : Ideal.Spec Try.prog 58 [.int .i64 a, .int .i64 n] (.fn 73 [.cp [.int .i64 a], .cp [.int .i64 n]]) none := by
  refine Ideal.Spec.of_TD (n := 6) (fn := Try.f58) rfl rfl rfl rfl rfl rfl rfl fun w ok => ?_
  refine T.post [.tmp 4] ?_
  refine T.sregD 6 [0, 1, 2, 3, 4] fun Kr hKr => ?_
  simp only [go_sem]
  (repeat (refine ⟨by (first | exact True.intro | omega | rfl | (simp; done) | (simp; omega)), ?_⟩)); try (refine hKr _ ?_; clear hKr Kr)
  refine T.sregD 6 [0, 1, 2, 3, 4] fun Kr hKr => ?_
  simp only [go_sem]
  (repeat (refine ⟨by (first | exact True.intro | omega | rfl | (simp; done) | (simp; omega)), ?_⟩)); try (refine hKr _ ?_; clear hKr Kr)
  refine T.ret ?_
  simp only [go_sem]
  exact Fin.dataD rfl rfl rfl
theorem deleted_spec (a n : Int) : Ideal.Spec Try.prog 59 [.int .i64 a, .int .i64 n] (.fn 75 [.cp [.fn 74 [.cp [.int .i64 a], .cp [.int .i64 n]]]]) none := by
  refine Ideal.Spec.of_TD (n := 8) (fn := Try.f59) rfl rfl rfl rfl rfl rfl rfl fun w ok => ?_
  refine T.post [.tmp 4] ?_
  refine T.sregD 8 [0, 1, 2, 3, 4, 5] fun Kr hKr => ?_
  simp only [go_sem]
  (repeat (refine ⟨by (first | exact True.intro | omega | rfl | (simp; done) | (simp; omega)), ?_⟩)); try (refine hKr _ ?_; clear hKr Kr)
  refine T.sregD 8 [0, 1, 2, 3, 4, 5] fun Kr hKr => ?_
  simp only [go_sem]
  (repeat (refine ⟨by (first | exact True.intro | omega | rfl | (simp; done) | (simp; omega)), ?_⟩)); try (refine hKr _ ?_; clear hKr Kr)
  refine T.sregD 8 [0, 1, 2, 3, 4, 5] fun Kr hKr => ?_
  simp only [go_sem]
  (repeat (refine ⟨by (first | exact True.intro | omega | rfl | (simp; done) | (simp; omega)), ?_⟩)); try (refine hKr _ ?_; clear hKr Kr)
  refine T.ret ?_
  simp only [go_sem]
  exact Fin.dataD rfl rfl rfl
theorem moved1_spec (e : Edit) (m : Mark) (hm : SmM m) (he : SmE e) : Ideal.Spec Try.prog 76
    [mkA m, .cp [.int .i64 e.k, .int .i64 e.a, .int .i64 e.n, .int .i64 e.t, .str e.s], .cp [.fn 75 [.cp [.fn 74 [.cp [.int .i64 e.a], .cp [.int .i64 e.n]]]]], .cp [.fn 73 [.cp [.int .i64 e.t], .cp [.int .i64 e.n]]]] (omA (movM e m)) none := by
  have sd := deleted2_spec e.a e.n m hm he.1 he.2.1
  have hfs := shutP_sm hm.1 he.1 he.2.1
  have hts := shutP_sm hm.2 he.1 he.2.1
  have si := inserted1_spec e.t e.n (delW e.a e.n m) ⟨hfs, hts⟩ he.2.1
  obtain ⟨h1, h2⟩ := hm.1
  obtain ⟨h3, h4⟩ := hm.2
  obtain ⟨h5, h6⟩ := he.1
  obtain ⟨h7, h8⟩ := he.2.1
  obtain ⟨h9, h10⟩ := he.2.2.1
  refine Ideal.Spec.of_MD (n := 56) (fn := Try.f76) rfl rfl rfl rfl rfl rfl rfl fun w ok => ?_
  refine T.post [.tmp 5] ?_
  refine T.sregD 56 [0, 1, 2, 3, 4, 5, 6, 7, 22, 49] fun Kr hKr => ?_
  simp only [go_sem]
  (repeat (refine ⟨by (first | exact True.intro | omega | rfl | (simp; done) | (simp; omega)), ?_⟩)); try (refine hKr _ ?_; clear hKr Kr)
  refine T.seqK fun K129 hK129 => ?_
  refine T.sregD 56 [0, 1, 2, 3, 4, 5, 6, 7, 22, 49] fun Kr hKr => ?_
  simp only [go_sem]
  (repeat (refine ⟨by (first | exact True.intro | omega | rfl | (simp; done) | (simp; omega)), ?_⟩)); try (refine hKr _ ?_; clear hKr Kr)
  refine T.condTD rfl rfl (fun hb => ?_) (fun hb => ?_) <;> simp [Bool.cond_eq_ite] at hb
  · -- yes
    have ee : movM e m = some ⟨m.id, m.f + (e.t - e.a), m.t + (e.t - e.a), m.w⟩ := by simp only [movM]; rw [if_pos (by omega)]
    refine T.sregD 56 [0, 1, 2, 3, 4, 5, 6, 7, 22, 49] fun Kr hKr => ?_
    simp only [go_sem]
    (repeat (refine ⟨by (first | exact True.intro | omega | rfl | (simp; done) | (simp; omega)), ?_⟩)); try (refine hKr _ ?_; clear hKr Kr)
    refine T.sregD 56 [0, 1, 2, 3, 4, 5, 6, 7, 22, 49] fun Kr hKr => ?_
    simp only [go_sem]
    (repeat (refine ⟨by (first | exact True.intro | omega | rfl | (simp; done) | (simp; omega)), ?_⟩)); try (refine hKr _ ?_; clear hKr Kr)
    refine T.sregD 56 [0, 1, 2, 3, 4, 5, 6, 7, 22, 49] fun Kr hKr => ?_
    simp only [go_sem]
    (repeat (refine ⟨by (first | exact True.intro | omega | rfl | (simp; done) | (simp; omega)), ?_⟩)); try (refine hKr _ ?_; clear hKr Kr)
    refine T.ret ?_
    simp only [go_sem]
    exact ⟨ResCellD rfl rfl rfl rfl (by simp only [go_sem]) (by simp only [go_sem, ee]) rfl, ResAtD (by simp [slook, ee]) rfl rfl, trivial⟩
  have hmv : movM e m = match delM e.a e.n m with
    | none => none
    | some m => some (insM e.t e.n m) := by
    simp only [movM]; rw [if_neg (by omega)]
  refine T.skip ?_
  refine hK129 _ ?_
  by_cases hd : shutP m.t e.a e.n ≤ shutP m.f e.a e.n
  · have ee : delM e.a e.n m = none := by simp [delM, hd]
    rw [ee] at sd hmv
    simp only at hmv
    refine T.sregD 56 [0, 1, 2, 3, 4, 5, 6, 7, 22, 49] fun Kr hKr => ?_
    simp only [go_sem]
    (repeat (refine ⟨by (first | exact True.intro | omega | rfl | (simp; done) | (simp; omega)), ?_⟩)); try (refine hKr _ ?_; clear hKr Kr)
    refine CallK.tup (fun _ => Spec.args (sd) (by (first | exact ArgsLe.refl | (repeat (first | exact True.intro | refine And.intro (by first | exact AvLe.refl | exact AvLe.loose | exact AvLe.nil | exact AvLe.nilT | exact AvLe.slk | (refine AvLe.agg ?_; exact ArgsLe.refl) | (refine AvLe.agg ?_; (repeat (first | exact True.intro | refine And.intro (by first | exact AvLe.refl | exact AvLe.loose | exact AvLe.nil | exact AvLe.nilT | exact AvLe.slk) ?_)))) ?_))))) ?_
    simp only [go_sem]
    (repeat (refine ⟨by (first | exact True.intro | omega | rfl | (simp; done) | (simp; omega)), ?_⟩)); try (refine hKr _ ?_; clear hKr Kr)
    refine T.seqK fun K130 hK130 => ?_
    refine T.sregD 56 [0, 1, 2, 3, 4, 5, 6, 7, 22, 49] fun Kr hKr => ?_
    simp only [go_sem]
    (repeat (refine ⟨by (first | exact True.intro | omega | rfl | (simp; done) | (simp; omega)), ?_⟩)); try (refine hKr _ ?_; clear hKr Kr)
    refine T.condTD rfl rfl (fun hb => ?_) (fun hb => ?_) <;> simp at hb
    refine T.sregD 56 [0, 1, 2, 3, 4, 5, 6, 7, 22, 49] fun Kr hKr => ?_
    simp only [go_sem]
    (repeat (refine ⟨by (first | exact True.intro | omega | rfl | (simp; done) | (simp; omega)), ?_⟩)); try (refine hKr _ ?_; clear hKr Kr)
    refine T.ret ?_
    simp only [go_sem]
    exact ⟨ResCellD rfl rfl rfl rfl (by simp only [go_sem]) (by simp only [go_sem, hmv, noMark]) rfl, ResAtD (by simp [slook, hmv]) rfl rfl, trivial⟩
  have ee : delM e.a e.n m = some (delW e.a e.n m) := by simp only [delM]; rw [if_neg hd]
  rw [ee] at sd hmv
  simp only at hmv
  generalize delW e.a e.n m = m' at *
  refine T.sregD 56 [0, 1, 2, 3, 4, 5, 6, 7, 22, 49] fun Kr hKr => ?_
  simp only [go_sem]
  (repeat (refine ⟨by (first | exact True.intro | omega | rfl | (simp; done) | (simp; omega)), ?_⟩)); try (refine hKr _ ?_; clear hKr Kr)
  refine CallK.tup (fun _ => Spec.args (sd) (by (first | exact ArgsLe.refl | (repeat (first | exact True.intro | refine And.intro (by first | exact AvLe.refl | exact AvLe.loose | exact AvLe.nil | exact AvLe.nilT | exact AvLe.slk | (refine AvLe.agg ?_; exact ArgsLe.refl) | (refine AvLe.agg ?_; (repeat (first | exact True.intro | refine And.intro (by first | exact AvLe.refl | exact AvLe.loose | exact AvLe.nil | exact AvLe.nilT | exact AvLe.slk) ?_)))) ?_))))) ?_
  simp only [go_sem]
  (repeat (refine ⟨by (first | exact True.intro | omega | rfl | (simp; done) | (simp; omega)), ?_⟩)); try (refine hKr _ ?_; clear hKr Kr)
  refine T.seqK fun K130 hK130 => ?_
  refine T.sregD 56 [0, 1, 2, 3, 4, 5, 6, 7, 22, 49] fun Kr hKr => ?_
  simp only [go_sem]
  (repeat (refine ⟨by (first | exact True.intro | omega | rfl | (simp; done) | (simp; omega)), ?_⟩)); try (refine hKr _ ?_; clear hKr Kr)
  refine T.condTD rfl rfl (fun hb => ?_) (fun hb => ?_) <;> simp at hb
  refine T.skip ?_
  refine hK130 _ ?_
  refine T.sregD 56 [0, 1, 2, 3, 4, 5, 6, 7, 22, 49] fun Kr hKr => ?_
  simp only [go_sem]
  (repeat (refine ⟨by (first | exact True.intro | omega | rfl | (simp; done) | (simp; omega)), ?_⟩)); try (refine hKr _ ?_; clear hKr Kr)
  refine CallK.tup (fun _ => Spec.args (si) (by (first | exact ArgsLe.refl | (repeat (first | exact True.intro | refine And.intro (by first | exact AvLe.refl | exact AvLe.loose | exact AvLe.nil | exact AvLe.nilT | exact AvLe.slk | (refine AvLe.agg ?_; exact ArgsLe.refl) | (refine AvLe.agg ?_; (repeat (first | exact True.intro | refine And.intro (by first | exact AvLe.refl | exact AvLe.loose | exact AvLe.nil | exact AvLe.nilT | exact AvLe.slk) ?_)))) ?_))))) ?_
  simp only [go_sem]
  (repeat (refine ⟨by (first | exact True.intro | omega | rfl | (simp; done) | (simp; omega)), ?_⟩)); try (refine hKr _ ?_; clear hKr Kr)
  refine T.ret ?_
  simp only [go_sem]
  exact ⟨ResCellD rfl rfl rfl rfl (by simp only [go_sem]) (by simp only [go_sem, hmv]) rfl, ResAtD (by simp [slook, hmv]) rfl rfl, trivial⟩
theorem moved_spec (e : Edit) : Ideal.Spec Try.prog 60 [editA e]
    (.fn 76 [.cp [.int .i64 e.k, .int .i64 e.a, .int .i64 e.n, .int .i64 e.t, .str e.s], .cp [.fn 75 [.cp [.fn 74 [.cp [.int .i64 e.a], .cp [.int .i64 e.n]]]]], .cp [.fn 73 [.cp [.int .i64 e.t], .cp [.int .i64 e.n]]]]) none := by
  have sd := deleted_spec e.a e.n
  have si := inserted_spec e.t e.n
  refine Ideal.Spec.of_TD (n := 16) (fn := Try.f60) rfl rfl rfl rfl rfl rfl rfl fun w ok => ?_
  refine T.post [.tmp 2] ?_
  refine T.sregD 16 [0, 1, 2, 3, 4] fun Kr hKr => ?_
  simp only [go_sem]
  (repeat (refine ⟨by (first | exact True.intro | omega | rfl | (simp; done) | (simp; omega)), ?_⟩)); try (refine hKr _ ?_; clear hKr Kr)
  refine T.sdraw2D 16 [0, 1, 2, 3, 4] (.take 0 (.take 1 (.take 2 (.take 3 (.take 5 (.take 6 (.take 7 (.take 8 (.three 4 (.three 9 (.two 10 (.one 11 (.one 12 (.one 13 .done))) 11 (.one 10 (.one 12 (.one 13 .done)))) 10 (.two 9 (.one 11 (.one 12 (.one 13 .done))) 11 (.one 9 (.one 12 (.one 13 .done)))) 11 (.two 9 (.one 10 (.one 12 (.one 13 .done))) 10 (.one 9 (.one 12 (.one 13 .done))))) 10 (.two 4 (.two 9 (.one 11 (.one 12 (.one 13 .done))) 11 (.one 9 (.one 12 (.one 13 .done)))) 11 (.one 4 (.one 9 (.one 12 (.one 13 .done))))) 11 (.two 4 (.two 9 (.one 10 (.one 12 (.one 13 .done))) 10 (.one 9 (.one 12 (.one 13 .done)))) 10 (.one 4 (.one 9 (.one 12 (.one 13 .done)))))))))))))) [1] rfl (by decide +kernel) (by decide +kernel) ?x1 ?h1 (fun Kr hKr => ?all1) ?rest1
  case all1 =>
    simp only [go_sem]
    (repeat (any_goals (first | exact hKr _ (.inl rfl) | exact hKr _ (.inr (by (repeat (first | exact True.intro | refine And.intro (by first | rfl | (simp [look]; done)) ?_)))) | ((first | refine CallK.dataA (sd) ?_ rfl ?_ | refine CallK.tupA (sd) ?_ ?_ | refine CallK.ownA (sd) ?_ ?_); (focus ((first | exact ArgsLe.refl | (repeat (first | exact True.intro | refine And.intro (by first | exact AvLe.refl | exact AvLe.loose | exact AvLe.nil | exact AvLe.nilT | exact AvLe.slk | (refine AvLe.agg ?_; exact ArgsLe.refl) | (refine AvLe.agg ?_; (repeat (first | exact True.intro | refine And.intro (by first | exact AvLe.refl | exact AvLe.loose | exact AvLe.nil | exact AvLe.nilT | exact AvLe.slk) ?_)))) ?_))); done)); simp only [go_sem]) | ((first | refine CallK.dataA (si) ?_ rfl ?_ | refine CallK.tupA (si) ?_ ?_ | refine CallK.ownA (si) ?_ ?_); (focus ((first | exact ArgsLe.refl | (repeat (first | exact True.intro | refine And.intro (by first | exact AvLe.refl | exact AvLe.loose | exact AvLe.nil | exact AvLe.nilT | exact AvLe.slk | (refine AvLe.agg ?_; exact ArgsLe.refl) | (refine AvLe.agg ?_; (repeat (first | exact True.intro | refine And.intro (by first | exact AvLe.refl | exact AvLe.loose | exact AvLe.nil | exact AvLe.nilT | exact AvLe.slk) ?_)))) ?_))); done)); simp only [go_sem]) | (refine And.intro ?_ ?_) | (first | exact True.intro | omega | rfl | (simp; done) | (simp; omega)))))
    all_goals (first | exact hKr _ (.inl rfl) | exact hKr _ (.inr (by (repeat (first | exact True.intro | refine And.intro (by first | rfl | (simp [look]; done)) ?_)))))
  case rest1 =>
  refine T.sregD 16 [0, 1, 2, 3, 4] fun Kr hKr => ?_
  simp only [go_sem]
  (repeat (refine ⟨by (first | exact True.intro | omega | rfl | (simp; done) | (simp; omega)), ?_⟩)); try (refine hKr _ ?_; clear hKr Kr)
  refine T.ret ?_
  simp only [go_sem]
  exact Fin.dataD rfl rfl rfl
theorem carry1_spec (m : Mark) : Ideal.Spec Try.prog 61 [mkA m] (omA (some m)) none := by
  refine Ideal.Spec.of_MD (n := 5) (fn := Try.f61) rfl rfl rfl rfl rfl rfl rfl fun w ok => ?_
  refine T.post [.tmp 2] ?_
  refine T.sregD 5 [0, 1, 2, 3] fun Kr hKr => ?_
  simp only [go_sem]
  (repeat (refine ⟨by (first | exact True.intro | omega | rfl | (simp; done) | (simp; omega)), ?_⟩)); try (refine hKr _ ?_; clear hKr Kr)
  refine T.sregD 5 [0, 1, 2, 3] fun Kr hKr => ?_
  simp only [go_sem]
  (repeat (refine ⟨by (first | exact True.intro | omega | rfl | (simp; done) | (simp; omega)), ?_⟩)); try (refine hKr _ ?_; clear hKr Kr)
  refine T.ret ?_
  simp only [go_sem]
  exact ⟨ResCellD rfl rfl rfl rfl (by simp only [go_sem]) (by simp only [go_sem]) rfl, ResAtD rfl rfl rfl, trivial⟩

/-- What carries: the function, what it keeps. -/
def carF (e : Edit) : Nat := if e.k = 1 then 73 else if e.k = 2 then 75 else if e.k = 3 ∧ e.n > 0 then 76 else 61
def carC (e : Edit) : List AV := if e.k = 1 then [.cp [.int .i64 e.a], .cp [.int .i64 e.s.length]] else if e.k = 2 then [.cp [.fn 74 [.cp [.int .i64 e.a], .cp [.int .i64 e.n]]]]
  else if e.k = 3 ∧ e.n > 0 then [.cp [.int .i64 e.k, .int .i64 e.a, .int .i64 e.n, .int .i64 e.t, .str e.s], .cp [.fn 75 [.cp [.fn 74 [.cp [.int .i64 e.a], .cp [.int .i64 e.n]]]]], .cp [.fn 73 [.cp [.int .i64 e.t], .cp [.int .i64 e.n]]]]
  else []
theorem carC_cp (e : Edit) : ∀ x ∈ carC e, ∃ cs, x = .cp cs := by
  unfold carC
  split
  · simp
  · split
    · simp
    · split <;> simp
theorem car_all {l : List AV} (h : ∀ x ∈ l, ∃ cs, x = .cp cs) : l.all AV.data0 = true := by
  rw [List.all_eq_true]; intro x hx; obtain ⟨cs, rfl⟩ := h x hx; rfl
theorem car_any {l : List AV} (h : ∀ x ∈ l, ∃ cs, x = .cp cs) (k : Nat) : l.any (AV.names0 k) = false := by
  rw [List.any_eq_false]; intro x hx; obtain ⟨cs, rfl⟩ := h x hx; simp [AV.names0]
theorem car_nm {l : List AV} (h : ∀ x ∈ l, ∃ cs, x = .cp cs) : l.flatMap AV.nm0 = [] := by
  rw [List.flatMap_eq_nil_iff]; intro x hx; obtain ⟨cs, rfl⟩ := h x hx; rfl
theorem car_frz {l : List AV} (h : ∀ x ∈ l, ∃ cs, x = .cp cs) (k sz : Nat) (xs : List AV) : l.map (frz0 k sz xs) = l := by
  conv => rhs; rw [← List.map_id l]
  refine List.map_congr_left fun x hx => ?_
  obtain ⟨cs, rfl⟩ := h x hx; rfl
theorem carrier_spec (e : Edit) (m : Mark) (hm : SmM m) (he : SmW e) : Ideal.Spec Try.prog (carF e) (mkA m :: carC e) (omA (carM e m)) none := by
  unfold carF carC carM
  by_cases h1 : e.k = 1
  · rw [if_pos h1, if_pos h1, if_pos h1]
    exact inserted1_spec _ _ m hm ⟨by omega, by have := he.2.2.2; omega⟩
  rw [if_neg h1, if_neg h1, if_neg h1]
  by_cases h2 : e.k = 2
  · rw [if_pos h2, if_pos h2, if_pos h2]; exact deleted2_spec _ _ m hm he.1 (he.2.1 h1)
  rw [if_neg h2, if_neg h2, if_neg h2]
  by_cases h3 : e.k = 3 ∧ e.n > 0
  · rw [if_pos h3, if_pos h3, if_pos h3]; exact moved1_spec e m hm ⟨he.1, he.2.1 h1, he.2.2.1 h3.1, he.2.2.2⟩
  rw [if_neg h3, if_neg h3, if_neg h3]; exact carry1_spec m
theorem carry_spec (e : Edit) : Ideal.Spec Try.prog 44 [editA e] (.fn (carF e) (carC e)) none := by
  have si := inserted_spec e.a e.s.length
  have sd := deleted_spec e.a e.n
  have sm := moved_spec e
  refine Ideal.Spec.of_TD (n := 33) (fn := Try.f44) rfl rfl rfl rfl rfl rfl rfl fun w ok => ?_
  refine T.post [.tmp 2] ?_
  refine T.sregD 33 [0, 1, 2, 3, 13, 22] fun Kr hKr => ?_
  simp only [go_sem]
  (repeat (refine ⟨by (first | exact True.intro | omega | rfl | (simp; done) | (simp; omega)), ?_⟩)); try (refine hKr _ ?_; clear hKr Kr)
  refine T.seqK fun K121 hK121 => ?_
  refine T.block ?_
  refine T.sregD 33 [0, 1, 2, 3, 13, 22] fun Kr hKr => ?_
  simp only [go_sem]
  (repeat (refine ⟨by (first | exact True.intro | omega | rfl | (simp; done) | (simp; omega)), ?_⟩)); try (refine hKr _ ?_; clear hKr Kr)
  refine T.condTD rfl rfl (fun hb => ?_) (fun hb => ?_) <;> simp at hb
  · -- yes
    have ef : carF e = 73 := by simp [carF, hb]
    have ec : carC e = [.cp [.int .i64 e.a], .cp [.int .i64 e.s.length]] := by simp [carC, hb]
    refine T.sregD 33 [0, 1, 2, 3, 13, 22] fun Kr hKr => ?_
    simp only [go_sem]
    (repeat (refine ⟨by (first | exact True.intro | omega | rfl | (simp; done) | (simp; omega)), ?_⟩)); try (refine hKr _ ?_; clear hKr Kr)
    refine CallK.data (fun _ => Spec.args (si) (by (first | exact ArgsLe.refl | (repeat (first | exact True.intro | refine And.intro (by first | exact AvLe.refl | exact AvLe.loose | exact AvLe.nil | exact AvLe.nilT | exact AvLe.slk | (refine AvLe.agg ?_; exact ArgsLe.refl) | (refine AvLe.agg ?_; (repeat (first | exact True.intro | refine And.intro (by first | exact AvLe.refl | exact AvLe.loose | exact AvLe.nil | exact AvLe.nilT | exact AvLe.slk) ?_)))) ?_))))) rfl ?_
    simp only [go_sem]
    (repeat (refine ⟨by (first | exact True.intro | omega | rfl | (simp; done) | (simp; omega)), ?_⟩)); try (refine hKr _ ?_; clear hKr Kr)
    refine T.ret ?_
    simp only [go_sem]
    rw [ef, ec]; exact Fin.dataD rfl rfl rfl
  refine T.sregD 33 [0, 1, 2, 3, 13, 22] fun Kr hKr => ?_
  simp only [go_sem]
  (repeat (refine ⟨by (first | exact True.intro | omega | rfl | (simp; done) | (simp; omega)), ?_⟩)); try (refine hKr _ ?_; clear hKr Kr)
  refine T.condTD rfl rfl (fun hc => ?_) (fun hc => ?_) <;> simp at hc
  · -- yes
    have ef : carF e = 75 := by simp [carF, hc]
    have ec : carC e = [.cp [.fn 74 [.cp [.int .i64 e.a], .cp [.int .i64 e.n]]]] := by simp [carC, hc]
    refine T.sregD 33 [0, 1, 2, 3, 13, 22] fun Kr hKr => ?_
    simp only [go_sem]
    (repeat (refine ⟨by (first | exact True.intro | omega | rfl | (simp; done) | (simp; omega)), ?_⟩)); try (refine hKr _ ?_; clear hKr Kr)
    refine CallK.data (fun _ => Spec.args (sd) (by (first | exact ArgsLe.refl | (repeat (first | exact True.intro | refine And.intro (by first | exact AvLe.refl | exact AvLe.loose | exact AvLe.nil | exact AvLe.nilT | exact AvLe.slk | (refine AvLe.agg ?_; exact ArgsLe.refl) | (refine AvLe.agg ?_; (repeat (first | exact True.intro | refine And.intro (by first | exact AvLe.refl | exact AvLe.loose | exact AvLe.nil | exact AvLe.nilT | exact AvLe.slk) ?_)))) ?_))))) rfl ?_
    simp only [go_sem]
    (repeat (refine ⟨by (first | exact True.intro | omega | rfl | (simp; done) | (simp; omega)), ?_⟩)); try (refine hKr _ ?_; clear hKr Kr)
    refine T.ret ?_
    simp only [go_sem]
    rw [ef, ec]; exact Fin.dataD rfl rfl rfl
  refine T.sregD 33 [0, 1, 2, 3, 13, 22] fun Kr hKr => ?_
  simp only [go_sem]
  (repeat (refine ⟨by (first | exact True.intro | omega | rfl | (simp; done) | (simp; omega)), ?_⟩)); try (refine hKr _ ?_; clear hKr Kr)
  refine T.condTD rfl rfl (fun hd => ?_) (fun hd => ?_) <;> simp [Bool.cond_eq_ite] at hd
  · -- yes
    have ef : carF e = 76 := by simp only [carF]; rw [if_neg hb, if_neg hc, if_pos hd]
    have ec : carC e = [.cp [.int .i64 e.k, .int .i64 e.a, .int .i64 e.n, .int .i64 e.t, .str e.s], .cp [.fn 75 [.cp [.fn 74 [.cp [.int .i64 e.a], .cp [.int .i64 e.n]]]]], .cp [.fn 73 [.cp [.int .i64 e.t], .cp [.int .i64 e.n]]]] := by
      simp only [carC]; rw [if_neg hb, if_neg hc, if_pos hd]
    refine T.sregD 33 [0, 1, 2, 3, 13, 22] fun Kr hKr => ?_
    simp only [go_sem]
    (repeat (refine ⟨by (first | exact True.intro | omega | rfl | (simp; done) | (simp; omega)), ?_⟩)); try (refine hKr _ ?_; clear hKr Kr)
    refine CallK.data (fun _ => Spec.args (sm) (by (first | exact ArgsLe.refl | (repeat (first | exact True.intro | refine And.intro (by first | exact AvLe.refl | exact AvLe.loose | exact AvLe.nil | exact AvLe.nilT | exact AvLe.slk | (refine AvLe.agg ?_; exact ArgsLe.refl) | (refine AvLe.agg ?_; (repeat (first | exact True.intro | refine And.intro (by first | exact AvLe.refl | exact AvLe.loose | exact AvLe.nil | exact AvLe.nilT | exact AvLe.slk) ?_)))) ?_))))) rfl ?_
    simp only [go_sem]
    (repeat (refine ⟨by (first | exact True.intro | omega | rfl | (simp; done) | (simp; omega)), ?_⟩)); try (refine hKr _ ?_; clear hKr Kr)
    refine T.ret ?_
    simp only [go_sem]
    rw [ef, ec]; exact Fin.dataD rfl rfl rfl
  have hd' : ¬ (e.k = 3 ∧ e.n > 0) := by omega
  have ef : carF e = 61 := by simp only [carF]; rw [if_neg hb, if_neg hc, if_neg hd']
  have ec : carC e = [] := by simp only [carC]; rw [if_neg hb, if_neg hc, if_neg hd']
  refine T.skip ?_
  refine hK121 _ ?_
  refine T.sregD 33 [0, 1, 2, 3, 13, 22] fun Kr hKr => ?_
  simp only [go_sem]
  (repeat (refine ⟨by (first | exact True.intro | omega | rfl | (simp; done) | (simp; omega)), ?_⟩)); try (refine hKr _ ?_; clear hKr Kr)
  refine T.ret ?_
  simp only [go_sem]
  rw [ef, ec]; exact Fin.dataD rfl rfl rfl
theorem Carry_spec (e : Edit) (m : Mark) (hm : SmM m) (he : SmW e) : Ideal.Spec Try.prog 31 [mkA m, editA e] (omA (carM e m)) none := by
  have sc := carry_spec e
  have sr := carrier_spec e m hm he
  have a1 := car_all (carC_cp e)
  have a2 := car_any (carC_cp e)
  have a3 := car_nm (carC_cp e)
  have a4 := car_frz (carC_cp e)
  generalize carF e = cf at *
  generalize carC e = cc at *
  generalize carM e m = r at *
  refine Ideal.Spec.of_MD (n := 12) (fn := Try.f31) rfl rfl rfl rfl rfl rfl rfl fun w ok => ?_
  refine T.post [.tmp 4] ?_
  refine T.sregD 12 [0, 1, 2, 3, 4, 5] fun Kr hKr => ?_
  simp only [go_sem]
  (repeat (refine ⟨by (first | exact True.intro | omega | rfl | (simp; done) | (simp; omega)), ?_⟩)); try (refine hKr _ ?_; clear hKr Kr)
  refine T.sdrawD 12 [0, 1, 2, 3, 4, 5] (.take 0 (.take 2 (.one 1 (.one 3 (.take 4 (.take 5 (.one 6 (.take 7 .done)))))))) [2, 3] rfl (by decide +kernel) (by decide +kernel) fun Kr hKr => ?_
  simp only [go_sem]
  (repeat (refine ⟨by (first | exact True.intro | omega | rfl | (simp; done) | (simp; omega)), ?_⟩)); try (refine hKr _ ?_; clear hKr Kr)
  refine CallK.data (fun _ => sc) (show cc.all AV.data0 = true from a1) ?_
  simp only [go_sem, a1, a2, a3, a4]
  (repeat (refine ⟨by (first | exact True.intro | omega | rfl | (simp; done) | (simp; omega)), ?_⟩)); try (refine hKr _ ?_; clear hKr Kr)
  refine CallK.tup (fun _ => Spec.args (sr) (by (first | exact ArgsLe.refl | (repeat (first | exact True.intro | refine And.intro (by first | exact AvLe.refl | exact AvLe.loose | exact AvLe.nil | exact AvLe.nilT | exact AvLe.slk | (refine AvLe.agg ?_; exact ArgsLe.refl) | (refine AvLe.agg ?_; (repeat (first | exact True.intro | refine And.intro (by first | exact AvLe.refl | exact AvLe.loose | exact AvLe.nil | exact AvLe.nilT | exact AvLe.slk) ?_)))) ?_))))) ?_
  simp only [go_sem, a1, a2, a3, a4]
  (repeat (refine ⟨by (first | exact True.intro | omega | rfl | (simp; done) | (simp; omega)), ?_⟩)); try (refine hKr _ ?_; clear hKr Kr)
  refine T.ret ?_
  simp only [go_sem]
  exact ⟨ResCellD rfl rfl rfl rfl (by simp only [go_sem]) (by simp only [go_sem]) rfl, ResAtD rfl rfl rfl, trivial⟩
end Go.Proofs
