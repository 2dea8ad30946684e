/- Messages: contracts of what a client does with a packet. -/
import Derived.Test.YtdhkkdhooobdhaaN1
set_option linter.unusedVariables false
set_option linter.unusedSimpArgs false
namespace Go.Proofs
open Go Go.Ideal
set_option maxRecDepth 8000
set_option maxHeartbeats 4000000

structure Packet where
  k : Int
  app : Int
  id : Int
  s : List UInt8
  deriving DecidableEq, Inhabited
structure Client where
  d : Doc
  has : List Int
  ref : List Int
  deriving DecidableEq, Inhabited
@[go_sem] def pkA (p : Packet) : AV := .agg [.int .i64 p.k, .int .i64 p.app, .int .i64 p.id, .str p.s]
def pksOf (l : List Packet) : List AV := l.map pkA
@[go_sem] theorem pksOf_len (l : List Packet) : (pksOf l).length = l.length := by simp [pksOf]
@[go_sem] theorem pksOf_get {l : List Packet} {i : Nat} (h : i < l.length) : (pksOf l).getD i .junk = pkA (l.getD i default) := by simp [pksOf, List.getD, h]
@[go_sem] theorem pksOf_nil : pksOf [] = [] := rfl
@[go_sem] theorem pksOf_take (l : List Packet) (n : Nat) : (pksOf l).take n = pksOf (l.take n) := by simp [pksOf]
@[go_sem] theorem pksOf_drop (l : List Packet) (n : Nat) : (pksOf l).drop n = pksOf (l.drop n) := by simp [pksOf]
@[go_sem] def clA (c : Client) : AV := .agg [.str c.d.s, .sl false 4 (mksOf c.d.m), .sl false 1 (intsOf c.has), .sl false 1 (intsOf c.ref)]

def idB (n : Int) : Bool := decide (n ≥ 0) && decide (n ≤ 1000000)
def noteB (s : List UInt8) : Bool := !(decide ((s.length : Int) < 1) || decide ((s.length : Int) > 40)) && plainB s
def hasN (l : List Int) (id : Int) : Bool := l.any fun x => decide (x = id)
def fndI (l : List Int) (id : Int) : Int := match l.findIdx? (fun x => decide (x = id)) with | some i => i | none => -1
def withL (l : List Int) (id : Int) : List Int := l.takeWhile (fun x => decide (x < id)) ++ id :: l.dropWhile (fun x => decide (x < id))
theorem fndI_none {l : List Int} {id : Int} (h : (l.take l.length).any (fun x => decide (x = id)) = false) : fndI l id = -1 := by
  rw [List.take_length] at h
  have : l.findIdx? (fun x => decide (x = id)) = none := by
    rw [List.findIdx?_eq_none_iff]; intro x hx
    simpa using List.any_eq_false.1 h x hx
  simp only [fndI, this]
theorem fndI_at {l : List Int} {id : Int} {i : Nat} (hi : i < l.length) (hn : (l.take i).any (fun x => decide (x = id)) = false) (h : l.getD i default = id) : fndI l id = i := by
  have : l.findIdx? (fun x => decide (x = id)) = some i := by
    rw [List.findIdx?_eq_some_iff_getElem]
    refine ⟨hi, by simpa [List.getD, hi] using h, fun j hj => ?_⟩
    have hjl : j < l.length := by omega
    have := List.any_eq_false.1 hn l[j] (by
      rw [List.mem_take_iff_getElem]; exact ⟨j, by omega, rfl⟩)
    simpa using this
  simp only [fndI, this]
theorem fndI_has (l : List Int) (id : Int) : decide (fndI l id ≥ 0) = hasN l id := by
  unfold fndI hasN
  cases h : l.findIdx? (fun x => decide (x = id)) with
  | none =>
    rw [List.findIdx?_eq_none_iff] at h
    have : l.any (fun x => decide (x = id)) = false := List.any_eq_false.2 fun x hx => by simpa using h x hx
    rw [this]; rfl
  | some i =>
    obtain ⟨h1, h2, _⟩ := List.findIdx?_eq_some_iff_getElem.1 h
    have : l.any (fun x => decide (x = id)) = true := List.any_eq_true.2 ⟨l[i], List.getElem_mem h1, h2⟩
    rw [this]; simp

theorem isId_spec (n : Int) : Ideal.Spec Try.prog 20 [.int .i64 n] (.bool (idB n)) none := by
  refine Ideal.Spec.of_TD (n := 9) (fn := Try.f20) rfl rfl rfl rfl rfl rfl rfl fun w ok => ?_
  refine T.sregD 9 [0, 2] fun Kr hKr => ?_
  simp only [go_sem]
  (repeat (refine ⟨by (first | exact True.intro | omega | rfl | (simp; done) | (simp; omega)), ?_⟩)); try (refine hKr _ ?_; clear hKr Kr)
  refine T.sregD 9 [0, 2] fun Kr hKr => ?_
  simp only [go_sem]
  (repeat (refine ⟨by (first | exact True.intro | omega | rfl | (simp; done) | (simp; omega)), ?_⟩)); try (refine hKr _ ?_; clear hKr Kr)
  refine T.ret (Fin.dataD (by simp only [slook, idB, cond_and]; rfl) rfl rfl)
theorem isNote_spec (s : List UInt8) (hl : s.length < 2 ^ 31) : Ideal.Spec Try.prog 21 [.str s] (.bool (noteB s)) none := by
  refine Ideal.Spec.of_TD (n := 28) (fn := Try.f21) rfl rfl rfl rfl rfl rfl rfl fun w ok => ?_
  refine T.sregD 28 [0, 2, 3, 11, 13, 14, 15, 26] fun Kr hKr => ?_
  simp only [go_sem]
  (repeat (refine ⟨by (first | exact True.intro | omega | rfl | (simp; done) | (simp; omega)), ?_⟩)); try (refine hKr _ ?_; clear hKr Kr)
  refine T.seqK fun K71 hK71 => ?_
  refine T.sregD 28 [0, 2, 3, 11, 13, 14, 15, 26] fun Kr hKr => ?_
  simp only [go_sem, cond_or]
  (repeat (refine ⟨by (first | exact True.intro | omega | rfl | (simp; done) | (simp; omega)), ?_⟩)); try (refine hKr _ ?_; clear hKr Kr)
  refine T.condTD rfl rfl (fun hb => ?_) (fun hb => ?_)
  · refine T.sregD 28 [0, 2, 3, 11, 13, 14, 15, 26] fun Kr hKr => ?_
    simp only [go_sem]
    (repeat (refine ⟨by (first | exact True.intro | omega | rfl | (simp; done) | (simp; omega)), ?_⟩)); try (refine hKr _ ?_; clear hKr Kr)
    have e : noteB s = false := by unfold noteB; rw [hb]; rfl
    refine T.ret (Fin.dataD (by rw [e]; rfl) rfl rfl)
  have e : noteB s = plainB s := by unfold noteB; rw [hb]; rfl
  refine T.skip ?_
  refine hK71 _ ?_
  refine T.seqK fun K93 hK93 => ?_
  refine T.sregD 28 [0, 2, 3, 11, 13, 14, 15, 26] fun Kr hKr => ?_
  simp only [go_sem]
  (repeat (refine ⟨by (first | exact True.intro | omega | rfl | (simp; done) | (simp; omega)), ?_⟩)); try (refine hKr _ ?_; clear hKr Kr)
  refine T.bloop (fun i : Nat => ⟨dense 28 [(0, .str s), (13, .int .i64 s.length), (14, .int .i64 i)], []⟩) (fun i => i ≤ s.length ∧ plainB (s.take i) = true) (fun i => s.length - i) 0 ⟨by omega, rfl⟩ ?_ fun i hi => ?_
  · refine Le.fitS (by (repeat (first | exact DFit.nil | refine DFit.cons (by first | rfl | (simp [slook]; done) | (simp [slook]; omega)) ?_))) (by (repeat (first | exact True.intro | refine And.intro (by first | rfl | (simp [look]; done)) ?_)))
  obtain ⟨hi, hp⟩ := hi
  refine T.sregD 28 [0, 2, 3, 11, 13, 14, 15, 26] fun Kr hKr => ?_
  simp only [go_sem]
  (repeat (refine ⟨by (first | exact True.intro | omega | rfl | (simp; done) | (simp; omega)), ?_⟩)); try (refine hKr _ ?_; clear hKr Kr)
  refine T.seqK fun K94 hK94 => ?_
  refine T.condFD rfl rfl (fun hb => ?_) (fun hb => ?_) <;> simp at hb
  · -- no: exit
    refine T.exit ?_
    simp only [if_true]
    refine hK93 _ ?_
    refine T.sregD 28 [0, 2, 3, 11, 13, 14, 15, 26] fun Kr hKr => ?_
    simp only [go_sem]
    (repeat (refine ⟨by (first | exact True.intro | omega | rfl | (simp; done) | (simp; omega)), ?_⟩)); try (refine hKr _ ?_; clear hKr Kr)
    have : i = s.length := by omega
    subst this
    rw [List.take_length] at hp
    refine T.ret (Fin.dataD (by rw [e, hp]; rfl) rfl rfl)
  refine T.skip ?_
  refine hK94 _ ?_
  refine T.seqK fun K95 hK95 => ?_
  refine T.block ?_
  refine T.sregD 28 [0, 2, 3, 11, 13, 14, 15, 26] fun Kr hKr => ?_
  simp only [go_sem]
  (repeat (refine ⟨by (first | exact True.intro | omega | rfl | (simp; done) | (simp; omega)), ?_⟩)); try (refine hKr _ ?_; clear hKr Kr)
  refine T.sregD 28 [0, 2, 3, 11, 13, 14, 15, 26] fun Kr hKr => ?_
  simp only [go_sem, hb]
  (repeat (refine ⟨by (first | exact True.intro | omega | rfl | (simp; done) | (simp; omega)), ?_⟩)); try (refine hKr _ ?_; clear hKr Kr)
  refine T.condTD rfl rfl (fun hc => ?_) (fun hc => ?_) <;> simp only [cond_or] at hc
  · -- yes
    refine T.sregD 28 [0, 2, 3, 11, 13, 14, 15, 26] fun Kr hKr => ?_
    simp only [go_sem]
    (repeat (refine ⟨by (first | exact True.intro | omega | rfl | (simp; done) | (simp; omega)), ?_⟩)); try (refine hKr _ ?_; clear hKr Kr)
    have : plainB s = false := plain_bad hb (by simp only [okB]; rw [Bool.not_eq_false']; simpa using hc)
    refine T.ret (Fin.dataD (by rw [e, this]; rfl) rfl rfl)
  refine T.skip ?_
  refine hK95 _ ?_
  refine T.regD 28 [0, 2, 3, 11, 13, 14, 15, 26] fun Kr hKr => ?_
  simp only [go_sem]
  (repeat (refine ⟨by (first | exact True.intro | omega | rfl | (simp; done) | (simp; omega)), ?_⟩)); try (refine hKr _ ?_; clear hKr Kr)
  refine ⟨i + 1, ?_, ?_, Le.fitS (by (repeat (first | exact DFit.nil | refine DFit.cons (by first | rfl | (simp [slook]; done) | (simp [slook]; omega)) ?_))) ?_⟩
  · exact ⟨by omega, plain_step hb hp (by simp only [okB]; rw [Bool.not_eq_true']; simpa using hc)⟩
  · omega
  · (repeat (first | exact True.intro | refine And.intro (by first | rfl | (simp [look]; done)) ?_))
theorem has1_spec (v : Int) : Ideal.Spec Try.prog 49 [.int .i64 v] (.int .i64 v) none := by
  refine Ideal.Spec.of_TD (n := 4) (fn := Try.f49) rfl rfl rfl rfl rfl rfl rfl fun w ok => ?_
  refine T.sregD 4 [0, 2] fun Kr hKr => ?_
  simp only [go_sem]
  (repeat (refine ⟨by (first | exact True.intro | omega | rfl | (simp; done) | (simp; omega)), ?_⟩)); try (refine hKr _ ?_; clear hKr Kr)
  refine T.sregD 4 [0, 2] fun Kr hKr => ?_
  simp only [go_sem]
  (repeat (refine ⟨by (first | exact True.intro | omega | rfl | (simp; done) | (simp; omega)), ?_⟩)); try (refine hKr _ ?_; clear hKr Kr)
  refine T.ret (Fin.dataD rfl rfl rfl)
theorem search_spec (l : List Int) (id : Int) (hl : l.length ≤ 100000) : Ideal.Spec Try.prog 48 [.sl false 1 (intsOf l), .int .i64 id, .fn 49 []] (.int .i64 (fndI l id)) none := by
  refine Ideal.Spec.of_TD (n := 23) (fn := Try.f48) rfl rfl rfl rfl rfl rfl rfl fun w ok => ?_
  refine T.sregD 23 [0, 1, 2, 6, 7, 8, 9, 10, 11, 12, 20] fun Kr hKr => ?_
  simp only [go_sem]
  (repeat (refine ⟨by (first | exact True.intro | omega | rfl | (simp; done) | (simp; omega)), ?_⟩)); try (refine hKr _ ?_; clear hKr Kr)
  refine T.seqK fun K1 hK1 => ?_
  refine T.sregD 23 [0, 1, 2, 6, 7, 8, 9, 10, 11, 12, 20] fun Kr hKr => ?_
  simp only [go_sem]
  (repeat (refine ⟨by (first | exact True.intro | omega | rfl | (simp; done) | (simp; omega)), ?_⟩)); try (refine hKr _ ?_; clear hKr Kr)
  refine T.bloop (fun i : Nat => ⟨dense 23 [(0, .sl false 1 (intsOf l)), (1, .int .i64 id), (2, .fn 49 []), (9, .sl false 1 (intsOf l)), (10, .int .i64 l.length), (11, .int .i64 i)], []⟩) (fun i => i ≤ l.length ∧ (l.take i).any (fun x => decide (x = id)) = false) (fun i => l.length - i) 0 (by simp) ?_ fun i hi => ?_
  · refine Le.fitS (by (repeat (first | exact DFit.nil | refine DFit.cons (by first | rfl | (simp [slook]; done) | (simp [slook]; omega)) ?_))) (by (repeat (first | exact True.intro | refine And.intro (by first | rfl | (simp [look]; done)) ?_)))
  obtain ⟨hi, hn⟩ := hi
  refine T.sregD 23 [0, 1, 2, 6, 7, 8, 9, 10, 11, 12, 20] fun Kr hKr => ?_
  simp only [go_sem]
  (repeat (refine ⟨by (first | exact True.intro | omega | rfl | (simp; done) | (simp; omega)), ?_⟩)); try (refine hKr _ ?_; clear hKr Kr)
  refine T.seqK fun K2 hK2 => ?_
  refine T.condFD rfl rfl (fun hb => ?_) (fun hb => ?_) <;> simp at hb
  · -- no: exit
    refine T.exit ?_
    simp only [if_true]
    refine hK1 _ ?_
    have : i = l.length := by omega
    subst this
    have ee : fndI l id = -1 := fndI_none hn
    refine T.sregD 23 [0, 1, 2, 6, 7, 8, 9, 10, 11, 12, 20] fun Kr hKr => ?_
    simp only [go_sem]
    (repeat (refine ⟨by (first | exact True.intro | omega | rfl | (simp; done) | (simp; omega)), ?_⟩)); try (refine hKr _ ?_; clear hKr Kr)
    refine T.ret (Fin.dataD (by rw [ee]; rfl) rfl rfl)
  refine T.skip ?_
  refine hK2 _ ?_
  refine T.seqK fun K3 hK3 => ?_
  refine T.block ?_
  have h1 := has1_spec (l.getD i default)
  refine T.sregD 23 [0, 1, 2, 6, 7, 8, 9, 10, 11, 12, 20] fun Kr hKr => ?_
  simp only [go_sem, hb]
  (repeat (refine ⟨by (first | exact True.intro | omega | rfl | (simp; done) | (simp; omega)), ?_⟩)); try (refine hKr _ ?_; clear hKr Kr)
  refine T.sregD 23 [0, 1, 2, 6, 7, 8, 9, 10, 11, 12, 20] fun Kr hKr => ?_
  simp only [go_sem]
  (repeat (refine ⟨by (first | exact True.intro | omega | rfl | (simp; done) | (simp; omega)), ?_⟩)); try (refine hKr _ ?_; clear hKr Kr)
  refine CallK.data (fun _ => Spec.args (h1) (by (first | exact ArgsLe.refl | (repeat (first | exact True.intro | refine And.intro (by first | exact AvLe.refl | exact AvLe.loose | exact AvLe.nil | exact AvLe.nilT | exact AvLe.slk | (refine AvLe.agg ?_; exact ArgsLe.refl) | (refine AvLe.agg ?_; (repeat (first | exact True.intro | refine And.intro (by first | exact AvLe.refl | exact AvLe.loose | exact AvLe.nil | exact AvLe.nilT | exact AvLe.slk) ?_)))) ?_))))) rfl ?_
  simp only [go_sem]
  (repeat (refine ⟨by (first | exact True.intro | omega | rfl | (simp; done) | (simp; omega)), ?_⟩)); try (refine hKr _ ?_; clear hKr Kr)
  refine T.condTD rfl rfl (fun hc => ?_) (fun hc => ?_) <;> simp only [decide_eq_true_eq, decide_eq_false_iff_not] at hc
  · -- yes
    have ee : fndI l id = i := fndI_at hb hn hc
    refine T.sregD 23 [0, 1, 2, 6, 7, 8, 9, 10, 11, 12, 20] fun Kr hKr => ?_
    simp only [go_sem]
    (repeat (refine ⟨by (first | exact True.intro | omega | rfl | (simp; done) | (simp; omega)), ?_⟩)); try (refine hKr _ ?_; clear hKr Kr)
    refine T.ret (Fin.dataD (by rw [ee]; rfl) rfl rfl)
  refine T.skip ?_
  refine hK3 _ ?_
  refine T.regD 23 [0, 1, 2, 6, 7, 8, 9, 10, 11, 12, 20] fun Kr hKr => ?_
  simp only [go_sem]
  (repeat (refine ⟨by (first | exact True.intro | omega | rfl | (simp; done) | (simp; omega)), ?_⟩)); try (refine hKr _ ?_; clear hKr Kr)
  refine ⟨i + 1, ?_, ?_, Le.fitS (by (repeat (first | exact DFit.nil | refine DFit.cons (by first | rfl | (simp [slook]; done) | (simp [slook]; omega)) ?_))) ?_⟩
  · refine ⟨by omega, ?_⟩
    rw [take_succ_d hb, List.any_append, hn]
    simp only [List.any_cons, List.any_nil, Bool.or_false, Bool.false_or, decide_eq_false_iff_not]
    exact hc
  · omega
  · (repeat (first | exact True.intro | refine And.intro (by first | rfl | (simp [look]; done)) ?_))
theorem has_spec (l : List Int) (id : Int) (hl : l.length ≤ 100000) : Ideal.Spec Try.prog 38 [.sl false 1 (intsOf l), .int .i64 id] (.bool (hasN l id)) none := by
  have sp := search_spec l id hl
  refine Ideal.Spec.of_TD (n := 9) (fn := Try.f38) rfl rfl rfl rfl rfl rfl rfl fun w ok => ?_
  refine T.sregD 9 [0, 1, 4] fun Kr hKr => ?_
  simp only [go_sem]
  (repeat (refine ⟨by (first | exact True.intro | omega | rfl | (simp; done) | (simp; omega)), ?_⟩)); try (refine hKr _ ?_; clear hKr Kr)
  refine T.sregD 9 [0, 1, 4] fun Kr hKr => ?_
  simp only [go_sem]
  (repeat (refine ⟨by (first | exact True.intro | omega | rfl | (simp; done) | (simp; omega)), ?_⟩)); try (refine hKr _ ?_; clear hKr Kr)
  refine CallK.data (fun _ => Spec.args (sp) (by (first | exact ArgsLe.refl | (repeat (first | exact True.intro | refine And.intro (by first | exact AvLe.refl | exact AvLe.loose | exact AvLe.nil | exact AvLe.nilT | exact AvLe.slk | (refine AvLe.agg ?_; exact ArgsLe.refl) | (refine AvLe.agg ?_; (repeat (first | exact True.intro | refine And.intro (by first | exact AvLe.refl | exact AvLe.loose | exact AvLe.nil | exact AvLe.nilT | exact AvLe.slk) ?_)))) ?_))))) rfl ?_
  simp only [go_sem]
  (repeat (refine ⟨by (first | exact True.intro | omega | rfl | (simp; done) | (simp; omega)), ?_⟩)); try (refine hKr _ ?_; clear hKr Kr)
  refine T.ret (Fin.dataD (by rw [← fndI_has]; rfl) rfl rfl)
theorem takeW_at {l : List Int} {id : Int} {i : Nat} (hi : i ≤ l.length) (h1 : (l.take i).all (fun x => decide (x < id)) = true) (h2 : i < l.length → ¬ l.getD i default < id) : l.takeWhile (fun x => decide (x < id)) = l.take i ∧ l.dropWhile (fun x => decide (x < id)) = l.drop i := by
  induction l generalizing i with
  | nil => simp at hi; subst hi; exact ⟨rfl, rfl⟩
  | cons a l ih =>
    cases i with
    | zero =>
      have := h2 (by simp)
      simp at this
      simp [List.takeWhile_cons, List.dropWhile_cons, this]
    | succ i =>
      rw [List.take_succ_cons, List.all_cons, Bool.and_eq_true, decide_eq_true_eq] at h1
      obtain ⟨e1, e2⟩ := ih (i := i) (by simpa using hi) h1.2 (fun hq => by simpa using h2 (by simpa using hq))
      simp [List.takeWhile_cons, List.dropWhile_cons, h1.1, e1, e2]
theorem withL_parts {l : List Int} {id : Int} {i : Nat} (e1 : l.takeWhile (fun x => decide (x < id)) = l.take i) (e2 : l.dropWhile (fun x => decide (x < id)) = l.drop i) :
    List.replicate 0 (AV.int .i64 0) ++ (intsOf (l.take i) ++ .int .i64 id :: intsOf (l.drop i)) = intsOf (withL l id) ∧ (l.take i).length + 1 + (l.drop i).length = (withL l id).length := by
  have h : withL l id = l.take i ++ id :: l.drop i := by rw [withL, e1, e2]
  rw [h]
  refine ⟨by simp [intsOf], by simp only [List.length_append, List.length_cons]; omega⟩
theorem with_spec (l : List Int) (id : Int) (hl : l.length ≤ 100000) : Ideal.Spec Try.prog 40 [.sl false 1 (intsOf l), .int .i64 id] (.sl false 1 (intsOf (withL l id))) none := by
  refine Ideal.Spec.of_TD (n := 39) (fn := Try.f40) rfl rfl rfl rfl rfl rfl rfl fun w ok => ?_
  refine T.post [.tmp 4] ?_
  refine T.sregD 39 [0, 1, 4, 5, 6, 18] fun Kr hKr => ?_
  simp only [go_sem]
  (repeat (refine ⟨by (first | exact True.intro | omega | rfl | (simp; done) | (simp; omega)), ?_⟩)); try (refine hKr _ ?_; clear hKr Kr)
  refine T.sregD 39 [0, 1, 4, 5, 6, 18] fun Kr hKr => ?_
  simp only [go_sem]
  (repeat (refine ⟨by (first | exact True.intro | omega | rfl | (simp; done) | (simp; omega)), ?_⟩)); try (refine hKr _ ?_; clear hKr Kr)
  refine T.seqK fun K1 hK1 => ?_
  refine T.bloop (fun i : Nat => ⟨dense 39 [(0, .sl false 1 (intsOf l)), (1, .int .i64 id), (5, .int .i64 i)], []⟩) (fun i => i ≤ l.length ∧ (l.take i).all (fun x => decide (x < id)) = true) (fun i => l.length - i) 0 (by simp) ?_ fun i hi => ?_
  · refine Le.fitS (by (repeat (first | exact DFit.nil | refine DFit.cons (by first | rfl | (simp [slook]; done) | (simp [slook]; omega)) ?_))) (by (repeat (first | exact True.intro | refine And.intro (by first | rfl | (simp [look]; done)) ?_)))
  obtain ⟨hi, hn⟩ := hi
  refine T.seqK fun K2 hK2 => ?_
  by_cases hil : i < l.length
  · have hil' : ((i : Int) < (l.length : Int)) = True := by simp [hil]
    by_cases hc : l.getD i default < id
    · have hc' : (l.getD i default < id) = True := eq_true hc
      refine T.sregD 39 [0, 1, 4, 5, 6, 18] fun Kr hKr => ?_
      simp only [go_sem, hil, hil', hc']
      (repeat (refine ⟨by (first | exact True.intro | omega | rfl | (simp; done) | (simp; omega)), ?_⟩)); try (refine hKr _ ?_; clear hKr Kr)
      refine T.condFD rfl rfl (fun hb => ?_) (fun hb => ?_) <;> try simp at hb
      refine T.skip ?_
      refine hK2 _ ?_
      refine T.block ?_
      refine T.regD 39 [0, 1, 4, 5, 6, 18] fun Kr hKr => ?_
      simp only [go_sem]
      (repeat (refine ⟨by (first | exact True.intro | omega | rfl | (simp; done) | (simp; omega)), ?_⟩)); try (refine hKr _ ?_; clear hKr Kr)
      refine ⟨i + 1, ?_, ?_, Le.fitS (by (repeat (first | exact DFit.nil | refine DFit.cons (by first | rfl | (simp [slook]; done) | (simp [slook]; omega)) ?_))) ?_⟩
      · refine ⟨by omega, ?_⟩
        rw [take_succ_d hil, List.all_append, hn]
        simp only [List.all_cons, List.all_nil, Bool.and_true, Bool.true_and, decide_eq_true_eq]
        exact hc
      · omega
      · (repeat (first | exact True.intro | refine And.intro (by first | rfl | (simp [look]; done)) ?_))
    have hc' : (l.getD i default < id) = False := eq_false hc
    obtain ⟨e1, e2⟩ := takeW_at hi hn (fun _ => hc)
    refine T.sregD 39 [0, 1, 4, 5, 6, 18] fun Kr hKr => ?_
    simp only [go_sem, hil, hil', hc']
    (repeat (refine ⟨by (first | exact True.intro | omega | rfl | (simp; done) | (simp; omega)), ?_⟩)); try (refine hKr _ ?_; clear hKr Kr)
    refine T.condFD rfl rfl (fun hb => ?_) (fun hb => ?_) <;> try simp at hb
    refine T.exit ?_
    simp only [if_true]
    refine hK1 _ ?_
    refine T.sregD 39 [0, 1, 4, 5, 6, 18] fun Kr hKr => ?_
    simp only [go_sem]
    (repeat (refine ⟨by (first | exact True.intro | omega | rfl | (simp; done) | (simp; omega)), ?_⟩)); try (refine hKr _ ?_; clear hKr Kr)
    refine T.sregD 39 [0, 1, 4, 5, 6, 18] fun Kr hKr => ?_
    simp only [go_sem]
    (repeat (refine ⟨by (first | exact True.intro | omega | rfl | (simp; done) | (simp; omega)), ?_⟩)); try (refine hKr _ ?_; clear hKr Kr)
    refine T.sregD 39 [0, 1, 4, 5, 6, 18] fun Kr hKr => ?_
    simp only [go_sem]
    (repeat (refine ⟨by (first | exact True.intro | omega | rfl | (simp; done) | (simp; omega)), ?_⟩)); try (refine hKr _ ?_; clear hKr Kr)
    refine T.sregD 39 [0, 1, 4, 5, 6, 18] fun Kr hKr => ?_
    simp only [go_sem]
    (repeat (refine ⟨by (first | exact True.intro | omega | rfl | (simp; done) | (simp; omega)), ?_⟩)); try (refine hKr _ ?_; clear hKr Kr)
    obtain ⟨e3, e4⟩ := withL_parts e1 e2
    rw [e3, e4]
    generalize withL l id = W at *
    refine T.ret ?_
    simp only [go_sem, Nat.le_refl, List.take_length]
    exact Fin.dataD rfl rfl rfl
  have hil' : ((i : Int) < (l.length : Int)) = False := by simp; omega
  obtain ⟨e1, e2⟩ := takeW_at hi hn (fun h => absurd h hil)
  refine T.sregD 39 [0, 1, 4, 5, 6, 18] fun Kr hKr => ?_
  simp only [go_sem, hil']
  (repeat (refine ⟨by (first | exact True.intro | omega | rfl | (simp; done) | (simp; omega)), ?_⟩)); try (refine hKr _ ?_; clear hKr Kr)
  refine T.condFD rfl rfl (fun hb => ?_) (fun hb => ?_) <;> try simp at hb
  refine T.exit ?_
  simp only [if_true]
  refine hK1 _ ?_
  refine T.sregD 39 [0, 1, 4, 5, 6, 18] fun Kr hKr => ?_
  simp only [go_sem]
  (repeat (refine ⟨by (first | exact True.intro | omega | rfl | (simp; done) | (simp; omega)), ?_⟩)); try (refine hKr _ ?_; clear hKr Kr)
  refine T.sregD 39 [0, 1, 4, 5, 6, 18] fun Kr hKr => ?_
  simp only [go_sem]
  (repeat (refine ⟨by (first | exact True.intro | omega | rfl | (simp; done) | (simp; omega)), ?_⟩)); try (refine hKr _ ?_; clear hKr Kr)
  refine T.sregD 39 [0, 1, 4, 5, 6, 18] fun Kr hKr => ?_
  simp only [go_sem]
  (repeat (refine ⟨by (first | exact True.intro | omega | rfl | (simp; done) | (simp; omega)), ?_⟩)); try (refine hKr _ ?_; clear hKr Kr)
  refine T.sregD 39 [0, 1, 4, 5, 6, 18] fun Kr hKr => ?_
  simp only [go_sem]
  (repeat (refine ⟨by (first | exact True.intro | omega | rfl | (simp; done) | (simp; omega)), ?_⟩)); try (refine hKr _ ?_; clear hKr Kr)
  obtain ⟨e3, e4⟩ := withL_parts e1 e2
  rw [e3, e4]
  generalize withL l id = W at *
  refine T.ret ?_
  simp only [go_sem, Nat.le_refl, List.take_length]
  exact Fin.dataD rfl rfl rfl

/-! ### Typed packets -/
def typedA (p : Packet) : AV :=
  if p.k = 1 then .ifc 71 (.agg [.int .i64 p.app, .int .i64 p.id, .str p.s])
  else if p.k = 2 then .ifc 100 (.agg [.int .i64 p.app, .int .i64 p.id])
  else if p.k = 3 then .ifc 101 (.agg [.int .i64 p.app, .int .i64 p.id])
  else .atom .nilIface
theorem typed_spec (p : Packet) : Ideal.Spec Try.prog 19 [pkA p] (typedA p) none := by
  refine Ideal.Spec.of_TD (n := 31) (fn := Try.f19) rfl rfl rfl rfl rfl rfl rfl fun w ok => ?_
  refine T.sregD 31 [0, 1, 2, 4, 5, 15, 23] fun Kr hKr => ?_
  simp only [go_sem]
  (repeat (refine ⟨by (first | exact True.intro | omega | rfl | (simp; done) | (simp; omega)), ?_⟩)); try (refine hKr _ ?_; clear hKr Kr)
  refine T.seqK fun K70 hK70 => ?_
  refine T.sregD 31 [0, 1, 2, 4, 5, 15, 23] fun Kr hKr => ?_
  simp only [go_sem]
  (repeat (refine ⟨by (first | exact True.intro | omega | rfl | (simp; done) | (simp; omega)), ?_⟩)); try (refine hKr _ ?_; clear hKr Kr)
  refine T.block ?_
  refine T.sregD 31 [0, 1, 2, 4, 5, 15, 23] fun Kr hKr => ?_
  simp only [go_sem]
  (repeat (refine ⟨by (first | exact True.intro | omega | rfl | (simp; done) | (simp; omega)), ?_⟩)); try (refine hKr _ ?_; clear hKr Kr)
  refine T.condTD rfl rfl (fun hb => ?_) (fun hb => ?_) <;> simp at hb
  · -- yes
    have e : typedA p = .ifc 71 (.agg [.int .i64 p.app, .int .i64 p.id, .str p.s]) := by simp [typedA, hb]
    refine T.sregD 31 [0, 1, 2, 4, 5, 15, 23] fun Kr hKr => ?_
    simp only [go_sem]
    (repeat (refine ⟨by (first | exact True.intro | omega | rfl | (simp; done) | (simp; omega)), ?_⟩)); try (refine hKr _ ?_; clear hKr Kr)
    rw [e]
    exact T.ret (Fin.dataD rfl rfl rfl)
  refine T.sregD 31 [0, 1, 2, 4, 5, 15, 23] fun Kr hKr => ?_
  simp only [go_sem]
  (repeat (refine ⟨by (first | exact True.intro | omega | rfl | (simp; done) | (simp; omega)), ?_⟩)); try (refine hKr _ ?_; clear hKr Kr)
  refine T.condTD rfl rfl (fun hc => ?_) (fun hc => ?_) <;> simp at hc
  · -- yes
    have e : typedA p = .ifc 100 (.agg [.int .i64 p.app, .int .i64 p.id]) := by simp [typedA, hc]
    refine T.sregD 31 [0, 1, 2, 4, 5, 15, 23] fun Kr hKr => ?_
    simp only [go_sem]
    (repeat (refine ⟨by (first | exact True.intro | omega | rfl | (simp; done) | (simp; omega)), ?_⟩)); try (refine hKr _ ?_; clear hKr Kr)
    rw [e]
    exact T.ret (Fin.dataD rfl rfl rfl)
  refine T.sregD 31 [0, 1, 2, 4, 5, 15, 23] fun Kr hKr => ?_
  simp only [go_sem]
  (repeat (refine ⟨by (first | exact True.intro | omega | rfl | (simp; done) | (simp; omega)), ?_⟩)); try (refine hKr _ ?_; clear hKr Kr)
  refine T.condTD rfl rfl (fun hd => ?_) (fun hd => ?_) <;> simp at hd
  · -- yes
    have e : typedA p = .ifc 101 (.agg [.int .i64 p.app, .int .i64 p.id]) := by simp [typedA, hd]
    refine T.sregD 31 [0, 1, 2, 4, 5, 15, 23] fun Kr hKr => ?_
    simp only [go_sem]
    (repeat (refine ⟨by (first | exact True.intro | omega | rfl | (simp; done) | (simp; omega)), ?_⟩)); try (refine hKr _ ?_; clear hKr Kr)
    rw [e]; exact T.ret (Fin.dataD rfl rfl rfl)
  have e : typedA p = .atom .nilIface := by simp [typedA, hb, hc, hd]
  refine T.skip ?_
  refine hK70 _ ?_
  refine T.sregD 31 [0, 1, 2, 4, 5, 15, 23] fun Kr hKr => ?_
  simp only [go_sem]
  (repeat (refine ⟨by (first | exact True.intro | omega | rfl | (simp; done) | (simp; omega)), ?_⟩)); try (refine hKr _ ?_; clear hKr Kr)
  rw [e]; exact T.ret (Fin.dataD rfl rfl rfl)

/-! ### Deciding on a commit -/
def ackP (app id : Int) : Packet := ⟨2, app, id, []⟩
def rejP (app id : Int) : Packet := ⟨3, app, id, []⟩
def decF (c : Client) (app id : Int) (s : List UInt8) : Client × Packet :=
  if hasN c.has id = true then (c, ackP app id) else if hasN c.ref id = true then (c, rejP app id)
  else if (putF c.d id c.d.s.length s).2 ≠ 0 then (⟨c.d, c.has, withL c.ref id⟩, rejP app id) else (⟨(putF c.d id c.d.s.length s).1, withL c.has id, c.ref⟩, ackP app id)
structure OkC (c : Client) : Prop where
  d : OkD c.d
  has : c.has.length ≤ 90000
  ref : c.ref.length ≤ 90000
theorem decide_spec (c : Client) (app id : Int) (s : List UInt8) (hc : OkC c) (hs : s.length ≤ 100000) :
    Ideal.Spec Try.prog 22 [clA c, .agg [.int .i64 app, .int .i64 id, .str s]] (.tup [clA (decF c app id s).1, .sl false 4 [pkA (decF c app id s).2]]) none := by
  have s1 := has_spec c.has id (by have := hc.has; omega)
  have s2 := has_spec c.ref id (by have := hc.ref; omega)
  have s3 := Put_spec c.d id c.d.s.length s hc.d hs
  have s4 := with_spec c.ref id (by have := hc.ref; omega)
  have s5 := with_spec c.has id (by have := hc.has; omega)
  have hlen := hc.d.len
  refine Ideal.Spec.of_MD (n := 70) (fn := Try.f22) rfl rfl rfl rfl rfl rfl rfl fun w ok => ?_
  refine T.post [.tmp 4, .tmp 5] ?_
  refine T.sregD 70 [0, 1, 2, 3, 4, 5, 6, 7, 8, 9, 26, 33, 51] fun Kr hKr => ?_
  simp only [go_sem]
  (repeat (refine ⟨by (first | exact True.intro | omega | rfl | (simp; done) | (simp; omega)), ?_⟩)); try (refine hKr _ ?_; clear hKr Kr)
  refine T.sregD 70 [0, 1, 2, 3, 4, 5, 6, 7, 8, 9, 26, 33, 51] fun Kr hKr => ?_
  simp only [go_sem]
  (repeat (refine ⟨by (first | exact True.intro | omega | rfl | (simp; done) | (simp; omega)), ?_⟩)); try (refine hKr _ ?_; clear hKr Kr)
  refine T.sregD 70 [0, 1, 2, 3, 4, 5, 6, 7, 8, 9, 26, 33, 51] fun Kr hKr => ?_
  simp only [go_sem]
  (repeat (refine ⟨by (first | exact True.intro | omega | rfl | (simp; done) | (simp; omega)), ?_⟩)); try (refine hKr _ ?_; clear hKr Kr)
  refine T.seqK fun K75 hK75 => ?_
  refine T.sregD 70 [0, 1, 2, 3, 4, 5, 6, 7, 8, 9, 26, 33, 51] fun Kr hKr => ?_
  simp only [go_sem]
  (repeat (refine ⟨by (first | exact True.intro | omega | rfl | (simp; done) | (simp; omega)), ?_⟩)); try (refine hKr _ ?_; clear hKr Kr)
  refine CallK.data (fun _ => Spec.args (s1) (by (first | exact ArgsLe.refl | (repeat (first | exact True.intro | refine And.intro (by first | exact AvLe.refl | exact AvLe.loose | exact AvLe.nil | exact AvLe.nilT | exact AvLe.slk | (refine AvLe.agg ?_; exact ArgsLe.refl) | (refine AvLe.agg ?_; (repeat (first | exact True.intro | refine And.intro (by first | exact AvLe.refl | exact AvLe.loose | exact AvLe.nil | exact AvLe.nilT | exact AvLe.slk) ?_)))) ?_))))) rfl ?_
  simp only [go_sem]
  (repeat (refine ⟨by (first | exact True.intro | omega | rfl | (simp; done) | (simp; omega)), ?_⟩)); try (refine hKr _ ?_; clear hKr Kr)
  refine T.condTD rfl rfl (fun hb => ?_) (fun hb => ?_) <;> try simp only [decide_eq_true_eq, decide_eq_false_iff_not, Bool.not_eq_true, Bool.not_eq_false, Bool.not_eq_eq_eq_not, Bool.not_true, Bool.not_false, Bool.and_eq_true, Bool.or_eq_true, Bool.or_eq_false_iff, Bool.cond_false_right, Bool.cond_true_left] at hb
  · -- yes
    have e : decF c app id s = (c, ackP app id) := by unfold decF; rw [if_pos hb]
    refine T.sregD 70 [0, 1, 2, 3, 4, 5, 6, 7, 8, 9, 26, 33, 51] fun Kr hKr => ?_
    simp only [go_sem]
    (repeat (refine ⟨by (first | exact True.intro | omega | rfl | (simp; done) | (simp; omega)), ?_⟩)); try (refine hKr _ ?_; clear hKr Kr)
    refine T.ret ?_
    simp only [go_sem]
    rw [e]
    exact ⟨ResCellD rfl rfl rfl rfl (by simp only [go_sem]) (by simp only [go_sem]) rfl, ResAtD (by simp only [go_sem, ackP]) rfl rfl, trivial⟩
  refine T.skip ?_
  refine hK75 _ ?_
  refine T.seqK fun K76 hK76 => ?_
  refine T.sregD 70 [0, 1, 2, 3, 4, 5, 6, 7, 8, 9, 26, 33, 51] fun Kr hKr => ?_
  simp only [go_sem]
  (repeat (refine ⟨by (first | exact True.intro | omega | rfl | (simp; done) | (simp; omega)), ?_⟩)); try (refine hKr _ ?_; clear hKr Kr)
  refine CallK.data (fun _ => Spec.args (s2) (by (first | exact ArgsLe.refl | (repeat (first | exact True.intro | refine And.intro (by first | exact AvLe.refl | exact AvLe.loose | exact AvLe.nil | exact AvLe.nilT | exact AvLe.slk | (refine AvLe.agg ?_; exact ArgsLe.refl) | (refine AvLe.agg ?_; (repeat (first | exact True.intro | refine And.intro (by first | exact AvLe.refl | exact AvLe.loose | exact AvLe.nil | exact AvLe.nilT | exact AvLe.slk) ?_)))) ?_))))) rfl ?_
  simp only [go_sem]
  (repeat (refine ⟨by (first | exact True.intro | omega | rfl | (simp; done) | (simp; omega)), ?_⟩)); try (refine hKr _ ?_; clear hKr Kr)
  refine T.condTD rfl rfl (fun hb2 => ?_) (fun hb2 => ?_) <;> try simp only [decide_eq_true_eq, decide_eq_false_iff_not, Bool.not_eq_true, Bool.not_eq_false, Bool.not_eq_eq_eq_not, Bool.not_true, Bool.not_false, Bool.and_eq_true, Bool.or_eq_true, Bool.or_eq_false_iff, Bool.cond_false_right, Bool.cond_true_left] at hb2
  · -- yes
    have e : decF c app id s = (c, rejP app id) := by unfold decF; rw [if_neg (by rw [hb]; decide), if_pos hb2]
    refine T.sregD 70 [0, 1, 2, 3, 4, 5, 6, 7, 8, 9, 26, 33, 51] fun Kr hKr => ?_
    simp only [go_sem]
    (repeat (refine ⟨by (first | exact True.intro | omega | rfl | (simp; done) | (simp; omega)), ?_⟩)); try (refine hKr _ ?_; clear hKr Kr)
    refine T.ret ?_
    simp only [go_sem]
    rw [e]
    exact ⟨ResCellD rfl rfl rfl rfl (by simp only [go_sem]) (by simp only [go_sem]) rfl, ResAtD (by simp only [go_sem, rejP]) rfl rfl, trivial⟩
  refine T.skip ?_
  refine hK76 _ ?_
  have e0 : decF c app id s = if (putF c.d id c.d.s.length s).2 ≠ 0 then (⟨c.d, c.has, withL c.ref id⟩, rejP app id) else (⟨(putF c.d id c.d.s.length s).1, withL c.has id, c.ref⟩, ackP app id) := by
    unfold decF; rw [if_neg (by rw [hb]; decide), if_neg (by rw [hb2]; decide)]
  generalize putF c.d id c.d.s.length s = P at *
  refine T.sregD 70 [0, 1, 2, 3, 4, 5, 6, 7, 8, 9, 26, 33, 51] fun Kr hKr => ?_
  simp only [go_sem]
  (repeat (refine ⟨by (first | exact True.intro | omega | rfl | (simp; done) | (simp; omega)), ?_⟩)); try (refine hKr _ ?_; clear hKr Kr)
  refine CallK.tup (fun _ => Spec.args (s3) (by (first | exact ArgsLe.refl | (repeat (first | exact True.intro | refine And.intro (by first | exact AvLe.refl | exact AvLe.loose | exact AvLe.nil | exact AvLe.nilT | exact AvLe.slk | (refine AvLe.agg ?_; exact ArgsLe.refl) | (refine AvLe.agg ?_; (repeat (first | exact True.intro | refine And.intro (by first | exact AvLe.refl | exact AvLe.loose | exact AvLe.nil | exact AvLe.nilT | exact AvLe.slk) ?_)))) ?_))))) ?_
  simp only [go_sem]
  (repeat (refine ⟨by (first | exact True.intro | omega | rfl | (simp; done) | (simp; omega)), ?_⟩)); try (refine hKr _ ?_; clear hKr Kr)
  refine T.seqK fun K77 hK77 => ?_
  refine T.sregD 70 [0, 1, 2, 3, 4, 5, 6, 7, 8, 9, 26, 33, 51] fun Kr hKr => ?_
  simp only [go_sem]
  (repeat (refine ⟨by (first | exact True.intro | omega | rfl | (simp; done) | (simp; omega)), ?_⟩)); try (refine hKr _ ?_; clear hKr Kr)
  refine T.condTD rfl rfl (fun hd => ?_) (fun hd => ?_) <;> simp at hd
  · -- yes
    have e : decF c app id s = (⟨c.d, c.has, withL c.ref id⟩, rejP app id) := by rw [e0, if_pos hd]
    generalize withL c.ref id = W at *
    refine T.sregD 70 [0, 1, 2, 3, 4, 5, 6, 7, 8, 9, 26, 33, 51] fun Kr hKr => ?_
    simp only [go_sem]
    (repeat (refine ⟨by (first | exact True.intro | omega | rfl | (simp; done) | (simp; omega)), ?_⟩)); try (refine hKr _ ?_; clear hKr Kr)
    refine CallK.data (fun _ => Spec.args (s4) (by (first | exact ArgsLe.refl | (repeat (first | exact True.intro | refine And.intro (by first | exact AvLe.refl | exact AvLe.loose | exact AvLe.nil | exact AvLe.nilT | exact AvLe.slk | (refine AvLe.agg ?_; exact ArgsLe.refl) | (refine AvLe.agg ?_; (repeat (first | exact True.intro | refine And.intro (by first | exact AvLe.refl | exact AvLe.loose | exact AvLe.nil | exact AvLe.nilT | exact AvLe.slk) ?_)))) ?_))))) rfl ?_
    simp only [go_sem]
    (repeat (refine ⟨by (first | exact True.intro | omega | rfl | (simp; done) | (simp; omega)), ?_⟩)); try (refine hKr _ ?_; clear hKr Kr)
    refine T.sregD 70 [0, 1, 2, 3, 4, 5, 6, 7, 8, 9, 26, 33, 51] fun Kr hKr => ?_
    simp only [go_sem]
    (repeat (refine ⟨by (first | exact True.intro | omega | rfl | (simp; done) | (simp; omega)), ?_⟩)); try (refine hKr _ ?_; clear hKr Kr)
    refine T.ret ?_
    simp only [go_sem]
    rw [e]
    exact ⟨ResCellD rfl rfl rfl rfl (by simp only [go_sem]) (by simp only [go_sem]) rfl, ResAtD (by simp only [go_sem, rejP]) rfl rfl, trivial⟩
  have e : decF c app id s = (⟨P.1, withL c.has id, c.ref⟩, ackP app id) := by rw [e0, if_neg (by omega)]
  generalize withL c.has id = W at *
  refine T.skip ?_
  refine hK77 _ ?_
  refine T.sregD 70 [0, 1, 2, 3, 4, 5, 6, 7, 8, 9, 26, 33, 51] fun Kr hKr => ?_
  simp only [go_sem]
  (repeat (refine ⟨by (first | exact True.intro | omega | rfl | (simp; done) | (simp; omega)), ?_⟩)); try (refine hKr _ ?_; clear hKr Kr)
  refine T.sregD 70 [0, 1, 2, 3, 4, 5, 6, 7, 8, 9, 26, 33, 51] fun Kr hKr => ?_
  simp only [go_sem]
  (repeat (refine ⟨by (first | exact True.intro | omega | rfl | (simp; done) | (simp; omega)), ?_⟩)); try (refine hKr _ ?_; clear hKr Kr)
  refine CallK.data (fun _ => Spec.args (s5) (by (first | exact ArgsLe.refl | (repeat (first | exact True.intro | refine And.intro (by first | exact AvLe.refl | exact AvLe.loose | exact AvLe.nil | exact AvLe.nilT | exact AvLe.slk | (refine AvLe.agg ?_; exact ArgsLe.refl) | (refine AvLe.agg ?_; (repeat (first | exact True.intro | refine And.intro (by first | exact AvLe.refl | exact AvLe.loose | exact AvLe.nil | exact AvLe.nilT | exact AvLe.slk) ?_)))) ?_))))) rfl ?_
  simp only [go_sem]
  (repeat (refine ⟨by (first | exact True.intro | omega | rfl | (simp; done) | (simp; omega)), ?_⟩)); try (refine hKr _ ?_; clear hKr Kr)
  refine T.sregD 70 [0, 1, 2, 3, 4, 5, 6, 7, 8, 9, 26, 33, 51] fun Kr hKr => ?_
  simp only [go_sem]
  (repeat (refine ⟨by (first | exact True.intro | omega | rfl | (simp; done) | (simp; omega)), ?_⟩)); try (refine hKr _ ?_; clear hKr Kr)
  refine T.ret ?_
  simp only [go_sem]
  rw [e]
  exact ⟨ResCellD rfl rfl rfl rfl (by simp only [go_sem]) (by simp only [go_sem]) rfl, ResAtD (by simp only [go_sem, ackP]) rfl rfl, trivial⟩
/-- A packet that arrives at a client. -/
def subB (app : Int) (p : Packet) : Bool := decide (p.k = 1) && (decide (p.app = app) && (idB p.id && noteB p.s))
def recvF (c : Client) (app : Int) (p : Packet) : Client × List Packet :=
  if subB app p = true then ((decF c p.app p.id p.s).1, [(decF c p.app p.id p.s).2]) else (c, [])
theorem Receive_spec (c : Client) (app : Int) (p : Packet) (hc : OkC c) (hs : p.s.length ≤ 100000) :
    Ideal.Spec Try.prog 8 [clA c, .int .i64 app, pkA p] (.tup [clA (recvF c app p).1, .sl false 4 (pksOf (recvF c app p).2)]) none := by
  have s1 := typed_spec p
  have s2 := isId_spec p.id
  have s3 := isNote_spec p.s (by omega)
  have s4 := decide_spec c p.app p.id p.s hc hs
  generalize hD : decF c p.app p.id p.s = D at *
  by_cases h1 : subB app p = true
  · have er : recvF c app p = (D.1, [D.2]) := by unfold recvF; rw [if_pos h1, hD]
    rw [er]
    refine Ideal.Spec.of_MD (n := 34) (fn := Try.f8) rfl rfl rfl rfl rfl rfl rfl fun w ok => ?_
    refine T.post [.tmp 6, .tmp 7] ?_
    have ⟨h2, h3, h4, h5⟩ : p.k = 1 ∧ p.app = app ∧ idB p.id = true ∧ noteB p.s = true := by
      simpa [subB] using h1
    have et : typedA p = .ifc 71 (.agg [.int .i64 p.app, .int .i64 p.id, .str p.s]) := by simp [typedA, h2]
    rw [et] at s1
    have h3' : (p.app = app) = True := eq_true h3
    refine T.sregD 34 [0, 1, 2, 3, 5, 6, 7, 8, 10, 12, 13, 27] fun Kr hKr => ?_
    simp only [go_sem]
    (repeat (refine ⟨by (first | exact True.intro | omega | rfl | (simp; done) | (simp; omega)), ?_⟩)); try (refine hKr _ ?_; clear hKr Kr)
    refine T.seqK fun K32 hK32 => ?_
    refine T.sregD 34 [0, 1, 2, 3, 5, 6, 7, 8, 10, 12, 13, 27] fun Kr hKr => ?_
    simp only [go_sem]
    (repeat (refine ⟨by (first | exact True.intro | omega | rfl | (simp; done) | (simp; omega)), ?_⟩)); try (refine hKr _ ?_; clear hKr Kr)
    refine CallK.data (fun _ => Spec.args (s1) (by (first | exact ArgsLe.refl | (repeat (first | exact True.intro | refine And.intro (by first | exact AvLe.refl | exact AvLe.loose | exact AvLe.nil | exact AvLe.nilT | exact AvLe.slk | (refine AvLe.agg ?_; exact ArgsLe.refl) | (refine AvLe.agg ?_; (repeat (first | exact True.intro | refine And.intro (by first | exact AvLe.refl | exact AvLe.loose | exact AvLe.nil | exact AvLe.nilT | exact AvLe.slk) ?_)))) ?_))))) rfl ?_
    simp only [go_sem]
    (repeat (refine ⟨by (first | exact True.intro | omega | rfl | (simp; done) | (simp; omega)), ?_⟩)); try (refine hKr _ ?_; clear hKr Kr)
    refine T.block ?_
    refine T.sregD 34 [0, 1, 2, 3, 5, 6, 7, 8, 10, 12, 13, 27] fun Kr hKr => ?_
    simp only [go_sem]
    (repeat (refine ⟨by (first | exact True.intro | omega | rfl | (simp; done) | (simp; omega)), ?_⟩)); try (refine hKr _ ?_; clear hKr Kr)
    refine T.condTD rfl rfl (fun hb => ?_) (fun hb => ?_) <;> try simp at hb
    refine T.sregD 34 [0, 1, 2, 3, 5, 6, 7, 8, 10, 12, 13, 27] fun Kr hKr => ?_
    simp only [go_sem]
    (repeat (refine ⟨by (first | exact True.intro | omega | rfl | (simp; done) | (simp; omega)), ?_⟩)); try (refine hKr _ ?_; clear hKr Kr)
    refine T.sregD 34 [0, 1, 2, 3, 5, 6, 7, 8, 10, 12, 13, 27] fun Kr hKr => ?_
    simp only [go_sem, h3', h4, h5]
    (repeat (refine ⟨by (first | exact True.intro | omega | rfl | (simp; done) | (simp; omega)), ?_⟩)); try (refine hKr _ ?_; clear hKr Kr)
    refine CallK.data (fun _ => Spec.args (s2) (by (first | exact ArgsLe.refl | (repeat (first | exact True.intro | refine And.intro (by first | exact AvLe.refl | exact AvLe.loose | exact AvLe.nil | exact AvLe.nilT | exact AvLe.slk | (refine AvLe.agg ?_; exact ArgsLe.refl) | (refine AvLe.agg ?_; (repeat (first | exact True.intro | refine And.intro (by first | exact AvLe.refl | exact AvLe.loose | exact AvLe.nil | exact AvLe.nilT | exact AvLe.slk) ?_)))) ?_))))) rfl ?_
    simp only [go_sem, h3', h4, h5]
    (repeat (refine ⟨by (first | exact True.intro | omega | rfl | (simp; done) | (simp; omega)), ?_⟩)); try (refine hKr _ ?_; clear hKr Kr)
    refine CallK.data (fun _ => Spec.args (s3) (by (first | exact ArgsLe.refl | (repeat (first | exact True.intro | refine And.intro (by first | exact AvLe.refl | exact AvLe.loose | exact AvLe.nil | exact AvLe.nilT | exact AvLe.slk | (refine AvLe.agg ?_; exact ArgsLe.refl) | (refine AvLe.agg ?_; (repeat (first | exact True.intro | refine And.intro (by first | exact AvLe.refl | exact AvLe.loose | exact AvLe.nil | exact AvLe.nilT | exact AvLe.slk) ?_)))) ?_))))) rfl ?_
    simp only [go_sem, h3', h4, h5]
    (repeat (refine ⟨by (first | exact True.intro | omega | rfl | (simp; done) | (simp; omega)), ?_⟩)); try (refine hKr _ ?_; clear hKr Kr)
    refine T.condTD rfl rfl (fun hb => ?_) (fun hb => ?_) <;> try simp at hb
    refine T.sregD 34 [0, 1, 2, 3, 5, 6, 7, 8, 10, 12, 13, 27] fun Kr hKr => ?_
    simp only [go_sem]
    (repeat (refine ⟨by (first | exact True.intro | omega | rfl | (simp; done) | (simp; omega)), ?_⟩)); try (refine hKr _ ?_; clear hKr Kr)
    refine CallK.tup (fun _ => Spec.args (s4) (by (first | exact ArgsLe.refl | (repeat (first | exact True.intro | refine And.intro (by first | exact AvLe.refl | exact AvLe.loose | exact AvLe.nil | exact AvLe.nilT | exact AvLe.slk | (refine AvLe.agg ?_; exact ArgsLe.refl) | (refine AvLe.agg ?_; (repeat (first | exact True.intro | refine And.intro (by first | exact AvLe.refl | exact AvLe.loose | exact AvLe.nil | exact AvLe.nilT | exact AvLe.slk) ?_)))) ?_))))) ?_
    simp only [go_sem]
    (repeat (refine ⟨by (first | exact True.intro | omega | rfl | (simp; done) | (simp; omega)), ?_⟩)); try (refine hKr _ ?_; clear hKr Kr)
    refine T.ret ?_
    simp only [go_sem]
    exact ⟨ResCellD rfl rfl rfl rfl (by simp only [go_sem]) (by simp only [go_sem]) rfl, ResAtD rfl rfl rfl, trivial⟩
  have er : recvF c app p = (c, []) := by unfold recvF; rw [if_neg h1]
  rw [er]
  refine Spec.weakT (rs := [clA c, .sl true 1 []]) ?_ rfl rfl ⟨AvLe.refl, AvLe.nil, trivial⟩
  refine Ideal.Spec.of_MD (n := 34) (fn := Try.f8) rfl rfl rfl rfl rfl rfl rfl fun w ok => ?_
  refine T.post [.tmp 6] ?_
  have fin : True := trivial
  by_cases h2 : p.k = 1
  · have et : typedA p = .ifc 71 (.agg [.int .i64 p.app, .int .i64 p.id, .str p.s]) := by simp [typedA, h2]
    rw [et] at s1
    have hno : (bif bif decide (p.app = app) then idB p.id else false then noteB p.s else false) = false := by
      simp only [subB, h2, decide_true, Bool.true_and] at h1
      generalize decide (p.app = app) = x1 at *
      generalize idB p.id = x2 at *
      generalize noteB p.s = x3 at *
      cases x1 <;> cases x2 <;> cases x3 <;> simp_all
    refine T.sregD 34 [0, 1, 2, 3, 5, 6, 7, 8, 10, 12, 13, 27] fun Kr hKr => ?_
    simp only [go_sem]
    (repeat (refine ⟨by (first | exact True.intro | omega | rfl | (simp; done) | (simp; omega)), ?_⟩)); try (refine hKr _ ?_; clear hKr Kr)
    refine T.seqK fun K32 hK32 => ?_
    refine T.sregD 34 [0, 1, 2, 3, 5, 6, 7, 8, 10, 12, 13, 27] fun Kr hKr => ?_
    simp only [go_sem]
    (repeat (refine ⟨by (first | exact True.intro | omega | rfl | (simp; done) | (simp; omega)), ?_⟩)); try (refine hKr _ ?_; clear hKr Kr)
    refine CallK.data (fun _ => Spec.args (s1) (by (first | exact ArgsLe.refl | (repeat (first | exact True.intro | refine And.intro (by first | exact AvLe.refl | exact AvLe.loose | exact AvLe.nil | exact AvLe.nilT | exact AvLe.slk | (refine AvLe.agg ?_; exact ArgsLe.refl) | (refine AvLe.agg ?_; (repeat (first | exact True.intro | refine And.intro (by first | exact AvLe.refl | exact AvLe.loose | exact AvLe.nil | exact AvLe.nilT | exact AvLe.slk) ?_)))) ?_))))) rfl ?_
    simp only [go_sem]
    (repeat (refine ⟨by (first | exact True.intro | omega | rfl | (simp; done) | (simp; omega)), ?_⟩)); try (refine hKr _ ?_; clear hKr Kr)
    refine T.block ?_
    refine T.sregD 34 [0, 1, 2, 3, 5, 6, 7, 8, 10, 12, 13, 27] fun Kr hKr => ?_
    simp only [go_sem]
    (repeat (refine ⟨by (first | exact True.intro | omega | rfl | (simp; done) | (simp; omega)), ?_⟩)); try (refine hKr _ ?_; clear hKr Kr)
    refine T.condTD rfl rfl (fun hb => ?_) (fun hb => ?_) <;> try simp at hb
    refine T.sregD 34 [0, 1, 2, 3, 5, 6, 7, 8, 10, 12, 13, 27] fun Kr hKr => ?_
    simp only [go_sem]
    (repeat (refine ⟨by (first | exact True.intro | omega | rfl | (simp; done) | (simp; omega)), ?_⟩)); try (refine hKr _ ?_; clear hKr Kr)
    by_cases h3 : p.app = app
    · have h3' : (p.app = app) = True := eq_true h3
      by_cases h4 : idB p.id = true
      · have h5 : noteB p.s = false := by simpa [h3, h4] using hno
        refine T.sregD 34 [0, 1, 2, 3, 5, 6, 7, 8, 10, 12, 13, 27] fun Kr hKr => ?_
        simp only [go_sem, h3', h4, h5]
        (repeat (refine ⟨by (first | exact True.intro | omega | rfl | (simp; done) | (simp; omega)), ?_⟩)); try (refine hKr _ ?_; clear hKr Kr)
        refine CallK.data (fun _ => Spec.args (s2) (by (first | exact ArgsLe.refl | (repeat (first | exact True.intro | refine And.intro (by first | exact AvLe.refl | exact AvLe.loose | exact AvLe.nil | exact AvLe.nilT | exact AvLe.slk | (refine AvLe.agg ?_; exact ArgsLe.refl) | (refine AvLe.agg ?_; (repeat (first | exact True.intro | refine And.intro (by first | exact AvLe.refl | exact AvLe.loose | exact AvLe.nil | exact AvLe.nilT | exact AvLe.slk) ?_)))) ?_))))) rfl ?_
        simp only [go_sem, h3', h4, h5]
        (repeat (refine ⟨by (first | exact True.intro | omega | rfl | (simp; done) | (simp; omega)), ?_⟩)); try (refine hKr _ ?_; clear hKr Kr)
        refine CallK.data (fun _ => Spec.args (s3) (by (first | exact ArgsLe.refl | (repeat (first | exact True.intro | refine And.intro (by first | exact AvLe.refl | exact AvLe.loose | exact AvLe.nil | exact AvLe.nilT | exact AvLe.slk | (refine AvLe.agg ?_; exact ArgsLe.refl) | (refine AvLe.agg ?_; (repeat (first | exact True.intro | refine And.intro (by first | exact AvLe.refl | exact AvLe.loose | exact AvLe.nil | exact AvLe.nilT | exact AvLe.slk) ?_)))) ?_))))) rfl ?_
        simp only [go_sem, h3', h4, h5]
        (repeat (refine ⟨by (first | exact True.intro | omega | rfl | (simp; done) | (simp; omega)), ?_⟩)); try (refine hKr _ ?_; clear hKr Kr)
        refine T.condTD rfl rfl (fun hb => ?_) (fun hb => ?_) <;> try simp at hb
        refine T.skip ?_
        refine hK32 _ ?_
        refine T.sregD 34 [0, 1, 2, 3, 5, 6, 7, 8, 10, 12, 13, 27] fun Kr hKr => ?_
        simp only [go_sem]
        (repeat (refine ⟨by (first | exact True.intro | omega | rfl | (simp; done) | (simp; omega)), ?_⟩)); try (refine hKr _ ?_; clear hKr Kr)
        refine T.ret ?_
        simp only [go_sem]
        exact ⟨ResCellD rfl rfl rfl rfl (by simp only [go_sem]) (by simp only [go_sem]) rfl, ResAtD (by simp only [go_sem]) rfl rfl, trivial⟩
      have h4 : idB p.id = false := by simpa using h4
      refine T.sregD 34 [0, 1, 2, 3, 5, 6, 7, 8, 10, 12, 13, 27] fun Kr hKr => ?_
      simp only [go_sem, h3', h4]
      (repeat (refine ⟨by (first | exact True.intro | omega | rfl | (simp; done) | (simp; omega)), ?_⟩)); try (refine hKr _ ?_; clear hKr Kr)
      refine CallK.data (fun _ => Spec.args (s2) (by (first | exact ArgsLe.refl | (repeat (first | exact True.intro | refine And.intro (by first | exact AvLe.refl | exact AvLe.loose | exact AvLe.nil | exact AvLe.nilT | exact AvLe.slk | (refine AvLe.agg ?_; exact ArgsLe.refl) | (refine AvLe.agg ?_; (repeat (first | exact True.intro | refine And.intro (by first | exact AvLe.refl | exact AvLe.loose | exact AvLe.nil | exact AvLe.nilT | exact AvLe.slk) ?_)))) ?_))))) rfl ?_
      simp only [go_sem, h3', h4]
      (repeat (refine ⟨by (first | exact True.intro | omega | rfl | (simp; done) | (simp; omega)), ?_⟩)); try (refine hKr _ ?_; clear hKr Kr)
      refine CallK.data (r := .bool true) (fun h => by cases h) rfl ?_
      simp only [go_sem]
      (repeat (refine ⟨by (first | exact True.intro | omega | rfl | (simp; done) | (simp; omega)), ?_⟩)); try (refine hKr _ ?_; clear hKr Kr)
      refine T.condTD rfl rfl (fun hb => ?_) (fun hb => ?_) <;> try simp at hb
      refine T.skip ?_
      refine hK32 _ ?_
      refine T.sregD 34 [0, 1, 2, 3, 5, 6, 7, 8, 10, 12, 13, 27] fun Kr hKr => ?_
      simp only [go_sem]
      (repeat (refine ⟨by (first | exact True.intro | omega | rfl | (simp; done) | (simp; omega)), ?_⟩)); try (refine hKr _ ?_; clear hKr Kr)
      refine T.ret ?_
      simp only [go_sem]
      exact ⟨ResCellD rfl rfl rfl rfl (by simp only [go_sem]) (by simp only [go_sem]) rfl, ResAtD (by simp only [go_sem]) rfl rfl, trivial⟩
    have h3' : (p.app = app) = False := eq_false h3
    refine T.sregD 34 [0, 1, 2, 3, 5, 6, 7, 8, 10, 12, 13, 27] fun Kr hKr => ?_
    simp only [go_sem, h3']
    (repeat (refine ⟨by (first | exact True.intro | omega | rfl | (simp; done) | (simp; omega)), ?_⟩)); try (refine hKr _ ?_; clear hKr Kr)
    refine CallK.data (r := .int .i64 0) (fun h => by cases h) rfl ?_
    simp only [go_sem]
    (repeat (refine ⟨by (first | exact True.intro | omega | rfl | (simp; done) | (simp; omega)), ?_⟩)); try (refine hKr _ ?_; clear hKr Kr)
    refine CallK.data (r := .bool true) (fun h => by cases h) rfl ?_
    simp only [go_sem]
    (repeat (refine ⟨by (first | exact True.intro | omega | rfl | (simp; done) | (simp; omega)), ?_⟩)); try (refine hKr _ ?_; clear hKr Kr)
    refine T.condTD rfl rfl (fun hb => ?_) (fun hb => ?_) <;> try simp at hb
    refine T.skip ?_
    refine hK32 _ ?_
    refine T.sregD 34 [0, 1, 2, 3, 5, 6, 7, 8, 10, 12, 13, 27] fun Kr hKr => ?_
    simp only [go_sem]
    (repeat (refine ⟨by (first | exact True.intro | omega | rfl | (simp; done) | (simp; omega)), ?_⟩)); try (refine hKr _ ?_; clear hKr Kr)
    refine T.ret ?_
    simp only [go_sem]
    exact ⟨ResCellD rfl rfl rfl rfl (by simp only [go_sem]) (by simp only [go_sem]) rfl, ResAtD (by simp only [go_sem]) rfl rfl, trivial⟩
  have et : typedA p = .ifc 100 (.agg [.int .i64 p.app, .int .i64 p.id]) ∨ typedA p = .ifc 101 (.agg [.int .i64 p.app, .int .i64 p.id]) ∨ typedA p = .atom .nilIface := by
    unfold typedA
    rw [if_neg h2]
    split
    · exact .inl rfl
    · split
      · exact .inr (.inl rfl)
      · exact .inr (.inr rfl)
  rcases et with et | et | et
  · rw [et] at s1
    refine T.sregD 34 [0, 1, 2, 3, 5, 6, 7, 8, 10, 12, 13, 27] fun Kr hKr => ?_
    simp only [go_sem]
    (repeat (refine ⟨by (first | exact True.intro | omega | rfl | (simp; done) | (simp; omega)), ?_⟩)); try (refine hKr _ ?_; clear hKr Kr)
    refine T.seqK fun K32 hK32 => ?_
    refine T.sregD 34 [0, 1, 2, 3, 5, 6, 7, 8, 10, 12, 13, 27] fun Kr hKr => ?_
    simp only [go_sem]
    (repeat (refine ⟨by (first | exact True.intro | omega | rfl | (simp; done) | (simp; omega)), ?_⟩)); try (refine hKr _ ?_; clear hKr Kr)
    refine CallK.data (fun _ => Spec.args (s1) (by (first | exact ArgsLe.refl | (repeat (first | exact True.intro | refine And.intro (by first | exact AvLe.refl | exact AvLe.loose | exact AvLe.nil | exact AvLe.nilT | exact AvLe.slk | (refine AvLe.agg ?_; exact ArgsLe.refl) | (refine AvLe.agg ?_; (repeat (first | exact True.intro | refine And.intro (by first | exact AvLe.refl | exact AvLe.loose | exact AvLe.nil | exact AvLe.nilT | exact AvLe.slk) ?_)))) ?_))))) rfl ?_
    simp only [go_sem]
    (repeat (refine ⟨by (first | exact True.intro | omega | rfl | (simp; done) | (simp; omega)), ?_⟩)); try (refine hKr _ ?_; clear hKr Kr)
    refine T.block ?_
    refine T.sregD 34 [0, 1, 2, 3, 5, 6, 7, 8, 10, 12, 13, 27] fun Kr hKr => ?_
    simp only [go_sem]
    (repeat (refine ⟨by (first | exact True.intro | omega | rfl | (simp; done) | (simp; omega)), ?_⟩)); try (refine hKr _ ?_; clear hKr Kr)
    refine T.condTD rfl rfl (fun hb => ?_) (fun hb => ?_) <;> try simp at hb
    refine T.skip ?_
    refine hK32 _ ?_
    refine T.sregD 34 [0, 1, 2, 3, 5, 6, 7, 8, 10, 12, 13, 27] fun Kr hKr => ?_
    simp only [go_sem]
    (repeat (refine ⟨by (first | exact True.intro | omega | rfl | (simp; done) | (simp; omega)), ?_⟩)); try (refine hKr _ ?_; clear hKr Kr)
    refine T.ret ?_
    simp only [go_sem]
    exact ⟨ResCellD rfl rfl rfl rfl (by simp only [go_sem]) (by simp only [go_sem]) rfl, ResAtD (by simp only [go_sem]) rfl rfl, trivial⟩
  · rw [et] at s1
    refine T.sregD 34 [0, 1, 2, 3, 5, 6, 7, 8, 10, 12, 13, 27] fun Kr hKr => ?_
    simp only [go_sem]
    (repeat (refine ⟨by (first | exact True.intro | omega | rfl | (simp; done) | (simp; omega)), ?_⟩)); try (refine hKr _ ?_; clear hKr Kr)
    refine T.seqK fun K32 hK32 => ?_
    refine T.sregD 34 [0, 1, 2, 3, 5, 6, 7, 8, 10, 12, 13, 27] fun Kr hKr => ?_
    simp only [go_sem]
    (repeat (refine ⟨by (first | exact True.intro | omega | rfl | (simp; done) | (simp; omega)), ?_⟩)); try (refine hKr _ ?_; clear hKr Kr)
    refine CallK.data (fun _ => Spec.args (s1) (by (first | exact ArgsLe.refl | (repeat (first | exact True.intro | refine And.intro (by first | exact AvLe.refl | exact AvLe.loose | exact AvLe.nil | exact AvLe.nilT | exact AvLe.slk | (refine AvLe.agg ?_; exact ArgsLe.refl) | (refine AvLe.agg ?_; (repeat (first | exact True.intro | refine And.intro (by first | exact AvLe.refl | exact AvLe.loose | exact AvLe.nil | exact AvLe.nilT | exact AvLe.slk) ?_)))) ?_))))) rfl ?_
    simp only [go_sem]
    (repeat (refine ⟨by (first | exact True.intro | omega | rfl | (simp; done) | (simp; omega)), ?_⟩)); try (refine hKr _ ?_; clear hKr Kr)
    refine T.block ?_
    refine T.sregD 34 [0, 1, 2, 3, 5, 6, 7, 8, 10, 12, 13, 27] fun Kr hKr => ?_
    simp only [go_sem]
    (repeat (refine ⟨by (first | exact True.intro | omega | rfl | (simp; done) | (simp; omega)), ?_⟩)); try (refine hKr _ ?_; clear hKr Kr)
    refine T.condTD rfl rfl (fun hb => ?_) (fun hb => ?_) <;> try simp at hb
    refine T.skip ?_
    refine hK32 _ ?_
    refine T.sregD 34 [0, 1, 2, 3, 5, 6, 7, 8, 10, 12, 13, 27] fun Kr hKr => ?_
    simp only [go_sem]
    (repeat (refine ⟨by (first | exact True.intro | omega | rfl | (simp; done) | (simp; omega)), ?_⟩)); try (refine hKr _ ?_; clear hKr Kr)
    refine T.ret ?_
    simp only [go_sem]
    exact ⟨ResCellD rfl rfl rfl rfl (by simp only [go_sem]) (by simp only [go_sem]) rfl, ResAtD (by simp only [go_sem]) rfl rfl, trivial⟩
  · rw [et] at s1
    refine T.sregD 34 [0, 1, 2, 3, 5, 6, 7, 8, 10, 12, 13, 27] fun Kr hKr => ?_
    simp only [go_sem]
    (repeat (refine ⟨by (first | exact True.intro | omega | rfl | (simp; done) | (simp; omega)), ?_⟩)); try (refine hKr _ ?_; clear hKr Kr)
    refine T.seqK fun K32 hK32 => ?_
    refine T.sregD 34 [0, 1, 2, 3, 5, 6, 7, 8, 10, 12, 13, 27] fun Kr hKr => ?_
    simp only [go_sem]
    (repeat (refine ⟨by (first | exact True.intro | omega | rfl | (simp; done) | (simp; omega)), ?_⟩)); try (refine hKr _ ?_; clear hKr Kr)
    refine CallK.data (fun _ => Spec.args (s1) (by (first | exact ArgsLe.refl | (repeat (first | exact True.intro | refine And.intro (by first | exact AvLe.refl | exact AvLe.loose | exact AvLe.nil | exact AvLe.nilT | exact AvLe.slk | (refine AvLe.agg ?_; exact ArgsLe.refl) | (refine AvLe.agg ?_; (repeat (first | exact True.intro | refine And.intro (by first | exact AvLe.refl | exact AvLe.loose | exact AvLe.nil | exact AvLe.nilT | exact AvLe.slk) ?_)))) ?_))))) rfl ?_
    simp only [go_sem]
    (repeat (refine ⟨by (first | exact True.intro | omega | rfl | (simp; done) | (simp; omega)), ?_⟩)); try (refine hKr _ ?_; clear hKr Kr)
    refine T.block ?_
    refine T.sregD 34 [0, 1, 2, 3, 5, 6, 7, 8, 10, 12, 13, 27] fun Kr hKr => ?_
    simp only [go_sem]
    (repeat (refine ⟨by (first | exact True.intro | omega | rfl | (simp; done) | (simp; omega)), ?_⟩)); try (refine hKr _ ?_; clear hKr Kr)
    refine T.condTD rfl rfl (fun hb => ?_) (fun hb => ?_) <;> try simp at hb
    refine T.skip ?_
    refine hK32 _ ?_
    refine T.sregD 34 [0, 1, 2, 3, 5, 6, 7, 8, 10, 12, 13, 27] fun Kr hKr => ?_
    simp only [go_sem]
    (repeat (refine ⟨by (first | exact True.intro | omega | rfl | (simp; done) | (simp; omega)), ?_⟩)); try (refine hKr _ ?_; clear hKr Kr)
    refine T.ret ?_
    simp only [go_sem]
    exact ⟨ResCellD rfl rfl rfl rfl (by simp only [go_sem]) (by simp only [go_sem]) rfl, ResAtD (by simp only [go_sem]) rfl rfl, trivial⟩
end Go.Proofs

/- Messages: actions. -/
set_option linter.unusedVariables false
set_option linter.unusedSimpArgs false
namespace Go.Proofs
open Go Go.Ideal
set_option maxRecDepth 8000
set_option maxHeartbeats 4000000

structure MRaw where
  k : UInt8
  i : UInt8
  app : UInt8
  t : UInt8
  deriving Inhabited
@[go_sem] def mrawA (x : MRaw) : AV := .agg [.int .u8 x.k.toNat, .int .u8 x.i.toNat, .int .u8 x.app.toNat, .int .u8 x.t.toNat]
def mrawsOf (l : List MRaw) : List AV := l.map mrawA
@[go_sem] theorem mrawsOf_len (l : List MRaw) : (mrawsOf l).length = l.length := by simp [mrawsOf]
@[go_sem] theorem mrawsOf_get {l : List MRaw} {i : Nat} (h : i < l.length) : (mrawsOf l).getD i .junk = mrawA (l.getD i default) := by simp [mrawsOf, List.getD, h]
@[go_sem] theorem mrawsOf_take (l : List MRaw) (n : Nat) : (mrawsOf l).take n = mrawsOf (l.take n) := by simp [mrawsOf]
structure Cmt where
  id : Int
  app : Int
  s : List UInt8
  deriving DecidableEq, Inhabited
@[go_sem] def cmA (c : Cmt) : AV := .agg [.int .i64 c.id, .int .i64 c.app, .str c.s]
end Go.Proofs

