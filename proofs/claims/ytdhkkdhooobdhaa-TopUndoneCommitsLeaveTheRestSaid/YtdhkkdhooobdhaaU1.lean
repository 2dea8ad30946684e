/- Undo: steps and pasts; contracts of what a step does, of copies, of searching. -/
import Derived.Test.YtdhkkdhooobdhaaN1
set_option linter.unusedVariables false
set_option linter.unusedSimpArgs false
namespace Go.Proofs
open Go Go.Ideal
set_option maxRecDepth 8000
set_option maxHeartbeats 4000000

structure Stp where
  app : Int
  id : Int
  e : Edit
  und : Bool
  deriving DecidableEq, Inhabited
structure Past where
  docs : List Doc
  st : List Stp
  deriving DecidableEq, Inhabited
@[go_sem] def stA (s : Stp) : AV := .agg [.int .i64 s.app, .int .i64 s.id, .int .i64 s.e.k, .int .i64 s.e.a, .int .i64 s.e.n, .int .i64 s.e.t, .str s.e.s, .bool s.und]
def stsOf (l : List Stp) : List AV := l.map stA
@[go_sem] theorem stsOf_len (l : List Stp) : (stsOf l).length = l.length := by simp [stsOf]
@[go_sem] theorem stsOf_get {l : List Stp} {i : Nat} (h : i < l.length) : (stsOf l).getD i .junk = stA (l.getD i default) := by simp [stsOf, List.getD, h]
theorem stsOf_app (l m : List Stp) : stsOf (l ++ m) = stsOf l ++ stsOf m := by simp [stsOf]
@[go_sem] theorem stsOf_nil : stsOf [] = [] := rfl
@[go_sem] theorem stsOf_take (l : List Stp) (n : Nat) : (stsOf l).take n = stsOf (l.take n) := by simp [stsOf]
@[go_sem] theorem stsOf_drop (l : List Stp) (n : Nat) : (stsOf l).drop n = stsOf (l.drop n) := by simp [stsOf]
def docsOf (l : List Doc) : List AV := l.map docA
@[go_sem] theorem docsOf_len (l : List Doc) : (docsOf l).length = l.length := by simp [docsOf]
@[go_sem] theorem docsOf_get {l : List Doc} {i : Nat} (h : i < l.length) : (docsOf l).getD i .junk = docA (l.getD i default) := by simp [docsOf, List.getD, h]
@[go_sem] theorem docsOf_take (l : List Doc) (n : Nat) : (docsOf l).take n = docsOf (l.take n) := by simp [docsOf]
@[go_sem] theorem docsOf_set (l : List Doc) (i : Nat) (s : List UInt8) (m : List Mark) : (docsOf l).set i (.agg [.str s, .sl false 4 (mksOf m)]) = docsOf (l.set i ⟨s, m⟩) := by
  simp [docsOf, List.map_set, docA]
@[go_sem] theorem docsOf_nil : docsOf [] = [] := rfl
@[go_sem] def pastA (p : Past) : AV := .agg [.sl false 2 (docsOf p.docs), .sl false 8 (stsOf p.st)]
def noPast : Past := ⟨[], []⟩

@[go_sem] theorem meth_put : methOf Try.prog 107 "syllabary/undo.do" = some 106 := rfl
@[go_sem] theorem meth_edit : methOf Try.prog 109 "syllabary/undo.do" = some 107 := rfl

/-! ### What a step does -/
def actF (d : Doc) (s : Stp) : Doc × Int := if s.id ≥ 0 then putF d s.id s.e.a s.e.s else doF d s.e
theorem putting_spec (d : Doc) (id : Int) (e : Edit) (hd : OkD d) (hl : e.s.length ≤ 100000) :
    Ideal.Spec Try.prog 106 [.agg [.int .i64 id, .int .i64 e.k, .int .i64 e.a, .int .i64 e.n, .int .i64 e.t, .str e.s], docA d] (.tup [docA (putF d id e.a e.s).1, .int .i64 (putF d id e.a e.s).2]) none := by
  have sp := Put_spec d id e.a e.s hd hl
  generalize putF d id e.a e.s = r at *
  refine Ideal.Spec.of_MD (n := 18) (fn := Try.f106) rfl rfl rfl rfl rfl rfl rfl fun w ok => ?_
  refine T.post [.tmp 4] ?_
  refine T.sregD 18 [0, 1, 2, 3, 4, 5] fun Kr hKr => ?_
  simp only [go_sem]
  (repeat (refine ⟨by (first | exact True.intro | omega | rfl | (simp; done) | (simp; omega)), ?_⟩)); try (refine hKr _ ?_; clear hKr Kr)
  refine T.sregD 18 [0, 1, 2, 3, 4, 5] fun Kr hKr => ?_
  simp only [go_sem]
  (repeat (refine ⟨by (first | exact True.intro | omega | rfl | (simp; done) | (simp; omega)), ?_⟩)); try (refine hKr _ ?_; clear hKr Kr)
  refine CallK.tup (fun _ => Spec.args (sp) (by (first | exact ArgsLe.refl | (repeat (first | exact True.intro | refine And.intro (by first | exact AvLe.refl | exact AvLe.loose | exact AvLe.nil | exact AvLe.nilT | exact AvLe.slk | (refine AvLe.agg ?_; exact ArgsLe.refl) | (refine AvLe.agg ?_; (repeat (first | exact True.intro | refine And.intro (by first | exact AvLe.refl | exact AvLe.loose | exact AvLe.nil | exact AvLe.nilT | exact AvLe.slk) ?_)))) ?_))))) ?_
  simp only [go_sem]
  (repeat (refine ⟨by (first | exact True.intro | omega | rfl | (simp; done) | (simp; omega)), ?_⟩)); try (refine hKr _ ?_; clear hKr Kr)
  refine T.ret ?_
  simp only [go_sem]
  exact ⟨ResCellD rfl rfl rfl rfl (by simp only [go_sem]) (by simp only [go_sem]) rfl, ResAtD (by simp only [go_sem]) rfl rfl, trivial⟩
theorem editing_spec (d : Doc) (e : Edit) (hd : OkD d) (hl : e.s.length ≤ 100000) :
    Ideal.Spec Try.prog 107 [.agg [.int .i64 e.k, .int .i64 e.a, .int .i64 e.n, .int .i64 e.t, .str e.s], docA d] (.tup [docA (doF d e).1, .int .i64 (doF d e).2]) none := by
  have sp := Do_spec d e hd hl
  generalize doF d e = r at *
  refine Ideal.Spec.of_MD (n := 12) (fn := Try.f107) rfl rfl rfl rfl rfl rfl rfl fun w ok => ?_
  refine T.post [.tmp 4] ?_
  refine T.sregD 12 [0, 1, 2, 3, 4, 5] fun Kr hKr => ?_
  simp only [go_sem]
  (repeat (refine ⟨by (first | exact True.intro | omega | rfl | (simp; done) | (simp; omega)), ?_⟩)); try (refine hKr _ ?_; clear hKr Kr)
  refine T.sregD 12 [0, 1, 2, 3, 4, 5] fun Kr hKr => ?_
  simp only [go_sem]
  (repeat (refine ⟨by (first | exact True.intro | omega | rfl | (simp; done) | (simp; omega)), ?_⟩)); try (refine hKr _ ?_; clear hKr Kr)
  refine CallK.tup (fun _ => Spec.args (sp) (by (first | exact ArgsLe.refl | (repeat (first | exact True.intro | refine And.intro (by first | exact AvLe.refl | exact AvLe.loose | exact AvLe.nil | exact AvLe.nilT | exact AvLe.slk | (refine AvLe.agg ?_; exact ArgsLe.refl) | (refine AvLe.agg ?_; (repeat (first | exact True.intro | refine And.intro (by first | exact AvLe.refl | exact AvLe.loose | exact AvLe.nil | exact AvLe.nilT | exact AvLe.slk) ?_)))) ?_))))) ?_
  simp only [go_sem]
  (repeat (refine ⟨by (first | exact True.intro | omega | rfl | (simp; done) | (simp; omega)), ?_⟩)); try (refine hKr _ ?_; clear hKr Kr)
  refine T.ret ?_
  simp only [go_sem]
  exact ⟨ResCellD rfl rfl rfl rfl (by simp only [go_sem]) (by simp only [go_sem]) rfl, ResAtD (by simp only [go_sem]) rfl rfl, trivial⟩
def actA (s : Stp) : AV := if s.id ≥ 0 then .ifc 107 (.agg [.int .i64 s.id, .int .i64 s.e.k, .int .i64 s.e.a, .int .i64 s.e.n, .int .i64 s.e.t, .str s.e.s]) else .ifc 109 (.agg [.int .i64 s.e.k, .int .i64 s.e.a, .int .i64 s.e.n, .int .i64 s.e.t, .str s.e.s])
theorem actionOf_spec (s : Stp) : Ideal.Spec Try.prog 25 [stA s] (actA s) none := by
  refine Ideal.Spec.of_TD (n := 16) (fn := Try.f25) rfl rfl rfl rfl rfl rfl rfl fun w ok => ?_
  refine T.sregD 16 [0, 1, 2, 5] fun Kr hKr => ?_
  simp only [go_sem]
  (repeat (refine ⟨by (first | exact True.intro | omega | rfl | (simp; done) | (simp; omega)), ?_⟩)); try (refine hKr _ ?_; clear hKr Kr)
  refine T.seqK fun K78 hK78 => ?_
  refine T.sregD 16 [0, 1, 2, 5] fun Kr hKr => ?_
  simp only [go_sem]
  (repeat (refine ⟨by (first | exact True.intro | omega | rfl | (simp; done) | (simp; omega)), ?_⟩)); try (refine hKr _ ?_; clear hKr Kr)
  refine T.condTD rfl rfl (fun hb => ?_) (fun hb => ?_) <;> simp at hb
  · -- yes
    have e : actA s = .ifc 107 (.agg [.int .i64 s.id, .int .i64 s.e.k, .int .i64 s.e.a, .int .i64 s.e.n, .int .i64 s.e.t, .str s.e.s]) := by simp [actA, hb]
    refine T.sregD 16 [0, 1, 2, 5] fun Kr hKr => ?_
    simp only [go_sem]
    (repeat (refine ⟨by (first | exact True.intro | omega | rfl | (simp; done) | (simp; omega)), ?_⟩)); try (refine hKr _ ?_; clear hKr Kr)
    rw [e]; exact T.ret (Fin.dataD rfl rfl rfl)
  have e : actA s = .ifc 109 (.agg [.int .i64 s.e.k, .int .i64 s.e.a, .int .i64 s.e.n, .int .i64 s.e.t, .str s.e.s]) := by unfold actA; rw [if_neg (by omega)]
  refine T.skip ?_
  refine hK78 _ ?_
  refine T.sregD 16 [0, 1, 2, 5] fun Kr hKr => ?_
  simp only [go_sem]
  (repeat (refine ⟨by (first | exact True.intro | omega | rfl | (simp; done) | (simp; omega)), ?_⟩)); try (refine hKr _ ?_; clear hKr Kr)
  rw [e]; exact T.ret (Fin.dataD rfl rfl rfl)

/-! ### Copies -/
theorem cloneD_spec (l : List Doc) (hl : l.length ≤ 100000) : Ideal.Spec Try.prog 26 [.sl false 2 (docsOf l)] (.osl 0 0 l.length) (some ⟨2, 26, false, docsOf l⟩) := by
  refine Ideal.Spec.of_TD (n := 8) (fn := Try.f26) rfl rfl rfl rfl rfl rfl rfl fun w ok => ?_
  refine T.sregD 8 [0, 2, 4] fun Kr hKr => ?_
  simp only [go_sem]
  (repeat (refine ⟨by (first | exact True.intro | omega | rfl | (simp; done) | (simp; omega)), ?_⟩)); try (refine hKr _ ?_; clear hKr Kr)
  refine T.seqK fun K79 hK79 => ?_
  refine T.sregD 8 [0, 2, 4] fun Kr hKr => ?_
  simp only [go_sem]
  (repeat (refine ⟨by (first | exact True.intro | omega | rfl | (simp; done) | (simp; omega)), ?_⟩)); try (refine hKr _ ?_; clear hKr Kr)
  intro b hbn
  refine hKr _ ?_
  clear hKr Kr
  refine T.condTD rfl rfl (fun hb => ?_) (fun hb => ?_) <;> try simp at hb
  · -- yes
    have hn := hbn hb
    have hl0 : l = [] := by simpa [docsOf] using hn
    subst hl0
    refine T.sregD 8 [0, 2, 4] fun Kr hKr => ?_
    simp only [go_sem]
    (repeat (refine ⟨by (first | exact True.intro | omega | rfl | (simp; done) | (simp; omega)), ?_⟩)); try (refine hKr _ ?_; clear hKr Kr)
    refine T.weaken (Le.own 2 50 2 26) ?_
    simp only [go_sem]
    refine T.ret (Fin.oslD rfl rfl rfl)
  refine T.skip ?_
  refine hK79 _ ?_
  refine T.sregD 8 [0, 2, 4] fun Kr hKr => ?_
  simp only [go_sem]
  (repeat (refine ⟨by (first | exact True.intro | omega | rfl | (simp; done) | (simp; omega)), ?_⟩)); try (refine hKr _ ?_; clear hKr Kr)
  refine T.ret (Fin.oslD rfl rfl rfl)
theorem cloneS_spec (l : List Stp) (hl : l.length ≤ 100000) : Ideal.Spec Try.prog 27 [.sl false 8 (stsOf l)] (.osl 0 0 l.length) (some ⟨8, 51, false, stsOf l⟩) := by
  refine Ideal.Spec.of_TD (n := 8) (fn := Try.f27) rfl rfl rfl rfl rfl rfl rfl fun w ok => ?_
  refine T.sregD 8 [0, 2, 4] fun Kr hKr => ?_
  simp only [go_sem]
  (repeat (refine ⟨by (first | exact True.intro | omega | rfl | (simp; done) | (simp; omega)), ?_⟩)); try (refine hKr _ ?_; clear hKr Kr)
  refine T.seqK fun K79 hK79 => ?_
  refine T.sregD 8 [0, 2, 4] fun Kr hKr => ?_
  simp only [go_sem]
  (repeat (refine ⟨by (first | exact True.intro | omega | rfl | (simp; done) | (simp; omega)), ?_⟩)); try (refine hKr _ ?_; clear hKr Kr)
  intro b hbn
  refine hKr _ ?_
  clear hKr Kr
  refine T.condTD rfl rfl (fun hb => ?_) (fun hb => ?_) <;> try simp at hb
  · -- yes
    have hn := hbn hb
    have hl0 : l = [] := by simpa [stsOf] using hn
    subst hl0
    refine T.sregD 8 [0, 2, 4] fun Kr hKr => ?_
    simp only [go_sem]
    (repeat (refine ⟨by (first | exact True.intro | omega | rfl | (simp; done) | (simp; omega)), ?_⟩)); try (refine hKr _ ?_; clear hKr Kr)
    refine T.weaken (Le.own 2 50 8 51) ?_
    simp only [go_sem]
    refine T.ret (Fin.oslD rfl rfl rfl)
  refine T.skip ?_
  refine hK79 _ ?_
  refine T.sregD 8 [0, 2, 4] fun Kr hKr => ?_
  simp only [go_sem]
  (repeat (refine ⟨by (first | exact True.intro | omega | rfl | (simp; done) | (simp; omega)), ?_⟩)); try (refine hKr _ ?_; clear hKr Kr)
  refine T.ret (Fin.oslD rfl rfl rfl)

/-! ### Searching -/
@[go_sem] def stC (s : Stp) : AV := .cp [.int .i64 s.app, .int .i64 s.id, .int .i64 s.e.k, .int .i64 s.e.a, .int .i64 s.e.n, .int .i64 s.e.t, .str s.e.s, .bool s.und]
theorem same_spec (s t : Stp) : Ideal.Spec Try.prog 23 [stA s, stC t] (.bool (decide (s.id = t.id))) none := by
  refine Ideal.Spec.of_TD (n := 9) (fn := Try.f23) rfl rfl rfl rfl rfl rfl rfl fun w ok => ?_
  refine T.sregD 9 [0, 1, 2, 3] fun Kr hKr => ?_
  simp only [go_sem]
  (repeat (refine ⟨by (first | exact True.intro | omega | rfl | (simp; done) | (simp; omega)), ?_⟩)); try (refine hKr _ ?_; clear hKr Kr)
  refine T.sregD 9 [0, 1, 2, 3] fun Kr hKr => ?_
  simp only [go_sem]
  (repeat (refine ⟨by (first | exact True.intro | omega | rfl | (simp; done) | (simp; omega)), ?_⟩)); try (refine hKr _ ?_; clear hKr Kr)
  refine T.ret (Fin.dataD rfl rfl rfl)
def hasS (l : List Stp) (id : Int) : Bool := l.any fun x => decide (x.id = id)
def fndS (l : List Stp) (id : Int) : Int := match l.findIdx? (fun x => decide (x.id = id)) with | some i => i | none => -1
theorem fndS_none {l : List Stp} {id : Int} (h : (l.take l.length).any (fun x => decide (x.id = id)) = false) : fndS l id = -1 := by
  rw [List.take_length] at h
  have : l.findIdx? (fun x => decide (x.id = id)) = none := by
    rw [List.findIdx?_eq_none_iff]; intro x hx
    simpa using List.any_eq_false.1 h x hx
  simp only [fndS, this]
theorem fndS_at {l : List Stp} {id : Int} {i : Nat} (hi : i < l.length) (hn : (l.take i).any (fun x => decide (x.id = id)) = false) (h : (l.getD i default).id = id) : fndS l id = i := by
  have : l.findIdx? (fun x => decide (x.id = id)) = some i := by
    rw [List.findIdx?_eq_some_iff_getElem]
    refine ⟨hi, by simpa [List.getD, hi] using h, fun j hj => ?_⟩
    have hjl : j < l.length := by omega
    have := List.any_eq_false.1 hn l[j] (by
      rw [List.mem_take_iff_getElem]; exact ⟨j, by omega, rfl⟩)
    simpa using this
  simp only [fndS, this]
theorem fndS_has (l : List Stp) (id : Int) : decide (fndS l id ≥ 0) = hasS l id := by
  unfold fndS hasS
  cases h : l.findIdx? (fun x => decide (x.id = id)) with
  | none =>
    rw [List.findIdx?_eq_none_iff] at h
    have : l.any (fun x => decide (x.id = id)) = false := List.any_eq_false.2 fun x hx => by simpa using h x hx
    rw [this]; rfl
  | some i =>
    obtain ⟨h1, h2, _⟩ := List.findIdx?_eq_some_iff_getElem.1 h
    have : l.any (fun x => decide (x.id = id)) = true := List.any_eq_true.2 ⟨l[i], List.getElem_mem h1, h2⟩
    rw [this]; simp
theorem indexFunc_spec (l : List Stp) (t : Stp) (hl : l.length ≤ 100000) : Ideal.Spec Try.prog 41 [.sl false 8 (stsOf l), .fn 23 [stC t]] (.int .i64 (fndS l t.id)) none := by
  have sp := fun s => same_spec s t
  have a1 : ([stC t] : List AV).all AV.data0 = true := rfl
  refine Ideal.Spec.of_TD (n := 19) (fn := Try.f41) rfl rfl rfl rfl rfl rfl rfl fun w ok => ?_
  refine T.sregD 19 [0, 1, 4, 5, 7, 8, 9, 16] fun Kr hKr => ?_
  simp only [go_sem]
  (repeat (refine ⟨by (first | exact True.intro | omega | rfl | (simp; done) | (simp; omega)), ?_⟩)); try (refine hKr _ ?_; clear hKr Kr)
  refine T.seqK fun K1 hK1 => ?_
  refine T.sregD 19 [0, 1, 4, 5, 7, 8, 9, 16] fun Kr hKr => ?_
  simp only [go_sem]
  (repeat (refine ⟨by (first | exact True.intro | omega | rfl | (simp; done) | (simp; omega)), ?_⟩)); try (refine hKr _ ?_; clear hKr Kr)
  refine T.bloop (fun i : Nat => ⟨dense 19 [(0, .sl false 8 (stsOf l)), (1, .fn 23 [stC t]), (7, .int .i64 l.length), (8, .int .i64 i)], []⟩) (fun i => i ≤ l.length ∧ (l.take i).any (fun x => decide (x.id = t.id)) = false) (fun i => l.length - i) 0 (by simp) ?_ fun i hi => ?_
  · refine Le.fitS (by (repeat (first | exact DFit.nil | refine DFit.cons (by first | rfl | (simp [slook]; done) | (simp [slook]; omega)) ?_))) (by (repeat (first | exact True.intro | refine And.intro (by first | rfl | (simp [look]; done)) ?_)))
  obtain ⟨hi, hn⟩ := hi
  refine T.sregD 19 [0, 1, 4, 5, 7, 8, 9, 16] fun Kr hKr => ?_
  simp only [go_sem]
  (repeat (refine ⟨by (first | exact True.intro | omega | rfl | (simp; done) | (simp; omega)), ?_⟩)); try (refine hKr _ ?_; clear hKr Kr)
  refine T.seqK fun K2 hK2 => ?_
  refine T.condFD rfl rfl (fun hb => ?_) (fun hb => ?_) <;> simp at hb
  · -- no: exit
    refine T.exit ?_
    simp only [if_true]
    refine hK1 _ ?_
    have : i = l.length := by omega
    subst this
    have ee : fndS l t.id = -1 := fndS_none hn
    refine T.sregD 19 [0, 1, 4, 5, 7, 8, 9, 16] fun Kr hKr => ?_
    simp only [go_sem]
    (repeat (refine ⟨by (first | exact True.intro | omega | rfl | (simp; done) | (simp; omega)), ?_⟩)); try (refine hKr _ ?_; clear hKr Kr)
    refine T.ret (Fin.dataD (by rw [ee]; rfl) rfl rfl)
  refine T.skip ?_
  refine hK2 _ ?_
  refine T.seqK fun K3 hK3 => ?_
  refine T.block ?_
  have h1 := sp (l.getD i default)
  refine T.sregD 19 [0, 1, 4, 5, 7, 8, 9, 16] fun Kr hKr => ?_
  simp only [go_sem, hb]
  (repeat (refine ⟨by (first | exact True.intro | omega | rfl | (simp; done) | (simp; omega)), ?_⟩)); try (refine hKr _ ?_; clear hKr Kr)
  refine T.sregD 19 [0, 1, 4, 5, 7, 8, 9, 16] fun Kr hKr => ?_
  simp only [go_sem, hb]
  (repeat (refine ⟨by (first | exact True.intro | omega | rfl | (simp; done) | (simp; omega)), ?_⟩)); try (refine hKr _ ?_; clear hKr Kr)
  refine CallK.data (fun _ => Spec.args (h1) (by (first | exact ArgsLe.refl | (repeat (first | exact True.intro | refine And.intro (by first | exact AvLe.refl | exact AvLe.loose | exact AvLe.nil | exact AvLe.nilT | exact AvLe.slk | (refine AvLe.agg ?_; exact ArgsLe.refl) | (refine AvLe.agg ?_; (repeat (first | exact True.intro | refine And.intro (by first | exact AvLe.refl | exact AvLe.loose | exact AvLe.nil | exact AvLe.nilT | exact AvLe.slk) ?_)))) ?_))))) rfl ?_
  simp only [go_sem]
  (repeat (refine ⟨by (first | exact True.intro | omega | rfl | (simp; done) | (simp; omega)), ?_⟩)); try (refine hKr _ ?_; clear hKr Kr)
  refine T.condTD rfl rfl (fun hc => ?_) (fun hc => ?_) <;> simp only [decide_eq_true_eq, decide_eq_false_iff_not] at hc
  · -- yes
    have ee : fndS l t.id = i := fndS_at hb hn hc
    refine T.sregD 19 [0, 1, 4, 5, 7, 8, 9, 16] fun Kr hKr => ?_
    simp only [go_sem]
    (repeat (refine ⟨by (first | exact True.intro | omega | rfl | (simp; done) | (simp; omega)), ?_⟩)); try (refine hKr _ ?_; clear hKr Kr)
    refine T.ret (Fin.dataD (by rw [ee]; rfl) rfl rfl)
  refine T.skip ?_
  refine hK3 _ ?_
  refine T.regD 19 [0, 1, 4, 5, 7, 8, 9, 16] fun Kr hKr => ?_
  simp only [go_sem]
  (repeat (refine ⟨by (first | exact True.intro | omega | rfl | (simp; done) | (simp; omega)), ?_⟩)); try (refine hKr _ ?_; clear hKr Kr)
  refine ⟨i + 1, ?_, ?_, Le.fitS (by (repeat (first | exact DFit.nil | refine DFit.cons (by first | rfl | (simp [slook]; done) | (simp [slook]; omega)) ?_))) ?_⟩
  · refine ⟨by omega, ?_⟩
    rw [take_succ_d hb, List.any_append, hn]
    simp only [List.any_cons, List.any_nil, Bool.or_false, Bool.false_or, decide_eq_false_iff_not]
    exact hc
  · omega
  · (repeat (first | exact True.intro | refine And.intro (by first | rfl | (simp [look]; done)) ?_))
theorem containsFunc_spec (l : List Stp) (t : Stp) (hl : l.length ≤ 100000) : Ideal.Spec Try.prog 24 [.sl false 8 (stsOf l), .fn 23 [stC t]] (.bool (hasS l t.id)) none := by
  have sp := indexFunc_spec l t hl
  refine Ideal.Spec.of_TD (n := 9) (fn := Try.f24) rfl rfl rfl rfl rfl rfl rfl fun w ok => ?_
  refine T.sregD 9 [0, 1, 4] fun Kr hKr => ?_
  simp only [go_sem]
  (repeat (refine ⟨by (first | exact True.intro | omega | rfl | (simp; done) | (simp; omega)), ?_⟩)); try (refine hKr _ ?_; clear hKr Kr)
  refine T.sregD 9 [0, 1, 4] fun Kr hKr => ?_
  simp only [go_sem]
  (repeat (refine ⟨by (first | exact True.intro | omega | rfl | (simp; done) | (simp; omega)), ?_⟩)); try (refine hKr _ ?_; clear hKr Kr)
  refine CallK.data (fun _ => Spec.args (sp) (by (first | exact ArgsLe.refl | (repeat (first | exact True.intro | refine And.intro (by first | exact AvLe.refl | exact AvLe.loose | exact AvLe.nil | exact AvLe.nilT | exact AvLe.slk | (refine AvLe.agg ?_; exact ArgsLe.refl) | (refine AvLe.agg ?_; (repeat (first | exact True.intro | refine And.intro (by first | exact AvLe.refl | exact AvLe.loose | exact AvLe.nil | exact AvLe.nilT | exact AvLe.slk) ?_)))) ?_))))) rfl ?_
  simp only [go_sem]
  (repeat (refine ⟨by (first | exact True.intro | omega | rfl | (simp; done) | (simp; omega)), ?_⟩)); try (refine hKr _ ?_; clear hKr Kr)
  refine T.ret (Fin.dataD (by rw [← fndS_has]; rfl) rfl rfl)

/-! ### Commits, later steps, marks -/
def isCom (p : Past) (i : Int) : Bool :=
  if i < 0 ∨ i ≥ p.st.length then false
  else decide ((p.st.getD i.toNat default).id ≥ 0) && (!(p.st.getD i.toNat default).und && (decide ((p.st.getD i.toNat default).app ≥ 0) && decide ((p.st.getD i.toNat default).app < p.docs.length)))
def fstM (s : Stp) : Mark := ⟨s.id, s.e.a, s.e.a + s.e.s.length, true⟩
theorem firstMark_spec (s : Stp) (h : Sm s.e.a) (hl : s.e.s.length ≤ 100000) : Ideal.Spec Try.prog 28 [stA s] (mkA (fstM s)) none := by
  obtain ⟨h1, h2⟩ := h
  refine Ideal.Spec.of_CD (n := 17) (fn := Try.f28) rfl rfl rfl rfl rfl rfl rfl fun w ok => ?_
  refine T.post [.tmp 2] ?_
  refine T.sregD 17 [0, 1, 2] fun Kr hKr => ?_
  simp only [go_sem]
  (repeat (refine ⟨by (first | exact True.intro | omega | rfl | (simp; done) | (simp; omega)), ?_⟩)); try (refine hKr _ ?_; clear hKr Kr)
  refine T.sregD 17 [0, 1, 2] fun Kr hKr => ?_
  simp only [go_sem]
  (repeat (refine ⟨by (first | exact True.intro | omega | rfl | (simp; done) | (simp; omega)), ?_⟩)); try (refine hKr _ ?_; clear hKr Kr)
  refine T.ret ?_
  simp only [go_sem]
  exact ⟨ResCellD rfl rfl rfl rfl (by simp only [go_sem]) (by simp only [go_sem, fstM]) rfl, trivial⟩
theorem isCommit_spec (p : Past) (i : Int) (hs : p.st.length ≤ 100000) (hd : p.docs.length ≤ 100000) : Ideal.Spec Try.prog 36 [pastA p, .int .i64 i] (.bool (isCom p i)) none := by
  refine Ideal.Spec.of_TD (n := 41) (fn := Try.f36) rfl rfl rfl rfl rfl rfl rfl fun w ok => ?_
  refine T.sregD 41 [0, 1, 2, 4, 5, 14] fun Kr hKr => ?_
  simp only [go_sem]
  (repeat (refine ⟨by (first | exact True.intro | omega | rfl | (simp; done) | (simp; omega)), ?_⟩)); try (refine hKr _ ?_; clear hKr Kr)
  refine T.seqK fun K94 hK94 => ?_
  refine T.sregD 41 [0, 1, 2, 4, 5, 14] fun Kr hKr => ?_
  simp only [go_sem, cond_or]
  (repeat (refine ⟨by (first | exact True.intro | omega | rfl | (simp; done) | (simp; omega)), ?_⟩)); try (refine hKr _ ?_; clear hKr Kr)
  refine T.condTD rfl rfl (fun hb => ?_) (fun hb => ?_) <;> simp only [Bool.or_eq_true, Bool.or_eq_false_iff, decide_eq_true_eq, decide_eq_false_iff_not] at hb
  · have e : isCom p i = false := by unfold isCom; rw [if_pos hb]
    refine T.sregD 41 [0, 1, 2, 4, 5, 14] fun Kr hKr => ?_
    simp only [go_sem]
    (repeat (refine ⟨by (first | exact True.intro | omega | rfl | (simp; done) | (simp; omega)), ?_⟩)); try (refine hKr _ ?_; clear hKr Kr)
    refine T.ret (Fin.dataD (by rw [e]; rfl) rfl rfl)
  obtain ⟨n, rfl⟩ : ∃ n : Nat, i = n := ⟨i.toNat, by omega⟩
  have hn : n < p.st.length := by omega
  refine T.skip ?_
  refine hK94 _ ?_
  refine T.sregD 41 [0, 1, 2, 4, 5, 14] fun Kr hKr => ?_
  simp only [go_sem, hn]
  (repeat (refine ⟨by (first | exact True.intro | omega | rfl | (simp; done) | (simp; omega)), ?_⟩)); try (refine hKr _ ?_; clear hKr Kr)
  refine T.sregD 41 [0, 1, 2, 4, 5, 14] fun Kr hKr => ?_
  simp only [go_sem]
  (repeat (refine ⟨by (first | exact True.intro | omega | rfl | (simp; done) | (simp; omega)), ?_⟩)); try (refine hKr _ ?_; clear hKr Kr)
  have e : isCom p n = (decide ((p.st.getD n default).id ≥ 0) && (!(p.st.getD n default).und && (decide ((p.st.getD n default).app ≥ 0) && decide ((p.st.getD n default).app < p.docs.length)))) := by
    unfold isCom; rw [if_neg (by omega)]; rfl
  refine T.ret (Fin.dataD (by rw [e]; simp only [slook, cond_and, Bool.and_assoc]; rfl) rfl rfl)
def ofN (l : List Nat) : List Int := l.map fun (n : Nat) => (n : Int)
@[go_sem] theorem ofN_len (l : List Nat) : (ofN l).length = l.length := by simp [ofN]
def latP (l : List Stp) (i q : Nat) : Bool := decide (i < q) && (decide ((l.getD q default).app = (l.getD i default).app) && !(l.getD q default).und)
/-- The later steps of its document, up to some step. -/
def latL (l : List Stp) (i j : Nat) : List Nat := (List.range j).filter (latP l i)
theorem latL_succ (l : List Stp) (i j : Nat) : latL l i (j + 1) = latL l i j ++ (if latP l i j = true then [j] else []) := by
  simp only [latL, List.range_succ, List.filter_append]
  congr 1
  by_cases h : latP l i j = true <;> simp [h]
theorem latL_len (l : List Stp) (i j : Nat) : (latL l i j).length ≤ j := Nat.le_trans (List.length_filter_le _ _) (by simp)
theorem latL_start (l : List Stp) (i : Nat) : latL l i (i + 1) = [] := by
  simp only [latL, List.filter_eq_nil_iff]
  intro q hq
  simp only [List.mem_range] at hq
  simp [latP]; omega
theorem later_spec (p : Past) (i : Nat) (hs : p.st.length ≤ 100000) (hi : i < p.st.length) : Ideal.Spec Try.prog 29 [pastA p, .int .i64 i] (.sl false 1 (intsOf (ofN (latL p.st i p.st.length)))) none := by
  refine Ideal.Spec.of_TD (n := 43) (fn := Try.f29) rfl rfl rfl rfl rfl rfl rfl fun w ok => ?_
  refine T.post [.tmp 4] ?_
  refine T.sregD 43 [0, 1, 2, 4, 5, 6, 13, 37] fun Kr hKr => ?_
  simp only [go_sem]
  (repeat (refine ⟨by (first | exact True.intro | omega | rfl | (simp; done) | (simp; omega)), ?_⟩)); try (refine hKr _ ?_; clear hKr Kr)
  refine T.sregD 43 [0, 1, 2, 4, 5, 6, 13, 37] fun Kr hKr => ?_
  simp only [go_sem]
  (repeat (refine ⟨by (first | exact True.intro | omega | rfl | (simp; done) | (simp; omega)), ?_⟩)); try (refine hKr _ ?_; clear hKr Kr)
  refine T.seqK fun K81 hK81 => ?_
  refine T.sregD 43 [0, 1, 2, 4, 5, 6, 13, 37] fun Kr hKr => ?_
  simp only [go_sem]
  (repeat (refine ⟨by (first | exact True.intro | omega | rfl | (simp; done) | (simp; omega)), ?_⟩)); try (refine hKr _ ?_; clear hKr Kr)
  refine T.bloop (fun j : Nat => ⟨dense 43 [(1, .int .i64 i), (2, .op 2 0 0), (5, .osl 41 0 (latL p.st i j).length), (6, .int .i64 j)], [(41, ⟨1, 3, false, intsOf (ofN (latL p.st i j))⟩), (2, ⟨2, 33, true, [pastA p]⟩)]⟩) (fun j => i + 1 ≤ j ∧ j ≤ p.st.length) (fun j => p.st.length - j) (i + 1) ⟨by omega, by omega⟩ ?_ fun j hj => ?_
  · rw [latL_start]
    refine (Le.own 5 41 1 3).trans ?_
    simp only [go_sem]
    refine Le.fitS (by (repeat (first | exact DFit.nil | refine DFit.cons (by first | rfl | (simp [slook]; done) | (simp [slook]; omega)) ?_))) (by (repeat (first | exact True.intro | refine And.intro (by first | rfl | (simp [look]; done)) ?_)))
  obtain ⟨hj1, hj2⟩ := hj
  have hll := latL_len p.st i j
  refine T.seqK fun K82 hK82 => ?_
  refine T.sregD 43 [0, 1, 2, 4, 5, 6, 13, 37] fun Kr hKr => ?_
  simp only [go_sem]
  (repeat (refine ⟨by (first | exact True.intro | omega | rfl | (simp; done) | (simp; omega)), ?_⟩)); try (refine hKr _ ?_; clear hKr Kr)
  refine T.condFD rfl rfl (fun hb => ?_) (fun hb => ?_) <;> simp at hb
  · -- no: exit
    refine T.exit ?_
    simp only [if_true]
    refine hK81 _ ?_
    have : j = p.st.length := by omega
    subst this
    generalize latL p.st i p.st.length = L at *
    refine T.sregD 43 [0, 1, 2, 4, 5, 6, 13, 37] fun Kr hKr => ?_
    simp only [go_sem]
    (repeat (refine ⟨by (first | exact True.intro | omega | rfl | (simp; done) | (simp; omega)), ?_⟩)); try (refine hKr _ ?_; clear hKr Kr)
    have ht : (ofN L).take L.length = ofN L := List.take_of_length_le (by simp [ofN])
    refine T.ret ?_
    simp only [go_sem, Nat.le_refl, ht]
    exact Fin.dataD rfl rfl rfl
  refine T.skip ?_
  refine hK82 _ ?_
  refine T.seqK fun K83 hK83 => ?_
  refine T.block ?_
  have hstep := latL_succ p.st i j
  refine T.sdrawD 43 [0, 1, 2, 4, 5, 6, 13, 37] (.take 0 (.take 1 (.take 2 (.take 3 (.take 4 (.take 5 (.take 6 (.take 7 (.take 8 (.take 9 (.take 10 (.take 11 (.take 12 (.take 13 (.take 14 (.take 15 (.take 16 (.take 17 (.take 18 (.take 19 (.take 20 (.take 21 .done)))))))))))))))))))))) [2] rfl (by decide +kernel) (by decide +kernel) fun Kr hKr => ?_
  simp only [go_sem, hb, hi]
  (repeat (refine ⟨by (first | exact True.intro | omega | rfl | (simp; done) | (simp; omega)), ?_⟩)); try (refine hKr _ ?_; clear hKr Kr)
  refine T.condTD rfl rfl (fun hc => ?_) (fun hc => ?_)
  · have hq : latP p.st i j = true := by
      simp only [latP]
      rw [decide_eq_true (by omega : i < j), Bool.true_and]
      rw [cond_and] at hc; exact hc
    rw [if_pos hq] at hstep
    have happ : intsOf (ofN (latL p.st i j ++ [j])) = intsOf (ofN (latL p.st i j)) ++ [.int .i64 j] := by simp [intsOf, ofN]
    refine T.regD 43 [0, 1, 2, 4, 5, 6, 13, 37] fun Kr hKr => ?_
    simp only [go_sem]
    (repeat (refine ⟨by (first | exact True.intro | omega | rfl | (simp; done) | (simp; omega)), ?_⟩)); try (refine hKr _ ?_; clear hKr Kr)
    refine hK83 _ ?_
    refine T.regD 43 [0, 1, 2, 4, 5, 6, 13, 37] fun Kr hKr => ?_
    simp only [go_sem]
    (repeat (refine ⟨by (first | exact True.intro | omega | rfl | (simp; done) | (simp; omega)), ?_⟩)); try (refine hKr _ ?_; clear hKr Kr)
    refine ⟨j + 1, ?_, ?_, Le.fitS (by (repeat (first | exact DFit.nil | refine DFit.cons (by first | rfl | (simp [slook, hstep]; done) | (simp [slook, hstep]; omega)) ?_))) ?_⟩
    · omega
    · omega
    · rw [hstep, happ]; (repeat (first | exact True.intro | refine And.intro (by first | rfl | (simp [look]; done)) ?_))
  have hq : latP p.st i j = false := by
    simp only [latP]
    rw [decide_eq_true (by omega : i < j), Bool.true_and]
    rw [cond_and] at hc; exact hc
  rw [if_neg (by rw [hq]; decide), List.append_nil] at hstep
  refine T.skip ?_
  refine hK83 _ ?_
  refine T.regD 43 [0, 1, 2, 4, 5, 6, 13, 37] fun Kr hKr => ?_
  simp only [go_sem]
  (repeat (refine ⟨by (first | exact True.intro | omega | rfl | (simp; done) | (simp; omega)), ?_⟩)); try (refine hKr _ ?_; clear hKr Kr)
  refine ⟨j + 1, ?_, ?_, Le.fitS (by (repeat (first | exact DFit.nil | refine DFit.cons (by first | rfl | (simp [slook, hstep]; done) | (simp [slook, hstep]; omega)) ?_))) ?_⟩
  · omega
  · omega
  · rw [hstep]; (repeat (first | exact True.intro | refine And.intro (by first | rfl | (simp [look]; done)) ?_))

/-! ### New -/
theorem AvLe.slE {ex : Bool} {sz : Nat} {xs ys : List AV} (hl : xs.length = ys.length) (hc : ∀ y ∈ ys, y.cells.length = sz) (h : ArgsLe (flat xs) (flat ys)) : AvLe (.sl ex sz xs) (.sl ex sz ys) := fun ok w v hv => by
  cases hv with
  | slNil _ _ a cap hcap =>
    have : ys = [] := List.length_eq_zero_iff.1 hl.symm
    subst this
    exact .slNil ex sz a cap hcap
  | sl _ b o cap _ _ vs hb hne hcap hex hsz hvl h1 hm hh =>
    have hp := h.pts (ok := ok) (w := w) (vs := vs) ⟨hvl, hh⟩
    have := DRep.sl (ok := ok) (w := w) ex b o cap sz ys vs hb (by intro e; subst e; exact hne (List.length_eq_zero_iff.1 hl)) (by omega) (fun e => by rw [hex e, hl]) hc hp.1 h1 hm hp.2
    rw [hl]; exact this
theorem new_le (n : Nat) : AvLe (.sl false 2 (List.replicate n (.agg [.str [], .sl true 1 []]))) (.sl false 2 (docsOf (List.replicate n noDoc))) := by
  refine AvLe.slE (by simp [docsOf]) (fun y hy => ?_) ?_
  · simp only [docsOf, List.mem_map] at hy
    obtain ⟨d, _, rfl⟩ := hy; rfl
  · induction n with
    | zero => exact trivial
    | succ n ih =>
      simp only [List.replicate_succ, docsOf, List.map_cons, flat, List.flatMap_cons] at ih ⊢
      exact ⟨AvLe.refl, AvLe.nil, ih⟩
theorem New_spec (n : Nat) (hn : n ≤ 8) : Ideal.Spec Try.prog 6 [.int .i64 n] (pastA ⟨List.replicate n noDoc, []⟩) none := by
  refine Spec.weak (r := .agg [.sl false 2 (List.replicate n (.agg [.str [], .sl true 1 []])), .sl true 1 []]) ?_ rfl rfl (AvLe.agg ⟨new_le n, AvLe.nil, trivial⟩)
  refine Ideal.Spec.of_CD (n := 8) (fn := Try.f6) rfl rfl rfl rfl rfl rfl rfl fun w ok => ?_
  refine T.post [.tmp 2] ?_
  have h0 : ((0 : Int) > (n : Int)) = False := eq_false (by omega)
  have h8 : ((8 : Int) < (n : Int)) = False := eq_false (by omega)
  have hT : ∀ x : AV, (List.replicate n x).take n = List.replicate n x := fun x => List.take_of_length_le (by simp)
  have hL : ∀ x : AV, (List.replicate n x).length = n := fun x => by simp
  refine T.sregD 8 [0, 2] fun Kr hKr => ?_
  simp only [go_sem]
  (repeat (refine ⟨by (first | exact True.intro | omega | rfl | (simp; done) | (simp; omega)), ?_⟩)); try (refine hKr _ ?_; clear hKr Kr)
  refine T.sregD 8 [0, 2] fun Kr hKr => ?_
  simp only [go_sem, h0, h8, Int.toNat_natCast, hT, hL, Nat.le_refl]
  (repeat (refine ⟨by (first | exact True.intro | omega | rfl | (simp; done) | (simp; omega)), ?_⟩)); try (refine hKr _ ?_; clear hKr Kr)
  refine T.ret ?_
  simp only [go_sem, hT, hL, Nat.le_refl]
  exact ⟨ResCellD rfl rfl rfl rfl (by simp only [go_sem]) (by simp only [go_sem]) rfl, trivial⟩
end Go.Proofs
