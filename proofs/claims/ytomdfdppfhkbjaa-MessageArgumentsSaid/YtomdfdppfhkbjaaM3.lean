/- Messages: contracts of the engine's list. -/
import Derived.Test.YtomdfdppfhkbjaaM2
set_option linter.unusedVariables false
set_option linter.unusedSimpArgs false
namespace Go.Proofs
open Go Go.Ideal
set_option maxRecDepth 8000
set_option maxHeartbeats 4000000

structure Sent where
  id : Int
  app : Int
  st : Int
  s : List UInt8
  deriving DecidableEq, Inhabited
@[go_sem] def seA (x : Sent) : AV := .agg [.int .i64 x.id, .int .i64 x.app, .int .i64 x.st, .str x.s]
def sesOf (l : List Sent) : List AV := l.map seA
@[go_sem] theorem sesOf_len (l : List Sent) : (sesOf l).length = l.length := by simp [sesOf]
@[go_sem] theorem sesOf_get {l : List Sent} {i : Nat} (h : i < l.length) : (sesOf l).getD i .junk = seA (l.getD i default) := by simp [sesOf, List.getD, h]
theorem sesOf_app (l m : List Sent) : sesOf (l ++ m) = sesOf l ++ sesOf m := by simp [sesOf]
@[go_sem] theorem sesOf_nil : sesOf [] = [] := rfl
@[go_sem] theorem sesOf_take (l : List Sent) (n : Nat) : (sesOf l).take n = sesOf (l.take n) := by simp [sesOf]
@[go_sem] theorem sesOf_drop (l : List Sent) (n : Nat) : (sesOf l).drop n = sesOf (l.drop n) := by simp [sesOf]
@[go_sem] theorem sesOf_set (l : List Sent) (i : Nat) (a b c : Int) (s : List UInt8) : (sesOf l).set i (.agg [.int .i64 a, .int .i64 b, .int .i64 c, .str s]) = sesOf (l.set i ⟨a, b, c, s⟩) := by
  simp [sesOf, List.map_set, seA]
theorem sentId_spec (x : Sent) : Ideal.Spec Try.prog 50 [seA x] (.int .i64 x.id) none := by
  refine Ideal.Spec.of_TD (n := 5) (fn := Try.f50) rfl rfl rfl rfl rfl rfl rfl fun w ok => ?_
  refine T.sregD 5 [0, 1, 2] fun Kr hKr => ?_
  simp only [go_sem]
  (repeat (refine ⟨by (first | exact True.intro | omega | rfl | (simp; done) | (simp; omega)), ?_⟩)); try (refine hKr _ ?_; clear hKr Kr)
  refine T.sregD 5 [0, 1, 2] fun Kr hKr => ?_
  simp only [go_sem]
  (repeat (refine ⟨by (first | exact True.intro | omega | rfl | (simp; done) | (simp; omega)), ?_⟩)); try (refine hKr _ ?_; clear hKr Kr)
  refine T.ret (Fin.dataD rfl rfl rfl)
def hasE (l : List Sent) (id : Int) : Bool := l.any fun x => decide (x.id = id)
def fndE (l : List Sent) (id : Int) : Int := match l.findIdx? (fun x => decide (x.id = id)) with | some i => i | none => -1
theorem fndE_none {l : List Sent} {id : Int} (h : (l.take l.length).any (fun x => decide (x.id = id)) = false) : fndE l id = -1 := by
  rw [List.take_length] at h
  have : l.findIdx? (fun x => decide (x.id = id)) = none := by
    rw [List.findIdx?_eq_none_iff]; intro x hx
    simpa using List.any_eq_false.1 h x hx
  simp only [fndE, this]
theorem fndE_at {l : List Sent} {id : Int} {i : Nat} (hi : i < l.length) (hn : (l.take i).any (fun x => decide (x.id = id)) = false) (h : (l.getD i default).id = id) : fndE l id = i := by
  have : l.findIdx? (fun x => decide (x.id = id)) = some i := by
    rw [List.findIdx?_eq_some_iff_getElem]
    refine ⟨hi, by simpa [List.getD, hi] using h, fun j hj => ?_⟩
    have hjl : j < l.length := by omega
    have := List.any_eq_false.1 hn l[j] (by
      rw [List.mem_take_iff_getElem]; exact ⟨j, by omega, rfl⟩)
    simpa using this
  simp only [fndE, this]
theorem fndE_has (l : List Sent) (id : Int) : decide (fndE l id ≥ 0) = hasE l id := by
  unfold fndE hasE
  cases h : l.findIdx? (fun x => decide (x.id = id)) with
  | none =>
    rw [List.findIdx?_eq_none_iff] at h
    have : l.any (fun x => decide (x.id = id)) = false := List.any_eq_false.2 fun x hx => by simpa using h x hx
    rw [this]; rfl
  | some i =>
    obtain ⟨h1, h2, _⟩ := List.findIdx?_eq_some_iff_getElem.1 h
    have : l.any (fun x => decide (x.id = id)) = true := List.any_eq_true.2 ⟨l[i], List.getElem_mem h1, h2⟩
    rw [this]; simp
theorem searchE_spec (l : List Sent) (id : Int) (hl : l.length ≤ 100000) : Ideal.Spec Try.prog 49 [.sl false 4 (sesOf l), .int .i64 id, .fn 50 []] (.int .i64 (fndE l id)) none := by
  refine Ideal.Spec.of_TD (n := 23) (fn := Try.f49) rfl rfl rfl rfl rfl rfl rfl fun w ok => ?_
  refine T.sregD 23 [0, 1, 2, 6, 7, 8, 9, 10, 11, 12, 20] fun Kr hKr => ?_
  simp only [go_sem]
  (repeat (refine ⟨by (first | exact True.intro | omega | rfl | (simp; done) | (simp; omega)), ?_⟩)); try (refine hKr _ ?_; clear hKr Kr)
  refine T.seqK fun K1 hK1 => ?_
  refine T.sregD 23 [0, 1, 2, 6, 7, 8, 9, 10, 11, 12, 20] fun Kr hKr => ?_
  simp only [go_sem]
  (repeat (refine ⟨by (first | exact True.intro | omega | rfl | (simp; done) | (simp; omega)), ?_⟩)); try (refine hKr _ ?_; clear hKr Kr)
  refine T.bloop (fun i : Nat => ⟨dense 23 [(1, .int .i64 id), (2, .fn 50 []), (9, .sl false 4 (sesOf l)), (10, .int .i64 l.length), (11, .int .i64 i)], []⟩) (fun i => i ≤ l.length ∧ (l.take i).any (fun x => decide (x.id = id)) = false) (fun i => l.length - i) 0 (by simp) ?_ fun i hi => ?_
  · refine Le.fitS (by (repeat (first | exact DFit.nil | refine DFit.cons (by first | rfl | (simp [slook]; done) | (simp [slook]; omega)) ?_))) (by (repeat (first | exact True.intro | refine And.intro (by first | rfl | (simp [look]; done)) ?_)))
  obtain ⟨hi, hn⟩ := hi
  refine T.sregD 23 [0, 1, 2, 6, 7, 8, 9, 10, 11, 12, 20] fun Kr hKr => ?_
  simp only [go_sem]
  (repeat (refine ⟨by (first | exact True.intro | omega | rfl | (simp; done) | (simp; omega)), ?_⟩)); try (refine hKr _ ?_; clear hKr Kr)
  refine T.seqK fun K2 hK2 => ?_
  refine T.condFD rfl rfl (fun hb => ?_) (fun hb => ?_) <;> simp at hb
  · -- no: exit
    refine T.exit ?_
    simp only [if_true]
    refine hK1 _ ?_
    have : i = l.length := by omega
    subst this
    have ee : fndE l id = -1 := fndE_none hn
    refine T.sregD 23 [0, 1, 2, 6, 7, 8, 9, 10, 11, 12, 20] fun Kr hKr => ?_
    simp only [go_sem]
    (repeat (refine ⟨by (first | exact True.intro | omega | rfl | (simp; done) | (simp; omega)), ?_⟩)); try (refine hKr _ ?_; clear hKr Kr)
    refine T.ret (Fin.dataD (by rw [ee]; rfl) rfl rfl)
  refine T.skip ?_
  refine hK2 _ ?_
  refine T.seqK fun K3 hK3 => ?_
  refine T.block ?_
  have h1 := sentId_spec (l.getD i default)
  refine T.sregD 23 [0, 1, 2, 6, 7, 8, 9, 10, 11, 12, 20] fun Kr hKr => ?_
  simp only [go_sem, hb]
  (repeat (refine ⟨by (first | exact True.intro | omega | rfl | (simp; done) | (simp; omega)), ?_⟩)); try (refine hKr _ ?_; clear hKr Kr)
  refine T.sregD 23 [0, 1, 2, 6, 7, 8, 9, 10, 11, 12, 20] fun Kr hKr => ?_
  simp only [go_sem]
  (repeat (refine ⟨by (first | exact True.intro | omega | rfl | (simp; done) | (simp; omega)), ?_⟩)); try (refine hKr _ ?_; clear hKr Kr)
  refine CallK.data (fun _ => Spec.args (h1) (by (first | exact ArgsLe.refl | (repeat (first | exact True.intro | refine And.intro (by first | exact AvLe.refl | exact AvLe.loose | exact AvLe.nil | exact AvLe.nilT | exact AvLe.slk | (refine AvLe.agg ?_; exact ArgsLe.refl) | (refine AvLe.agg ?_; (repeat (first | exact True.intro | refine And.intro (by first | exact AvLe.refl | exact AvLe.loose | exact AvLe.nil | exact AvLe.nilT | exact AvLe.slk) ?_)))) ?_))))) rfl ?_
  simp only [go_sem]
  (repeat (refine ⟨by (first | exact True.intro | omega | rfl | (simp; done) | (simp; omega)), ?_⟩)); try (refine hKr _ ?_; clear hKr Kr)
  refine T.condTD rfl rfl (fun hc => ?_) (fun hc => ?_) <;> simp only [decide_eq_true_eq, decide_eq_false_iff_not] at hc
  · -- yes
    have ee : fndE l id = i := fndE_at hb hn hc
    refine T.sregD 23 [0, 1, 2, 6, 7, 8, 9, 10, 11, 12, 20] fun Kr hKr => ?_
    simp only [go_sem]
    (repeat (refine ⟨by (first | exact True.intro | omega | rfl | (simp; done) | (simp; omega)), ?_⟩)); try (refine hKr _ ?_; clear hKr Kr)
    refine T.ret (Fin.dataD (by rw [ee]; rfl) rfl rfl)
  refine T.skip ?_
  refine hK3 _ ?_
  refine T.regD 23 [0, 1, 2, 6, 7, 8, 9, 10, 11, 12, 20] fun Kr hKr => ?_
  simp only [go_sem]
  (repeat (refine ⟨by (first | exact True.intro | omega | rfl | (simp; done) | (simp; omega)), ?_⟩)); try (refine hKr _ ?_; clear hKr Kr)
  refine ⟨i + 1, ?_, ?_, Le.fitS (by (repeat (first | exact DFit.nil | refine DFit.cons (by first | rfl | (simp [slook]; done) | (simp [slook]; omega)) ?_))) ?_⟩
  · refine ⟨by omega, ?_⟩
    rw [take_succ_d hb, List.any_append, hn]
    simp only [List.any_cons, List.any_nil, Bool.or_false, Bool.false_or, decide_eq_false_iff_not]
    exact hc
  · omega
  · (repeat (first | exact True.intro | refine And.intro (by first | rfl | (simp [look]; done)) ?_))
theorem cloneE_spec (l : List Sent) (hl : l.length ≤ 100000) : Ideal.Spec Try.prog 51 [.sl false 4 (sesOf l)] (.osl 0 0 l.length) (some ⟨4, 35, false, sesOf l⟩) := by
  refine Ideal.Spec.of_TD (n := 8) (fn := Try.f51) rfl rfl rfl rfl rfl rfl rfl fun w ok => ?_
  refine T.sregD 8 [0, 2, 4] fun Kr hKr => ?_
  simp only [go_sem]
  (repeat (refine ⟨by (first | exact True.intro | omega | rfl | (simp; done) | (simp; omega)), ?_⟩)); try (refine hKr _ ?_; clear hKr Kr)
  refine T.seqK fun K79 hK79 => ?_
  refine T.sregD 8 [0, 2, 4] fun Kr hKr => ?_
  simp only [go_sem]
  (repeat (refine ⟨by (first | exact True.intro | omega | rfl | (simp; done) | (simp; omega)), ?_⟩)); try (refine hKr _ ?_; clear hKr Kr)
  intro b hbn
  refine hKr _ ?_
  clear hKr Kr
  refine T.condTD rfl rfl (fun hb => ?_) (fun hb => ?_) <;> try simp at hb
  · -- yes
    have hn := hbn hb
    have hl0 : l = [] := by simpa [sesOf] using hn
    subst hl0
    refine T.sregD 8 [0, 2, 4] fun Kr hKr => ?_
    simp only [go_sem]
    (repeat (refine ⟨by (first | exact True.intro | omega | rfl | (simp; done) | (simp; omega)), ?_⟩)); try (refine hKr _ ?_; clear hKr Kr)
    refine T.weaken (Le.own 2 50 4 35) ?_
    simp only [go_sem]
    refine T.ret (Fin.oslD rfl rfl rfl)
  refine T.skip ?_
  refine hK79 _ ?_
  refine T.sregD 8 [0, 2, 4] fun Kr hKr => ?_
  simp only [go_sem]
  (repeat (refine ⟨by (first | exact True.intro | omega | rfl | (simp; done) | (simp; omega)), ?_⟩)); try (refine hKr _ ?_; clear hKr Kr)
  refine T.ret (Fin.oslD rfl rfl rfl)
def sendF (x : Sent) : Packet := ⟨1, x.app, x.id, x.s⟩
theorem sendOf_spec (x : Sent) : Ideal.Spec Try.prog 40 [seA x] (pkA (sendF x)) none := by
  refine Ideal.Spec.of_CD (n := 10) (fn := Try.f40) rfl rfl rfl rfl rfl rfl rfl fun w ok => ?_
  refine T.post [.tmp 2] ?_
  refine T.sregD 10 [0, 1, 2] fun Kr hKr => ?_
  simp only [go_sem]
  (repeat (refine ⟨by (first | exact True.intro | omega | rfl | (simp; done) | (simp; omega)), ?_⟩)); try (refine hKr _ ?_; clear hKr Kr)
  refine T.sregD 10 [0, 1, 2] fun Kr hKr => ?_
  simp only [go_sem]
  (repeat (refine ⟨by (first | exact True.intro | omega | rfl | (simp; done) | (simp; omega)), ?_⟩)); try (refine hKr _ ?_; clear hKr Kr)
  refine T.ret ?_
  simp only [go_sem]
  exact ⟨ResCellD rfl rfl rfl rfl (by simp only [go_sem]) (by simp only [go_sem, sendF]) rfl, trivial⟩
/-- Submitting a commit. -/
def subF (l : List Sent) (c : Cmt) : List Sent × List Packet × Int :=
  if idB c.id = false ∨ c.app < 0 ∨ c.app ≥ 8 ∨ noteB c.s = false then (l, [], 1)
  else if hasE l c.id = true ∨ l.length ≥ 100 then (l, [], 300)
  else (l ++ [⟨c.id, c.app, 1, c.s⟩], [⟨1, c.app, c.id, c.s⟩], 0)
def subX (r : List Sent × List Packet × Int) : AV := if r.2.2 ≠ 0 then .sl true 1 [] else .sl false 4 (pksOf r.2.1)
theorem subX_fin (r : List Sent × List Packet × Int) : [AV.sl false 4 (sesOf r.1), subX r, AV.int .i64 r.2.2].all AV.fin = true := by
  have : (subX r).fin = true := by unfold subX; split <;> rfl
  simp only [List.all_cons, List.all_nil, this]; rfl
theorem subF_no (l : List Sent) (c : Cmt) (h : (subF l c).2.2 ≠ 0) : (subF l c).2.1 = [] := by
  unfold subF at h ⊢
  split
  · rfl
  · split
    · rfl
    · rename_i h1 h2; rw [if_neg h1, if_neg h2] at h; exact absurd rfl h
theorem subX_le (l : List Sent) (c : Cmt) : AvLe (subX (subF l c)) (.sl false 4 (pksOf (subF l c).2.1)) := by
  unfold subX
  split
  · rename_i h; rw [subF_no l c h]; exact AvLe.nil
  · exact AvLe.refl
theorem Submit_spec (l : List Sent) (c : Cmt) (hl : l.length ≤ 100000) (hs : c.s.length ≤ 100000) : Ideal.Spec Try.prog 39 [.sl false 4 (sesOf l), .int .i64 c.id, .int .i64 c.app, .str c.s]
    (.tup [.sl false 4 (sesOf (subF l c).1), .sl false 4 (pksOf (subF l c).2.1), .int .i64 (subF l c).2.2]) none := by
  have s1 := isId_spec c.id
  have s2 := isNote_spec c.s (by omega)
  have s3 := searchE_spec l c.id hl
  have s4 := cloneE_spec l hl
  have s5 := sendOf_spec ⟨c.id, c.app, 1, c.s⟩
  refine Spec.weakT (rs := [.sl false 4 (sesOf (subF l c).1), subX (subF l c), .int .i64 (subF l c).2.2]) ?_ (subX_fin _) rfl ⟨AvLe.refl, subX_le l c, AvLe.refl, trivial⟩
  refine Ideal.Spec.of_TD3 (n := 51) (fn := Try.f39) rfl rfl rfl rfl (subX_fin _) rfl rfl fun w ok => ?_
  refine T.post [.tmp 8, .tmp 9] ?_
  refine T.sregD 51 [0, 1, 2, 3, 8, 9, 10, 11, 27, 37] fun Kr hKr => ?_
  simp only [go_sem]
  (repeat (refine ⟨by (first | exact True.intro | omega | rfl | (simp; done) | (simp; omega)), ?_⟩)); try (refine hKr _ ?_; clear hKr Kr)
  refine T.seqK fun K116 hK116 => ?_
  by_cases h1 : idB c.id = true
  rotate_left
  · have h1 : idB c.id = false := by simpa using h1
    have ee : subF l c = (l, [], 1) := by unfold subF; rw [if_pos (.inl h1)]
    refine T.sregD 51 [0, 1, 2, 3, 8, 9, 10, 11, 27, 37] fun Kr hKr => ?_
    simp only [go_sem]
    (repeat (refine ⟨by (first | exact True.intro | omega | rfl | (simp; done) | (simp; omega)), ?_⟩)); try (refine hKr _ ?_; clear hKr Kr)
    refine CallK.data (fun _ => Spec.args (s1) (by (first | exact ArgsLe.refl | (repeat (first | exact True.intro | refine And.intro (by first | exact AvLe.refl | exact AvLe.loose | exact AvLe.nil | exact AvLe.nilT | exact AvLe.slk | (refine AvLe.agg ?_; exact ArgsLe.refl) | (refine AvLe.agg ?_; (repeat (first | exact True.intro | refine And.intro (by first | exact AvLe.refl | exact AvLe.loose | exact AvLe.nil | exact AvLe.nilT | exact AvLe.slk) ?_)))) ?_))))) rfl ?_
    simp only [go_sem, h1]
    (repeat (refine ⟨by (first | exact True.intro | omega | rfl | (simp; done) | (simp; omega)), ?_⟩)); try (refine hKr _ ?_; clear hKr Kr)
    refine CallK.data (r := .bool true) (fun h => by cases h) rfl ?_
    simp only [go_sem]
    (repeat (refine ⟨by (first | exact True.intro | omega | rfl | (simp; done) | (simp; omega)), ?_⟩)); try (refine hKr _ ?_; clear hKr Kr)
    refine T.condTD rfl rfl (fun hb => ?_) (fun hb => ?_) <;> try simp at hb
    refine T.sregD 51 [0, 1, 2, 3, 8, 9, 10, 11, 27, 37] fun Kr hKr => ?_
    simp only [go_sem]
    (repeat (refine ⟨by (first | exact True.intro | omega | rfl | (simp; done) | (simp; omega)), ?_⟩)); try (refine hKr _ ?_; clear hKr Kr)
    refine T.ret ?_
    simp only [go_sem]
    rw [ee]
    exact ⟨AtD rfl rfl rfl, AtD rfl rfl rfl, AtD rfl rfl rfl⟩
  by_cases h2 : c.app < 0 ∨ c.app ≥ 8
  · have ee : subF l c = (l, [], 1) := by unfold subF; rw [if_pos (by rcases h2 with h2 | h2; exact .inr (.inl h2); exact .inr (.inr (.inl h2)))]
    have h2' : (decide (c.app < 0) || decide (c.app ≥ 8)) = true := by simpa using h2
    have h3 : ((c.app < 0) = True) ∨ ((c.app < 0) = False ∧ (c.app ≥ 8) = True) := by
      by_cases q : c.app < 0
      · exact .inl (eq_true q)
      · exact .inr ⟨eq_false q, eq_true (by omega)⟩
    rcases h3 with h3 | ⟨h3, h4⟩
    · refine T.sregD 51 [0, 1, 2, 3, 8, 9, 10, 11, 27, 37] fun Kr hKr => ?_
      simp only [go_sem]
      (repeat (refine ⟨by (first | exact True.intro | omega | rfl | (simp; done) | (simp; omega)), ?_⟩)); try (refine hKr _ ?_; clear hKr Kr)
      refine CallK.data (fun _ => Spec.args (s1) (by (first | exact ArgsLe.refl | (repeat (first | exact True.intro | refine And.intro (by first | exact AvLe.refl | exact AvLe.loose | exact AvLe.nil | exact AvLe.nilT | exact AvLe.slk | (refine AvLe.agg ?_; exact ArgsLe.refl) | (refine AvLe.agg ?_; (repeat (first | exact True.intro | refine And.intro (by first | exact AvLe.refl | exact AvLe.loose | exact AvLe.nil | exact AvLe.nilT | exact AvLe.slk) ?_)))) ?_))))) rfl ?_
      simp only [go_sem, h1, h3]
      (repeat (refine ⟨by (first | exact True.intro | omega | rfl | (simp; done) | (simp; omega)), ?_⟩)); try (refine hKr _ ?_; clear hKr Kr)
      refine CallK.data (r := .bool true) (fun h => by cases h) rfl ?_
      simp only [go_sem]
      (repeat (refine ⟨by (first | exact True.intro | omega | rfl | (simp; done) | (simp; omega)), ?_⟩)); try (refine hKr _ ?_; clear hKr Kr)
      refine T.condTD rfl rfl (fun hb => ?_) (fun hb => ?_) <;> try simp at hb
      refine T.sregD 51 [0, 1, 2, 3, 8, 9, 10, 11, 27, 37] fun Kr hKr => ?_
      simp only [go_sem]
      (repeat (refine ⟨by (first | exact True.intro | omega | rfl | (simp; done) | (simp; omega)), ?_⟩)); try (refine hKr _ ?_; clear hKr Kr)
      refine T.ret ?_
      simp only [go_sem]
      rw [ee]
      exact ⟨AtD rfl rfl rfl, AtD rfl rfl rfl, AtD rfl rfl rfl⟩
    · refine T.sregD 51 [0, 1, 2, 3, 8, 9, 10, 11, 27, 37] fun Kr hKr => ?_
      simp only [go_sem]
      (repeat (refine ⟨by (first | exact True.intro | omega | rfl | (simp; done) | (simp; omega)), ?_⟩)); try (refine hKr _ ?_; clear hKr Kr)
      refine CallK.data (fun _ => Spec.args (s1) (by (first | exact ArgsLe.refl | (repeat (first | exact True.intro | refine And.intro (by first | exact AvLe.refl | exact AvLe.loose | exact AvLe.nil | exact AvLe.nilT | exact AvLe.slk | (refine AvLe.agg ?_; exact ArgsLe.refl) | (refine AvLe.agg ?_; (repeat (first | exact True.intro | refine And.intro (by first | exact AvLe.refl | exact AvLe.loose | exact AvLe.nil | exact AvLe.nilT | exact AvLe.slk) ?_)))) ?_))))) rfl ?_
      simp only [go_sem, h1, h3, h4]
      (repeat (refine ⟨by (first | exact True.intro | omega | rfl | (simp; done) | (simp; omega)), ?_⟩)); try (refine hKr _ ?_; clear hKr Kr)
      refine CallK.data (r := .bool true) (fun h => by cases h) rfl ?_
      simp only [go_sem]
      (repeat (refine ⟨by (first | exact True.intro | omega | rfl | (simp; done) | (simp; omega)), ?_⟩)); try (refine hKr _ ?_; clear hKr Kr)
      refine T.condTD rfl rfl (fun hb => ?_) (fun hb => ?_) <;> try simp at hb
      refine T.sregD 51 [0, 1, 2, 3, 8, 9, 10, 11, 27, 37] fun Kr hKr => ?_
      simp only [go_sem]
      (repeat (refine ⟨by (first | exact True.intro | omega | rfl | (simp; done) | (simp; omega)), ?_⟩)); try (refine hKr _ ?_; clear hKr Kr)
      refine T.ret ?_
      simp only [go_sem]
      rw [ee]
      exact ⟨AtD rfl rfl rfl, AtD rfl rfl rfl, AtD rfl rfl rfl⟩
  have h3 : (c.app < 0) = False := eq_false (by omega)
  have h4 : (c.app ≥ 8) = False := eq_false (by omega)
  by_cases h5 : noteB c.s = true
  rotate_left
  · have h5 : noteB c.s = false := by simpa using h5
    have ee : subF l c = (l, [], 1) := by unfold subF; rw [if_pos (.inr (.inr (.inr h5)))]
    refine T.sregD 51 [0, 1, 2, 3, 8, 9, 10, 11, 27, 37] fun Kr hKr => ?_
    simp only [go_sem]
    (repeat (refine ⟨by (first | exact True.intro | omega | rfl | (simp; done) | (simp; omega)), ?_⟩)); try (refine hKr _ ?_; clear hKr Kr)
    refine CallK.data (fun _ => Spec.args (s1) (by (first | exact ArgsLe.refl | (repeat (first | exact True.intro | refine And.intro (by first | exact AvLe.refl | exact AvLe.loose | exact AvLe.nil | exact AvLe.nilT | exact AvLe.slk | (refine AvLe.agg ?_; exact ArgsLe.refl) | (refine AvLe.agg ?_; (repeat (first | exact True.intro | refine And.intro (by first | exact AvLe.refl | exact AvLe.loose | exact AvLe.nil | exact AvLe.nilT | exact AvLe.slk) ?_)))) ?_))))) rfl ?_
    simp only [go_sem, h1, h3, h4]
    (repeat (refine ⟨by (first | exact True.intro | omega | rfl | (simp; done) | (simp; omega)), ?_⟩)); try (refine hKr _ ?_; clear hKr Kr)
    refine CallK.data (fun _ => Spec.args (s2) (by (first | exact ArgsLe.refl | (repeat (first | exact True.intro | refine And.intro (by first | exact AvLe.refl | exact AvLe.loose | exact AvLe.nil | exact AvLe.nilT | exact AvLe.slk | (refine AvLe.agg ?_; exact ArgsLe.refl) | (refine AvLe.agg ?_; (repeat (first | exact True.intro | refine And.intro (by first | exact AvLe.refl | exact AvLe.loose | exact AvLe.nil | exact AvLe.nilT | exact AvLe.slk) ?_)))) ?_))))) rfl ?_
    simp only [go_sem, h5]
    (repeat (refine ⟨by (first | exact True.intro | omega | rfl | (simp; done) | (simp; omega)), ?_⟩)); try (refine hKr _ ?_; clear hKr Kr)
    refine T.condTD rfl rfl (fun hb => ?_) (fun hb => ?_) <;> try simp at hb
    refine T.sregD 51 [0, 1, 2, 3, 8, 9, 10, 11, 27, 37] fun Kr hKr => ?_
    simp only [go_sem]
    (repeat (refine ⟨by (first | exact True.intro | omega | rfl | (simp; done) | (simp; omega)), ?_⟩)); try (refine hKr _ ?_; clear hKr Kr)
    refine T.ret ?_
    simp only [go_sem]
    rw [ee]
    exact ⟨AtD rfl rfl rfl, AtD rfl rfl rfl, AtD rfl rfl rfl⟩
  have e0 : subF l c = if hasE l c.id = true ∨ l.length ≥ 100 then (l, [], 300) else (l ++ [⟨c.id, c.app, 1, c.s⟩], [⟨1, c.app, c.id, c.s⟩], 0) := by
    unfold subF; rw [if_neg (by rw [h1, h5]; simp; omega)]
  refine T.sregD 51 [0, 1, 2, 3, 8, 9, 10, 11, 27, 37] fun Kr hKr => ?_
  simp only [go_sem]
  (repeat (refine ⟨by (first | exact True.intro | omega | rfl | (simp; done) | (simp; omega)), ?_⟩)); try (refine hKr _ ?_; clear hKr Kr)
  refine CallK.data (fun _ => Spec.args (s1) (by (first | exact ArgsLe.refl | (repeat (first | exact True.intro | refine And.intro (by first | exact AvLe.refl | exact AvLe.loose | exact AvLe.nil | exact AvLe.nilT | exact AvLe.slk | (refine AvLe.agg ?_; exact ArgsLe.refl) | (refine AvLe.agg ?_; (repeat (first | exact True.intro | refine And.intro (by first | exact AvLe.refl | exact AvLe.loose | exact AvLe.nil | exact AvLe.nilT | exact AvLe.slk) ?_)))) ?_))))) rfl ?_
  simp only [go_sem, h1, h3, h4]
  (repeat (refine ⟨by (first | exact True.intro | omega | rfl | (simp; done) | (simp; omega)), ?_⟩)); try (refine hKr _ ?_; clear hKr Kr)
  refine CallK.data (fun _ => Spec.args (s2) (by (first | exact ArgsLe.refl | (repeat (first | exact True.intro | refine And.intro (by first | exact AvLe.refl | exact AvLe.loose | exact AvLe.nil | exact AvLe.nilT | exact AvLe.slk | (refine AvLe.agg ?_; exact ArgsLe.refl) | (refine AvLe.agg ?_; (repeat (first | exact True.intro | refine And.intro (by first | exact AvLe.refl | exact AvLe.loose | exact AvLe.nil | exact AvLe.nilT | exact AvLe.slk) ?_)))) ?_))))) rfl ?_
  simp only [go_sem, h5]
  (repeat (refine ⟨by (first | exact True.intro | omega | rfl | (simp; done) | (simp; omega)), ?_⟩)); try (refine hKr _ ?_; clear hKr Kr)
  refine T.condTD rfl rfl (fun hb => ?_) (fun hb => ?_) <;> try simp at hb
  refine T.skip ?_
  refine hK116 _ ?_
  refine T.seqK fun K117 hK117 => ?_
  have h6 := fndE_has l c.id
  refine T.sregD 51 [0, 1, 2, 3, 8, 9, 10, 11, 27, 37] fun Kr hKr => ?_
  simp only [go_sem]
  (repeat (refine ⟨by (first | exact True.intro | omega | rfl | (simp; done) | (simp; omega)), ?_⟩)); try (refine hKr _ ?_; clear hKr Kr)
  refine CallK.data (fun _ => Spec.args (s3) (by (first | exact ArgsLe.refl | (repeat (first | exact True.intro | refine And.intro (by first | exact AvLe.refl | exact AvLe.loose | exact AvLe.nil | exact AvLe.nilT | exact AvLe.slk | (refine AvLe.agg ?_; exact ArgsLe.refl) | (refine AvLe.agg ?_; (repeat (first | exact True.intro | refine And.intro (by first | exact AvLe.refl | exact AvLe.loose | exact AvLe.nil | exact AvLe.nilT | exact AvLe.slk) ?_)))) ?_))))) rfl ?_
  simp only [go_sem, cond_or]
  (repeat (refine ⟨by (first | exact True.intro | omega | rfl | (simp; done) | (simp; omega)), ?_⟩)); try (refine hKr _ ?_; clear hKr Kr)
  refine T.condTD rfl rfl (fun hb => ?_) (fun hb => ?_) <;> simp only [h6, Bool.or_eq_true, Bool.or_eq_false_iff, decide_eq_true_eq, decide_eq_false_iff_not] at hb
  · have ee : subF l c = (l, [], 300) := by rw [e0, if_pos (by rcases hb with hb | hb; exact .inl hb; exact .inr (by omega))]
    refine T.sregD 51 [0, 1, 2, 3, 8, 9, 10, 11, 27, 37] fun Kr hKr => ?_
    simp only [go_sem]
    (repeat (refine ⟨by (first | exact True.intro | omega | rfl | (simp; done) | (simp; omega)), ?_⟩)); try (refine hKr _ ?_; clear hKr Kr)
    refine T.ret ?_
    simp only [go_sem]
    rw [ee]
    exact ⟨AtD rfl rfl rfl, AtD rfl rfl rfl, AtD rfl rfl rfl⟩
  have ee : subF l c = (l ++ [⟨c.id, c.app, 1, c.s⟩], [⟨1, c.app, c.id, c.s⟩], 0) := by rw [e0, if_neg (by rw [hb.1]; simp; omega)]
  have hA : sesOf l ++ [.agg [.int .i64 c.id, .int .i64 c.app, .int .i64 1, .str c.s]] = sesOf (l ++ [⟨c.id, c.app, 1, c.s⟩]) := by rw [sesOf_app]; rfl
  have hA3 : (l ++ [(⟨c.id, c.app, 1, c.s⟩ : Sent)]).length = l.length + 1 := by simp
  have hA4 : (l ++ [(⟨c.id, c.app, 1, c.s⟩ : Sent)]).take (l.length + 1) = l ++ [⟨c.id, c.app, 1, c.s⟩] := List.take_of_length_le (by simp)
  simp only [seA, sendF] at s5
  refine T.skip ?_
  refine hK117 _ ?_
  refine T.sregD 51 [0, 1, 2, 3, 8, 9, 10, 11, 27, 37] fun Kr hKr => ?_
  simp only [go_sem]
  (repeat (refine ⟨by (first | exact True.intro | omega | rfl | (simp; done) | (simp; omega)), ?_⟩)); try (refine hKr _ ?_; clear hKr Kr)
  refine T.sdraw2D 51 [0, 1, 2, 3, 8, 9, 10, 11, 27, 37] (.take 0 (.take 2 (.take 5 (.two 1 (.one 3 (.one 4 (.one 6 (.take 8 (.one 7 (.take 9 (.take 10 .done))))))) 3 (.one 1 (.one 4 (.one 6 (.take 8 (.one 7 (.take 9 (.take 10 .done))))))))))) [11] rfl (by decide +kernel) (by decide +kernel) ?x1 ?h1 (fun Kr hKr => ?all1) ?rest1
  case all1 =>
    simp only [go_sem, hA, hA3, hA4, Nat.le_refl]
    (repeat (any_goals (first | exact hKr _ (.inl rfl) | exact hKr _ (.inr (by (repeat (first | exact True.intro | refine And.intro (by first | rfl | (simp [look]; done)) ?_)))) | ((first | refine CallK.dataA (s4) ?_ rfl ?_ | refine CallK.tupA (s4) ?_ ?_ | refine CallK.ownA (s4) ?_ ?_); (focus ((first | exact ArgsLe.refl | (repeat (first | exact True.intro | refine And.intro (by first | exact AvLe.refl | exact AvLe.loose | exact AvLe.nil | exact AvLe.nilT | exact AvLe.slk | (refine AvLe.agg ?_; exact ArgsLe.refl) | (refine AvLe.agg ?_; (repeat (first | exact True.intro | refine And.intro (by first | exact AvLe.refl | exact AvLe.loose | exact AvLe.nil | exact AvLe.nilT | exact AvLe.slk) ?_)))) ?_))); done)); simp only [go_sem, hA, hA3, hA4, Nat.le_refl]) | ((first | refine CallK.dataA (s5) ?_ rfl ?_ | refine CallK.tupA (s5) ?_ ?_ | refine CallK.ownA (s5) ?_ ?_); (focus ((first | exact ArgsLe.refl | (repeat (first | exact True.intro | refine And.intro (by first | exact AvLe.refl | exact AvLe.loose | exact AvLe.nil | exact AvLe.nilT | exact AvLe.slk | (refine AvLe.agg ?_; exact ArgsLe.refl) | (refine AvLe.agg ?_; (repeat (first | exact True.intro | refine And.intro (by first | exact AvLe.refl | exact AvLe.loose | exact AvLe.nil | exact AvLe.nilT | exact AvLe.slk) ?_)))) ?_))); done)); simp only [go_sem, hA, hA3, hA4, Nat.le_refl]) | (refine And.intro ?_ ?_) | (first | exact True.intro | omega | rfl | (simp; done) | (simp; omega)))))
    all_goals (first | exact hKr _ (.inl rfl) | exact hKr _ (.inr (by (repeat (first | exact True.intro | refine And.intro (by first | rfl | (simp [look]; done)) ?_)))))
  case rest1 =>
  refine T.ret ?_
  simp only [go_sem, hA, hA3, hA4, Nat.le_refl]
  rw [ee]
  exact ⟨AtD rfl rfl rfl, AtD rfl rfl rfl, AtD rfl rfl rfl⟩

/-- Sending again. -/
def agnF (l : List Sent) : List Packet := (l.filter fun x => decide (x.st = 1)).map sendF
theorem agnF_step {l : List Sent} {i : Nat} (h : i < l.length) : agnF (l.take (i + 1)) = agnF (l.take i) ++ (if (l.getD i default).st = 1 then [sendF (l.getD i default)] else []) := by
  unfold agnF
  rw [take_succ_d h, List.filter_append, List.map_append]
  congr 1
  by_cases hc : (l.getD i default).st = 1 <;> simp only [List.filter_cons, List.filter_nil, hc, decide_true, decide_false, if_true, if_false, Bool.false_eq_true, List.map_cons, List.map_nil]
theorem agnF_len (l : List Sent) : (agnF l).length ≤ l.length := by unfold agnF; rw [List.length_map]; exact List.length_filter_le _ _
theorem Again_spec (l : List Sent) (hl : l.length ≤ 100000) : Ideal.Spec Try.prog 22 [.sl false 4 (sesOf l)] (.sl false 4 (pksOf (agnF l))) none := by
  refine Ideal.Spec.of_TD (n := 22) (fn := Try.f22) rfl rfl rfl rfl rfl rfl rfl fun w ok => ?_
  refine T.post [.tmp 2] ?_
  refine T.sregD 22 [0, 2, 3, 5, 6, 7, 8, 9, 14] fun Kr hKr => ?_
  simp only [go_sem]
  (repeat (refine ⟨by (first | exact True.intro | omega | rfl | (simp; done) | (simp; omega)), ?_⟩)); try (refine hKr _ ?_; clear hKr Kr)
  refine T.sregD 22 [0, 2, 3, 5, 6, 7, 8, 9, 14] fun Kr hKr => ?_
  simp only [go_sem]
  (repeat (refine ⟨by (first | exact True.intro | omega | rfl | (simp; done) | (simp; omega)), ?_⟩)); try (refine hKr _ ?_; clear hKr Kr)
  refine T.seqK fun K74 hK74 => ?_
  refine T.sregD 22 [0, 2, 3, 5, 6, 7, 8, 9, 14] fun Kr hKr => ?_
  simp only [go_sem]
  (repeat (refine ⟨by (first | exact True.intro | omega | rfl | (simp; done) | (simp; omega)), ?_⟩)); try (refine hKr _ ?_; clear hKr Kr)
  refine T.bloop (fun i : Nat => ⟨dense 22 [(3, .osl 20 0 (agnF (l.take i)).length), (6, .sl false 4 (sesOf l)), (7, .int .i64 l.length), (8, .int .i64 i)], [(20, ⟨4, 49, false, pksOf (agnF (l.take i))⟩)]⟩) (fun i => i ≤ l.length) (fun i => l.length - i) 0 (by simp) ?_ fun i hi => ?_
  · refine (Le.own 3 20 4 49).trans ?_
    simp only [go_sem]
    refine Le.fitS (by (repeat (first | exact DFit.nil | refine DFit.cons (by first | rfl | (simp [slook]; done) | (simp [slook]; omega)) ?_))) (by (repeat (first | exact True.intro | refine And.intro (by first | rfl | (simp [look]; done)) ?_)))
  refine T.sregD 22 [0, 2, 3, 5, 6, 7, 8, 9, 14] fun Kr hKr => ?_
  simp only [go_sem]
  (repeat (refine ⟨by (first | exact True.intro | omega | rfl | (simp; done) | (simp; omega)), ?_⟩)); try (refine hKr _ ?_; clear hKr Kr)
  refine T.seqK fun K75 hK75 => ?_
  refine T.condFD rfl rfl (fun hb => ?_) (fun hb => ?_) <;> simp at hb
  · -- no: exit
    refine T.exit ?_
    simp only [if_true]
    refine hK74 _ ?_
    have : i = l.length := by omega
    subst this
    rw [List.take_length]
    refine T.sregD 22 [0, 2, 3, 5, 6, 7, 8, 9, 14] fun Kr hKr => ?_
    simp only [go_sem]
    (repeat (refine ⟨by (first | exact True.intro | omega | rfl | (simp; done) | (simp; omega)), ?_⟩)); try (refine hKr _ ?_; clear hKr Kr)
    refine T.ret ?_
    simp only [go_sem, Nat.le_refl, List.take_length]
    exact Fin.dataD rfl rfl rfl
  refine T.skip ?_
  refine hK75 _ ?_
  refine T.seqK fun K76 hK76 => ?_
  refine T.block ?_
  have hst := agnF_step hb
  have hll := agnF_len (l.take i)
  have hlt : (l.take i).length ≤ i := by simp; omega
  have s1 := sendOf_spec (l.getD i default)
  simp only [seA, sendF] at s1
  refine T.sregD 22 [0, 2, 3, 5, 6, 7, 8, 9, 14] fun Kr hKr => ?_
  simp only [go_sem, hb]
  (repeat (refine ⟨by (first | exact True.intro | omega | rfl | (simp; done) | (simp; omega)), ?_⟩)); try (refine hKr _ ?_; clear hKr Kr)
  generalize l.getD i default = x at *
  refine T.sregD 22 [0, 2, 3, 5, 6, 7, 8, 9, 14] fun Kr hKr => ?_
  simp only [go_sem]
  (repeat (refine ⟨by (first | exact True.intro | omega | rfl | (simp; done) | (simp; omega)), ?_⟩)); try (refine hKr _ ?_; clear hKr Kr)
  refine T.condTD rfl rfl (fun hc => ?_) (fun hc => ?_) <;> simp at hc
  · -- yes
    rw [if_pos hc] at hst
    have happ : pksOf (agnF (l.take i)) ++ [.agg [.int .i64 1, .int .i64 x.app, .int .i64 x.id, .str x.s]] = pksOf (agnF (l.take (i + 1))) := by rw [hst, pksOf_app]; rfl
    have hlen : (agnF (l.take (i + 1))).length = (agnF (l.take i)).length + 1 := by rw [hst]; simp
    refine T.regD 22 [0, 2, 3, 5, 6, 7, 8, 9, 14] fun Kr hKr => ?_
    simp only [go_sem]
    (repeat (refine ⟨by (first | exact True.intro | omega | rfl | (simp; done) | (simp; omega)), ?_⟩)); try (refine hKr _ ?_; clear hKr Kr)
    refine CallK.data (fun _ => Spec.args (s1) (by (first | exact ArgsLe.refl | (repeat (first | exact True.intro | refine And.intro (by first | exact AvLe.refl | exact AvLe.loose | exact AvLe.nil | exact AvLe.nilT | exact AvLe.slk | (refine AvLe.agg ?_; exact ArgsLe.refl) | (refine AvLe.agg ?_; (repeat (first | exact True.intro | refine And.intro (by first | exact AvLe.refl | exact AvLe.loose | exact AvLe.nil | exact AvLe.nilT | exact AvLe.slk) ?_)))) ?_))))) rfl ?_
    simp only [go_sem, happ]
    (repeat (refine ⟨by (first | exact True.intro | omega | rfl | (simp; done) | (simp; omega)), ?_⟩)); try (refine hKr _ ?_; clear hKr Kr)
    refine hK76 _ ?_
    refine T.regD 22 [0, 2, 3, 5, 6, 7, 8, 9, 14] fun Kr hKr => ?_
    simp only [go_sem]
    (repeat (refine ⟨by (first | exact True.intro | omega | rfl | (simp; done) | (simp; omega)), ?_⟩)); try (refine hKr _ ?_; clear hKr Kr)
    refine ⟨i + 1, ?_, ?_, Le.fitS (by (repeat (first | exact DFit.nil | refine DFit.cons (by first | rfl | (simp [slook, hlen]; done) | (simp [slook, hlen]; omega)) ?_))) ?_⟩
    · omega
    · omega
    · (repeat (first | exact True.intro | refine And.intro (by first | rfl | (simp [look]; done)) ?_))
  rw [if_neg hc, List.append_nil] at hst
  refine T.skip ?_
  refine hK76 _ ?_
  refine T.regD 22 [0, 2, 3, 5, 6, 7, 8, 9, 14] fun Kr hKr => ?_
  simp only [go_sem]
  (repeat (refine ⟨by (first | exact True.intro | omega | rfl | (simp; done) | (simp; omega)), ?_⟩)); try (refine hKr _ ?_; clear hKr Kr)
  refine ⟨i + 1, ?_, ?_, Le.fitS (by (repeat (first | exact DFit.nil | refine DFit.cons (by first | rfl | (simp [slook, hst]; done) | (simp [slook, hst]; omega)) ?_))) ?_⟩
  · omega
  · omega
  · rw [hst]; (repeat (first | exact True.intro | refine And.intro (by first | rfl | (simp [look]; done)) ?_))
/-- A commit gets another stage. -/
def setF (l : List Sent) (app id st : Int) : List Sent :=
  if fndE l id < 0 ∨ (l.getD (fndE l id).toNat default).app ≠ app ∨ (l.getD (fndE l id).toNat default).st ≠ 1 then l
  else l.set (fndE l id).toNat ⟨(l.getD (fndE l id).toNat default).id, (l.getD (fndE l id).toNat default).app, st, (l.getD (fndE l id).toNat default).s⟩
theorem fndE_lt (l : List Sent) (id : Int) : fndE l id < l.length := by
  unfold fndE
  cases h : l.findIdx? (fun x => decide (x.id = id)) with
  | none => simp only; omega
  | some i => simp only; exact_mod_cast (List.findIdx?_eq_some_iff_getElem.1 h).1
theorem settle_spec (l : List Sent) (app id st : Int) (hl : l.length ≤ 100000) : Ideal.Spec Try.prog 36 [.sl false 4 (sesOf l), .int .i64 app, .int .i64 id, .int .i64 st] (.sl false 4 (sesOf (setF l app id st))) none := by
  have s1 := searchE_spec l id hl
  have s2 := cloneE_spec l hl
  have hlt := fndE_lt l id
  refine Ideal.Spec.of_TD (n := 42) (fn := Try.f36) rfl rfl rfl rfl rfl rfl rfl fun w ok => ?_
  refine T.post [.tmp 8] ?_
  refine T.sregD 42 [0, 1, 2, 3, 8, 9, 10, 32] fun Kr hKr => ?_
  simp only [go_sem]
  (repeat (refine ⟨by (first | exact True.intro | omega | rfl | (simp; done) | (simp; omega)), ?_⟩)); try (refine hKr _ ?_; clear hKr Kr)
  refine T.sregD 42 [0, 1, 2, 3, 8, 9, 10, 32] fun Kr hKr => ?_
  simp only [go_sem]
  (repeat (refine ⟨by (first | exact True.intro | omega | rfl | (simp; done) | (simp; omega)), ?_⟩)); try (refine hKr _ ?_; clear hKr Kr)
  refine CallK.data (fun _ => Spec.args (s1) (by (first | exact ArgsLe.refl | (repeat (first | exact True.intro | refine And.intro (by first | exact AvLe.refl | exact AvLe.loose | exact AvLe.nil | exact AvLe.nilT | exact AvLe.slk | (refine AvLe.agg ?_; exact ArgsLe.refl) | (refine AvLe.agg ?_; (repeat (first | exact True.intro | refine And.intro (by first | exact AvLe.refl | exact AvLe.loose | exact AvLe.nil | exact AvLe.nilT | exact AvLe.slk) ?_)))) ?_))))) rfl ?_
  simp only [go_sem]
  (repeat (refine ⟨by (first | exact True.intro | omega | rfl | (simp; done) | (simp; omega)), ?_⟩)); try (refine hKr _ ?_; clear hKr Kr)
  refine T.seqK fun K111 hK111 => ?_
  have eS : setF l app id st = if fndE l id < 0 ∨ (l.getD (fndE l id).toNat default).app ≠ app ∨ (l.getD (fndE l id).toNat default).st ≠ 1 then l
    else l.set (fndE l id).toNat ⟨(l.getD (fndE l id).toNat default).id, (l.getD (fndE l id).toNat default).app, st, (l.getD (fndE l id).toNat default).s⟩ := rfl
  generalize fndE l id = f at *
  by_cases hf : f < 0
  · have hf' : (f < 0) = True := eq_true hf
    rw [if_pos (.inl hf)] at eS
    refine T.sregD 42 [0, 1, 2, 3, 8, 9, 10, 32] fun Kr hKr => ?_
    simp only [go_sem, hf']
    (repeat (refine ⟨by (first | exact True.intro | omega | rfl | (simp; done) | (simp; omega)), ?_⟩)); try (refine hKr _ ?_; clear hKr Kr)
    refine T.condTD rfl rfl (fun hc => ?_) (fun hc => ?_) <;> try simp at hc
    refine T.sregD 42 [0, 1, 2, 3, 8, 9, 10, 32] fun Kr hKr => ?_
    simp only [go_sem]
    (repeat (refine ⟨by (first | exact True.intro | omega | rfl | (simp; done) | (simp; omega)), ?_⟩)); try (refine hKr _ ?_; clear hKr Kr)
    refine T.ret ?_
    simp only [go_sem]
    rw [eS]
    exact Fin.dataD rfl rfl rfl
  have hf' : (f < 0) = False := eq_false hf
  obtain ⟨n, rfl⟩ : ∃ n : Nat, f = n := ⟨f.toNat, by omega⟩
  have hn : n < l.length := by omega
  simp only [Int.toNat_natCast] at eS
  by_cases h2 : (l.getD n default).app = app
  rotate_left
  · have h2' : ((l.getD n default).app = app) = False := eq_false h2
    rw [if_pos (.inr (.inl h2))] at eS
    refine T.sregD 42 [0, 1, 2, 3, 8, 9, 10, 32] fun Kr hKr => ?_
    simp only [go_sem, hf', hn, h2']
    (repeat (refine ⟨by (first | exact True.intro | omega | rfl | (simp; done) | (simp; omega)), ?_⟩)); try (refine hKr _ ?_; clear hKr Kr)
    refine T.condTD rfl rfl (fun hc => ?_) (fun hc => ?_) <;> try simp at hc
    refine T.sregD 42 [0, 1, 2, 3, 8, 9, 10, 32] fun Kr hKr => ?_
    simp only [go_sem]
    (repeat (refine ⟨by (first | exact True.intro | omega | rfl | (simp; done) | (simp; omega)), ?_⟩)); try (refine hKr _ ?_; clear hKr Kr)
    refine T.ret ?_
    simp only [go_sem]
    rw [eS]
    exact Fin.dataD rfl rfl rfl
  have h2' : ((l.getD n default).app = app) = True := eq_true h2
  by_cases h3 : (l.getD n default).st = 1
  rotate_left
  · have h3' : ((l.getD n default).st = 1) = False := eq_false h3
    rw [if_pos (.inr (.inr h3))] at eS
    refine T.sregD 42 [0, 1, 2, 3, 8, 9, 10, 32] fun Kr hKr => ?_
    simp only [go_sem, hf', hn, h2', h3']
    (repeat (refine ⟨by (first | exact True.intro | omega | rfl | (simp; done) | (simp; omega)), ?_⟩)); try (refine hKr _ ?_; clear hKr Kr)
    refine T.condTD rfl rfl (fun hc => ?_) (fun hc => ?_) <;> try simp at hc
    refine T.sregD 42 [0, 1, 2, 3, 8, 9, 10, 32] fun Kr hKr => ?_
    simp only [go_sem]
    (repeat (refine ⟨by (first | exact True.intro | omega | rfl | (simp; done) | (simp; omega)), ?_⟩)); try (refine hKr _ ?_; clear hKr Kr)
    refine T.ret ?_
    simp only [go_sem]
    rw [eS]
    exact Fin.dataD rfl rfl rfl
  have h3' : ((l.getD n default).st = 1) = True := eq_true h3
  rw [if_neg (by rw [h2, h3]; simp)] at eS
  have hT : ∀ y : Sent, (l.set n y).take l.length = l.set n y := fun y => List.take_of_length_le (by simp)
  refine T.sregD 42 [0, 1, 2, 3, 8, 9, 10, 32] fun Kr hKr => ?_
  simp only [go_sem, hf', hn, h2', h3']
  (repeat (refine ⟨by (first | exact True.intro | omega | rfl | (simp; done) | (simp; omega)), ?_⟩)); try (refine hKr _ ?_; clear hKr Kr)
  refine T.condTD rfl rfl (fun hc => ?_) (fun hc => ?_) <;> try simp at hc
  refine T.skip ?_
  refine hK111 _ ?_
  refine T.sregD 42 [0, 1, 2, 3, 8, 9, 10, 32] fun Kr hKr => ?_
  simp only [go_sem]
  (repeat (refine ⟨by (first | exact True.intro | omega | rfl | (simp; done) | (simp; omega)), ?_⟩)); try (refine hKr _ ?_; clear hKr Kr)
  refine CallK.own (Spec.args (s2) (by (first | exact ArgsLe.refl | (repeat (first | exact True.intro | refine And.intro (by first | exact AvLe.refl | exact AvLe.loose | exact AvLe.nil | exact AvLe.nilT | exact AvLe.slk | (refine AvLe.agg ?_; exact ArgsLe.refl) | (refine AvLe.agg ?_; (repeat (first | exact True.intro | refine And.intro (by first | exact AvLe.refl | exact AvLe.loose | exact AvLe.nil | exact AvLe.nilT | exact AvLe.slk) ?_)))) ?_))))) ?_
  simp only [go_sem]
  (repeat (refine ⟨by (first | exact True.intro | omega | rfl | (simp; done) | (simp; omega)), ?_⟩)); try (refine hKr _ ?_; clear hKr Kr)
  refine T.sregD 42 [0, 1, 2, 3, 8, 9, 10, 32] fun Kr hKr => ?_
  simp only [go_sem, hn]
  (repeat (refine ⟨by (first | exact True.intro | omega | rfl | (simp; done) | (simp; omega)), ?_⟩)); try (refine hKr _ ?_; clear hKr Kr)
  refine T.sregD 42 [0, 1, 2, 3, 8, 9, 10, 32] fun Kr hKr => ?_
  simp only [go_sem]
  (repeat (refine ⟨by (first | exact True.intro | omega | rfl | (simp; done) | (simp; omega)), ?_⟩)); try (refine hKr _ ?_; clear hKr Kr)
  refine T.ret ?_
  simp only [go_sem, Nat.le_refl, List.length_set, hT]
  rw [eS]
  exact Fin.dataD rfl rfl rfl
/-- A packet that arrives at the engine. -/
def hearF (l : List Sent) (p : Packet) : List Sent := if p.k = 2 then setF l p.app p.id 2 else if p.k = 3 then setF l p.app p.id 3 else l
theorem Hear_spec (l : List Sent) (p : Packet) (hl : l.length ≤ 100000) : Ideal.Spec Try.prog 16 [.sl false 4 (sesOf l), pkA p] (.sl false 4 (sesOf (hearF l p))) none := by
  have s1 := typed_spec p
  have s2 := settle_spec l p.app p.id 2 hl
  have s3 := settle_spec l p.app p.id 3 hl
  refine Ideal.Spec.of_TD (n := 28) (fn := Try.f16) rfl rfl rfl rfl rfl rfl rfl fun w ok => ?_
  refine T.sregD 28 [0, 1, 3, 4, 5, 6, 8, 10, 11, 19, 20] fun Kr hKr => ?_
  simp only [go_sem]
  (repeat (refine ⟨by (first | exact True.intro | omega | rfl | (simp; done) | (simp; omega)), ?_⟩)); try (refine hKr _ ?_; clear hKr Kr)
  refine T.seqK fun K65 hK65 => ?_
  by_cases h2 : p.k = 2
  · have et : typedA p = .ifc 80 (.agg [.int .i64 p.app, .int .i64 p.id]) := by simp [typedA, h2]
    have ee : hearF l p = setF l p.app p.id 2 := by unfold hearF; rw [if_pos h2]
    rw [et] at s1
    simp only [ee] at hK65 ⊢
    refine T.sregD 28 [0, 1, 3, 4, 5, 6, 8, 10, 11, 19, 20] fun Kr hKr => ?_
    simp only [go_sem]
    (repeat (refine ⟨by (first | exact True.intro | omega | rfl | (simp; done) | (simp; omega)), ?_⟩)); try (refine hKr _ ?_; clear hKr Kr)
    refine CallK.data (fun _ => Spec.args (s1) (by (first | exact ArgsLe.refl | (repeat (first | exact True.intro | refine And.intro (by first | exact AvLe.refl | exact AvLe.loose | exact AvLe.nil | exact AvLe.nilT | exact AvLe.slk | (refine AvLe.agg ?_; exact ArgsLe.refl) | (refine AvLe.agg ?_; (repeat (first | exact True.intro | refine And.intro (by first | exact AvLe.refl | exact AvLe.loose | exact AvLe.nil | exact AvLe.nilT | exact AvLe.slk) ?_)))) ?_))))) rfl ?_
    simp only [go_sem]
    (repeat (refine ⟨by (first | exact True.intro | omega | rfl | (simp; done) | (simp; omega)), ?_⟩)); try (refine hKr _ ?_; clear hKr Kr)
    refine T.block ?_
    refine T.sregD 28 [0, 1, 3, 4, 5, 6, 8, 10, 11, 19, 20] fun Kr hKr => ?_
    simp only [go_sem]
    (repeat (refine ⟨by (first | exact True.intro | omega | rfl | (simp; done) | (simp; omega)), ?_⟩)); try (refine hKr _ ?_; clear hKr Kr)
    refine T.condTD rfl rfl (fun hb => ?_) (fun hb => ?_) <;> try simp at hb
    refine T.sregD 28 [0, 1, 3, 4, 5, 6, 8, 10, 11, 19, 20] fun Kr hKr => ?_
    simp only [go_sem]
    (repeat (refine ⟨by (first | exact True.intro | omega | rfl | (simp; done) | (simp; omega)), ?_⟩)); try (refine hKr _ ?_; clear hKr Kr)
    refine T.sregD 28 [0, 1, 3, 4, 5, 6, 8, 10, 11, 19, 20] fun Kr hKr => ?_
    simp only [go_sem]
    (repeat (refine ⟨by (first | exact True.intro | omega | rfl | (simp; done) | (simp; omega)), ?_⟩)); try (refine hKr _ ?_; clear hKr Kr)
    refine CallK.data (fun _ => Spec.args (s2) (by (first | exact ArgsLe.refl | (repeat (first | exact True.intro | refine And.intro (by first | exact AvLe.refl | exact AvLe.loose | exact AvLe.nil | exact AvLe.nilT | exact AvLe.slk | (refine AvLe.agg ?_; exact ArgsLe.refl) | (refine AvLe.agg ?_; (repeat (first | exact True.intro | refine And.intro (by first | exact AvLe.refl | exact AvLe.loose | exact AvLe.nil | exact AvLe.nilT | exact AvLe.slk) ?_)))) ?_))))) rfl ?_
    simp only [go_sem]
    (repeat (refine ⟨by (first | exact True.intro | omega | rfl | (simp; done) | (simp; omega)), ?_⟩)); try (refine hKr _ ?_; clear hKr Kr)
    refine T.ret (Fin.dataD rfl rfl rfl)
  by_cases h3 : p.k = 3
  · have et : typedA p = .ifc 82 (.agg [.int .i64 p.app, .int .i64 p.id]) := by simp [typedA, h3]
    have ee : hearF l p = setF l p.app p.id 3 := by unfold hearF; rw [if_neg h2, if_pos h3]
    rw [et] at s1
    simp only [ee] at hK65 ⊢
    refine T.sregD 28 [0, 1, 3, 4, 5, 6, 8, 10, 11, 19, 20] fun Kr hKr => ?_
    simp only [go_sem]
    (repeat (refine ⟨by (first | exact True.intro | omega | rfl | (simp; done) | (simp; omega)), ?_⟩)); try (refine hKr _ ?_; clear hKr Kr)
    refine CallK.data (fun _ => Spec.args (s1) (by (first | exact ArgsLe.refl | (repeat (first | exact True.intro | refine And.intro (by first | exact AvLe.refl | exact AvLe.loose | exact AvLe.nil | exact AvLe.nilT | exact AvLe.slk | (refine AvLe.agg ?_; exact ArgsLe.refl) | (refine AvLe.agg ?_; (repeat (first | exact True.intro | refine And.intro (by first | exact AvLe.refl | exact AvLe.loose | exact AvLe.nil | exact AvLe.nilT | exact AvLe.slk) ?_)))) ?_))))) rfl ?_
    simp only [go_sem]
    (repeat (refine ⟨by (first | exact True.intro | omega | rfl | (simp; done) | (simp; omega)), ?_⟩)); try (refine hKr _ ?_; clear hKr Kr)
    refine T.block ?_
    refine T.sregD 28 [0, 1, 3, 4, 5, 6, 8, 10, 11, 19, 20] fun Kr hKr => ?_
    simp only [go_sem]
    (repeat (refine ⟨by (first | exact True.intro | omega | rfl | (simp; done) | (simp; omega)), ?_⟩)); try (refine hKr _ ?_; clear hKr Kr)
    refine T.condTD rfl rfl (fun hb => ?_) (fun hb => ?_) <;> try simp at hb
    refine T.sregD 28 [0, 1, 3, 4, 5, 6, 8, 10, 11, 19, 20] fun Kr hKr => ?_
    simp only [go_sem]
    (repeat (refine ⟨by (first | exact True.intro | omega | rfl | (simp; done) | (simp; omega)), ?_⟩)); try (refine hKr _ ?_; clear hKr Kr)
    refine T.condTD rfl rfl (fun hb => ?_) (fun hb => ?_) <;> try simp at hb
    refine T.sregD 28 [0, 1, 3, 4, 5, 6, 8, 10, 11, 19, 20] fun Kr hKr => ?_
    simp only [go_sem]
    (repeat (refine ⟨by (first | exact True.intro | omega | rfl | (simp; done) | (simp; omega)), ?_⟩)); try (refine hKr _ ?_; clear hKr Kr)
    refine T.sregD 28 [0, 1, 3, 4, 5, 6, 8, 10, 11, 19, 20] fun Kr hKr => ?_
    simp only [go_sem]
    (repeat (refine ⟨by (first | exact True.intro | omega | rfl | (simp; done) | (simp; omega)), ?_⟩)); try (refine hKr _ ?_; clear hKr Kr)
    refine CallK.data (fun _ => Spec.args (s3) (by (first | exact ArgsLe.refl | (repeat (first | exact True.intro | refine And.intro (by first | exact AvLe.refl | exact AvLe.loose | exact AvLe.nil | exact AvLe.nilT | exact AvLe.slk | (refine AvLe.agg ?_; exact ArgsLe.refl) | (refine AvLe.agg ?_; (repeat (first | exact True.intro | refine And.intro (by first | exact AvLe.refl | exact AvLe.loose | exact AvLe.nil | exact AvLe.nilT | exact AvLe.slk) ?_)))) ?_))))) rfl ?_
    simp only [go_sem]
    (repeat (refine ⟨by (first | exact True.intro | omega | rfl | (simp; done) | (simp; omega)), ?_⟩)); try (refine hKr _ ?_; clear hKr Kr)
    refine T.ret (Fin.dataD rfl rfl rfl)
  have ee : hearF l p = l := by unfold hearF; rw [if_neg h2, if_neg h3]
  simp only [ee] at hK65 ⊢
  by_cases h1 : p.k = 1
  · have et : typedA p = .ifc 75 (.agg [.int .i64 p.app, .int .i64 p.id, .str p.s]) := by simp [typedA, h1]
    rw [et] at s1
    refine T.sregD 28 [0, 1, 3, 4, 5, 6, 8, 10, 11, 19, 20] fun Kr hKr => ?_
    simp only [go_sem]
    (repeat (refine ⟨by (first | exact True.intro | omega | rfl | (simp; done) | (simp; omega)), ?_⟩)); try (refine hKr _ ?_; clear hKr Kr)
    refine CallK.data (fun _ => Spec.args (s1) (by (first | exact ArgsLe.refl | (repeat (first | exact True.intro | refine And.intro (by first | exact AvLe.refl | exact AvLe.loose | exact AvLe.nil | exact AvLe.nilT | exact AvLe.slk | (refine AvLe.agg ?_; exact ArgsLe.refl) | (refine AvLe.agg ?_; (repeat (first | exact True.intro | refine And.intro (by first | exact AvLe.refl | exact AvLe.loose | exact AvLe.nil | exact AvLe.nilT | exact AvLe.slk) ?_)))) ?_))))) rfl ?_
    simp only [go_sem]
    (repeat (refine ⟨by (first | exact True.intro | omega | rfl | (simp; done) | (simp; omega)), ?_⟩)); try (refine hKr _ ?_; clear hKr Kr)
    refine T.block ?_
    refine T.sregD 28 [0, 1, 3, 4, 5, 6, 8, 10, 11, 19, 20] fun Kr hKr => ?_
    simp only [go_sem]
    (repeat (refine ⟨by (first | exact True.intro | omega | rfl | (simp; done) | (simp; omega)), ?_⟩)); try (refine hKr _ ?_; clear hKr Kr)
    refine T.condTD rfl rfl (fun hb => ?_) (fun hb => ?_) <;> try simp at hb
    refine T.sregD 28 [0, 1, 3, 4, 5, 6, 8, 10, 11, 19, 20] fun Kr hKr => ?_
    simp only [go_sem]
    (repeat (refine ⟨by (first | exact True.intro | omega | rfl | (simp; done) | (simp; omega)), ?_⟩)); try (refine hKr _ ?_; clear hKr Kr)
    refine T.condTD rfl rfl (fun hb => ?_) (fun hb => ?_) <;> try simp at hb
    refine T.skip ?_
    refine hK65 _ ?_
    refine T.sregD 28 [0, 1, 3, 4, 5, 6, 8, 10, 11, 19, 20] fun Kr hKr => ?_
    simp only [go_sem]
    (repeat (refine ⟨by (first | exact True.intro | omega | rfl | (simp; done) | (simp; omega)), ?_⟩)); try (refine hKr _ ?_; clear hKr Kr)
    refine T.ret (Fin.dataD rfl rfl rfl)
  have et : typedA p = .atom .nilIface := by simp [typedA, h1, h2, h3]
  rw [et] at s1
  refine T.sregD 28 [0, 1, 3, 4, 5, 6, 8, 10, 11, 19, 20] fun Kr hKr => ?_
  simp only [go_sem]
  (repeat (refine ⟨by (first | exact True.intro | omega | rfl | (simp; done) | (simp; omega)), ?_⟩)); try (refine hKr _ ?_; clear hKr Kr)
  refine CallK.data (fun _ => Spec.args (s1) (by (first | exact ArgsLe.refl | (repeat (first | exact True.intro | refine And.intro (by first | exact AvLe.refl | exact AvLe.loose | exact AvLe.nil | exact AvLe.nilT | exact AvLe.slk | (refine AvLe.agg ?_; exact ArgsLe.refl) | (refine AvLe.agg ?_; (repeat (first | exact True.intro | refine And.intro (by first | exact AvLe.refl | exact AvLe.loose | exact AvLe.nil | exact AvLe.nilT | exact AvLe.slk) ?_)))) ?_))))) rfl ?_
  simp only [go_sem]
  (repeat (refine ⟨by (first | exact True.intro | omega | rfl | (simp; done) | (simp; omega)), ?_⟩)); try (refine hKr _ ?_; clear hKr Kr)
  refine T.block ?_
  refine T.sregD 28 [0, 1, 3, 4, 5, 6, 8, 10, 11, 19, 20] fun Kr hKr => ?_
  simp only [go_sem]
  (repeat (refine ⟨by (first | exact True.intro | omega | rfl | (simp; done) | (simp; omega)), ?_⟩)); try (refine hKr _ ?_; clear hKr Kr)
  refine T.condTD rfl rfl (fun hb => ?_) (fun hb => ?_) <;> try simp at hb
  refine T.sregD 28 [0, 1, 3, 4, 5, 6, 8, 10, 11, 19, 20] fun Kr hKr => ?_
  simp only [go_sem]
  (repeat (refine ⟨by (first | exact True.intro | omega | rfl | (simp; done) | (simp; omega)), ?_⟩)); try (refine hKr _ ?_; clear hKr Kr)
  refine T.condTD rfl rfl (fun hb => ?_) (fun hb => ?_) <;> try simp at hb
  refine T.skip ?_
  refine hK65 _ ?_
  refine T.sregD 28 [0, 1, 3, 4, 5, 6, 8, 10, 11, 19, 20] fun Kr hKr => ?_
  simp only [go_sem]
  (repeat (refine ⟨by (first | exact True.intro | omega | rfl | (simp; done) | (simp; omega)), ?_⟩)); try (refine hKr _ ?_; clear hKr Kr)
  refine T.ret (Fin.dataD rfl rfl rfl)
/-- A client that refuses a commit. -/
def refuF (c : Client) (id : Int) : Client := if hasN c.has id = true ∨ hasN c.ref id = true then c else ⟨c.d, c.has, withL c.ref id⟩
theorem Refuse_spec (c : Client) (id : Int) (hh : c.has.length ≤ 90000) (hr : c.ref.length ≤ 90000) : Ideal.Spec Try.prog 23 [clA c, .int .i64 id] (clA (refuF c id)) none := by
  have s1 := has_spec c.has id (by omega)
  have s2 := has_spec c.ref id (by omega)
  have s3 := with_spec c.ref id (by omega)
  refine Ideal.Spec.of_CD (n := 22) (fn := Try.f23) rfl rfl rfl rfl rfl rfl rfl fun w ok => ?_
  refine T.post [.tmp 4] ?_
  refine T.sregD 22 [0, 1, 2, 4, 14] fun Kr hKr => ?_
  simp only [go_sem]
  (repeat (refine ⟨by (first | exact True.intro | omega | rfl | (simp; done) | (simp; omega)), ?_⟩)); try (refine hKr _ ?_; clear hKr Kr)
  refine T.seqK fun K77 hK77 => ?_
  by_cases h1 : hasN c.has id = true
  · have ee : refuF c id = c := by unfold refuF; rw [if_pos (.inl h1)]
    simp only [ee] at hK77 ⊢
    refine T.sregD 22 [0, 1, 2, 4, 14] fun Kr hKr => ?_
    simp only [go_sem]
    (repeat (refine ⟨by (first | exact True.intro | omega | rfl | (simp; done) | (simp; omega)), ?_⟩)); try (refine hKr _ ?_; clear hKr Kr)
    refine CallK.data (fun _ => Spec.args (s1) (by (first | exact ArgsLe.refl | (repeat (first | exact True.intro | refine And.intro (by first | exact AvLe.refl | exact AvLe.loose | exact AvLe.nil | exact AvLe.nilT | exact AvLe.slk | (refine AvLe.agg ?_; exact ArgsLe.refl) | (refine AvLe.agg ?_; (repeat (first | exact True.intro | refine And.intro (by first | exact AvLe.refl | exact AvLe.loose | exact AvLe.nil | exact AvLe.nilT | exact AvLe.slk) ?_)))) ?_))))) rfl ?_
    simp only [go_sem, h1]
    (repeat (refine ⟨by (first | exact True.intro | omega | rfl | (simp; done) | (simp; omega)), ?_⟩)); try (refine hKr _ ?_; clear hKr Kr)
    refine CallK.data (r := .bool true) (fun h => by cases h) rfl ?_
    simp only [go_sem]
    (repeat (refine ⟨by (first | exact True.intro | omega | rfl | (simp; done) | (simp; omega)), ?_⟩)); try (refine hKr _ ?_; clear hKr Kr)
    refine T.condTD rfl rfl (fun hb => ?_) (fun hb => ?_) <;> try simp at hb
    refine T.sregD 22 [0, 1, 2, 4, 14] fun Kr hKr => ?_
    simp only [go_sem]
    (repeat (refine ⟨by (first | exact True.intro | omega | rfl | (simp; done) | (simp; omega)), ?_⟩)); try (refine hKr _ ?_; clear hKr Kr)
    refine T.ret ?_
    simp only [go_sem]
    exact ⟨ResCellD rfl rfl rfl rfl (by simp only [go_sem]) (by simp only [go_sem]) rfl, trivial⟩
  have h1 : hasN c.has id = false := by simpa using h1
  refine T.sregD 22 [0, 1, 2, 4, 14] fun Kr hKr => ?_
  simp only [go_sem]
  (repeat (refine ⟨by (first | exact True.intro | omega | rfl | (simp; done) | (simp; omega)), ?_⟩)); try (refine hKr _ ?_; clear hKr Kr)
  refine CallK.data (fun _ => Spec.args (s1) (by (first | exact ArgsLe.refl | (repeat (first | exact True.intro | refine And.intro (by first | exact AvLe.refl | exact AvLe.loose | exact AvLe.nil | exact AvLe.nilT | exact AvLe.slk | (refine AvLe.agg ?_; exact ArgsLe.refl) | (refine AvLe.agg ?_; (repeat (first | exact True.intro | refine And.intro (by first | exact AvLe.refl | exact AvLe.loose | exact AvLe.nil | exact AvLe.nilT | exact AvLe.slk) ?_)))) ?_))))) rfl ?_
  simp only [go_sem, h1]
  (repeat (refine ⟨by (first | exact True.intro | omega | rfl | (simp; done) | (simp; omega)), ?_⟩)); try (refine hKr _ ?_; clear hKr Kr)
  refine CallK.data (fun _ => Spec.args (s2) (by (first | exact ArgsLe.refl | (repeat (first | exact True.intro | refine And.intro (by first | exact AvLe.refl | exact AvLe.loose | exact AvLe.nil | exact AvLe.nilT | exact AvLe.slk | (refine AvLe.agg ?_; exact ArgsLe.refl) | (refine AvLe.agg ?_; (repeat (first | exact True.intro | refine And.intro (by first | exact AvLe.refl | exact AvLe.loose | exact AvLe.nil | exact AvLe.nilT | exact AvLe.slk) ?_)))) ?_))))) rfl ?_
  simp only [go_sem]
  (repeat (refine ⟨by (first | exact True.intro | omega | rfl | (simp; done) | (simp; omega)), ?_⟩)); try (refine hKr _ ?_; clear hKr Kr)
  refine T.condTD rfl rfl (fun hb => ?_) (fun hb => ?_) <;> try simp at hb
  · have ee : refuF c id = c := by unfold refuF; rw [if_pos (.inr hb)]
    simp only [ee] at hK77 ⊢
    refine T.sregD 22 [0, 1, 2, 4, 14] fun Kr hKr => ?_
    simp only [go_sem]
    (repeat (refine ⟨by (first | exact True.intro | omega | rfl | (simp; done) | (simp; omega)), ?_⟩)); try (refine hKr _ ?_; clear hKr Kr)
    refine T.ret ?_
    simp only [go_sem]
    exact ⟨ResCellD rfl rfl rfl rfl (by simp only [go_sem]) (by simp only [go_sem]) rfl, trivial⟩
  have ee : refuF c id = ⟨c.d, c.has, withL c.ref id⟩ := by unfold refuF; rw [if_neg (by rw [h1, hb]; simp)]
  simp only [ee] at hK77 ⊢
  generalize withL c.ref id = W at *
  refine T.skip ?_
  refine hK77 _ ?_
  refine T.sregD 22 [0, 1, 2, 4, 14] fun Kr hKr => ?_
  simp only [go_sem]
  (repeat (refine ⟨by (first | exact True.intro | omega | rfl | (simp; done) | (simp; omega)), ?_⟩)); try (refine hKr _ ?_; clear hKr Kr)
  refine CallK.data (fun _ => Spec.args (s3) (by (first | exact ArgsLe.refl | (repeat (first | exact True.intro | refine And.intro (by first | exact AvLe.refl | exact AvLe.loose | exact AvLe.nil | exact AvLe.nilT | exact AvLe.slk | (refine AvLe.agg ?_; exact ArgsLe.refl) | (refine AvLe.agg ?_; (repeat (first | exact True.intro | refine And.intro (by first | exact AvLe.refl | exact AvLe.loose | exact AvLe.nil | exact AvLe.nilT | exact AvLe.slk) ?_)))) ?_))))) rfl ?_
  simp only [go_sem]
  (repeat (refine ⟨by (first | exact True.intro | omega | rfl | (simp; done) | (simp; omega)), ?_⟩)); try (refine hKr _ ?_; clear hKr Kr)
  refine T.sregD 22 [0, 1, 2, 4, 14] fun Kr hKr => ?_
  simp only [go_sem]
  (repeat (refine ⟨by (first | exact True.intro | omega | rfl | (simp; done) | (simp; omega)), ?_⟩)); try (refine hKr _ ?_; clear hKr Kr)
  refine T.ret ?_
  simp only [go_sem]
  exact ⟨ResCellD rfl rfl rfl rfl (by simp only [go_sem]) (by simp only [go_sem]) rfl, trivial⟩
end Go.Proofs
