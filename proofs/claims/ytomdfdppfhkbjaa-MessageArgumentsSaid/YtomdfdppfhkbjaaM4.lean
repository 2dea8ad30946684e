/- Messages: contracts of the reference: Ids, notes, lists of Ids, what a client and the engine do. -/
import Derived.Test.YtomdfdppfhkbjaaM3
import Derived.Test.YtomdfdppfhkbjaaD7
set_option linter.unusedVariables false
set_option linter.unusedSimpArgs false
namespace Go.Proofs
open Go Go.Ideal
set_option maxRecDepth 8000
set_option maxHeartbeats 4000000

theorem IsIdR_spec (n : Int) : Ideal.Spec Try.prog 43 [.int .i64 n] (.bool (idB n)) none := by
  refine Ideal.Spec.of_TD (n := 9) (fn := Try.f43) rfl rfl rfl rfl rfl rfl rfl fun w ok => ?_
  refine T.sregD 9 [0, 2] fun Kr hKr => ?_
  simp only [go_sem]
  (repeat (refine ⟨by (first | exact True.intro | omega | rfl | (simp; done) | (simp; omega)), ?_⟩)); try (refine hKr _ ?_; clear hKr Kr)
  refine T.sregD 9 [0, 2] fun Kr hKr => ?_
  simp only [go_sem]
  (repeat (refine ⟨by (first | exact True.intro | omega | rfl | (simp; done) | (simp; omega)), ?_⟩)); try (refine hKr _ ?_; clear hKr Kr)
  refine T.ret (Fin.dataD (by simp only [slook, idB, cond_and]; rfl) rfl rfl)
theorem IsNoteR_spec (s : List UInt8) (hl : s.length < 2 ^ 31) : Ideal.Spec Try.prog 44 [.str s] (.bool (noteB s)) none := by
  refine Ideal.Spec.of_TD (n := 28) (fn := Try.f44) rfl rfl rfl rfl rfl rfl rfl fun w ok => ?_
  refine T.sregD 28 [0, 2, 3, 7, 19] fun Kr hKr => ?_
  simp only [go_sem]
  (repeat (refine ⟨by (first | exact True.intro | omega | rfl | (simp; done) | (simp; omega)), ?_⟩)); try (refine hKr _ ?_; clear hKr Kr)
  refine T.seqK fun K93 hK93 => ?_
  refine T.sregD 28 [0, 2, 3, 7, 19] fun Kr hKr => ?_
  simp only [go_sem]
  (repeat (refine ⟨by (first | exact True.intro | omega | rfl | (simp; done) | (simp; omega)), ?_⟩)); try (refine hKr _ ?_; clear hKr Kr)
  refine T.bloop (fun i : Nat => ⟨dense 28 [(0, .str s), (3, .int .i64 i)], []⟩) (fun i => i ≤ s.length ∧ plainB (s.take i) = true) (fun i => s.length - i) 0 ⟨by omega, rfl⟩ ?_ fun i hi => ?_
  · refine Le.fitS (by (repeat (first | exact DFit.nil | refine DFit.cons (by first | rfl | (simp [slook]; done) | (simp [slook]; omega)) ?_))) (by (repeat (first | exact True.intro | refine And.intro (by first | rfl | (simp [look]; done)) ?_)))
  obtain ⟨hi, hp⟩ := hi
  refine T.seqK fun K94 hK94 => ?_
  refine T.sregD 28 [0, 2, 3, 7, 19] fun Kr hKr => ?_
  simp only [go_sem]
  (repeat (refine ⟨by (first | exact True.intro | omega | rfl | (simp; done) | (simp; omega)), ?_⟩)); try (refine hKr _ ?_; clear hKr Kr)
  refine T.condFD rfl rfl (fun hb => ?_) (fun hb => ?_) <;> simp at hb
  · -- no: exit
    refine T.exit ?_
    simp only [if_true]
    refine hK93 _ ?_
    refine T.sregD 28 [0, 2, 3, 7, 19] fun Kr hKr => ?_
    simp only [go_sem, cond_and]
    (repeat (refine ⟨by (first | exact True.intro | omega | rfl | (simp; done) | (simp; omega)), ?_⟩)); try (refine hKr _ ?_; clear hKr Kr)
    have : i = s.length := by omega
    subst this
    rw [List.take_length] at hp
    have e : noteB s = (decide ((s.length : Int) ≥ 1) && decide ((s.length : Int) ≤ 40)) := by
      unfold noteB
      rw [hp, Bool.and_true]
      by_cases h1 : (s.length : Int) < 1
      · have : ¬ ((s.length : Int) ≥ 1) := by omega
        simp [h1, this]
      · have h1' : (s.length : Int) ≥ 1 := by omega
        by_cases h2 : (s.length : Int) > 40
        · have : ¬ ((s.length : Int) ≤ 40) := by omega
          simp [h2, this]
        · have : ((s.length : Int) ≤ 40) := by omega
          simp [h1, h1', h2, this]
    refine T.ret (Fin.dataD (by rw [e]; rfl) rfl rfl)
  refine T.skip ?_
  refine hK94 _ ?_
  refine T.seqK fun K95 hK95 => ?_
  refine T.block ?_
  refine T.sregD 28 [0, 2, 3, 7, 19] fun Kr hKr => ?_
  simp only [go_sem, hb]
  (repeat (refine ⟨by (first | exact True.intro | omega | rfl | (simp; done) | (simp; omega)), ?_⟩)); try (refine hKr _ ?_; clear hKr Kr)
  refine T.condTD rfl rfl (fun hc => ?_) (fun hc => ?_) <;> simp only [cond_or] at hc
  · -- yes
    refine T.sregD 28 [0, 2, 3, 7, 19] fun Kr hKr => ?_
    simp only [go_sem]
    (repeat (refine ⟨by (first | exact True.intro | omega | rfl | (simp; done) | (simp; omega)), ?_⟩)); try (refine hKr _ ?_; clear hKr Kr)
    have h2 : plainB s = false := plain_bad hb (by simp only [okB]; rw [Bool.not_eq_false']; simpa using hc)
    have : noteB s = false := by unfold noteB; rw [h2, Bool.and_false]
    refine T.ret (Fin.dataD (by rw [this]; rfl) rfl rfl)
  refine T.skip ?_
  refine hK95 _ ?_
  refine T.regD 28 [0, 2, 3, 7, 19] fun Kr hKr => ?_
  simp only [go_sem]
  (repeat (refine ⟨by (first | exact True.intro | omega | rfl | (simp; done) | (simp; omega)), ?_⟩)); try (refine hKr _ ?_; clear hKr Kr)
  refine ⟨i + 1, ?_, ?_, Le.fitS (by (repeat (first | exact DFit.nil | refine DFit.cons (by first | rfl | (simp [slook]; done) | (simp [slook]; omega)) ?_))) ?_⟩
  · exact ⟨by omega, plain_step hb hp (by simp only [okB]; rw [Bool.not_eq_true']; simpa using hc)⟩
  · omega
  · (repeat (first | exact True.intro | refine And.intro (by first | rfl | (simp [look]; done)) ?_))
theorem HasR_spec (l : List Int) (n : Int) (hl : l.length ≤ 100000) : Ideal.Spec Try.prog 45 [.sl false 1 (intsOf l), .int .i64 n] (.bool (hasN l n)) none := by
  refine Ideal.Spec.of_TD (n := 18) (fn := Try.f45) rfl rfl rfl rfl rfl rfl rfl fun w ok => ?_
  refine T.sregD 18 [0, 1, 4, 5, 9, 17] fun Kr hKr => ?_
  simp only [go_sem]
  (repeat (refine ⟨by (first | exact True.intro | omega | rfl | (simp; done) | (simp; omega)), ?_⟩)); try (refine hKr _ ?_; clear hKr Kr)
  refine T.seqK fun K123 hK123 => ?_
  refine T.sregD 18 [0, 1, 4, 5, 9, 17] fun Kr hKr => ?_
  simp only [go_sem]
  (repeat (refine ⟨by (first | exact True.intro | omega | rfl | (simp; done) | (simp; omega)), ?_⟩)); try (refine hKr _ ?_; clear hKr Kr)
  refine T.bloop (fun i : Nat => ⟨dense 18 [(0, .sl false 1 (intsOf l)), (1, .int .i64 n), (5, .int .i64 i)], []⟩) (fun i => i ≤ l.length ∧ (l.take i).any (fun x => decide (x = n)) = false) (fun i => l.length - i) 0 (by simp) ?_ fun i hi => ?_
  · refine Le.fitS (by (repeat (first | exact DFit.nil | refine DFit.cons (by first | rfl | (simp [slook]; done) | (simp [slook]; omega)) ?_))) (by (repeat (first | exact True.intro | refine And.intro (by first | rfl | (simp [look]; done)) ?_)))
  obtain ⟨hi, hn⟩ := hi
  refine T.seqK fun K124 hK124 => ?_
  refine T.sregD 18 [0, 1, 4, 5, 9, 17] fun Kr hKr => ?_
  simp only [go_sem]
  (repeat (refine ⟨by (first | exact True.intro | omega | rfl | (simp; done) | (simp; omega)), ?_⟩)); try (refine hKr _ ?_; clear hKr Kr)
  refine T.condFD rfl rfl (fun hb => ?_) (fun hb => ?_) <;> simp at hb
  · -- no: exit
    refine T.exit ?_
    simp only [if_true]
    refine hK123 _ ?_
    have : i = l.length := by omega
    subst this
    rw [List.take_length] at hn
    have e : hasN l n = false := hn
    refine T.sregD 18 [0, 1, 4, 5, 9, 17] fun Kr hKr => ?_
    simp only [go_sem]
    (repeat (refine ⟨by (first | exact True.intro | omega | rfl | (simp; done) | (simp; omega)), ?_⟩)); try (refine hKr _ ?_; clear hKr Kr)
    refine T.ret (Fin.dataD (by rw [e]; rfl) rfl rfl)
  refine T.skip ?_
  refine hK124 _ ?_
  refine T.seqK fun K125 hK125 => ?_
  refine T.block ?_
  refine T.sregD 18 [0, 1, 4, 5, 9, 17] fun Kr hKr => ?_
  simp only [go_sem, hb]
  (repeat (refine ⟨by (first | exact True.intro | omega | rfl | (simp; done) | (simp; omega)), ?_⟩)); try (refine hKr _ ?_; clear hKr Kr)
  refine T.condTD rfl rfl (fun hc => ?_) (fun hc => ?_) <;> simp only [decide_eq_true_eq, decide_eq_false_iff_not] at hc
  · -- yes
    have e : hasN l n = true := List.any_eq_true.2 ⟨l.getD i default, by simp [List.getD, hb], by simpa using hc⟩
    refine T.sregD 18 [0, 1, 4, 5, 9, 17] fun Kr hKr => ?_
    simp only [go_sem]
    (repeat (refine ⟨by (first | exact True.intro | omega | rfl | (simp; done) | (simp; omega)), ?_⟩)); try (refine hKr _ ?_; clear hKr Kr)
    refine T.ret (Fin.dataD (by rw [e]; rfl) rfl rfl)
  refine T.skip ?_
  refine hK125 _ ?_
  refine T.regD 18 [0, 1, 4, 5, 9, 17] fun Kr hKr => ?_
  simp only [go_sem]
  (repeat (refine ⟨by (first | exact True.intro | omega | rfl | (simp; done) | (simp; omega)), ?_⟩)); try (refine hKr _ ?_; clear hKr Kr)
  refine ⟨i + 1, ?_, ?_, Le.fitS (by (repeat (first | exact DFit.nil | refine DFit.cons (by first | rfl | (simp [slook]; done) | (simp [slook]; omega)) ?_))) ?_⟩
  · refine ⟨by omega, ?_⟩
    rw [take_succ_d hb, List.any_append, hn]
    simp only [List.any_cons, List.any_nil, Bool.or_false, Bool.false_or, decide_eq_false_iff_not]
    exact hc
  · omega
  · (repeat (first | exact True.intro | refine And.intro (by first | rfl | (simp [look]; done)) ?_))
theorem InsertR_spec (l : List Int) (id : Int) (hl : l.length ≤ 100000) : Ideal.Spec Try.prog 47 [.sl false 1 (intsOf l), .int .i64 id] (.sl false 1 (intsOf (withL l id))) none := by
  refine Ideal.Spec.of_TD (n := 35) (fn := Try.f47) rfl rfl rfl rfl rfl rfl rfl fun w ok => ?_
  refine T.post [.tmp 4] ?_
  refine T.sregD 35 [0, 1, 4, 5, 6, 18] fun Kr hKr => ?_
  simp only [go_sem]
  (repeat (refine ⟨by (first | exact True.intro | omega | rfl | (simp; done) | (simp; omega)), ?_⟩)); try (refine hKr _ ?_; clear hKr Kr)
  refine T.sregD 35 [0, 1, 4, 5, 6, 18] fun Kr hKr => ?_
  simp only [go_sem]
  (repeat (refine ⟨by (first | exact True.intro | omega | rfl | (simp; done) | (simp; omega)), ?_⟩)); try (refine hKr _ ?_; clear hKr Kr)
  refine T.seqK fun K1 hK1 => ?_
  refine T.bloop (fun i : Nat => ⟨dense 35 [(0, .sl false 1 (intsOf l)), (1, .int .i64 id), (5, .int .i64 i)], []⟩) (fun i => i ≤ l.length ∧ (l.take i).all (fun x => decide (x < id)) = true) (fun i => l.length - i) 0 (by simp) ?_ fun i hi => ?_
  · refine Le.fitS (by (repeat (first | exact DFit.nil | refine DFit.cons (by first | rfl | (simp [slook]; done) | (simp [slook]; omega)) ?_))) (by (repeat (first | exact True.intro | refine And.intro (by first | rfl | (simp [look]; done)) ?_)))
  obtain ⟨hi, hn⟩ := hi
  refine T.seqK fun K2 hK2 => ?_
  by_cases hil : i < l.length
  · have hil' : ((i : Int) < (l.length : Int)) = True := by simp [hil]
    by_cases hc : l.getD i default < id
    · have hc' : (l.getD i default < id) = True := eq_true hc
      refine T.sregD 35 [0, 1, 4, 5, 6, 18] fun Kr hKr => ?_
      simp only [go_sem, hil, hil', hc']
      (repeat (refine ⟨by (first | exact True.intro | omega | rfl | (simp; done) | (simp; omega)), ?_⟩)); try (refine hKr _ ?_; clear hKr Kr)
      refine T.condFD rfl rfl (fun hb => ?_) (fun hb => ?_) <;> try simp at hb
      refine T.skip ?_
      refine hK2 _ ?_
      refine T.block ?_
      refine T.regD 35 [0, 1, 4, 5, 6, 18] fun Kr hKr => ?_
      simp only [go_sem]
      (repeat (refine ⟨by (first | exact True.intro | omega | rfl | (simp; done) | (simp; omega)), ?_⟩)); try (refine hKr _ ?_; clear hKr Kr)
      refine ⟨i + 1, ?_, ?_, Le.fitS (by (repeat (first | exact DFit.nil | refine DFit.cons (by first | rfl | (simp [slook]; done) | (simp [slook]; omega)) ?_))) ?_⟩
      · refine ⟨by omega, ?_⟩
        rw [take_succ_d hil, List.all_append, hn]
        simp only [List.all_cons, List.all_nil, Bool.and_true, Bool.true_and, decide_eq_true_eq]
        exact hc
      · omega
      · (repeat (first | exact True.intro | refine And.intro (by first | rfl | (simp [look]; done)) ?_))
    have hc' : (l.getD i default < id) = False := eq_false hc
    obtain ⟨e1, e2⟩ := takeW_at hi hn (fun _ => hc)
    refine T.sregD 35 [0, 1, 4, 5, 6, 18] fun Kr hKr => ?_
    simp only [go_sem, hil, hil', hc']
    (repeat (refine ⟨by (first | exact True.intro | omega | rfl | (simp; done) | (simp; omega)), ?_⟩)); try (refine hKr _ ?_; clear hKr Kr)
    refine T.condFD rfl rfl (fun hb => ?_) (fun hb => ?_) <;> try simp at hb
    refine T.exit ?_
    simp only [if_true]
    refine hK1 _ ?_
    refine T.sregD 35 [0, 1, 4, 5, 6, 18] fun Kr hKr => ?_
    simp only [go_sem]
    (repeat (refine ⟨by (first | exact True.intro | omega | rfl | (simp; done) | (simp; omega)), ?_⟩)); try (refine hKr _ ?_; clear hKr Kr)
    refine T.sregD 35 [0, 1, 4, 5, 6, 18] fun Kr hKr => ?_
    simp only [go_sem]
    (repeat (refine ⟨by (first | exact True.intro | omega | rfl | (simp; done) | (simp; omega)), ?_⟩)); try (refine hKr _ ?_; clear hKr Kr)
    refine T.sregD 35 [0, 1, 4, 5, 6, 18] fun Kr hKr => ?_
    simp only [go_sem]
    (repeat (refine ⟨by (first | exact True.intro | omega | rfl | (simp; done) | (simp; omega)), ?_⟩)); try (refine hKr _ ?_; clear hKr Kr)
    obtain ⟨e3, e4⟩ := withL_parts e1 e2
    have e3 : intsOf (l.take i) ++ .int .i64 id :: intsOf (l.drop i) = intsOf (withL l id) := e3
    rw [e3, e4]
    generalize withL l id = W at *
    refine T.ret ?_
    simp only [go_sem, Nat.le_refl, List.take_length]
    exact Fin.dataD rfl rfl rfl
  have hil' : ((i : Int) < (l.length : Int)) = False := by simp; omega
  obtain ⟨e1, e2⟩ := takeW_at hi hn (fun h => absurd h hil)
  refine T.sregD 35 [0, 1, 4, 5, 6, 18] fun Kr hKr => ?_
  simp only [go_sem, hil']
  (repeat (refine ⟨by (first | exact True.intro | omega | rfl | (simp; done) | (simp; omega)), ?_⟩)); try (refine hKr _ ?_; clear hKr Kr)
  refine T.condFD rfl rfl (fun hb => ?_) (fun hb => ?_) <;> try simp at hb
  refine T.exit ?_
  simp only [if_true]
  refine hK1 _ ?_
  refine T.sregD 35 [0, 1, 4, 5, 6, 18] fun Kr hKr => ?_
  simp only [go_sem]
  (repeat (refine ⟨by (first | exact True.intro | omega | rfl | (simp; done) | (simp; omega)), ?_⟩)); try (refine hKr _ ?_; clear hKr Kr)
  refine T.sregD 35 [0, 1, 4, 5, 6, 18] fun Kr hKr => ?_
  simp only [go_sem]
  (repeat (refine ⟨by (first | exact True.intro | omega | rfl | (simp; done) | (simp; omega)), ?_⟩)); try (refine hKr _ ?_; clear hKr Kr)
  refine T.sregD 35 [0, 1, 4, 5, 6, 18] fun Kr hKr => ?_
  simp only [go_sem]
  (repeat (refine ⟨by (first | exact True.intro | omega | rfl | (simp; done) | (simp; omega)), ?_⟩)); try (refine hKr _ ?_; clear hKr Kr)
  obtain ⟨e3, e4⟩ := withL_parts e1 e2
  have e3 : intsOf (l.take i) ++ .int .i64 id :: intsOf (l.drop i) = intsOf (withL l id) := e3
  rw [e3, e4]
  generalize withL l id = W at *
  refine T.ret ?_
  simp only [go_sem, Nat.le_refl, List.take_length]
  exact Fin.dataD rfl rfl rfl

/-! ### A client -/
theorem ReceiveR_spec (c : Client) (app : Int) (p : Packet) (hc : OkC c) (hs : p.s.length ≤ 100000) :
    Ideal.Spec Try.prog 24 [clA c, .int .i64 app, pkA p] (.tup [clA (recvF c app p).1, .sl false 4 (pksOf (recvF c app p).2)]) none := by
  have s1 := IsIdR_spec p.id
  have s2 := IsNoteR_spec p.s (by omega)
  have s3 := HasR_spec c.has p.id (by have := hc.has; omega)
  have s4 := HasR_spec c.ref p.id (by have := hc.ref; omega)
  have s5 := PutR_spec c.d p.id c.d.s.length p.s hc.d hs
  have s6 := InsertR_spec c.ref p.id (by have := hc.ref; omega)
  have s7 := InsertR_spec c.has p.id (by have := hc.has; omega)
  have hlen := hc.d.len
  have hno : subB app p = false → Ideal.Spec Try.prog 24 [clA c, .int .i64 app, pkA p] (.tup [clA c, .sl true 1 []]) none := by
    intro hsub
    refine Ideal.Spec.of_MD (n := 93) (fn := Try.f24) rfl rfl rfl rfl rfl rfl rfl fun w ok => ?_
    refine T.post [.tmp 6] ?_
    refine T.sregD 93 [0, 1, 2, 3, 5, 6, 7, 8, 9, 10, 11, 32, 48, 55, 74] fun Kr hKr => ?_
    simp only [go_sem]
    (repeat (refine ⟨by (first | exact True.intro | omega | rfl | (simp; done) | (simp; omega)), ?_⟩)); try (refine hKr _ ?_; clear hKr Kr)
    refine T.seqK fun K32 hK32 => ?_
    have fin : True := trivial
    by_cases h1 : p.k = 1
    rotate_left
    · have h1' : (p.k = 1) = False := eq_false h1
      refine T.sregD 93 [0, 1, 2, 3, 5, 6, 7, 8, 9, 10, 11, 32, 48, 55, 74] fun Kr hKr => ?_
      simp only [go_sem, h1']
      (repeat (refine ⟨by (first | exact True.intro | omega | rfl | (simp; done) | (simp; omega)), ?_⟩)); try (refine hKr _ ?_; clear hKr Kr)
      refine CallK.data (r := .bool true) (fun h => by cases h) rfl ?_
      simp only [go_sem]
      (repeat (refine ⟨by (first | exact True.intro | omega | rfl | (simp; done) | (simp; omega)), ?_⟩)); try (refine hKr _ ?_; clear hKr Kr)
      refine CallK.data (r := .bool true) (fun h => by cases h) rfl ?_
      simp only [go_sem]
      (repeat (refine ⟨by (first | exact True.intro | omega | rfl | (simp; done) | (simp; omega)), ?_⟩)); try (refine hKr _ ?_; clear hKr Kr)
      refine T.condTD rfl rfl (fun hb => ?_) (fun hb => ?_) <;> try simp at hb
      refine T.sregD 93 [0, 1, 2, 3, 5, 6, 7, 8, 9, 10, 11, 32, 48, 55, 74] fun Kr hKr => ?_
      simp only [go_sem]
      (repeat (refine ⟨by (first | exact True.intro | omega | rfl | (simp; done) | (simp; omega)), ?_⟩)); try (refine hKr _ ?_; clear hKr Kr)
      refine T.ret ?_
      simp only [go_sem]
      exact ⟨ResCellD rfl rfl rfl rfl (by simp only [go_sem]) (by simp only [go_sem]) rfl, ResAtD (by simp only [go_sem]) rfl rfl, trivial⟩
    have h1' : (p.k = 1) = True := eq_true h1
    by_cases h2 : p.app = app
    rotate_left
    · have h2' : (p.app = app) = False := eq_false h2
      refine T.sregD 93 [0, 1, 2, 3, 5, 6, 7, 8, 9, 10, 11, 32, 48, 55, 74] fun Kr hKr => ?_
      simp only [go_sem, h1', h2']
      (repeat (refine ⟨by (first | exact True.intro | omega | rfl | (simp; done) | (simp; omega)), ?_⟩)); try (refine hKr _ ?_; clear hKr Kr)
      refine CallK.data (r := .bool true) (fun h => by cases h) rfl ?_
      simp only [go_sem]
      (repeat (refine ⟨by (first | exact True.intro | omega | rfl | (simp; done) | (simp; omega)), ?_⟩)); try (refine hKr _ ?_; clear hKr Kr)
      refine CallK.data (r := .bool true) (fun h => by cases h) rfl ?_
      simp only [go_sem]
      (repeat (refine ⟨by (first | exact True.intro | omega | rfl | (simp; done) | (simp; omega)), ?_⟩)); try (refine hKr _ ?_; clear hKr Kr)
      refine T.condTD rfl rfl (fun hb => ?_) (fun hb => ?_) <;> try simp at hb
      refine T.sregD 93 [0, 1, 2, 3, 5, 6, 7, 8, 9, 10, 11, 32, 48, 55, 74] fun Kr hKr => ?_
      simp only [go_sem]
      (repeat (refine ⟨by (first | exact True.intro | omega | rfl | (simp; done) | (simp; omega)), ?_⟩)); try (refine hKr _ ?_; clear hKr Kr)
      refine T.ret ?_
      simp only [go_sem]
      exact ⟨ResCellD rfl rfl rfl rfl (by simp only [go_sem]) (by simp only [go_sem]) rfl, ResAtD (by simp only [go_sem]) rfl rfl, trivial⟩
    have h2' : (p.app = app) = True := eq_true h2
    by_cases h3 : idB p.id = true
    rotate_left
    · have h3 : idB p.id = false := by simpa using h3
      refine T.sregD 93 [0, 1, 2, 3, 5, 6, 7, 8, 9, 10, 11, 32, 48, 55, 74] fun Kr hKr => ?_
      simp only [go_sem, h1', h2']
      (repeat (refine ⟨by (first | exact True.intro | omega | rfl | (simp; done) | (simp; omega)), ?_⟩)); try (refine hKr _ ?_; clear hKr Kr)
      refine CallK.data (fun _ => Spec.args (s1) (by (first | exact ArgsLe.refl | (repeat (first | exact True.intro | refine And.intro (by first | exact AvLe.refl | exact AvLe.loose | exact AvLe.nil | exact AvLe.nilT | exact AvLe.slk | (refine AvLe.agg ?_; exact ArgsLe.refl) | (refine AvLe.agg ?_; (repeat (first | exact True.intro | refine And.intro (by first | exact AvLe.refl | exact AvLe.loose | exact AvLe.nil | exact AvLe.nilT | exact AvLe.slk) ?_)))) ?_))))) rfl ?_
      simp only [go_sem, h3]
      (repeat (refine ⟨by (first | exact True.intro | omega | rfl | (simp; done) | (simp; omega)), ?_⟩)); try (refine hKr _ ?_; clear hKr Kr)
      refine CallK.data (r := .bool true) (fun h => by cases h) rfl ?_
      simp only [go_sem]
      (repeat (refine ⟨by (first | exact True.intro | omega | rfl | (simp; done) | (simp; omega)), ?_⟩)); try (refine hKr _ ?_; clear hKr Kr)
      refine T.condTD rfl rfl (fun hb => ?_) (fun hb => ?_) <;> try simp at hb
      refine T.sregD 93 [0, 1, 2, 3, 5, 6, 7, 8, 9, 10, 11, 32, 48, 55, 74] fun Kr hKr => ?_
      simp only [go_sem]
      (repeat (refine ⟨by (first | exact True.intro | omega | rfl | (simp; done) | (simp; omega)), ?_⟩)); try (refine hKr _ ?_; clear hKr Kr)
      refine T.ret ?_
      simp only [go_sem]
      exact ⟨ResCellD rfl rfl rfl rfl (by simp only [go_sem]) (by simp only [go_sem]) rfl, ResAtD (by simp only [go_sem]) rfl rfl, trivial⟩
    have h4 : noteB p.s = false := by
      unfold subB at hsub
      simpa [h1, h2, h3] using hsub
    refine T.sregD 93 [0, 1, 2, 3, 5, 6, 7, 8, 9, 10, 11, 32, 48, 55, 74] fun Kr hKr => ?_
    simp only [go_sem, h1', h2']
    (repeat (refine ⟨by (first | exact True.intro | omega | rfl | (simp; done) | (simp; omega)), ?_⟩)); try (refine hKr _ ?_; clear hKr Kr)
    refine CallK.data (fun _ => Spec.args (s1) (by (first | exact ArgsLe.refl | (repeat (first | exact True.intro | refine And.intro (by first | exact AvLe.refl | exact AvLe.loose | exact AvLe.nil | exact AvLe.nilT | exact AvLe.slk | (refine AvLe.agg ?_; exact ArgsLe.refl) | (refine AvLe.agg ?_; (repeat (first | exact True.intro | refine And.intro (by first | exact AvLe.refl | exact AvLe.loose | exact AvLe.nil | exact AvLe.nilT | exact AvLe.slk) ?_)))) ?_))))) rfl ?_
    simp only [go_sem, h3]
    (repeat (refine ⟨by (first | exact True.intro | omega | rfl | (simp; done) | (simp; omega)), ?_⟩)); try (refine hKr _ ?_; clear hKr Kr)
    refine CallK.data (fun _ => Spec.args (s2) (by (first | exact ArgsLe.refl | (repeat (first | exact True.intro | refine And.intro (by first | exact AvLe.refl | exact AvLe.loose | exact AvLe.nil | exact AvLe.nilT | exact AvLe.slk | (refine AvLe.agg ?_; exact ArgsLe.refl) | (refine AvLe.agg ?_; (repeat (first | exact True.intro | refine And.intro (by first | exact AvLe.refl | exact AvLe.loose | exact AvLe.nil | exact AvLe.nilT | exact AvLe.slk) ?_)))) ?_))))) rfl ?_
    simp only [go_sem, h4]
    (repeat (refine ⟨by (first | exact True.intro | omega | rfl | (simp; done) | (simp; omega)), ?_⟩)); try (refine hKr _ ?_; clear hKr Kr)
    refine T.condTD rfl rfl (fun hb => ?_) (fun hb => ?_) <;> try simp at hb
    refine T.sregD 93 [0, 1, 2, 3, 5, 6, 7, 8, 9, 10, 11, 32, 48, 55, 74] fun Kr hKr => ?_
    simp only [go_sem]
    (repeat (refine ⟨by (first | exact True.intro | omega | rfl | (simp; done) | (simp; omega)), ?_⟩)); try (refine hKr _ ?_; clear hKr Kr)
    refine T.ret ?_
    simp only [go_sem]
    exact ⟨ResCellD rfl rfl rfl rfl (by simp only [go_sem]) (by simp only [go_sem]) rfl, ResAtD (by simp only [go_sem]) rfl rfl, trivial⟩
  by_cases hsub : subB app p = true
  rotate_left
  · have hsub : subB app p = false := by simpa using hsub
    have er : recvF c app p = (c, []) := by unfold recvF; rw [if_neg (by rw [hsub]; decide)]
    rw [er]
    exact Spec.weakT (hno hsub) rfl rfl ⟨AvLe.refl, AvLe.nil, trivial⟩
  have ⟨h1, h2, h3, h4⟩ : p.k = 1 ∧ p.app = app ∧ idB p.id = true ∧ noteB p.s = true := by
    simpa [subB] using hsub
  have h1' : (p.k = 1) = True := eq_true h1
  have h2' : (p.app = app) = True := eq_true h2
  have er : recvF c app p = ((decF c app p.id p.s).1, [(decF c app p.id p.s).2]) := by unfold recvF; rw [if_pos hsub, h2]
  rw [er]
  refine Ideal.Spec.of_MD (n := 93) (fn := Try.f24) rfl rfl rfl rfl rfl rfl rfl fun w ok => ?_
  refine T.post [.tmp 6, .tmp 7] ?_
  refine T.sregD 93 [0, 1, 2, 3, 5, 6, 7, 8, 9, 10, 11, 32, 48, 55, 74] fun Kr hKr => ?_
  simp only [go_sem]
  (repeat (refine ⟨by (first | exact True.intro | omega | rfl | (simp; done) | (simp; omega)), ?_⟩)); try (refine hKr _ ?_; clear hKr Kr)
  refine T.seqK fun K32 hK32 => ?_
  refine T.sregD 93 [0, 1, 2, 3, 5, 6, 7, 8, 9, 10, 11, 32, 48, 55, 74] fun Kr hKr => ?_
  simp only [go_sem, h1', h2']
  (repeat (refine ⟨by (first | exact True.intro | omega | rfl | (simp; done) | (simp; omega)), ?_⟩)); try (refine hKr _ ?_; clear hKr Kr)
  refine CallK.data (fun _ => Spec.args (s1) (by (first | exact ArgsLe.refl | (repeat (first | exact True.intro | refine And.intro (by first | exact AvLe.refl | exact AvLe.loose | exact AvLe.nil | exact AvLe.nilT | exact AvLe.slk | (refine AvLe.agg ?_; exact ArgsLe.refl) | (refine AvLe.agg ?_; (repeat (first | exact True.intro | refine And.intro (by first | exact AvLe.refl | exact AvLe.loose | exact AvLe.nil | exact AvLe.nilT | exact AvLe.slk) ?_)))) ?_))))) rfl ?_
  simp only [go_sem, h3]
  (repeat (refine ⟨by (first | exact True.intro | omega | rfl | (simp; done) | (simp; omega)), ?_⟩)); try (refine hKr _ ?_; clear hKr Kr)
  refine CallK.data (fun _ => Spec.args (s2) (by (first | exact ArgsLe.refl | (repeat (first | exact True.intro | refine And.intro (by first | exact AvLe.refl | exact AvLe.loose | exact AvLe.nil | exact AvLe.nilT | exact AvLe.slk | (refine AvLe.agg ?_; exact ArgsLe.refl) | (refine AvLe.agg ?_; (repeat (first | exact True.intro | refine And.intro (by first | exact AvLe.refl | exact AvLe.loose | exact AvLe.nil | exact AvLe.nilT | exact AvLe.slk) ?_)))) ?_))))) rfl ?_
  simp only [go_sem, h4]
  (repeat (refine ⟨by (first | exact True.intro | omega | rfl | (simp; done) | (simp; omega)), ?_⟩)); try (refine hKr _ ?_; clear hKr Kr)
  refine T.condTD rfl rfl (fun hb => ?_) (fun hb => ?_) <;> try simp at hb
  refine T.skip ?_
  refine hK32 _ ?_
  refine T.sdraw2D 93 [0, 1, 2, 3, 5, 6, 7, 8, 9, 10, 11, 32, 48, 55, 74] (.take 0 (.take 1 (.take 2 (.take 3 (.take 5 (.take 6 (.take 7 (.take 8 (.two 4 (.take 10 (.one 9 (.take 11 .done))) 9 (.one 4 (.take 10 (.take 11 .done)))))))))))) [5] rfl (by decide +kernel) (by decide +kernel) ?x1 ?h1 (fun Kr hKr => ?all1) ?rest1
  case all1 =>
    simp only [go_sem]
    (repeat (any_goals (first | exact hKr _ (.inl rfl) | exact hKr _ (.inr (by (repeat (first | exact True.intro | refine And.intro (by first | rfl | (simp [look]; done)) ?_)))) | (refine And.intro ?_ ?_) | (first | exact True.intro | omega | rfl | (simp; done) | (simp; omega)))))
    all_goals (first | exact hKr _ (.inl rfl) | exact hKr _ (.inr (by (repeat (first | exact True.intro | refine And.intro (by first | rfl | (simp [look]; done)) ?_)))))
  case rest1 =>
  refine T.seqK fun K75 hK75 => ?_
  refine T.sregD 93 [0, 1, 2, 3, 5, 6, 7, 8, 9, 10, 11, 32, 48, 55, 74] fun Kr hKr => ?_
  simp only [go_sem]
  (repeat (refine ⟨by (first | exact True.intro | omega | rfl | (simp; done) | (simp; omega)), ?_⟩)); try (refine hKr _ ?_; clear hKr Kr)
  refine CallK.data (fun _ => Spec.args (s3) (by (first | exact ArgsLe.refl | (repeat (first | exact True.intro | refine And.intro (by first | exact AvLe.refl | exact AvLe.loose | exact AvLe.nil | exact AvLe.nilT | exact AvLe.slk | (refine AvLe.agg ?_; exact ArgsLe.refl) | (refine AvLe.agg ?_; (repeat (first | exact True.intro | refine And.intro (by first | exact AvLe.refl | exact AvLe.loose | exact AvLe.nil | exact AvLe.nilT | exact AvLe.slk) ?_)))) ?_))))) rfl ?_
  simp only [go_sem]
  (repeat (refine ⟨by (first | exact True.intro | omega | rfl | (simp; done) | (simp; omega)), ?_⟩)); try (refine hKr _ ?_; clear hKr Kr)
  refine T.condTD rfl rfl (fun hb => ?_) (fun hb => ?_) <;> try simp only [decide_eq_true_eq, decide_eq_false_iff_not, Bool.not_eq_true, Bool.not_eq_false, Bool.not_eq_eq_eq_not, Bool.not_true, Bool.not_false, Bool.and_eq_true, Bool.or_eq_true, Bool.or_eq_false_iff, Bool.cond_false_right, Bool.cond_true_left] at hb
  · -- yes
    have e : decF c app p.id p.s = (c, ackP app p.id) := by unfold decF; rw [if_pos hb]
    refine T.sregD 93 [0, 1, 2, 3, 5, 6, 7, 8, 9, 10, 11, 32, 48, 55, 74] fun Kr hKr => ?_
    simp only [go_sem]
    (repeat (refine ⟨by (first | exact True.intro | omega | rfl | (simp; done) | (simp; omega)), ?_⟩)); try (refine hKr _ ?_; clear hKr Kr)
    refine T.ret ?_
    simp only [go_sem]
    rw [e]
    exact ⟨ResCellD rfl rfl rfl rfl (by simp only [go_sem]) (by simp only [go_sem]) rfl, ResAtD (by simp only [go_sem, ackP]; rfl) rfl rfl, trivial⟩
  refine T.skip ?_
  refine hK75 _ ?_
  refine T.seqK fun K76 hK76 => ?_
  refine T.sregD 93 [0, 1, 2, 3, 5, 6, 7, 8, 9, 10, 11, 32, 48, 55, 74] fun Kr hKr => ?_
  simp only [go_sem]
  (repeat (refine ⟨by (first | exact True.intro | omega | rfl | (simp; done) | (simp; omega)), ?_⟩)); try (refine hKr _ ?_; clear hKr Kr)
  refine CallK.data (fun _ => Spec.args (s4) (by (first | exact ArgsLe.refl | (repeat (first | exact True.intro | refine And.intro (by first | exact AvLe.refl | exact AvLe.loose | exact AvLe.nil | exact AvLe.nilT | exact AvLe.slk | (refine AvLe.agg ?_; exact ArgsLe.refl) | (refine AvLe.agg ?_; (repeat (first | exact True.intro | refine And.intro (by first | exact AvLe.refl | exact AvLe.loose | exact AvLe.nil | exact AvLe.nilT | exact AvLe.slk) ?_)))) ?_))))) rfl ?_
  simp only [go_sem]
  (repeat (refine ⟨by (first | exact True.intro | omega | rfl | (simp; done) | (simp; omega)), ?_⟩)); try (refine hKr _ ?_; clear hKr Kr)
  refine T.condTD rfl rfl (fun hb2 => ?_) (fun hb2 => ?_) <;> try simp only [decide_eq_true_eq, decide_eq_false_iff_not, Bool.not_eq_true, Bool.not_eq_false, Bool.not_eq_eq_eq_not, Bool.not_true, Bool.not_false, Bool.and_eq_true, Bool.or_eq_true, Bool.or_eq_false_iff, Bool.cond_false_right, Bool.cond_true_left] at hb2
  · -- yes
    have e : decF c app p.id p.s = (c, rejP app p.id) := by unfold decF; rw [if_neg (by rw [hb]; decide), if_pos hb2]
    refine T.sregD 93 [0, 1, 2, 3, 5, 6, 7, 8, 9, 10, 11, 32, 48, 55, 74] fun Kr hKr => ?_
    simp only [go_sem]
    (repeat (refine ⟨by (first | exact True.intro | omega | rfl | (simp; done) | (simp; omega)), ?_⟩)); try (refine hKr _ ?_; clear hKr Kr)
    refine T.ret ?_
    simp only [go_sem]
    rw [e]
    exact ⟨ResCellD rfl rfl rfl rfl (by simp only [go_sem]) (by simp only [go_sem]) rfl, ResAtD (by simp only [go_sem, rejP]; rfl) rfl rfl, trivial⟩
  refine T.skip ?_
  refine hK76 _ ?_
  have e0 : decF c app p.id p.s = if (putF c.d p.id c.d.s.length p.s).2 ≠ 0 then (⟨c.d, c.has, withL c.ref p.id⟩, rejP app p.id) else (⟨(putF c.d p.id c.d.s.length p.s).1, withL c.has p.id, c.ref⟩, ackP app p.id) := by
    unfold decF; rw [if_neg (by rw [hb]; decide), if_neg (by rw [hb2]; decide)]
  generalize putF c.d p.id c.d.s.length p.s = P at *
  refine T.sregD 93 [0, 1, 2, 3, 5, 6, 7, 8, 9, 10, 11, 32, 48, 55, 74] fun Kr hKr => ?_
  simp only [go_sem]
  (repeat (refine ⟨by (first | exact True.intro | omega | rfl | (simp; done) | (simp; omega)), ?_⟩)); try (refine hKr _ ?_; clear hKr Kr)
  refine CallK.tup (fun _ => Spec.args (s5) (by (first | exact ArgsLe.refl | (repeat (first | exact True.intro | refine And.intro (by first | exact AvLe.refl | exact AvLe.loose | exact AvLe.nil | exact AvLe.nilT | exact AvLe.slk | (refine AvLe.agg ?_; exact ArgsLe.refl) | (refine AvLe.agg ?_; (repeat (first | exact True.intro | refine And.intro (by first | exact AvLe.refl | exact AvLe.loose | exact AvLe.nil | exact AvLe.nilT | exact AvLe.slk) ?_)))) ?_))))) ?_
  simp only [go_sem]
  (repeat (refine ⟨by (first | exact True.intro | omega | rfl | (simp; done) | (simp; omega)), ?_⟩)); try (refine hKr _ ?_; clear hKr Kr)
  refine T.seqK fun K77 hK77 => ?_
  refine T.sregD 93 [0, 1, 2, 3, 5, 6, 7, 8, 9, 10, 11, 32, 48, 55, 74] fun Kr hKr => ?_
  simp only [go_sem]
  (repeat (refine ⟨by (first | exact True.intro | omega | rfl | (simp; done) | (simp; omega)), ?_⟩)); try (refine hKr _ ?_; clear hKr Kr)
  refine T.condTD rfl rfl (fun hd => ?_) (fun hd => ?_) <;> simp at hd
  · -- yes
    have e : decF c app p.id p.s = (⟨c.d, c.has, withL c.ref p.id⟩, rejP app p.id) := by rw [e0, if_pos hd]
    generalize withL c.ref p.id = W at *
    refine T.sregD 93 [0, 1, 2, 3, 5, 6, 7, 8, 9, 10, 11, 32, 48, 55, 74] fun Kr hKr => ?_
    simp only [go_sem]
    (repeat (refine ⟨by (first | exact True.intro | omega | rfl | (simp; done) | (simp; omega)), ?_⟩)); try (refine hKr _ ?_; clear hKr Kr)
    refine CallK.data (fun _ => Spec.args (s6) (by (first | exact ArgsLe.refl | (repeat (first | exact True.intro | refine And.intro (by first | exact AvLe.refl | exact AvLe.loose | exact AvLe.nil | exact AvLe.nilT | exact AvLe.slk | (refine AvLe.agg ?_; exact ArgsLe.refl) | (refine AvLe.agg ?_; (repeat (first | exact True.intro | refine And.intro (by first | exact AvLe.refl | exact AvLe.loose | exact AvLe.nil | exact AvLe.nilT | exact AvLe.slk) ?_)))) ?_))))) rfl ?_
    simp only [go_sem]
    (repeat (refine ⟨by (first | exact True.intro | omega | rfl | (simp; done) | (simp; omega)), ?_⟩)); try (refine hKr _ ?_; clear hKr Kr)
    refine T.sregD 93 [0, 1, 2, 3, 5, 6, 7, 8, 9, 10, 11, 32, 48, 55, 74] fun Kr hKr => ?_
    simp only [go_sem]
    (repeat (refine ⟨by (first | exact True.intro | omega | rfl | (simp; done) | (simp; omega)), ?_⟩)); try (refine hKr _ ?_; clear hKr Kr)
    refine T.ret ?_
    simp only [go_sem]
    rw [e]
    exact ⟨ResCellD rfl rfl rfl rfl (by simp only [go_sem]) (by simp only [go_sem]) rfl, ResAtD (by simp only [go_sem, rejP]; rfl) rfl rfl, trivial⟩
  have e : decF c app p.id p.s = (⟨P.1, withL c.has p.id, c.ref⟩, ackP app p.id) := by rw [e0, if_neg (by omega)]
  generalize withL c.has p.id = W at *
  refine T.skip ?_
  refine hK77 _ ?_
  refine T.sregD 93 [0, 1, 2, 3, 5, 6, 7, 8, 9, 10, 11, 32, 48, 55, 74] fun Kr hKr => ?_
  simp only [go_sem]
  (repeat (refine ⟨by (first | exact True.intro | omega | rfl | (simp; done) | (simp; omega)), ?_⟩)); try (refine hKr _ ?_; clear hKr Kr)
  refine T.sregD 93 [0, 1, 2, 3, 5, 6, 7, 8, 9, 10, 11, 32, 48, 55, 74] fun Kr hKr => ?_
  simp only [go_sem]
  (repeat (refine ⟨by (first | exact True.intro | omega | rfl | (simp; done) | (simp; omega)), ?_⟩)); try (refine hKr _ ?_; clear hKr Kr)
  refine CallK.data (fun _ => Spec.args (s7) (by (first | exact ArgsLe.refl | (repeat (first | exact True.intro | refine And.intro (by first | exact AvLe.refl | exact AvLe.loose | exact AvLe.nil | exact AvLe.nilT | exact AvLe.slk | (refine AvLe.agg ?_; exact ArgsLe.refl) | (refine AvLe.agg ?_; (repeat (first | exact True.intro | refine And.intro (by first | exact AvLe.refl | exact AvLe.loose | exact AvLe.nil | exact AvLe.nilT | exact AvLe.slk) ?_)))) ?_))))) rfl ?_
  simp only [go_sem]
  (repeat (refine ⟨by (first | exact True.intro | omega | rfl | (simp; done) | (simp; omega)), ?_⟩)); try (refine hKr _ ?_; clear hKr Kr)
  refine T.sregD 93 [0, 1, 2, 3, 5, 6, 7, 8, 9, 10, 11, 32, 48, 55, 74] fun Kr hKr => ?_
  simp only [go_sem]
  (repeat (refine ⟨by (first | exact True.intro | omega | rfl | (simp; done) | (simp; omega)), ?_⟩)); try (refine hKr _ ?_; clear hKr Kr)
  refine T.ret ?_
  simp only [go_sem]
  rw [e]
  exact ⟨ResCellD rfl rfl rfl rfl (by simp only [go_sem]) (by simp only [go_sem]) rfl, ResAtD (by simp only [go_sem, ackP]; rfl) rfl rfl, trivial⟩

/-! ### The engine -/
@[go_sem] def sdA (r : List Sent × List Packet × Int) : AV := .agg [.sl false 4 (sesOf r.1), .sl false 4 (pksOf r.2.1), .int .i64 r.2.2]
theorem SubmitR_spec (l : List Sent) (c : Cmt) (hl : l.length ≤ 100000) (hs : c.s.length ≤ 100000) : Ideal.Spec Try.prog 26 [.sl false 4 (sesOf l), cmA c] (sdA (subF l c)) none := by
  have s1 := IsIdR_spec c.id
  have s2 := IsNoteR_spec c.s (by omega)
  refine Spec.weak (r := .agg [.sl false 4 (sesOf (subF l c).1), subX (subF l c), .int .i64 (subF l c).2.2]) ?_ rfl rfl (AvLe.agg ⟨AvLe.refl, subX_le l c, AvLe.refl, trivial⟩)
  refine Ideal.Spec.of_CD (n := 73) (fn := Try.f26) rfl rfl rfl rfl rfl rfl rfl fun w ok => ?_
  refine T.post [.tmp 4] ?_
  refine T.sregD 73 [0, 1, 3, 4, 5, 6, 26, 32, 42, 47] fun Kr hKr => ?_
  simp only [go_sem]
  (repeat (refine ⟨by (first | exact True.intro | omega | rfl | (simp; done) | (simp; omega)), ?_⟩)); try (refine hKr _ ?_; clear hKr Kr)
  refine T.seqK fun K116 hK116 => ?_
  by_cases h1 : idB c.id = true
  rotate_left
  · have h1 : idB c.id = false := by simpa using h1
    have ee : subF l c = (l, [], 1) := by unfold subF; rw [if_pos (.inl h1)]
    refine T.sregD 73 [0, 1, 3, 4, 5, 6, 26, 32, 42, 47] fun Kr hKr => ?_
    simp only [go_sem]
    (repeat (refine ⟨by (first | exact True.intro | omega | rfl | (simp; done) | (simp; omega)), ?_⟩)); try (refine hKr _ ?_; clear hKr Kr)
    refine CallK.data (fun _ => Spec.args (s1) (by (first | exact ArgsLe.refl | (repeat (first | exact True.intro | refine And.intro (by first | exact AvLe.refl | exact AvLe.loose | exact AvLe.nil | exact AvLe.nilT | exact AvLe.slk | (refine AvLe.agg ?_; exact ArgsLe.refl) | (refine AvLe.agg ?_; (repeat (first | exact True.intro | refine And.intro (by first | exact AvLe.refl | exact AvLe.loose | exact AvLe.nil | exact AvLe.nilT | exact AvLe.slk) ?_)))) ?_))))) rfl ?_
    simp only [go_sem, h1]
    (repeat (refine ⟨by (first | exact True.intro | omega | rfl | (simp; done) | (simp; omega)), ?_⟩)); try (refine hKr _ ?_; clear hKr Kr)
    refine CallK.data (r := .bool true) (fun h => by cases h) rfl ?_
    simp only [go_sem]
    (repeat (refine ⟨by (first | exact True.intro | omega | rfl | (simp; done) | (simp; omega)), ?_⟩)); try (refine hKr _ ?_; clear hKr Kr)
    refine T.condTD rfl rfl (fun hb => ?_) (fun hb => ?_) <;> try simp at hb
    refine T.sregD 73 [0, 1, 3, 4, 5, 6, 26, 32, 42, 47] fun Kr hKr => ?_
    simp only [go_sem]
    (repeat (refine ⟨by (first | exact True.intro | omega | rfl | (simp; done) | (simp; omega)), ?_⟩)); try (refine hKr _ ?_; clear hKr Kr)
    refine T.ret ?_
    simp only [go_sem]
    exact ⟨ResCellD rfl rfl rfl rfl (by simp only [go_sem]) (by rw [ee]; rfl) rfl, trivial⟩
  by_cases h2 : c.app < 0 ∨ c.app ≥ 8
  · have ee : subF l c = (l, [], 1) := by unfold subF; rw [if_pos (by rcases h2 with h2 | h2; exact .inr (.inl h2); exact .inr (.inr (.inl h2)))]
    have h3 : ((c.app < 0) = True) ∨ ((c.app < 0) = False ∧ (c.app ≥ 8) = True) := by
      by_cases q : c.app < 0
      · exact .inl (eq_true q)
      · exact .inr ⟨eq_false q, eq_true (by omega)⟩
    rcases h3 with h3 | ⟨h3, h4⟩
    · refine T.sregD 73 [0, 1, 3, 4, 5, 6, 26, 32, 42, 47] fun Kr hKr => ?_
      simp only [go_sem]
      (repeat (refine ⟨by (first | exact True.intro | omega | rfl | (simp; done) | (simp; omega)), ?_⟩)); try (refine hKr _ ?_; clear hKr Kr)
      refine CallK.data (fun _ => Spec.args (s1) (by (first | exact ArgsLe.refl | (repeat (first | exact True.intro | refine And.intro (by first | exact AvLe.refl | exact AvLe.loose | exact AvLe.nil | exact AvLe.nilT | exact AvLe.slk | (refine AvLe.agg ?_; exact ArgsLe.refl) | (refine AvLe.agg ?_; (repeat (first | exact True.intro | refine And.intro (by first | exact AvLe.refl | exact AvLe.loose | exact AvLe.nil | exact AvLe.nilT | exact AvLe.slk) ?_)))) ?_))))) rfl ?_
      simp only [go_sem, h1, h3]
      (repeat (refine ⟨by (first | exact True.intro | omega | rfl | (simp; done) | (simp; omega)), ?_⟩)); try (refine hKr _ ?_; clear hKr Kr)
      refine CallK.data (r := .bool true) (fun h => by cases h) rfl ?_
      simp only [go_sem]
      (repeat (refine ⟨by (first | exact True.intro | omega | rfl | (simp; done) | (simp; omega)), ?_⟩)); try (refine hKr _ ?_; clear hKr Kr)
      refine T.condTD rfl rfl (fun hb => ?_) (fun hb => ?_) <;> try simp at hb
      refine T.sregD 73 [0, 1, 3, 4, 5, 6, 26, 32, 42, 47] fun Kr hKr => ?_
      simp only [go_sem]
      (repeat (refine ⟨by (first | exact True.intro | omega | rfl | (simp; done) | (simp; omega)), ?_⟩)); try (refine hKr _ ?_; clear hKr Kr)
      refine T.ret ?_
      simp only [go_sem]
      exact ⟨ResCellD rfl rfl rfl rfl (by simp only [go_sem]) (by rw [ee]; rfl) rfl, trivial⟩
    · refine T.sregD 73 [0, 1, 3, 4, 5, 6, 26, 32, 42, 47] fun Kr hKr => ?_
      simp only [go_sem]
      (repeat (refine ⟨by (first | exact True.intro | omega | rfl | (simp; done) | (simp; omega)), ?_⟩)); try (refine hKr _ ?_; clear hKr Kr)
      refine CallK.data (fun _ => Spec.args (s1) (by (first | exact ArgsLe.refl | (repeat (first | exact True.intro | refine And.intro (by first | exact AvLe.refl | exact AvLe.loose | exact AvLe.nil | exact AvLe.nilT | exact AvLe.slk | (refine AvLe.agg ?_; exact ArgsLe.refl) | (refine AvLe.agg ?_; (repeat (first | exact True.intro | refine And.intro (by first | exact AvLe.refl | exact AvLe.loose | exact AvLe.nil | exact AvLe.nilT | exact AvLe.slk) ?_)))) ?_))))) rfl ?_
      simp only [go_sem, h1, h3, h4]
      (repeat (refine ⟨by (first | exact True.intro | omega | rfl | (simp; done) | (simp; omega)), ?_⟩)); try (refine hKr _ ?_; clear hKr Kr)
      refine CallK.data (r := .bool true) (fun h => by cases h) rfl ?_
      simp only [go_sem]
      (repeat (refine ⟨by (first | exact True.intro | omega | rfl | (simp; done) | (simp; omega)), ?_⟩)); try (refine hKr _ ?_; clear hKr Kr)
      refine T.condTD rfl rfl (fun hb => ?_) (fun hb => ?_) <;> try simp at hb
      refine T.sregD 73 [0, 1, 3, 4, 5, 6, 26, 32, 42, 47] fun Kr hKr => ?_
      simp only [go_sem]
      (repeat (refine ⟨by (first | exact True.intro | omega | rfl | (simp; done) | (simp; omega)), ?_⟩)); try (refine hKr _ ?_; clear hKr Kr)
      refine T.ret ?_
      simp only [go_sem]
      exact ⟨ResCellD rfl rfl rfl rfl (by simp only [go_sem]) (by rw [ee]; rfl) rfl, trivial⟩
  have h3 : (c.app < 0) = False := eq_false (by omega)
  have h4 : (c.app ≥ 8) = False := eq_false (by omega)
  by_cases h5 : noteB c.s = true
  rotate_left
  · have h5 : noteB c.s = false := by simpa using h5
    have ee : subF l c = (l, [], 1) := by unfold subF; rw [if_pos (.inr (.inr (.inr h5)))]
    refine T.sregD 73 [0, 1, 3, 4, 5, 6, 26, 32, 42, 47] fun Kr hKr => ?_
    simp only [go_sem]
    (repeat (refine ⟨by (first | exact True.intro | omega | rfl | (simp; done) | (simp; omega)), ?_⟩)); try (refine hKr _ ?_; clear hKr Kr)
    refine CallK.data (fun _ => Spec.args (s1) (by (first | exact ArgsLe.refl | (repeat (first | exact True.intro | refine And.intro (by first | exact AvLe.refl | exact AvLe.loose | exact AvLe.nil | exact AvLe.nilT | exact AvLe.slk | (refine AvLe.agg ?_; exact ArgsLe.refl) | (refine AvLe.agg ?_; (repeat (first | exact True.intro | refine And.intro (by first | exact AvLe.refl | exact AvLe.loose | exact AvLe.nil | exact AvLe.nilT | exact AvLe.slk) ?_)))) ?_))))) rfl ?_
    simp only [go_sem, h1, h3, h4]
    (repeat (refine ⟨by (first | exact True.intro | omega | rfl | (simp; done) | (simp; omega)), ?_⟩)); try (refine hKr _ ?_; clear hKr Kr)
    refine CallK.data (fun _ => Spec.args (s2) (by (first | exact ArgsLe.refl | (repeat (first | exact True.intro | refine And.intro (by first | exact AvLe.refl | exact AvLe.loose | exact AvLe.nil | exact AvLe.nilT | exact AvLe.slk | (refine AvLe.agg ?_; exact ArgsLe.refl) | (refine AvLe.agg ?_; (repeat (first | exact True.intro | refine And.intro (by first | exact AvLe.refl | exact AvLe.loose | exact AvLe.nil | exact AvLe.nilT | exact AvLe.slk) ?_)))) ?_))))) rfl ?_
    simp only [go_sem, h5]
    (repeat (refine ⟨by (first | exact True.intro | omega | rfl | (simp; done) | (simp; omega)), ?_⟩)); try (refine hKr _ ?_; clear hKr Kr)
    refine T.condTD rfl rfl (fun hb => ?_) (fun hb => ?_) <;> try simp at hb
    refine T.sregD 73 [0, 1, 3, 4, 5, 6, 26, 32, 42, 47] fun Kr hKr => ?_
    simp only [go_sem]
    (repeat (refine ⟨by (first | exact True.intro | omega | rfl | (simp; done) | (simp; omega)), ?_⟩)); try (refine hKr _ ?_; clear hKr Kr)
    refine T.ret ?_
    simp only [go_sem]
    exact ⟨ResCellD rfl rfl rfl rfl (by simp only [go_sem]) (by rw [ee]; rfl) rfl, trivial⟩
  have e0 : subF l c = if hasE l c.id = true ∨ l.length ≥ 100 then (l, [], 300) else (l ++ [⟨c.id, c.app, 1, c.s⟩], [⟨1, c.app, c.id, c.s⟩], 0) := by
    unfold subF; rw [if_neg (by rw [h1, h5]; simp; omega)]
  refine T.sregD 73 [0, 1, 3, 4, 5, 6, 26, 32, 42, 47] fun Kr hKr => ?_
  simp only [go_sem]
  (repeat (refine ⟨by (first | exact True.intro | omega | rfl | (simp; done) | (simp; omega)), ?_⟩)); try (refine hKr _ ?_; clear hKr Kr)
  refine CallK.data (fun _ => Spec.args (s1) (by (first | exact ArgsLe.refl | (repeat (first | exact True.intro | refine And.intro (by first | exact AvLe.refl | exact AvLe.loose | exact AvLe.nil | exact AvLe.nilT | exact AvLe.slk | (refine AvLe.agg ?_; exact ArgsLe.refl) | (refine AvLe.agg ?_; (repeat (first | exact True.intro | refine And.intro (by first | exact AvLe.refl | exact AvLe.loose | exact AvLe.nil | exact AvLe.nilT | exact AvLe.slk) ?_)))) ?_))))) rfl ?_
  simp only [go_sem, h1, h3, h4]
  (repeat (refine ⟨by (first | exact True.intro | omega | rfl | (simp; done) | (simp; omega)), ?_⟩)); try (refine hKr _ ?_; clear hKr Kr)
  refine CallK.data (fun _ => Spec.args (s2) (by (first | exact ArgsLe.refl | (repeat (first | exact True.intro | refine And.intro (by first | exact AvLe.refl | exact AvLe.loose | exact AvLe.nil | exact AvLe.nilT | exact AvLe.slk | (refine AvLe.agg ?_; exact ArgsLe.refl) | (refine AvLe.agg ?_; (repeat (first | exact True.intro | refine And.intro (by first | exact AvLe.refl | exact AvLe.loose | exact AvLe.nil | exact AvLe.nilT | exact AvLe.slk) ?_)))) ?_))))) rfl ?_
  simp only [go_sem, h5]
  (repeat (refine ⟨by (first | exact True.intro | omega | rfl | (simp; done) | (simp; omega)), ?_⟩)); try (refine hKr _ ?_; clear hKr Kr)
  refine T.condTD rfl rfl (fun hb => ?_) (fun hb => ?_) <;> try simp at hb
  refine T.skip ?_
  refine hK116 _ ?_
  refine T.seqK fun K117 hK117 => ?_
  refine T.sregD 73 [0, 1, 3, 4, 5, 6, 26, 32, 42, 47] fun Kr hKr => ?_
  simp only [go_sem]
  (repeat (refine ⟨by (first | exact True.intro | omega | rfl | (simp; done) | (simp; omega)), ?_⟩)); try (refine hKr _ ?_; clear hKr Kr)
  refine T.bloop (fun i : Nat => ⟨dense 73 [(0, .sl false 4 (sesOf l)), (3, .op 3 0 0), (4, .op 4 0 0), (5, .int .i64 i)], [(4, ⟨3, 63, true, [.agg [.sl true 1 [], .sl true 1 [], .int .i64 0]]⟩), (3, ⟨3, 59, true, [cmA c]⟩)]⟩)
    (fun i => i ≤ l.length ∧ (l.take i).any (fun x => decide (x.id = c.id)) = false) (fun i => l.length - i) 0 (by simp) ?_ fun i hi => ?_
  · refine Le.fitS (by (repeat (first | exact DFit.nil | refine DFit.cons (by first | rfl | (simp [slook]; done) | (simp [slook]; omega)) ?_))) (by (repeat (first | exact True.intro | refine And.intro (by first | rfl | (simp [look]; done)) ?_)))
  obtain ⟨hi, hn⟩ := hi
  refine T.seqK fun K2 hK2 => ?_
  refine T.sregD 73 [0, 1, 3, 4, 5, 6, 26, 32, 42, 47] fun Kr hKr => ?_
  simp only [go_sem]
  (repeat (refine ⟨by (first | exact True.intro | omega | rfl | (simp; done) | (simp; omega)), ?_⟩)); try (refine hKr _ ?_; clear hKr Kr)
  refine T.condFD rfl rfl (fun hb => ?_) (fun hb => ?_) <;> simp at hb
  · -- no: exit
    refine T.exit ?_
    simp only [if_true]
    refine hK117 _ ?_
    have : i = l.length := by omega
    subst this
    rw [List.take_length] at hn
    have hh : hasE l c.id = false := hn
    refine T.seqK fun K3 hK3 => ?_
    refine T.sregD 73 [0, 1, 3, 4, 5, 6, 26, 32, 42, 47] fun Kr hKr => ?_
    simp only [go_sem]
    (repeat (refine ⟨by (first | exact True.intro | omega | rfl | (simp; done) | (simp; omega)), ?_⟩)); try (refine hKr _ ?_; clear hKr Kr)
    refine T.condTD rfl rfl (fun hc => ?_) (fun hc => ?_) <;> simp only [decide_eq_true_eq, decide_eq_false_iff_not] at hc
    · -- yes
      have ee : subF l c = (l, [], 300) := by rw [e0, if_pos (.inr (by omega))]
      refine T.sregD 73 [0, 1, 3, 4, 5, 6, 26, 32, 42, 47] fun Kr hKr => ?_
      simp only [go_sem]
      (repeat (refine ⟨by (first | exact True.intro | omega | rfl | (simp; done) | (simp; omega)), ?_⟩)); try (refine hKr _ ?_; clear hKr Kr)
      refine T.ret ?_
      simp only [go_sem]
      exact ⟨ResCellD rfl rfl rfl rfl (by simp only [go_sem]) (by rw [ee]; rfl) rfl, trivial⟩
    have ee : subF l c = (l ++ [⟨c.id, c.app, 1, c.s⟩], [⟨1, c.app, c.id, c.s⟩], 0) := by rw [e0, if_neg (by rw [hh]; simp; omega)]
    have hA : sesOf l ++ [.agg [.int .i64 c.id, .int .i64 c.app, .int .i64 1, .str c.s]] = sesOf (l ++ [⟨c.id, c.app, 1, c.s⟩]) := by rw [sesOf_app]; rfl
    have hA3 : (l ++ [(⟨c.id, c.app, 1, c.s⟩ : Sent)]).length = l.length + 1 := by simp
    have hA4 : (l ++ [(⟨c.id, c.app, 1, c.s⟩ : Sent)]).take (l.length + 1) = l ++ [⟨c.id, c.app, 1, c.s⟩] := List.take_of_length_le (by simp)
    refine T.skip ?_
    refine hK3 _ ?_
    refine T.sregD 73 [0, 1, 3, 4, 5, 6, 26, 32, 42, 47] fun Kr hKr => ?_
    simp only [go_sem]
    (repeat (refine ⟨by (first | exact True.intro | omega | rfl | (simp; done) | (simp; omega)), ?_⟩)); try (refine hKr _ ?_; clear hKr Kr)
    refine T.sregD 73 [0, 1, 3, 4, 5, 6, 26, 32, 42, 47] fun Kr hKr => ?_
    simp only [go_sem, hA]
    (repeat (refine ⟨by (first | exact True.intro | omega | rfl | (simp; done) | (simp; omega)), ?_⟩)); try (refine hKr _ ?_; clear hKr Kr)
    refine T.sregD 73 [0, 1, 3, 4, 5, 6, 26, 32, 42, 47] fun Kr hKr => ?_
    simp only [go_sem]
    (repeat (refine ⟨by (first | exact True.intro | omega | rfl | (simp; done) | (simp; omega)), ?_⟩)); try (refine hKr _ ?_; clear hKr Kr)
    refine T.ret ?_
    simp only [go_sem, hA, hA3, hA4, Nat.le_refl]
    exact ⟨ResCellD rfl rfl rfl rfl (by simp only [go_sem]) (by rw [ee]; rfl) rfl, trivial⟩
  refine T.skip ?_
  refine hK2 _ ?_
  refine T.seqK fun K3 hK3 => ?_
  refine T.block ?_
  refine T.sdrawD 73 [0, 1, 3, 4, 5, 6, 26, 32, 42, 47] (.take 0 (.take 1 (.take 2 (.take 3 (.take 4 (.take 5 (.take 6 (.take 7 .done)))))))) [3] rfl (by decide +kernel) (by decide +kernel) fun Kr hKr => ?_
  simp only [go_sem, hb]
  (repeat (refine ⟨by (first | exact True.intro | omega | rfl | (simp; done) | (simp; omega)), ?_⟩)); try (refine hKr _ ?_; clear hKr Kr)
  refine T.condTD rfl rfl (fun hc => ?_) (fun hc => ?_) <;> simp [-List.getD_eq_getElem?_getD] at hc
  · -- yes
    have hh : hasE l c.id = true := List.any_eq_true.2 ⟨l.getD i default, by simp [List.getD, hb], by simpa using hc⟩
    have ee : subF l c = (l, [], 300) := by rw [e0, if_pos (.inl hh)]
    refine T.sregD 73 [0, 1, 3, 4, 5, 6, 26, 32, 42, 47] fun Kr hKr => ?_
    simp only [go_sem]
    (repeat (refine ⟨by (first | exact True.intro | omega | rfl | (simp; done) | (simp; omega)), ?_⟩)); try (refine hKr _ ?_; clear hKr Kr)
    refine T.ret ?_
    simp only [go_sem]
    exact ⟨ResCellD rfl rfl rfl rfl (by simp only [go_sem]) (by rw [ee]; rfl) rfl, trivial⟩
  refine T.skip ?_
  refine hK3 _ ?_
  refine T.regD 73 [0, 1, 3, 4, 5, 6, 26, 32, 42, 47] fun Kr hKr => ?_
  simp only [go_sem]
  (repeat (refine ⟨by (first | exact True.intro | omega | rfl | (simp; done) | (simp; omega)), ?_⟩)); try (refine hKr _ ?_; clear hKr Kr)
  refine ⟨i + 1, ?_, ?_, Le.fitS (by (repeat (first | exact DFit.nil | refine DFit.cons (by first | rfl | (simp [slook]; done) | (simp [slook]; omega)) ?_))) ?_⟩
  · refine ⟨by omega, ?_⟩
    rw [take_succ_d hb, List.any_append, hn]
    simp only [List.any_cons, List.any_nil, Bool.or_false, Bool.false_or, decide_eq_false_iff_not]
    exact hc
  · omega
  · (repeat (first | exact True.intro | refine And.intro (by first | rfl | (simp [look]; done)) ?_))
def hrX (p : Packet) (x : Sent) : Sent := if x.id ≠ p.id ∨ x.app ≠ p.app ∨ x.st ≠ 1 then x else if p.k = 2 then ⟨x.id, x.app, 2, x.s⟩ else if p.k = 3 then ⟨x.id, x.app, 3, x.s⟩ else x
def hearR (l : List Sent) (p : Packet) : List Sent := l.map (hrX p)
def hrM (l : List Sent) (p : Packet) (i : Nat) : List Sent := (l.take i).map (hrX p) ++ l.drop i
theorem hrM_len (l : List Sent) (p : Packet) (i : Nat) : (hrM l p i).length = l.length := by simp [hrM]; omega
theorem hrM_get {l : List Sent} {p : Packet} {i : Nat} (h : i < l.length) : (hrM l p i).getD i default = l.getD i default := by
  have h1 : ((l.take i).map (hrX p)).length = i := by simp; omega
  simp only [hrM, List.getD]
  rw [List.getElem?_append_right (by omega), h1, Nat.sub_self, List.getElem?_drop]; simp
theorem hrM_set {l : List Sent} {p : Packet} {i : Nat} (h : i < l.length) : (hrM l p i).set i (hrX p (l.getD i default)) = hrM l p (i + 1) := by
  have h1 : ((l.take i).map (hrX p)).length = i := by simp; omega
  unfold hrM
  rw [drop_d h, take_succ_d h, List.set_append_right _ _ (by omega), h1, Nat.sub_self]
  simp
theorem hrM_same {l : List Sent} {p : Packet} {i : Nat} (h : i < l.length) (hx : hrX p (l.getD i default) = l.getD i default) : hrM l p (i + 1) = hrM l p i := by
  unfold hrM
  rw [take_succ_d h, drop_d h, List.map_append]; simp only [List.map_cons, List.map_nil, hx]; simp
theorem HearR_spec (l : List Sent) (p : Packet) (hl : l.length ≤ 100000) : Ideal.Spec Try.prog 27 [.sl false 4 (sesOf l), pkA p] (.sl false 4 (sesOf (hearR l p))) none := by
  refine Ideal.Spec.of_TD (n := 57) (fn := Try.f27) rfl rfl rfl rfl rfl rfl rfl fun w ok => ?_
  refine T.post [.tmp 4] ?_
  refine T.sregD 57 [0, 1, 3, 4, 5, 6, 13, 41, 44, 51] fun Kr hKr => ?_
  simp only [go_sem]
  (repeat (refine ⟨by (first | exact True.intro | omega | rfl | (simp; done) | (simp; omega)), ?_⟩)); try (refine hKr _ ?_; clear hKr Kr)
  refine T.sregD 57 [0, 1, 3, 4, 5, 6, 13, 41, 44, 51] fun Kr hKr => ?_
  simp only [go_sem]
  (repeat (refine ⟨by (first | exact True.intro | omega | rfl | (simp; done) | (simp; omega)), ?_⟩)); try (refine hKr _ ?_; clear hKr Kr)
  refine T.seqK fun K87 hK87 => ?_
  refine T.sregD 57 [0, 1, 3, 4, 5, 6, 13, 41, 44, 51] fun Kr hKr => ?_
  simp only [go_sem]
  (repeat (refine ⟨by (first | exact True.intro | omega | rfl | (simp; done) | (simp; omega)), ?_⟩)); try (refine hKr _ ?_; clear hKr Kr)
  refine T.bloop (fun i : Nat => ⟨dense 57 [(3, .op 3 0 0), (5, .osl 7 0 l.length), (6, .int .i64 i)], [(7, ⟨4, 35, false, sesOf (hrM l p i)⟩), (3, ⟨4, 49, true, [pkA p]⟩)]⟩) (fun i => i ≤ l.length) (fun i => l.length - i) 0 (by simp) ?_ fun i hi => ?_
  · have : hrM l p 0 = l := by simp [hrM]
    rw [this]
    refine Le.fitS (by (repeat (first | exact DFit.nil | refine DFit.cons (by first | rfl | (simp [slook]; done) | (simp [slook]; omega)) ?_))) (by (repeat (first | exact True.intro | refine And.intro (by first | rfl | (simp [look]; done)) ?_)))
  have hml := hrM_len l p i
  refine T.seqK fun K88 hK88 => ?_
  refine T.sregD 57 [0, 1, 3, 4, 5, 6, 13, 41, 44, 51] fun Kr hKr => ?_
  simp only [go_sem]
  (repeat (refine ⟨by (first | exact True.intro | omega | rfl | (simp; done) | (simp; omega)), ?_⟩)); try (refine hKr _ ?_; clear hKr Kr)
  refine T.condFD rfl rfl (fun hb => ?_) (fun hb => ?_) <;> simp at hb
  · -- no: exit
    refine T.exit ?_
    simp only [if_true]
    refine hK87 _ ?_
    have : i = l.length := by omega
    subst this
    have he : hrM l p l.length = hearR l p := by simp [hrM, hearR]
    have hT : (hearR l p).take l.length = hearR l p := List.take_of_length_le (by simp [hearR])
    rw [he] at hml ⊢
    refine T.sregD 57 [0, 1, 3, 4, 5, 6, 13, 41, 44, 51] fun Kr hKr => ?_
    simp only [go_sem]
    (repeat (refine ⟨by (first | exact True.intro | omega | rfl | (simp; done) | (simp; omega)), ?_⟩)); try (refine hKr _ ?_; clear hKr Kr)
    refine T.ret ?_
    simp only [go_sem, Nat.le_refl, hml, hT]
    exact Fin.dataD rfl rfl rfl
  have hg := hrM_get (p := p) hb
  have hset := hrM_set (p := p) hb
  have hsame := hrM_same (p := p) hb
  have hbm : i < (hrM l p i).length := by omega
  refine T.skip ?_
  refine hK88 _ ?_
  refine T.seqK fun K89 hK89 => ?_
  refine T.block ?_
  refine T.seqK fun K90 hK90 => ?_
  generalize l.getD i default = x at *
  by_cases h1 : x.id = p.id ∧ x.app = p.app ∧ x.st = 1
  rotate_left
  · have hx : hrX p x = x := by unfold hrX; rw [if_pos (by omega)]
    have hsame := hsame hx
    have hcase : ((x.id = p.id) = False) ∨ ((x.id = p.id) = True ∧ (x.app = p.app) = False) ∨ ((x.id = p.id) = True ∧ (x.app = p.app) = True ∧ (x.st = 1) = False) := by
      by_cases q1 : x.id = p.id
      · by_cases q2 : x.app = p.app
        · exact .inr (.inr ⟨eq_true q1, eq_true q2, eq_false (fun q3 => h1 ⟨q1, q2, q3⟩)⟩)
        · exact .inr (.inl ⟨eq_true q1, eq_false q2⟩)
      · exact .inl (eq_false q1)
    rcases hcase with q1 | ⟨q1, q2⟩ | ⟨q1, q2, q3⟩
    · refine T.sdrawD 57 [0, 1, 3, 4, 5, 6, 13, 41, 44, 51] (.take 0 (.take 1 (.take 2 (.take 3 (.take 4 (.take 5 (.take 6 (.take 7 (.take 8 (.take 9 (.take 10 (.take 11 (.take 12 (.take 13 (.take 14 (.take 15 (.take 16 (.take 17 (.take 18 (.take 19 (.take 20 (.take 21 (.take 22 (.take 23 (.take 24 (.take 25 .done)))))))))))))))))))))))))) [3, 7] rfl (by decide +kernel) (by decide +kernel) fun Kr hKr => ?_
      simp only [go_sem, hbm, hg, q1]
      (repeat (refine ⟨by (first | exact True.intro | omega | rfl | (simp; done) | (simp; omega)), ?_⟩)); try (refine hKr _ ?_; clear hKr Kr)
      refine T.condTD rfl rfl (fun hc => ?_) (fun hc => ?_) <;> try simp at hc
      refine T.exit ?_
      simp only [if_true]
      refine hK89 _ ?_
      refine T.regD 57 [0, 1, 3, 4, 5, 6, 13, 41, 44, 51] fun Kr hKr => ?_
      simp only [go_sem]
      (repeat (refine ⟨by (first | exact True.intro | omega | rfl | (simp; done) | (simp; omega)), ?_⟩)); try (refine hKr _ ?_; clear hKr Kr)
      refine ⟨i + 1, ?_, ?_, Le.fitS (by (repeat (first | exact DFit.nil | refine DFit.cons (by first | rfl | (simp [slook]; done) | (simp [slook]; omega)) ?_))) ?_⟩
      · omega
      · omega
      · rw [hsame]; (repeat (first | exact True.intro | refine And.intro (by first | rfl | (simp [look]; done)) ?_))
    · refine T.sdrawD 57 [0, 1, 3, 4, 5, 6, 13, 41, 44, 51] (.take 0 (.take 1 (.take 2 (.take 3 (.take 4 (.take 5 (.take 6 (.take 7 (.take 8 (.take 9 (.take 10 (.take 11 (.take 12 (.take 13 (.take 14 (.take 15 (.take 16 (.take 17 (.take 18 (.take 19 (.take 20 (.take 21 (.take 22 (.take 23 (.take 24 (.take 25 .done)))))))))))))))))))))))))) [3, 7] rfl (by decide +kernel) (by decide +kernel) fun Kr hKr => ?_
      simp only [go_sem, hbm, hg, q1, q2]
      (repeat (refine ⟨by (first | exact True.intro | omega | rfl | (simp; done) | (simp; omega)), ?_⟩)); try (refine hKr _ ?_; clear hKr Kr)
      refine T.condTD rfl rfl (fun hc => ?_) (fun hc => ?_) <;> try simp at hc
      refine T.exit ?_
      simp only [if_true]
      refine hK89 _ ?_
      refine T.regD 57 [0, 1, 3, 4, 5, 6, 13, 41, 44, 51] fun Kr hKr => ?_
      simp only [go_sem]
      (repeat (refine ⟨by (first | exact True.intro | omega | rfl | (simp; done) | (simp; omega)), ?_⟩)); try (refine hKr _ ?_; clear hKr Kr)
      refine ⟨i + 1, ?_, ?_, Le.fitS (by (repeat (first | exact DFit.nil | refine DFit.cons (by first | rfl | (simp [slook]; done) | (simp [slook]; omega)) ?_))) ?_⟩
      · omega
      · omega
      · rw [hsame]; (repeat (first | exact True.intro | refine And.intro (by first | rfl | (simp [look]; done)) ?_))
    · refine T.sdrawD 57 [0, 1, 3, 4, 5, 6, 13, 41, 44, 51] (.take 0 (.take 1 (.take 2 (.take 3 (.take 4 (.take 5 (.take 6 (.take 7 (.take 8 (.take 9 (.take 10 (.take 11 (.take 12 (.take 13 (.take 14 (.take 15 (.take 16 (.take 17 (.take 18 (.take 19 (.take 20 (.take 21 (.take 22 (.take 23 (.take 24 (.take 25 .done)))))))))))))))))))))))))) [3, 7] rfl (by decide +kernel) (by decide +kernel) fun Kr hKr => ?_
      simp only [go_sem, hbm, hg, q1, q2, q3]
      (repeat (refine ⟨by (first | exact True.intro | omega | rfl | (simp; done) | (simp; omega)), ?_⟩)); try (refine hKr _ ?_; clear hKr Kr)
      refine T.condTD rfl rfl (fun hc => ?_) (fun hc => ?_) <;> try simp at hc
      refine T.exit ?_
      simp only [if_true]
      refine hK89 _ ?_
      refine T.regD 57 [0, 1, 3, 4, 5, 6, 13, 41, 44, 51] fun Kr hKr => ?_
      simp only [go_sem]
      (repeat (refine ⟨by (first | exact True.intro | omega | rfl | (simp; done) | (simp; omega)), ?_⟩)); try (refine hKr _ ?_; clear hKr Kr)
      refine ⟨i + 1, ?_, ?_, Le.fitS (by (repeat (first | exact DFit.nil | refine DFit.cons (by first | rfl | (simp [slook]; done) | (simp [slook]; omega)) ?_))) ?_⟩
      · omega
      · omega
      · rw [hsame]; (repeat (first | exact True.intro | refine And.intro (by first | rfl | (simp [look]; done)) ?_))
  obtain ⟨q1, q2, q3⟩ := h1
  have q1' : (x.id = p.id) = True := eq_true q1
  have q2' : (x.app = p.app) = True := eq_true q2
  have q3' : (x.st = 1) = True := eq_true q3
  refine T.sdrawD 57 [0, 1, 3, 4, 5, 6, 13, 41, 44, 51] (.take 0 (.take 1 (.take 2 (.take 3 (.take 4 (.take 5 (.take 6 (.take 7 (.take 8 (.take 9 (.take 10 (.take 11 (.take 12 (.take 13 (.take 14 (.take 15 (.take 16 (.take 17 (.take 18 (.take 19 (.take 20 (.take 21 (.take 22 (.take 23 (.take 24 (.take 25 .done)))))))))))))))))))))))))) [3, 7] rfl (by decide +kernel) (by decide +kernel) fun Kr hKr => ?_
  simp only [go_sem, hbm, hg, q1', q2', q3']
  (repeat (refine ⟨by (first | exact True.intro | omega | rfl | (simp; done) | (simp; omega)), ?_⟩)); try (refine hKr _ ?_; clear hKr Kr)
  refine T.condTD rfl rfl (fun hc => ?_) (fun hc => ?_) <;> try simp at hc
  refine T.skip ?_
  refine hK90 _ ?_
  refine T.seqK fun K91 hK91 => ?_
  by_cases k2 : p.k = 2
  · have k2' : (p.k = 2) = True := eq_true k2
    have k3' : (p.k = 3) = False := eq_false (by omega)
    have hx : hrX p x = ⟨x.id, x.app, 2, x.s⟩ := by unfold hrX; rw [if_neg (by omega), if_pos k2]
    rw [hx] at hset
    refine T.sregD 57 [0, 1, 3, 4, 5, 6, 13, 41, 44, 51] fun Kr hKr => ?_
    simp only [go_sem, k2']
    (repeat (refine ⟨by (first | exact True.intro | omega | rfl | (simp; done) | (simp; omega)), ?_⟩)); try (refine hKr _ ?_; clear hKr Kr)
    refine T.condTD rfl rfl (fun hc => ?_) (fun hc => ?_) <;> try simp at hc
    refine T.regD 57 [0, 1, 3, 4, 5, 6, 13, 41, 44, 51] fun Kr hKr => ?_
    simp only [go_sem, hbm, hg]
    (repeat (refine ⟨by (first | exact True.intro | omega | rfl | (simp; done) | (simp; omega)), ?_⟩)); try (refine hKr _ ?_; clear hKr Kr)
    refine hK91 _ ?_
    refine T.sregD 57 [0, 1, 3, 4, 5, 6, 13, 41, 44, 51] fun Kr hKr => ?_
    simp only [go_sem, k3']
    (repeat (refine ⟨by (first | exact True.intro | omega | rfl | (simp; done) | (simp; omega)), ?_⟩)); try (refine hKr _ ?_; clear hKr Kr)
    refine T.condTD rfl rfl (fun hc => ?_) (fun hc => ?_) <;> try simp at hc
    refine T.skip ?_
    refine hK89 _ ?_
    refine T.regD 57 [0, 1, 3, 4, 5, 6, 13, 41, 44, 51] fun Kr hKr => ?_
    simp only [go_sem]
    (repeat (refine ⟨by (first | exact True.intro | omega | rfl | (simp; done) | (simp; omega)), ?_⟩)); try (refine hKr _ ?_; clear hKr Kr)
    refine ⟨i + 1, ?_, ?_, Le.fitS (by (repeat (first | exact DFit.nil | refine DFit.cons (by first | rfl | (simp [slook]; done) | (simp [slook]; omega)) ?_))) ?_⟩
    · omega
    · omega
    · rw [← hset]; (repeat (first | exact True.intro | refine And.intro (by first | rfl | (simp [look]; done)) ?_))
  have k2' : (p.k = 2) = False := eq_false k2
  by_cases k3 : p.k = 3
  · have k3' : (p.k = 3) = True := eq_true k3
    have hx : hrX p x = ⟨x.id, x.app, 3, x.s⟩ := by unfold hrX; rw [if_neg (by omega), if_neg k2, if_pos k3]
    rw [hx] at hset
    refine T.sregD 57 [0, 1, 3, 4, 5, 6, 13, 41, 44, 51] fun Kr hKr => ?_
    simp only [go_sem, k2']
    (repeat (refine ⟨by (first | exact True.intro | omega | rfl | (simp; done) | (simp; omega)), ?_⟩)); try (refine hKr _ ?_; clear hKr Kr)
    refine T.condTD rfl rfl (fun hc => ?_) (fun hc => ?_) <;> try simp at hc
    refine T.skip ?_
    refine hK91 _ ?_
    refine T.sregD 57 [0, 1, 3, 4, 5, 6, 13, 41, 44, 51] fun Kr hKr => ?_
    simp only [go_sem, k3']
    (repeat (refine ⟨by (first | exact True.intro | omega | rfl | (simp; done) | (simp; omega)), ?_⟩)); try (refine hKr _ ?_; clear hKr Kr)
    refine T.condTD rfl rfl (fun hc => ?_) (fun hc => ?_) <;> try simp at hc
    refine T.regD 57 [0, 1, 3, 4, 5, 6, 13, 41, 44, 51] fun Kr hKr => ?_
    simp only [go_sem, hbm, hg]
    (repeat (refine ⟨by (first | exact True.intro | omega | rfl | (simp; done) | (simp; omega)), ?_⟩)); try (refine hKr _ ?_; clear hKr Kr)
    refine hK89 _ ?_
    refine T.regD 57 [0, 1, 3, 4, 5, 6, 13, 41, 44, 51] fun Kr hKr => ?_
    simp only [go_sem]
    (repeat (refine ⟨by (first | exact True.intro | omega | rfl | (simp; done) | (simp; omega)), ?_⟩)); try (refine hKr _ ?_; clear hKr Kr)
    refine ⟨i + 1, ?_, ?_, Le.fitS (by (repeat (first | exact DFit.nil | refine DFit.cons (by first | rfl | (simp [slook]; done) | (simp [slook]; omega)) ?_))) ?_⟩
    · omega
    · omega
    · rw [← hset]; (repeat (first | exact True.intro | refine And.intro (by first | rfl | (simp [look]; done)) ?_))
  have k3' : (p.k = 3) = False := eq_false k3
  have hx : hrX p x = x := by unfold hrX; rw [if_neg (by omega), if_neg k2, if_neg k3]
  have hsame := hsame hx
  refine T.sregD 57 [0, 1, 3, 4, 5, 6, 13, 41, 44, 51] fun Kr hKr => ?_
  simp only [go_sem, k2']
  (repeat (refine ⟨by (first | exact True.intro | omega | rfl | (simp; done) | (simp; omega)), ?_⟩)); try (refine hKr _ ?_; clear hKr Kr)
  refine T.condTD rfl rfl (fun hc => ?_) (fun hc => ?_) <;> try simp at hc
  refine T.skip ?_
  refine hK91 _ ?_
  refine T.sregD 57 [0, 1, 3, 4, 5, 6, 13, 41, 44, 51] fun Kr hKr => ?_
  simp only [go_sem, k3']
  (repeat (refine ⟨by (first | exact True.intro | omega | rfl | (simp; done) | (simp; omega)), ?_⟩)); try (refine hKr _ ?_; clear hKr Kr)
  refine T.condTD rfl rfl (fun hc => ?_) (fun hc => ?_) <;> try simp at hc
  refine T.skip ?_
  refine hK89 _ ?_
  refine T.regD 57 [0, 1, 3, 4, 5, 6, 13, 41, 44, 51] fun Kr hKr => ?_
  simp only [go_sem]
  (repeat (refine ⟨by (first | exact True.intro | omega | rfl | (simp; done) | (simp; omega)), ?_⟩)); try (refine hKr _ ?_; clear hKr Kr)
  refine ⟨i + 1, ?_, ?_, Le.fitS (by (repeat (first | exact DFit.nil | refine DFit.cons (by first | rfl | (simp [slook]; done) | (simp [slook]; omega)) ?_))) ?_⟩
  · omega
  · omega
  · rw [hsame]; (repeat (first | exact True.intro | refine And.intro (by first | rfl | (simp [look]; done)) ?_))
end Go.Proofs
