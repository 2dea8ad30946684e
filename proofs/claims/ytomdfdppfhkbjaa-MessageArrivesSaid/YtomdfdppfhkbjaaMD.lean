/- Messages: a commit that is submitted arrives, whatever is lost. -/
import Derived.Test.YtomdfdppfhkbjaaME
set_option linter.unusedVariables false
set_option linter.unusedSimpArgs false
namespace Go.Proofs
open Go Go.Ideal
set_option maxRecDepth 8000
set_option maxHeartbeats 4000000

theorem fndE_end {l : List Sent} {x : Sent} (h : ∀ y ∈ l, y.id ≠ x.id) : fndE (l ++ [x]) x.id = l.length := by
  unfold fndE
  rw [List.findIdx?_append]
  have : l.findIdx? (fun y => decide (y.id = x.id)) = none := by
    rw [List.findIdx?_eq_none_iff]; intro y hy; simpa using h y hy
  rw [this]
  simp [List.findIdx?_cons]
theorem setF_end {l : List Sent} {id a st : Int} {t : List UInt8} (h : ∀ y ∈ l, y.id ≠ id) : setF (l ++ [⟨id, a, 1, t⟩]) a id st = l ++ [⟨id, a, st, t⟩] := by
  have e := fndE_end (x := ⟨id, a, 1, t⟩) h
  simp only at e
  have g : (l ++ [(⟨id, a, 1, t⟩ : Sent)]).getD l.length default = ⟨id, a, 1, t⟩ := by simp [List.getD]
  unfold setF
  rw [e]
  simp only [Int.toNat_natCast, g]
  rw [if_neg (by simp)]
  simp
/-- The commit with a new Id, from its client's answers to the end. -/
theorem arr_new {c : Client} {a : Nat} {t : List UInt8} {l : List Sent} (hd : OkC c) (hn : noteB t = true) (h1 : (100 : Int) ∉ c.has) (h2 : (100 : Int) ∉ c.ref) (h3 : hasId c.d.m 100 = false) (h4 : c.d.m.length < 100)
    (hh : c.has.length ≤ 1000) (hr : c.ref.length ≤ 1000) (hl : ∀ y ∈ l, y.id ≠ 100) :
    ∃ C2 p2, ∃ st : Int, recvF c a ⟨1, a, 100, t⟩ = (C2, [p2]) ∧ recvF C2 a ⟨1, a, 100, t⟩ = (C2, [p2]) ∧ OkC C2 ∧ C2.d.m.length ≤ 100 ∧ hearF (l ++ [⟨100, a, 1, t⟩]) p2 = l ++ [⟨100, a, st, t⟩] ∧
      ((st = 2 ∧ cntM C2.d 100 = 1) ∨ (st = 3 ∧ cntM C2.d 100 = 0 ∧ c.d.s.length + t.length > 400)) := by
  have hsub : subB (a : Int) ⟨1, a, 100, t⟩ = true := by unfold subB idB; simp [hn]
  rcases recv_new (a := a) hd.d hn h1 h2 h3 h4 with ⟨_, d', hrec, okd', hlen', hcnt'⟩ | ⟨g, hrec, hc0⟩
  · refine ⟨_, _, 2, hrec, ?_, ⟨okd', by show (withL _ _).length ≤ _; rw [withL_len]; omega, by show c.ref.length ≤ _; omega⟩, okd'.cnt, ?_, .inl ⟨rfl, hcnt'⟩⟩
    · have hin : (100 : Int) ∈ withL c.has 100 := mem_withL.2 (.inl rfl)
      unfold recvF decF
      rw [if_pos hsub]
      simp only
      rw [if_pos (hasN_mem.2 hin)]
    · unfold hearF ackP
      rw [if_pos rfl]
      exact setF_end hl
  · refine ⟨_, _, 3, hrec, ?_, ⟨hd.d, by show c.has.length ≤ _; omega, by show (withL _ _).length ≤ _; rw [withL_len]; omega⟩, hd.d.cnt, ?_, .inr ⟨rfl, hc0, g⟩⟩
    · have hin : (100 : Int) ∈ withL c.ref 100 := mem_withL.2 (.inl rfl)
      unfold recvF decF
      rw [if_pos hsub]
      simp only
      rw [if_neg (fun q => h1 (hasN_mem.1 q)), if_pos (hasN_mem.2 hin)]
    · unfold hearF rejP
      rw [if_neg (by simp), if_pos rfl]
      exact setF_end hl
theorem arrives_law (l : List MRaw) (x : MRaw) (b0 b1 : Bool) : Ideal.Spec Try.prog 6 [.sl false 4 (mrawsOf l), mrawA x, .agg [.bool b0, .bool b1]] (.bool true) none := by
  have s0 := sanityM_spec
  have sB := Begin_spec
  refine Ideal.Spec.of_TD (n := 181) (fn := Try.f6) rfl rfl rfl rfl rfl rfl rfl fun w ok => ?_
  refine T.sregD 181 [0, 1, 2, 4, 5, 6, 7, 8, 9, 10, 11, 12, 13, 14, 15, 16, 26, 50, 68, 80, 99, 115, 132] fun Kr hKr => ?_
  simp only [go_sem]
  (repeat (refine ⟨by (first | exact True.intro | omega | rfl | (simp; done) | (simp; omega)), ?_⟩)); try (refine hKr _ ?_; clear hKr Kr)
  refine T.sregD 181 [0, 1, 2, 4, 5, 6, 7, 8, 9, 10, 11, 12, 13, 14, 15, 16, 26, 50, 68, 80, 99, 115, 132] fun Kr hKr => ?_
  simp only [go_sem]
  (repeat (refine ⟨by (first | exact True.intro | omega | rfl | (simp; done) | (simp; omega)), ?_⟩)); try (refine hKr _ ?_; clear hKr Kr)
  refine CallK.data (fun _ => Spec.args (s0) (by (first | exact ArgsLe.refl | (repeat (first | exact True.intro | refine And.intro (by first | exact AvLe.refl | exact AvLe.loose | exact AvLe.nil | exact AvLe.nilT | exact AvLe.slk | (refine AvLe.agg ?_; exact ArgsLe.refl) | (refine AvLe.agg ?_; (repeat (first | exact True.intro | refine And.intro (by first | exact AvLe.refl | exact AvLe.loose | exact AvLe.nil | exact AvLe.nilT | exact AvLe.slk) ?_)))) ?_))))) rfl ?_
  simp only [go_sem]
  (repeat (refine ⟨by (first | exact True.intro | omega | rfl | (simp; done) | (simp; omega)), ?_⟩)); try (refine hKr _ ?_; clear hKr Kr)
  refine T.sregD 181 [0, 1, 2, 4, 5, 6, 7, 8, 9, 10, 11, 12, 13, 14, 15, 16, 26, 50, 68, 80, 99, 115, 132] fun Kr hKr => ?_
  simp only [go_sem]
  (repeat (refine ⟨by (first | exact True.intro | omega | rfl | (simp; done) | (simp; omega)), ?_⟩)); try (refine hKr _ ?_; clear hKr Kr)
  refine CallK.data (fun _ => Spec.args (sB) (by (first | exact ArgsLe.refl | (repeat (first | exact True.intro | refine And.intro (by first | exact AvLe.refl | exact AvLe.loose | exact AvLe.nil | exact AvLe.nilT | exact AvLe.slk | (refine AvLe.agg ?_; exact ArgsLe.refl) | (refine AvLe.agg ?_; (repeat (first | exact True.intro | refine And.intro (by first | exact AvLe.refl | exact AvLe.loose | exact AvLe.nil | exact AvLe.nilT | exact AvLe.slk) ?_)))) ?_))))) rfl ?_
  simp only [go_sem]
  (repeat (refine ⟨by (first | exact True.intro | omega | rfl | (simp; done) | (simp; omega)), ?_⟩)); try (refine hKr _ ?_; clear hKr Kr)
  refine T.seqK fun K26 hK26 => ?_
  refine T.sregD 181 [0, 1, 2, 4, 5, 6, 7, 8, 9, 10, 11, 12, 13, 14, 15, 16, 26, 50, 68, 80, 99, 115, 132] fun Kr hKr => ?_
  simp only [go_sem]
  (repeat (refine ⟨by (first | exact True.intro | omega | rfl | (simp; done) | (simp; omega)), ?_⟩)); try (refine hKr _ ?_; clear hKr Kr)
  refine T.bloop (fun i : Nat => ⟨dense 181 [(0, .sl false 4 (mrawsOf l)), (4, .op 4 0 0), (5, .op 5 0 0), (7, .bool true), (8, .op 8 0 0), (9, .int .i64 i)], [(8, ⟨3, 28, true, [mstA (runM l i)]⟩), (5, ⟨2, 57, true, [.agg [.bool b0, .bool b1]]⟩), (4, ⟨4, 32, true, [mrawA x]⟩)]⟩)
    (fun i => i ≤ l.length ∧ i ≤ 12) (fun i => l.length - i) 0 ⟨by omega, by omega⟩ ?_ fun i hi => ?_
  · refine Le.fitS (by (repeat (first | exact DFit.nil | refine DFit.cons (by first | rfl | (simp [slook]; done) | (simp [slook]; omega)) ?_))) (by (repeat (first | exact True.intro | refine And.intro (by first | rfl | (simp [look]; done)) ?_)))
  obtain ⟨hi1, hi2⟩ := hi
  have hinv := runM_inv l i (by omega)
  have hsm := small_run l i (by omega)
  refine T.seqK fun K27 hK27 => ?_
  refine T.sregD 181 [0, 1, 2, 4, 5, 6, 7, 8, 9, 10, 11, 12, 13, 14, 15, 16, 26, 50, 68, 80, 99, 115, 132] fun Kr hKr => ?_
  simp only [go_sem, cond_and]
  (repeat (refine ⟨by (first | exact True.intro | omega | rfl | (simp; done) | (simp; omega)), ?_⟩)); try (refine hKr _ ?_; clear hKr Kr)
  refine T.condFD rfl rfl (fun hb => ?_) (fun hb => ?_) <;> simp only [Bool.and_eq_true, Bool.and_eq_false_iff, decide_eq_true_eq, decide_eq_false_iff_not] at hb
  · -- no: exit
    refine T.exit ?_
    simp only [if_true]
    refine hK26 _ ?_
    clear hb
    generalize runM l i = s at *
    have hok := hinv.okM (by omega)
    have hl := hok.l
    have hc := hok.c
    obtain ⟨n1, n2, n3⟩ := newF_ok x
    have sM := NewM_spec x
    obtain ⟨a, hae, hal⟩ : ∃ a : Nat, (newF x).app = a ∧ a < 2 := ⟨(newF x).app.toNat, by omega, by omega⟩
    have hC := hinv.cl a hal
    obtain ⟨f1, f2, f3, f4⟩ := fresh_at hinv hsm hal
    have hh := hC.hasL
    have hr := hC.refL
    have hdl := hC.okd.len
    have hll := hinv.ll
    obtain ⟨t1, t2, t3⟩ := note_inv n3
    have hnl : ∀ y ∈ s.l, y.id ≠ 100 := fun y hy => by
      have := hsm.k _ (mem_core.2 ⟨y, hy, rfl⟩)
      simp only at this
      omega
    have okC : OkC (s.c.getD a default) := ⟨hC.okd, by omega, by omega⟩
    obtain ⟨C2, p2, st, hrec, hrec2, ok2, hm2, hhear, hst⟩ := arr_new (a := a) (l := s.l) okC n3 f1 f2 f3 (by omega) (by omega) (by omega) hnl
    generalize hNN : newF x = N at *
    obtain ⟨nid, napp, nt⟩ := N
    simp only at hae n1 n2 n3 t1 t2 t3 hrec hrec2 hhear hst
    subst hae
    have sR := Receive_spec (s.c.getD a default) a ⟨1, a, 100, nt⟩ okC (by show nt.length ≤ 100000; omega)
    rw [hrec] at sR
    have sR2 := Receive_spec C2 a ⟨1, a, 100, nt⟩ ok2 (by show nt.length ≤ 100000; omega)
    rw [hrec2] at sR2
    have hsub : subF s.l ⟨100, a, nt⟩ = (s.l ++ [⟨100, a, 1, nt⟩], [⟨1, a, 100, nt⟩], 0) := by
      have := subF_new (l := s.l) (c := ⟨100, a, nt⟩) ⟨by simp, by simp⟩ (by simp only; omega) n3 (by omega)
      rw [this, if_neg]
      intro g
      obtain ⟨k, k1, k2⟩ := hasE_core.1 g
      have := hsm.k _ k1
      simp only at k2
      omega
    have sS := submitted_spec s.l ⟨100, a, nt⟩ (by omega) (by show nt.length ≤ 100000; omega)
    rw [hsub] at sS
    have sA := Again_spec (s.l ++ [⟨100, a, 1, nt⟩]) (by simp; omega)
    have hG : agnF (s.l ++ [⟨100, a, 1, nt⟩]) = agnF s.l ++ [⟨1, a, 100, nt⟩] := by unfold agnF; simp [sendF]
    rw [hG] at sA
    have hGl := agnF_len s.l
    have hGn : (agnF s.l ++ [(⟨1, a, 100, nt⟩ : Packet)]).length = (agnF s.l).length + 1 := by simp
    have hGg : (agnF s.l ++ [(⟨1, a, 100, nt⟩ : Packet)]).getD (agnF s.l).length default = ⟨1, a, 100, nt⟩ := by simp [List.getD]
    have sH := Hear_spec (s.l ++ [⟨100, a, 1, nt⟩]) p2 (by simp; omega)
    rw [hhear] at sH
    have hLn : (s.l ++ [(⟨100, a, 1, nt⟩ : Sent)]).length = s.l.length + 1 := by simp
    have hLm : (s.l ++ [(⟨100, a, st, nt⟩ : Sent)]).length = s.l.length + 1 := by simp
    have lst : (s.l ++ [(⟨100, a, st, nt⟩ : Sent)]).getD s.l.length default = ⟨100, a, st, nt⟩ := by simp [List.getD]
    have sK := marks_spec C2 100 (by omega)
    have hG0 : ((((agnF s.l).length + 1 : Nat) : Int) = 0) = False := eq_false (by omega)
    have hL0 : (((s.l.length + 1 : Nat) : Int) = 0) = False := eq_false (by omega)
    have hLs : s.l.length + 1 - 1 = s.l.length := rfl
    have hGl3 : s.l.length < s.l.length + 1 := Nat.lt_succ_self _
    have hGs : (agnF s.l).length + 1 - 1 = (agnF s.l).length := rfl
    have hGl2 : (agnF s.l).length < (agnF s.l).length + 1 := Nat.lt_succ_self _
    generalize agnF s.l ++ [(⟨1, a, 100, nt⟩ : Packet)] = G at *
    generalize (agnF s.l).length = g at *
    have hGlt : g < G.length := by omega
    generalize s.l ++ [(⟨100, a, st, nt⟩ : Sent)] = L2 at *
    refine T.sregD 181 [0, 1, 2, 4, 5, 6, 7, 8, 9, 10, 11, 12, 13, 14, 15, 16, 26, 50, 68, 80, 99, 115, 132] fun Kr hKr => ?_
    simp only [go_sem]
    (repeat (refine ⟨by (first | exact True.intro | omega | rfl | (simp; done) | (simp; omega)), ?_⟩)); try (refine hKr _ ?_; clear hKr Kr)
    refine CallK.data (fun _ => Spec.args (sM) (by (first | exact ArgsLe.refl | (repeat (first | exact True.intro | refine And.intro (by first | exact AvLe.refl | exact AvLe.loose | exact AvLe.nil | exact AvLe.nilT | exact AvLe.slk | (refine AvLe.agg ?_; exact ArgsLe.refl) | (refine AvLe.agg ?_; (repeat (first | exact True.intro | refine And.intro (by first | exact AvLe.refl | exact AvLe.loose | exact AvLe.nil | exact AvLe.nilT | exact AvLe.slk) ?_)))) ?_))))) rfl ?_
    simp only [go_sem]
    (repeat (refine ⟨by (first | exact True.intro | omega | rfl | (simp; done) | (simp; omega)), ?_⟩)); try (refine hKr _ ?_; clear hKr Kr)
    refine T.sregD 181 [0, 1, 2, 4, 5, 6, 7, 8, 9, 10, 11, 12, 13, 14, 15, 16, 26, 50, 68, 80, 99, 115, 132] fun Kr hKr => ?_
    simp only [go_sem]
    (repeat (refine ⟨by (first | exact True.intro | omega | rfl | (simp; done) | (simp; omega)), ?_⟩)); try (refine hKr _ ?_; clear hKr Kr)
    refine T.sregD 181 [0, 1, 2, 4, 5, 6, 7, 8, 9, 10, 11, 12, 13, 14, 15, 16, 26, 50, 68, 80, 99, 115, 132] fun Kr hKr => ?_
    simp only [go_sem]
    (repeat (refine ⟨by (first | exact True.intro | omega | rfl | (simp; done) | (simp; omega)), ?_⟩)); try (refine hKr _ ?_; clear hKr Kr)
    generalize s.l ++ [(⟨100, a, 1, nt⟩ : Sent)] = L1 at *
    refine CallK.data (fun _ => Spec.args (sS) (by (first | exact ArgsLe.refl | (repeat (first | exact True.intro | refine And.intro (by first | exact AvLe.refl | exact AvLe.loose | exact AvLe.nil | exact AvLe.nilT | exact AvLe.slk | (refine AvLe.agg ?_; exact ArgsLe.refl) | (refine AvLe.agg ?_; (repeat (first | exact True.intro | refine And.intro (by first | exact AvLe.refl | exact AvLe.loose | exact AvLe.nil | exact AvLe.nilT | exact AvLe.slk) ?_)))) ?_))))) rfl ?_
    simp only [go_sem]
    (repeat (refine ⟨by (first | exact True.intro | omega | rfl | (simp; done) | (simp; omega)), ?_⟩)); try (refine hKr _ ?_; clear hKr Kr)
    refine T.seqK fun K28 hK28 => ?_
    refine T.sregD 181 [0, 1, 2, 4, 5, 6, 7, 8, 9, 10, 11, 12, 13, 14, 15, 16, 26, 50, 68, 80, 99, 115, 132] fun Kr hKr => ?_
    simp only [go_sem]
    (repeat (refine ⟨by (first | exact True.intro | omega | rfl | (simp; done) | (simp; omega)), ?_⟩)); try (refine hKr _ ?_; clear hKr Kr)
    refine T.condTD rfl rfl (fun hb => ?_) (fun hb => ?_) <;> simp at hb
    refine T.skip ?_
    refine hK28 _ ?_
    refine T.sdraw2D 181 [0, 1, 2, 4, 5, 6, 7, 8, 9, 10, 11, 12, 13, 14, 15, 16, 26, 50, 68, 80, 99, 115, 132] (.take 0 (.take 1 (.take 2 (.take 3 (.take 4 (.take 5 (.take 6 (.take 7 (.take 8 (.take 9 (.take 10 (.take 11 (.two 12 (.take 13 (.take 14 (.take 15 (.one 16 (.one 17 (.take 18 .done)))))) 16 (.one 12 (.take 13 (.take 14 (.take 15 (.one 17 (.take 18 .done))))))))))))))))))) [8, 10, 11] rfl (by decide +kernel) (by decide +kernel) ?x1 ?h1 (fun Kr hKr => ?all1) ?rest1
    case all1 =>
      simp only [go_sem, hal, hc]
      (repeat (any_goals (first | exact hKr _ (.inl rfl) | exact hKr _ (.inr (by (repeat (first | exact True.intro | refine And.intro (by first | rfl | (simp [look]; done)) ?_)))) | ((first | refine CallK.dataA (sR) ?_ rfl ?_ | refine CallK.tupA (sR) ?_ ?_ | refine CallK.ownA (sR) ?_ ?_); (focus ((first | exact ArgsLe.refl | (repeat (first | exact True.intro | refine And.intro (by first | exact AvLe.refl | exact AvLe.loose | exact AvLe.nil | exact AvLe.nilT | exact AvLe.slk | (refine AvLe.agg ?_; exact ArgsLe.refl) | (refine AvLe.agg ?_; (repeat (first | exact True.intro | refine And.intro (by first | exact AvLe.refl | exact AvLe.loose | exact AvLe.nil | exact AvLe.nilT | exact AvLe.slk) ?_)))) ?_))); done)); simp only [go_sem, hal, hc]) | (refine And.intro ?_ ?_) | (first | exact True.intro | omega | rfl | (simp; done) | (simp; omega)))))
      all_goals (first | exact hKr _ (.inl rfl) | exact hKr _ (.inr (by (repeat (first | exact True.intro | refine And.intro (by first | rfl | (simp [look]; done)) ?_)))))
    case rest1 =>
    cases b0 with
    | true =>
      refine T.seqK fun K29 hK29 => ?_
      refine T.sregD 181 [0, 1, 2, 4, 5, 6, 7, 8, 9, 10, 11, 12, 13, 14, 15, 16, 26, 50, 68, 80, 99, 115, 132] fun Kr hKr => ?_
      simp only [go_sem]
      (repeat (refine ⟨by (first | exact True.intro | omega | rfl | (simp; done) | (simp; omega)), ?_⟩)); try (refine hKr _ ?_; clear hKr Kr)
      refine T.condTD rfl rfl (fun hx => ?_) (fun hx => ?_) <;> try simp at hx
      refine T.regD 181 [0, 1, 2, 4, 5, 6, 7, 8, 9, 10, 11, 12, 13, 14, 15, 16, 26, 50, 68, 80, 99, 115, 132] fun Kr hKr => ?_
      simp only [go_sem, hal, hc]
      (repeat (refine ⟨by (first | exact True.intro | omega | rfl | (simp; done) | (simp; omega)), ?_⟩)); try (refine hKr _ ?_; clear hKr Kr)
      refine hK29 _ ?_
      refine T.seqK fun K30 hK30 => ?_
      refine T.sregD 181 [0, 1, 2, 4, 5, 6, 7, 8, 9, 10, 11, 12, 13, 14, 15, 16, 26, 50, 68, 80, 99, 115, 132] fun Kr hKr => ?_
      simp only [go_sem]
      (repeat (refine ⟨by (first | exact True.intro | omega | rfl | (simp; done) | (simp; omega)), ?_⟩)); try (refine hKr _ ?_; clear hKr Kr)
      refine T.condTD rfl rfl (fun hx => ?_) (fun hx => ?_) <;> try simp at hx
      refine T.sregD 181 [0, 1, 2, 4, 5, 6, 7, 8, 9, 10, 11, 12, 13, 14, 15, 16, 26, 50, 68, 80, 99, 115, 132] fun Kr hKr => ?_
      simp only [go_sem]
      (repeat (refine ⟨by (first | exact True.intro | omega | rfl | (simp; done) | (simp; omega)), ?_⟩)); try (refine hKr _ ?_; clear hKr Kr)
      refine CallK.data (fun _ => Spec.args (sA) (by (first | exact ArgsLe.refl | (repeat (first | exact True.intro | refine And.intro (by first | exact AvLe.refl | exact AvLe.loose | exact AvLe.nil | exact AvLe.nilT | exact AvLe.slk | (refine AvLe.agg ?_; exact ArgsLe.refl) | (refine AvLe.agg ?_; (repeat (first | exact True.intro | refine And.intro (by first | exact AvLe.refl | exact AvLe.loose | exact AvLe.nil | exact AvLe.nilT | exact AvLe.slk) ?_)))) ?_))))) rfl ?_
      simp only [go_sem]
      (repeat (refine ⟨by (first | exact True.intro | omega | rfl | (simp; done) | (simp; omega)), ?_⟩)); try (refine hKr _ ?_; clear hKr Kr)
      refine T.seqK fun K31 hK31 => ?_
      refine T.sdrawD 181 [0, 1, 2, 4, 5, 6, 7, 8, 9, 10, 11, 12, 13, 14, 15, 16, 26, 50, 68, 80, 99, 115, 132] (.take 0 (.take 1 (.take 2 (.take 3 (.take 4 (.take 5 (.take 6 (.take 7 (.take 8 (.take 9 (.take 10 (.take 11 (.take 12 (.take 13 (.take 14 (.take 15 .done)))))))))))))))) [11] rfl (by decide +kernel) (by decide +kernel) fun Kr hKr => ?_
      simp only [go_sem, hGn, hGg, hG0, hGs, hGl2]
      (repeat (refine ⟨by (first | exact True.intro | omega | rfl | (simp; done) | (simp; omega)), ?_⟩)); try (refine hKr _ ?_; clear hKr Kr)
      refine T.condTD rfl rfl (fun hx => ?_) (fun hx => ?_) <;> try simp at hx
      refine T.skip ?_
      refine hK31 _ ?_
      refine T.drawD 181 [0, 1, 2, 4, 5, 6, 7, 8, 9, 10, 11, 12, 13, 14, 15, 16, 26, 50, 68, 80, 99, 115, 132] (.take 1 (.take 2 (.take 3 (.take 4 (.take 5 (.take 6 (.take 7 (.take 8 (.one 0 (.one 9 (.take 10 (.take 11 (.take 12 (.one 13 (.take 14 .done))))))))))))))) [10] rfl (by decide +kernel) (by decide +kernel) fun Kr hKr => ?_
      simp only [go_sem, hGn, hGg, hG0, hGs, hGl2]
      (repeat (refine ⟨by (first | exact True.intro | omega | rfl | (simp; done) | (simp; omega)), ?_⟩)); try (refine hKr _ ?_; clear hKr Kr)
      refine CallK.tup (fun _ => Spec.args (sR) (by (first | exact ArgsLe.refl | (repeat (first | exact True.intro | refine And.intro (by first | exact AvLe.refl | exact AvLe.loose | exact AvLe.nil | exact AvLe.nilT | exact AvLe.slk | (refine AvLe.agg ?_; exact ArgsLe.refl) | (refine AvLe.agg ?_; (repeat (first | exact True.intro | refine And.intro (by first | exact AvLe.refl | exact AvLe.loose | exact AvLe.nil | exact AvLe.nilT | exact AvLe.slk) ?_)))) ?_))))) ?_
      simp only [go_sem]
      (repeat (refine ⟨by (first | exact True.intro | omega | rfl | (simp; done) | (simp; omega)), ?_⟩)); try (refine hKr _ ?_; clear hKr Kr)
      refine hK30 _ ?_
      refine T.seqK fun K32 hK32 => ?_
      refine T.sregD 181 [0, 1, 2, 4, 5, 6, 7, 8, 9, 10, 11, 12, 13, 14, 15, 16, 26, 50, 68, 80, 99, 115, 132] fun Kr hKr => ?_
      simp only [go_sem]
      (repeat (refine ⟨by (first | exact True.intro | omega | rfl | (simp; done) | (simp; omega)), ?_⟩)); try (refine hKr _ ?_; clear hKr Kr)
      refine T.condTD rfl rfl (fun hx => ?_) (fun hx => ?_) <;> try simp at hx
      refine T.skip ?_
      refine hK32 _ ?_
      refine T.sdrawD 181 [0, 1, 2, 4, 5, 6, 7, 8, 9, 10, 11, 12, 13, 14, 15, 16, 26, 50, 68, 80, 99, 115, 132] (.take 0 (.take 1 (.take 2 (.take 3 (.take 4 (.one 5 (.take 6 .done))))))) [11] rfl (by decide +kernel) (by decide +kernel) fun Kr hKr => ?_
      simp only [go_sem]
      (repeat (refine ⟨by (first | exact True.intro | omega | rfl | (simp; done) | (simp; omega)), ?_⟩)); try (refine hKr _ ?_; clear hKr Kr)
      refine CallK.data (fun _ => Spec.args (sH) (by (first | exact ArgsLe.refl | (repeat (first | exact True.intro | refine And.intro (by first | exact AvLe.refl | exact AvLe.loose | exact AvLe.nil | exact AvLe.nilT | exact AvLe.slk | (refine AvLe.agg ?_; exact ArgsLe.refl) | (refine AvLe.agg ?_; (repeat (first | exact True.intro | refine And.intro (by first | exact AvLe.refl | exact AvLe.loose | exact AvLe.nil | exact AvLe.nilT | exact AvLe.slk) ?_)))) ?_))))) rfl ?_
      simp only [go_sem]
      (repeat (refine ⟨by (first | exact True.intro | omega | rfl | (simp; done) | (simp; omega)), ?_⟩)); try (refine hKr _ ?_; clear hKr Kr)
      refine T.seqK fun K33 hK33 => ?_
      refine T.sregD 181 [0, 1, 2, 4, 5, 6, 7, 8, 9, 10, 11, 12, 13, 14, 15, 16, 26, 50, 68, 80, 99, 115, 132] fun Kr hKr => ?_
      simp only [go_sem, hLn, hLm, hL0, hLs, hGl3, lst]
      (repeat (refine ⟨by (first | exact True.intro | omega | rfl | (simp; done) | (simp; omega)), ?_⟩)); try (refine hKr _ ?_; clear hKr Kr)
      refine T.condTD rfl rfl (fun hx => ?_) (fun hx => ?_) <;> try simp at hx
      refine T.skip ?_
      refine hK33 _ ?_
      refine T.sregD 181 [0, 1, 2, 4, 5, 6, 7, 8, 9, 10, 11, 12, 13, 14, 15, 16, 26, 50, 68, 80, 99, 115, 132] fun Kr hKr => ?_
      simp only [go_sem, hLn, hLm, hL0, hLs, hGl3, lst]
      (repeat (refine ⟨by (first | exact True.intro | omega | rfl | (simp; done) | (simp; omega)), ?_⟩)); try (refine hKr _ ?_; clear hKr Kr)
      rcases hst with ⟨rfl, hcn⟩ | ⟨rfl, hcn, hgt⟩
      · rw [hcn] at sK
        refine T.sdrawD 181 [0, 1, 2, 4, 5, 6, 7, 8, 9, 10, 11, 12, 13, 14, 15, 16, 26, 50, 68, 80, 99, 115, 132] (.take 0 (.take 1 (.take 2 (.take 3 (.take 4 (.take 5 (.take 6 (.take 7 (.take 8 (.one 9 (.take 10 (.take 11 (.take 12 (.take 13 (.take 14 (.take 15 (.take 16 (.take 17 (.one 18 (.take 19 (.take 20 (.take 21 (.take 22 (.take 23 (.take 24 (.take 25 (.take 26 (.take 27 (.take 28 (.take 29 (.take 30 (.take 31 (.take 32 (.take 33 (.take 34 (.take 35 (.take 36 (.take 37 (.take 38 (.take 39 (.take 40 (.take 41 (.take 42 .done))))))))))))))))))))))))))))))))))))))))))) [8, 10, 12, 16] rfl (by decide +kernel) (by decide +kernel) fun Kr hKr => ?_
        simp only [go_sem, hal, hc]
        (repeat (refine ⟨by (first | exact True.intro | omega | rfl | (simp; done) | (simp; omega)), ?_⟩)); try (refine hKr _ ?_; clear hKr Kr)
        refine CallK.data (fun _ => Spec.args (sK) (by (first | exact ArgsLe.refl | (repeat (first | exact True.intro | refine And.intro (by first | exact AvLe.refl | exact AvLe.loose | exact AvLe.nil | exact AvLe.nilT | exact AvLe.slk | (refine AvLe.agg ?_; exact ArgsLe.refl) | (refine AvLe.agg ?_; (repeat (first | exact True.intro | refine And.intro (by first | exact AvLe.refl | exact AvLe.loose | exact AvLe.nil | exact AvLe.nilT | exact AvLe.slk) ?_)))) ?_))))) rfl ?_
        simp only [go_sem, hal, hc]
        (repeat (refine ⟨by (first | exact True.intro | omega | rfl | (simp; done) | (simp; omega)), ?_⟩)); try (refine hKr _ ?_; clear hKr Kr)
        refine CallK.data (r := .int .i64 0) (fun h => by cases h) rfl ?_
        simp only [go_sem, hal, hc]
        (repeat (refine ⟨by (first | exact True.intro | omega | rfl | (simp; done) | (simp; omega)), ?_⟩)); try (refine hKr _ ?_; clear hKr Kr)
        refine T.ret (Fin.dataD rfl rfl rfl)
      · rw [hcn] at sK
        have hgt' : (((s.c.getD a default).d.s.length : Int) + (nt.length : Int) > 400) = True := eq_true (by omega)
        refine T.sdrawD 181 [0, 1, 2, 4, 5, 6, 7, 8, 9, 10, 11, 12, 13, 14, 15, 16, 26, 50, 68, 80, 99, 115, 132] (.take 0 (.take 1 (.take 2 (.take 3 (.take 4 (.take 5 (.take 6 (.take 7 (.take 8 (.one 9 (.take 10 (.take 11 (.take 12 (.take 13 (.take 14 (.take 15 (.take 16 (.take 17 (.one 18 (.take 19 (.take 20 (.take 21 (.take 22 (.take 23 (.take 24 (.take 25 (.take 26 (.take 27 (.take 28 (.take 29 (.take 30 (.take 31 (.take 32 (.take 33 (.take 34 (.take 35 (.take 36 (.take 37 (.take 38 (.take 39 (.take 40 (.take 41 (.take 42 .done))))))))))))))))))))))))))))))))))))))))))) [8, 10, 12, 16] rfl (by decide +kernel) (by decide +kernel) fun Kr hKr => ?_
        simp only [go_sem, hal, hc, hgt']
        (repeat (refine ⟨by (first | exact True.intro | omega | rfl | (simp; done) | (simp; omega)), ?_⟩)); try (refine hKr _ ?_; clear hKr Kr)
        refine CallK.data (r := .int .i64 0) (fun h => by cases h) rfl ?_
        simp only [go_sem, hal, hc, hgt']
        (repeat (refine ⟨by (first | exact True.intro | omega | rfl | (simp; done) | (simp; omega)), ?_⟩)); try (refine hKr _ ?_; clear hKr Kr)
        refine CallK.data (fun _ => Spec.args (sK) (by (first | exact ArgsLe.refl | (repeat (first | exact True.intro | refine And.intro (by first | exact AvLe.refl | exact AvLe.loose | exact AvLe.nil | exact AvLe.nilT | exact AvLe.slk | (refine AvLe.agg ?_; exact ArgsLe.refl) | (refine AvLe.agg ?_; (repeat (first | exact True.intro | refine And.intro (by first | exact AvLe.refl | exact AvLe.loose | exact AvLe.nil | exact AvLe.nilT | exact AvLe.slk) ?_)))) ?_))))) rfl ?_
        simp only [go_sem, hal, hc, hgt']
        (repeat (refine ⟨by (first | exact True.intro | omega | rfl | (simp; done) | (simp; omega)), ?_⟩)); try (refine hKr _ ?_; clear hKr Kr)
        refine T.ret (Fin.dataD rfl rfl rfl)
    | false =>
      refine T.seqK fun K29 hK29 => ?_
      refine T.sregD 181 [0, 1, 2, 4, 5, 6, 7, 8, 9, 10, 11, 12, 13, 14, 15, 16, 26, 50, 68, 80, 99, 115, 132] fun Kr hKr => ?_
      simp only [go_sem]
      (repeat (refine ⟨by (first | exact True.intro | omega | rfl | (simp; done) | (simp; omega)), ?_⟩)); try (refine hKr _ ?_; clear hKr Kr)
      refine T.condTD rfl rfl (fun hx => ?_) (fun hx => ?_) <;> try simp at hx
      refine T.skip ?_
      refine hK29 _ ?_
      cases b1 with
      | true =>
        refine T.seqK fun K36 hK36 => ?_
        refine T.sregD 181 [0, 1, 2, 4, 5, 6, 7, 8, 9, 10, 11, 12, 13, 14, 15, 16, 26, 50, 68, 80, 99, 115, 132] fun Kr hKr => ?_
        simp only [go_sem]
        (repeat (refine ⟨by (first | exact True.intro | omega | rfl | (simp; done) | (simp; omega)), ?_⟩)); try (refine hKr _ ?_; clear hKr Kr)
        refine T.condTD rfl rfl (fun hx => ?_) (fun hx => ?_) <;> try simp at hx
        refine T.sregD 181 [0, 1, 2, 4, 5, 6, 7, 8, 9, 10, 11, 12, 13, 14, 15, 16, 26, 50, 68, 80, 99, 115, 132] fun Kr hKr => ?_
        simp only [go_sem]
        (repeat (refine ⟨by (first | exact True.intro | omega | rfl | (simp; done) | (simp; omega)), ?_⟩)); try (refine hKr _ ?_; clear hKr Kr)
        refine CallK.data (fun _ => Spec.args (sA) (by (first | exact ArgsLe.refl | (repeat (first | exact True.intro | refine And.intro (by first | exact AvLe.refl | exact AvLe.loose | exact AvLe.nil | exact AvLe.nilT | exact AvLe.slk | (refine AvLe.agg ?_; exact ArgsLe.refl) | (refine AvLe.agg ?_; (repeat (first | exact True.intro | refine And.intro (by first | exact AvLe.refl | exact AvLe.loose | exact AvLe.nil | exact AvLe.nilT | exact AvLe.slk) ?_)))) ?_))))) rfl ?_
        simp only [go_sem]
        (repeat (refine ⟨by (first | exact True.intro | omega | rfl | (simp; done) | (simp; omega)), ?_⟩)); try (refine hKr _ ?_; clear hKr Kr)
        refine T.seqK fun K37 hK37 => ?_
        refine T.sdrawD 181 [0, 1, 2, 4, 5, 6, 7, 8, 9, 10, 11, 12, 13, 14, 15, 16, 26, 50, 68, 80, 99, 115, 132] (.take 0 (.take 1 (.take 2 (.take 3 (.take 4 (.take 5 (.take 6 (.take 7 (.take 8 (.take 9 (.take 10 (.take 11 (.take 12 (.take 13 (.take 14 (.take 15 .done)))))))))))))))) [11] rfl (by decide +kernel) (by decide +kernel) fun Kr hKr => ?_
        simp only [go_sem, hGn, hGg, hG0, hGs, hGl2]
        (repeat (refine ⟨by (first | exact True.intro | omega | rfl | (simp; done) | (simp; omega)), ?_⟩)); try (refine hKr _ ?_; clear hKr Kr)
        refine T.condTD rfl rfl (fun hx => ?_) (fun hx => ?_) <;> try simp at hx
        refine T.skip ?_
        refine hK37 _ ?_
        refine T.drawD 181 [0, 1, 2, 4, 5, 6, 7, 8, 9, 10, 11, 12, 13, 14, 15, 16, 26, 50, 68, 80, 99, 115, 132] (.take 1 (.take 2 (.take 3 (.take 4 (.take 5 (.take 6 (.take 7 (.take 8 (.one 0 (.one 9 (.take 10 (.take 11 (.take 12 (.one 13 (.take 14 .done))))))))))))))) [10] rfl (by decide +kernel) (by decide +kernel) fun Kr hKr => ?_
        simp only [go_sem, hGn, hGg, hG0, hGs, hGl2]
        (repeat (refine ⟨by (first | exact True.intro | omega | rfl | (simp; done) | (simp; omega)), ?_⟩)); try (refine hKr _ ?_; clear hKr Kr)
        refine CallK.tup (fun _ => Spec.args (sR2) (by (first | exact ArgsLe.refl | (repeat (first | exact True.intro | refine And.intro (by first | exact AvLe.refl | exact AvLe.loose | exact AvLe.nil | exact AvLe.nilT | exact AvLe.slk | (refine AvLe.agg ?_; exact ArgsLe.refl) | (refine AvLe.agg ?_; (repeat (first | exact True.intro | refine And.intro (by first | exact AvLe.refl | exact AvLe.loose | exact AvLe.nil | exact AvLe.nilT | exact AvLe.slk) ?_)))) ?_))))) ?_
        simp only [go_sem]
        (repeat (refine ⟨by (first | exact True.intro | omega | rfl | (simp; done) | (simp; omega)), ?_⟩)); try (refine hKr _ ?_; clear hKr Kr)
        refine hK36 _ ?_
        refine T.seqK fun K38 hK38 => ?_
        refine T.sregD 181 [0, 1, 2, 4, 5, 6, 7, 8, 9, 10, 11, 12, 13, 14, 15, 16, 26, 50, 68, 80, 99, 115, 132] fun Kr hKr => ?_
        simp only [go_sem]
        (repeat (refine ⟨by (first | exact True.intro | omega | rfl | (simp; done) | (simp; omega)), ?_⟩)); try (refine hKr _ ?_; clear hKr Kr)
        refine T.condTD rfl rfl (fun hx => ?_) (fun hx => ?_) <;> try simp at hx
        refine T.skip ?_
        refine hK38 _ ?_
        refine T.sdrawD 181 [0, 1, 2, 4, 5, 6, 7, 8, 9, 10, 11, 12, 13, 14, 15, 16, 26, 50, 68, 80, 99, 115, 132] (.take 0 (.take 1 (.take 2 (.take 3 (.take 4 (.one 5 (.take 6 .done))))))) [11] rfl (by decide +kernel) (by decide +kernel) fun Kr hKr => ?_
        simp only [go_sem]
        (repeat (refine ⟨by (first | exact True.intro | omega | rfl | (simp; done) | (simp; omega)), ?_⟩)); try (refine hKr _ ?_; clear hKr Kr)
        refine CallK.data (fun _ => Spec.args (sH) (by (first | exact ArgsLe.refl | (repeat (first | exact True.intro | refine And.intro (by first | exact AvLe.refl | exact AvLe.loose | exact AvLe.nil | exact AvLe.nilT | exact AvLe.slk | (refine AvLe.agg ?_; exact ArgsLe.refl) | (refine AvLe.agg ?_; (repeat (first | exact True.intro | refine And.intro (by first | exact AvLe.refl | exact AvLe.loose | exact AvLe.nil | exact AvLe.nilT | exact AvLe.slk) ?_)))) ?_))))) rfl ?_
        simp only [go_sem]
        (repeat (refine ⟨by (first | exact True.intro | omega | rfl | (simp; done) | (simp; omega)), ?_⟩)); try (refine hKr _ ?_; clear hKr Kr)
        refine T.seqK fun K39 hK39 => ?_
        refine T.sregD 181 [0, 1, 2, 4, 5, 6, 7, 8, 9, 10, 11, 12, 13, 14, 15, 16, 26, 50, 68, 80, 99, 115, 132] fun Kr hKr => ?_
        simp only [go_sem, hLn, hLm, hL0, hLs, hGl3, lst]
        (repeat (refine ⟨by (first | exact True.intro | omega | rfl | (simp; done) | (simp; omega)), ?_⟩)); try (refine hKr _ ?_; clear hKr Kr)
        refine T.condTD rfl rfl (fun hx => ?_) (fun hx => ?_) <;> try simp at hx
        refine T.skip ?_
        refine hK39 _ ?_
        refine T.sregD 181 [0, 1, 2, 4, 5, 6, 7, 8, 9, 10, 11, 12, 13, 14, 15, 16, 26, 50, 68, 80, 99, 115, 132] fun Kr hKr => ?_
        simp only [go_sem, hLn, hLm, hL0, hLs, hGl3, lst]
        (repeat (refine ⟨by (first | exact True.intro | omega | rfl | (simp; done) | (simp; omega)), ?_⟩)); try (refine hKr _ ?_; clear hKr Kr)
        rcases hst with ⟨rfl, hcn⟩ | ⟨rfl, hcn, hgt⟩
        · rw [hcn] at sK
          refine T.sdrawD 181 [0, 1, 2, 4, 5, 6, 7, 8, 9, 10, 11, 12, 13, 14, 15, 16, 26, 50, 68, 80, 99, 115, 132] (.take 0 (.take 1 (.take 2 (.take 3 (.take 4 (.take 5 (.take 6 (.take 7 (.take 8 (.one 9 (.take 10 (.take 11 (.take 12 (.take 13 (.take 14 (.take 15 (.take 16 (.take 17 (.one 18 (.take 19 (.take 20 (.take 21 (.take 22 (.take 23 (.take 24 (.take 25 (.take 26 (.take 27 (.take 28 (.take 29 (.take 30 (.take 31 (.take 32 (.take 33 (.take 34 (.take 35 (.take 36 (.take 37 (.take 38 (.take 39 (.take 40 (.take 41 (.take 42 .done))))))))))))))))))))))))))))))))))))))))))) [8, 10, 12, 16] rfl (by decide +kernel) (by decide +kernel) fun Kr hKr => ?_
          simp only [go_sem, hal, hc]
          (repeat (refine ⟨by (first | exact True.intro | omega | rfl | (simp; done) | (simp; omega)), ?_⟩)); try (refine hKr _ ?_; clear hKr Kr)
          refine CallK.data (fun _ => Spec.args (sK) (by (first | exact ArgsLe.refl | (repeat (first | exact True.intro | refine And.intro (by first | exact AvLe.refl | exact AvLe.loose | exact AvLe.nil | exact AvLe.nilT | exact AvLe.slk | (refine AvLe.agg ?_; exact ArgsLe.refl) | (refine AvLe.agg ?_; (repeat (first | exact True.intro | refine And.intro (by first | exact AvLe.refl | exact AvLe.loose | exact AvLe.nil | exact AvLe.nilT | exact AvLe.slk) ?_)))) ?_))))) rfl ?_
          simp only [go_sem, hal, hc]
          (repeat (refine ⟨by (first | exact True.intro | omega | rfl | (simp; done) | (simp; omega)), ?_⟩)); try (refine hKr _ ?_; clear hKr Kr)
          refine CallK.data (r := .int .i64 0) (fun h => by cases h) rfl ?_
          simp only [go_sem, hal, hc]
          (repeat (refine ⟨by (first | exact True.intro | omega | rfl | (simp; done) | (simp; omega)), ?_⟩)); try (refine hKr _ ?_; clear hKr Kr)
          refine T.ret (Fin.dataD rfl rfl rfl)
        · rw [hcn] at sK
          have hgt' : (((s.c.getD a default).d.s.length : Int) + (nt.length : Int) > 400) = True := eq_true (by omega)
          refine T.sdrawD 181 [0, 1, 2, 4, 5, 6, 7, 8, 9, 10, 11, 12, 13, 14, 15, 16, 26, 50, 68, 80, 99, 115, 132] (.take 0 (.take 1 (.take 2 (.take 3 (.take 4 (.take 5 (.take 6 (.take 7 (.take 8 (.one 9 (.take 10 (.take 11 (.take 12 (.take 13 (.take 14 (.take 15 (.take 16 (.take 17 (.one 18 (.take 19 (.take 20 (.take 21 (.take 22 (.take 23 (.take 24 (.take 25 (.take 26 (.take 27 (.take 28 (.take 29 (.take 30 (.take 31 (.take 32 (.take 33 (.take 34 (.take 35 (.take 36 (.take 37 (.take 38 (.take 39 (.take 40 (.take 41 (.take 42 .done))))))))))))))))))))))))))))))))))))))))))) [8, 10, 12, 16] rfl (by decide +kernel) (by decide +kernel) fun Kr hKr => ?_
          simp only [go_sem, hal, hc, hgt']
          (repeat (refine ⟨by (first | exact True.intro | omega | rfl | (simp; done) | (simp; omega)), ?_⟩)); try (refine hKr _ ?_; clear hKr Kr)
          refine CallK.data (r := .int .i64 0) (fun h => by cases h) rfl ?_
          simp only [go_sem, hal, hc, hgt']
          (repeat (refine ⟨by (first | exact True.intro | omega | rfl | (simp; done) | (simp; omega)), ?_⟩)); try (refine hKr _ ?_; clear hKr Kr)
          refine CallK.data (fun _ => Spec.args (sK) (by (first | exact ArgsLe.refl | (repeat (first | exact True.intro | refine And.intro (by first | exact AvLe.refl | exact AvLe.loose | exact AvLe.nil | exact AvLe.nilT | exact AvLe.slk | (refine AvLe.agg ?_; exact ArgsLe.refl) | (refine AvLe.agg ?_; (repeat (first | exact True.intro | refine And.intro (by first | exact AvLe.refl | exact AvLe.loose | exact AvLe.nil | exact AvLe.nilT | exact AvLe.slk) ?_)))) ?_))))) rfl ?_
          simp only [go_sem, hal, hc, hgt']
          (repeat (refine ⟨by (first | exact True.intro | omega | rfl | (simp; done) | (simp; omega)), ?_⟩)); try (refine hKr _ ?_; clear hKr Kr)
          refine T.ret (Fin.dataD rfl rfl rfl)
      | false =>
        refine T.seqK fun K36 hK36 => ?_
        refine T.sregD 181 [0, 1, 2, 4, 5, 6, 7, 8, 9, 10, 11, 12, 13, 14, 15, 16, 26, 50, 68, 80, 99, 115, 132] fun Kr hKr => ?_
        simp only [go_sem]
        (repeat (refine ⟨by (first | exact True.intro | omega | rfl | (simp; done) | (simp; omega)), ?_⟩)); try (refine hKr _ ?_; clear hKr Kr)
        refine T.condTD rfl rfl (fun hx => ?_) (fun hx => ?_) <;> try simp at hx
        refine T.skip ?_
        refine hK36 _ ?_
        refine T.seqK fun K40 hK40 => ?_
        refine T.sregD 181 [0, 1, 2, 4, 5, 6, 7, 8, 9, 10, 11, 12, 13, 14, 15, 16, 26, 50, 68, 80, 99, 115, 132] fun Kr hKr => ?_
        simp only [go_sem]
        (repeat (refine ⟨by (first | exact True.intro | omega | rfl | (simp; done) | (simp; omega)), ?_⟩)); try (refine hKr _ ?_; clear hKr Kr)
        refine T.condTD rfl rfl (fun hx => ?_) (fun hx => ?_) <;> try simp at hx
        refine T.skip ?_
        refine hK40 _ ?_
        refine T.sdrawD 181 [0, 1, 2, 4, 5, 6, 7, 8, 9, 10, 11, 12, 13, 14, 15, 16, 26, 50, 68, 80, 99, 115, 132] (.take 0 (.take 1 (.take 2 (.take 3 (.take 4 (.one 5 (.take 6 .done))))))) [11] rfl (by decide +kernel) (by decide +kernel) fun Kr hKr => ?_
        simp only [go_sem]
        (repeat (refine ⟨by (first | exact True.intro | omega | rfl | (simp; done) | (simp; omega)), ?_⟩)); try (refine hKr _ ?_; clear hKr Kr)
        refine CallK.data (fun _ => Spec.args (sH) (by (first | exact ArgsLe.refl | (repeat (first | exact True.intro | refine And.intro (by first | exact AvLe.refl | exact AvLe.loose | exact AvLe.nil | exact AvLe.nilT | exact AvLe.slk | (refine AvLe.agg ?_; exact ArgsLe.refl) | (refine AvLe.agg ?_; (repeat (first | exact True.intro | refine And.intro (by first | exact AvLe.refl | exact AvLe.loose | exact AvLe.nil | exact AvLe.nilT | exact AvLe.slk) ?_)))) ?_))))) rfl ?_
        simp only [go_sem]
        (repeat (refine ⟨by (first | exact True.intro | omega | rfl | (simp; done) | (simp; omega)), ?_⟩)); try (refine hKr _ ?_; clear hKr Kr)
        refine T.seqK fun K41 hK41 => ?_
        refine T.sregD 181 [0, 1, 2, 4, 5, 6, 7, 8, 9, 10, 11, 12, 13, 14, 15, 16, 26, 50, 68, 80, 99, 115, 132] fun Kr hKr => ?_
        simp only [go_sem, hLn, hLm, hL0, hLs, hGl3, lst]
        (repeat (refine ⟨by (first | exact True.intro | omega | rfl | (simp; done) | (simp; omega)), ?_⟩)); try (refine hKr _ ?_; clear hKr Kr)
        refine T.condTD rfl rfl (fun hx => ?_) (fun hx => ?_) <;> try simp at hx
        refine T.skip ?_
        refine hK41 _ ?_
        refine T.sregD 181 [0, 1, 2, 4, 5, 6, 7, 8, 9, 10, 11, 12, 13, 14, 15, 16, 26, 50, 68, 80, 99, 115, 132] fun Kr hKr => ?_
        simp only [go_sem, hLn, hLm, hL0, hLs, hGl3, lst]
        (repeat (refine ⟨by (first | exact True.intro | omega | rfl | (simp; done) | (simp; omega)), ?_⟩)); try (refine hKr _ ?_; clear hKr Kr)
        rcases hst with ⟨rfl, hcn⟩ | ⟨rfl, hcn, hgt⟩
        · rw [hcn] at sK
          refine T.sdrawD 181 [0, 1, 2, 4, 5, 6, 7, 8, 9, 10, 11, 12, 13, 14, 15, 16, 26, 50, 68, 80, 99, 115, 132] (.take 0 (.take 1 (.take 2 (.take 3 (.take 4 (.take 5 (.take 6 (.take 7 (.take 8 (.one 9 (.take 10 (.take 11 (.take 12 (.take 13 (.take 14 (.take 15 (.take 16 (.take 17 (.one 18 (.take 19 (.take 20 (.take 21 (.take 22 (.take 23 (.take 24 (.take 25 (.take 26 (.take 27 (.take 28 (.take 29 (.take 30 (.take 31 (.take 32 (.take 33 (.take 34 (.take 35 (.take 36 (.take 37 (.take 38 (.take 39 (.take 40 (.take 41 (.take 42 .done))))))))))))))))))))))))))))))))))))))))))) [8, 10, 12, 16] rfl (by decide +kernel) (by decide +kernel) fun Kr hKr => ?_
          simp only [go_sem, hal, hc]
          (repeat (refine ⟨by (first | exact True.intro | omega | rfl | (simp; done) | (simp; omega)), ?_⟩)); try (refine hKr _ ?_; clear hKr Kr)
          refine CallK.data (fun _ => Spec.args (sK) (by (first | exact ArgsLe.refl | (repeat (first | exact True.intro | refine And.intro (by first | exact AvLe.refl | exact AvLe.loose | exact AvLe.nil | exact AvLe.nilT | exact AvLe.slk | (refine AvLe.agg ?_; exact ArgsLe.refl) | (refine AvLe.agg ?_; (repeat (first | exact True.intro | refine And.intro (by first | exact AvLe.refl | exact AvLe.loose | exact AvLe.nil | exact AvLe.nilT | exact AvLe.slk) ?_)))) ?_))))) rfl ?_
          simp only [go_sem, hal, hc]
          (repeat (refine ⟨by (first | exact True.intro | omega | rfl | (simp; done) | (simp; omega)), ?_⟩)); try (refine hKr _ ?_; clear hKr Kr)
          refine CallK.data (r := .int .i64 0) (fun h => by cases h) rfl ?_
          simp only [go_sem, hal, hc]
          (repeat (refine ⟨by (first | exact True.intro | omega | rfl | (simp; done) | (simp; omega)), ?_⟩)); try (refine hKr _ ?_; clear hKr Kr)
          refine T.ret (Fin.dataD rfl rfl rfl)
        · rw [hcn] at sK
          have hgt' : (((s.c.getD a default).d.s.length : Int) + (nt.length : Int) > 400) = True := eq_true (by omega)
          refine T.sdrawD 181 [0, 1, 2, 4, 5, 6, 7, 8, 9, 10, 11, 12, 13, 14, 15, 16, 26, 50, 68, 80, 99, 115, 132] (.take 0 (.take 1 (.take 2 (.take 3 (.take 4 (.take 5 (.take 6 (.take 7 (.take 8 (.one 9 (.take 10 (.take 11 (.take 12 (.take 13 (.take 14 (.take 15 (.take 16 (.take 17 (.one 18 (.take 19 (.take 20 (.take 21 (.take 22 (.take 23 (.take 24 (.take 25 (.take 26 (.take 27 (.take 28 (.take 29 (.take 30 (.take 31 (.take 32 (.take 33 (.take 34 (.take 35 (.take 36 (.take 37 (.take 38 (.take 39 (.take 40 (.take 41 (.take 42 .done))))))))))))))))))))))))))))))))))))))))))) [8, 10, 12, 16] rfl (by decide +kernel) (by decide +kernel) fun Kr hKr => ?_
          simp only [go_sem, hal, hc, hgt']
          (repeat (refine ⟨by (first | exact True.intro | omega | rfl | (simp; done) | (simp; omega)), ?_⟩)); try (refine hKr _ ?_; clear hKr Kr)
          refine CallK.data (r := .int .i64 0) (fun h => by cases h) rfl ?_
          simp only [go_sem, hal, hc, hgt']
          (repeat (refine ⟨by (first | exact True.intro | omega | rfl | (simp; done) | (simp; omega)), ?_⟩)); try (refine hKr _ ?_; clear hKr Kr)
          refine CallK.data (fun _ => Spec.args (sK) (by (first | exact ArgsLe.refl | (repeat (first | exact True.intro | refine And.intro (by first | exact AvLe.refl | exact AvLe.loose | exact AvLe.nil | exact AvLe.nilT | exact AvLe.slk | (refine AvLe.agg ?_; exact ArgsLe.refl) | (refine AvLe.agg ?_; (repeat (first | exact True.intro | refine And.intro (by first | exact AvLe.refl | exact AvLe.loose | exact AvLe.nil | exact AvLe.nilT | exact AvLe.slk) ?_)))) ?_))))) rfl ?_
          simp only [go_sem, hal, hc, hgt']
          (repeat (refine ⟨by (first | exact True.intro | omega | rfl | (simp; done) | (simp; omega)), ?_⟩)); try (refine hKr _ ?_; clear hKr Kr)
          refine T.ret (Fin.dataD rfl rfl rfl)
  obtain ⟨hb1, hb2⟩ : i < l.length ∧ i < 12 := ⟨by omega, by omega⟩
  have sN := Next_spec (runM l i) (l.getD i default) (hinv.okM (by omega))
  rw [next_eq (l.getD i default) hinv] at sN
  have hst : stepG hearF (runM l i) (l.getD i default) = runM l (i + 1) := rfl
  rw [hst] at sN
  refine T.skip ?_
  refine hK27 _ ?_
  refine T.seqK fun K42 hK42 => ?_
  refine T.block ?_
  refine T.drawD 181 [0, 1, 2, 4, 5, 6, 7, 8, 9, 10, 11, 12, 13, 14, 15, 16, 26, 50, 68, 80, 99, 115, 132] (.take 1 (.take 2 (.take 3 (.take 4 (.one 0 (.one 5 (.one 6 .done))))))) [] rfl (by decide +kernel) (by decide +kernel) fun Kr hKr => ?_
  simp only [go_sem, hb1]
  (repeat (refine ⟨by (first | exact True.intro | omega | rfl | (simp; done) | (simp; omega)), ?_⟩)); try (refine hKr _ ?_; clear hKr Kr)
  refine CallK.data (fun _ => Spec.args (sN) (by (first | exact ArgsLe.refl | (repeat (first | exact True.intro | refine And.intro (by first | exact AvLe.refl | exact AvLe.loose | exact AvLe.nil | exact AvLe.nilT | exact AvLe.slk | (refine AvLe.agg ?_; exact ArgsLe.refl) | (refine AvLe.agg ?_; (repeat (first | exact True.intro | refine And.intro (by first | exact AvLe.refl | exact AvLe.loose | exact AvLe.nil | exact AvLe.nilT | exact AvLe.slk) ?_)))) ?_))))) rfl ?_
  simp only [go_sem]
  (repeat (refine ⟨by (first | exact True.intro | omega | rfl | (simp; done) | (simp; omega)), ?_⟩)); try (refine hKr _ ?_; clear hKr Kr)
  refine hK42 _ ?_
  refine T.regD 181 [0, 1, 2, 4, 5, 6, 7, 8, 9, 10, 11, 12, 13, 14, 15, 16, 26, 50, 68, 80, 99, 115, 132] fun Kr hKr => ?_
  simp only [go_sem]
  (repeat (refine ⟨by (first | exact True.intro | omega | rfl | (simp; done) | (simp; omega)), ?_⟩)); try (refine hKr _ ?_; clear hKr Kr)
  refine ⟨i + 1, ?_, ?_, Le.fitS (by (repeat (first | exact DFit.nil | refine DFit.cons (by first | rfl | (simp [slook]; done) | (simp [slook]; omega)) ?_))) ?_⟩
  · exact ⟨by omega, by omega⟩
  · omega
  · (repeat (first | exact True.intro | refine And.intro (by first | rfl | (simp [look]; done)) ?_))
end Go.Proofs
