/- Messages: what was refused is rejected; what arrived before stays. -/
import Derived.Test.YtomdfdppfhkbjaaMB
set_option linter.unusedVariables false
set_option linter.unusedSimpArgs false
namespace Go.Proofs
open Go Go.Ideal
set_option maxRecDepth 8000
set_option maxHeartbeats 4000000

theorem srt_lenM {l : List Mark} {lo hi : Int} (hs : l.Pairwise fun a b => a.id < b.id) (hb : ∀ m ∈ l, lo ≤ m.id ∧ m.id < hi) (h : lo ≤ hi) : (l.length : Int) ≤ hi - lo := by
  induction l generalizing lo with
  | nil => simp; omega
  | cons a l ih =>
    obtain ⟨h1, h2⟩ := hb a (by simp)
    have := ih (lo := a.id + 1) (List.Pairwise.of_cons hs) (fun m hm => by
      have := List.rel_of_pairwise_cons hs hm
      exact ⟨by omega, (hb m (by simp [hm])).2⟩) (by omega)
    simp only [List.length_cons]; omega
structure Small (s : MSt) : Prop where
  k : ∀ k ∈ coreL s.l, k.id ≤ 11
  r : ∀ a : Nat, a < 2 → ∀ id ∈ (s.c.getD a default).ref, id ≤ 11
theorem recv_ref {c : Client} {a : Int} {p : Packet} : ∀ id ∈ (recvF c a p).1.ref, id ∈ c.ref ∨ (p.k = 1 ∧ p.app = a ∧ id = p.id) := by
  intro id hid
  unfold recvF at hid
  split at hid
  · rename_i hs
    unfold subB at hs
    simp only [Bool.and_eq_true, decide_eq_true_eq] at hs
    unfold decF at hid
    split at hid
    · exact .inl hid
    · split at hid
      · exact .inl hid
      · split at hid
        · rcases mem_withL.1 hid with g | g
          · exact .inr ⟨hs.1, hs.2.1, g⟩
          · exact .inl g
        · exact .inl hid
  · exact .inl hid
theorem small_step {i : Nat} {s : MSt} (x : MRaw) (h : MInv i s) (hi : i < 16) (hs : Small s) : Small (stepG hearF s x) := by
  obtain ⟨n1, n2, n3⟩ := newF_ok x
  have hll := h.ll
  have hc2 := h.c
  unfold stepG
  split
  · have e := subF_new (l := s.l) (c := newF x) ⟨by omega, by omega⟩ n2 n3 (by omega)
    rw [e]
    split
    · exact ⟨hs.k, hs.r⟩
    · refine ⟨fun k hk => ?_, hs.r⟩
      simp only at hk
      rw [coreL_app] at hk
      rcases List.mem_append.1 hk with hk | hk
      · exact hs.k k hk
      · simp [coreL] at hk; subst hk; exact n1.2
  · split
    · exact ⟨hs.k, hs.r⟩
    · split
      · refine ⟨hs.k, fun b hb id hid => ?_⟩
        simp only at hid
        rw [getD_set2 hc2 (by omega)] at hid
        split at hid
        · unfold refuF at hid
          split at hid
          · exact hs.r _ (by omega) id hid
          · rcases mem_withL.1 hid with g | g
            · omega
            · exact hs.r _ (by omega) id g
        · exact hs.r b hb id hid
      · split
        · rename_i hc
          obtain ⟨c1, c2, c3, c4⟩ := hc
          have hm : (⟨(pickF s x).1.id, (pickF s x).1.app, (pickF s x).1.s⟩ : Cmt) ∈ coreL s.l := by
            rcases h.pk _ (pick_mem c1) with ⟨_, g⟩ | ⟨_, _, g⟩
            · exact g
            · omega
          have hid11 := hs.k _ hm
          simp only at hid11
          refine ⟨hs.k, fun b hb id hid => ?_⟩
          simp only at hid
          rw [getD_set2 hc2 (by omega)] at hid
          split at hid
          · rcases recv_ref id hid with g | ⟨_, _, g⟩
            · exact hs.r _ (by omega) id g
            · omega
          · exact hs.r b hb id hid
        · split
          · rename_i hc hp
            have hk1 : (pickF s x).1.k ≠ 1 := by
              intro g
              rcases h.pk _ (pick_mem hp) with ⟨_, m⟩ | ⟨_, _, m⟩
              · have := (h.k.el _ m).2.2.1
                simp only at this
                exact hc ⟨hp, g, by omega, by omega⟩
              · omega
            refine ⟨?_, hs.r⟩
            simp only
            rw [(hear_inv h (pick_mem hp) hk1).2]; exact hs.k
          · exact hs
theorem small_run (l : List MRaw) : ∀ i, i ≤ 16 → Small (runM l i)
  | 0, _ => by
    refine ⟨by simp [coreL, runM, beginF], fun a ha id hid => ?_⟩
    have : (runM l 0).c.getD a default = noClient := by
      match a, ha with
      | 0, _ => rfl
      | 1, _ => rfl
    rw [this] at hid
    simp [noClient] at hid
  | i + 1, hi => small_step _ (runM_inv l i (by omega)) (by omega) (small_run l i (by omega))
/-- A client before a commit with a new Id. -/
theorem fresh_at {i : Nat} {s : MSt} (h : MInv i s) (hs : Small s) {a : Nat} (ha : a < 2) : (100 : Int) ∉ (s.c.getD a default).has ∧ (100 : Int) ∉ (s.c.getD a default).ref ∧ hasId (s.c.getD a default).d.m 100 = false ∧ (s.c.getD a default).d.m.length ≤ 12 := by
  have hc := h.cl a ha
  have hin : ∀ id ∈ (s.c.getD a default).has, 0 ≤ id ∧ id ≤ 11 := by
    intro id g
    obtain ⟨k, k1, k2, _⟩ := hc.src id g
    have := hs.k k k1
    have := (h.k.el k k1).1
    omega
  refine ⟨fun g => by have := hin _ g; omega, fun g => by have := hs.r a ha _ g; omega, ?_, ?_⟩
  · cases hh : hasId (s.c.getD a default).d.m 100 with
    | false => rfl
    | true =>
      obtain ⟨m, m1, m2⟩ := hasId_mem.1 hh
      have := hin _ (hc.mrk m m1); omega
  · have := srt_lenM (lo := 0) (hi := 12) hc.okd.srt (fun m hm => by have := hin _ (hc.mrk m hm); omega) (by omega)
    omega
theorem cnt_of {d : Doc} (hd : OkD d) (id : Int) : (hasId d.m id = true → cntM d id = 1) ∧ (hasId d.m id = false → cntM d id = 0) := by
  unfold cntM
  rw [cnt_eq hd.srt]
  exact ⟨fun g => by rw [if_pos g], fun g => by rw [if_neg (by rw [g]; decide)]⟩
/-- What a client does with a new commit. -/
theorem recv_new {c : Client} {a : Nat} {t : List UInt8} (hd : OkD c.d) (hn : noteB t = true) (h1 : (100 : Int) ∉ c.has) (h2 : (100 : Int) ∉ c.ref) (h3 : hasId c.d.m 100 = false) (h4 : c.d.m.length < 100) :
    (c.d.s.length + t.length ≤ 400 ∧ ∃ d', recvF c a ⟨1, a, 100, t⟩ = (⟨d', withL c.has 100, c.ref⟩, [ackP a 100]) ∧ OkD d' ∧ d'.s.length = c.d.s.length + t.length ∧ cntM d' 100 = 1) ∨
    (c.d.s.length + t.length > 400 ∧ recvF c a ⟨1, a, 100, t⟩ = (⟨c.d, c.has, withL c.ref 100⟩, [rejP a 100]) ∧ cntM c.d 100 = 0) := by
  have hsub : subB (a : Int) ⟨1, a, 100, t⟩ = true := by unfold subB idB; simp [hn]
  have hr : recvF c a ⟨1, a, 100, t⟩ = ((decF c a 100 t).1, [(decF c a 100 t).2]) := by unfold recvF; rw [if_pos hsub]
  have n1 : ¬ hasN c.has 100 = true := fun g => h1 (hasN_mem.1 g)
  have n2 : ¬ hasN c.ref 100 = true := fun g => h2 (hasN_mem.1 g)
  rcases put_end hd (id := 100) (by omega) h3 hn with ⟨z, o1, o2, o3⟩ | ⟨z, o1⟩
  · left
    have e : decF c a 100 t = (⟨(putF c.d 100 c.d.s.length t).1, withL c.has 100, c.ref⟩, ackP a 100) := by unfold decF; rw [if_neg n1, if_neg n2, if_neg (by omega)]
    rw [hr, e]
    have hl := o1.len
    have hlen : (putF c.d 100 c.d.s.length t).1.s.length = c.d.s.length + t.length := by rw [o2, List.length_append]
    exact ⟨by omega, _, rfl, o1, hlen, (cnt_of o1 100).1 (hasId_mem.2 ⟨_, (o3 _).2 (.inl rfl), rfl⟩)⟩
  · right
    have e : decF c a 100 t = (⟨c.d, c.has, withL c.ref 100⟩, rejP a 100) := by unfold decF; rw [if_neg n1, if_neg n2, if_pos z]
    rw [hr, e]
    exact ⟨by omega, rfl, (cnt_of hd 100).2 h3⟩
theorem refuses_law (l : List MRaw) (x : MRaw) (first : Bool) : Ideal.Spec Try.prog 7 [.sl false 4 (mrawsOf l), mrawA x, .bool first] (.bool true) none := by
  have s0 := sanityM_spec
  have sB := Begin_spec
  refine Ideal.Spec.of_TD (n := 119) (fn := Try.f7) rfl rfl rfl rfl rfl rfl rfl fun w ok => ?_
  refine T.sregD 119 [0, 1, 2, 4, 6, 7, 8, 9, 10, 11, 12, 13, 14, 15, 16, 17, 18, 28, 59, 61, 82] fun Kr hKr => ?_
  simp only [go_sem]
  (repeat (refine ⟨by (first | exact True.intro | omega | rfl | (simp; done) | (simp; omega)), ?_⟩)); try (refine hKr _ ?_; clear hKr Kr)
  refine T.sregD 119 [0, 1, 2, 4, 6, 7, 8, 9, 10, 11, 12, 13, 14, 15, 16, 17, 18, 28, 59, 61, 82] fun Kr hKr => ?_
  simp only [go_sem]
  (repeat (refine ⟨by (first | exact True.intro | omega | rfl | (simp; done) | (simp; omega)), ?_⟩)); try (refine hKr _ ?_; clear hKr Kr)
  refine CallK.data (fun _ => Spec.args (s0) (by (first | exact ArgsLe.refl | (repeat (first | exact True.intro | refine And.intro (by first | exact AvLe.refl | exact AvLe.loose | exact AvLe.nil | exact AvLe.nilT | exact AvLe.slk | (refine AvLe.agg ?_; exact ArgsLe.refl) | (refine AvLe.agg ?_; (repeat (first | exact True.intro | refine And.intro (by first | exact AvLe.refl | exact AvLe.loose | exact AvLe.nil | exact AvLe.nilT | exact AvLe.slk) ?_)))) ?_))))) rfl ?_
  simp only [go_sem]
  (repeat (refine ⟨by (first | exact True.intro | omega | rfl | (simp; done) | (simp; omega)), ?_⟩)); try (refine hKr _ ?_; clear hKr Kr)
  refine T.sregD 119 [0, 1, 2, 4, 6, 7, 8, 9, 10, 11, 12, 13, 14, 15, 16, 17, 18, 28, 59, 61, 82] fun Kr hKr => ?_
  simp only [go_sem]
  (repeat (refine ⟨by (first | exact True.intro | omega | rfl | (simp; done) | (simp; omega)), ?_⟩)); try (refine hKr _ ?_; clear hKr Kr)
  refine CallK.data (fun _ => Spec.args (sB) (by (first | exact ArgsLe.refl | (repeat (first | exact True.intro | refine And.intro (by first | exact AvLe.refl | exact AvLe.loose | exact AvLe.nil | exact AvLe.nilT | exact AvLe.slk | (refine AvLe.agg ?_; exact ArgsLe.refl) | (refine AvLe.agg ?_; (repeat (first | exact True.intro | refine And.intro (by first | exact AvLe.refl | exact AvLe.loose | exact AvLe.nil | exact AvLe.nilT | exact AvLe.slk) ?_)))) ?_))))) rfl ?_
  simp only [go_sem]
  (repeat (refine ⟨by (first | exact True.intro | omega | rfl | (simp; done) | (simp; omega)), ?_⟩)); try (refine hKr _ ?_; clear hKr Kr)
  refine T.seqK fun K22 hK22 => ?_
  refine T.sregD 119 [0, 1, 2, 4, 6, 7, 8, 9, 10, 11, 12, 13, 14, 15, 16, 17, 18, 28, 59, 61, 82] fun Kr hKr => ?_
  simp only [go_sem]
  (repeat (refine ⟨by (first | exact True.intro | omega | rfl | (simp; done) | (simp; omega)), ?_⟩)); try (refine hKr _ ?_; clear hKr Kr)
  refine T.bloop (fun i : Nat => ⟨dense 119 [(0, .sl false 4 (mrawsOf l)), (2, .bool first), (4, .op 4 0 0), (7, .bool true), (8, .op 8 0 0), (9, .int .i64 i)], [(8, ⟨3, 28, true, [mstA (runM l i)]⟩), (4, ⟨4, 32, true, [mrawA x]⟩)]⟩)
    (fun i => i ≤ l.length ∧ i ≤ 12) (fun i => l.length - i) 0 ⟨by omega, by omega⟩ ?_ fun i hi => ?_
  · refine Le.fitS (by (repeat (first | exact DFit.nil | refine DFit.cons (by first | rfl | (simp [slook]; done) | (simp [slook]; omega)) ?_))) (by (repeat (first | exact True.intro | refine And.intro (by first | rfl | (simp [look]; done)) ?_)))
  obtain ⟨hi1, hi2⟩ := hi
  have hinv := runM_inv l i (by omega)
  have hsm := small_run l i (by omega)
  refine T.seqK fun K23 hK23 => ?_
  refine T.sregD 119 [0, 1, 2, 4, 6, 7, 8, 9, 10, 11, 12, 13, 14, 15, 16, 17, 18, 28, 59, 61, 82] fun Kr hKr => ?_
  simp only [go_sem, cond_and]
  (repeat (refine ⟨by (first | exact True.intro | omega | rfl | (simp; done) | (simp; omega)), ?_⟩)); try (refine hKr _ ?_; clear hKr Kr)
  refine T.condFD rfl rfl (fun hb => ?_) (fun hb => ?_) <;> simp only [Bool.and_eq_true, Bool.and_eq_false_iff, decide_eq_true_eq, decide_eq_false_iff_not] at hb
  · -- no: exit
    refine T.exit ?_
    simp only [if_true]
    refine hK22 _ ?_
    clear hb
    generalize runM l i = s at *
    have hok := hinv.okM (by omega)
    have hl := hok.l
    have hc := hok.c
    obtain ⟨n1, n2, n3⟩ := newF_ok x
    have sM := NewM_spec x
    obtain ⟨a, hae, hal⟩ : ∃ a : Nat, (newF x).app = a ∧ a < 2 := ⟨(newF x).app.toNat, by omega, by omega⟩
    have hC := hinv.cl a hal
    obtain ⟨f1, f2, f3, f4⟩ := fresh_at hinv hsm hal
    have hh := hC.hasL
    have hr := hC.refL
    have hdl := hC.okd.len
    have hdm := hC.okd.cnt
    obtain ⟨t1, t2, t3⟩ := note_inv n3
    have hnew := recv_new (a := a) hC.okd n3 f1 f2 f3 (by omega)
    have hcnt0 := (cnt_of hC.okd 100).2 f3
    generalize hNN : newF x = N at *
    obtain ⟨nid, napp, nt⟩ := N
    simp only at hae n1 n2 n3 t1 t2 t3 hnew
    subst hae
    refine T.sregD 119 [0, 1, 2, 4, 6, 7, 8, 9, 10, 11, 12, 13, 14, 15, 16, 17, 18, 28, 59, 61, 82] fun Kr hKr => ?_
    simp only [go_sem]
    (repeat (refine ⟨by (first | exact True.intro | omega | rfl | (simp; done) | (simp; omega)), ?_⟩)); try (refine hKr _ ?_; clear hKr Kr)
    refine CallK.data (fun _ => Spec.args (sM) (by (first | exact ArgsLe.refl | (repeat (first | exact True.intro | refine And.intro (by first | exact AvLe.refl | exact AvLe.loose | exact AvLe.nil | exact AvLe.nilT | exact AvLe.slk | (refine AvLe.agg ?_; exact ArgsLe.refl) | (refine AvLe.agg ?_; (repeat (first | exact True.intro | refine And.intro (by first | exact AvLe.refl | exact AvLe.loose | exact AvLe.nil | exact AvLe.nilT | exact AvLe.slk) ?_)))) ?_))))) rfl ?_
    simp only [go_sem]
    (repeat (refine ⟨by (first | exact True.intro | omega | rfl | (simp; done) | (simp; omega)), ?_⟩)); try (refine hKr _ ?_; clear hKr Kr)
    refine T.sregD 119 [0, 1, 2, 4, 6, 7, 8, 9, 10, 11, 12, 13, 14, 15, 16, 17, 18, 28, 59, 61, 82] fun Kr hKr => ?_
    simp only [go_sem]
    (repeat (refine ⟨by (first | exact True.intro | omega | rfl | (simp; done) | (simp; omega)), ?_⟩)); try (refine hKr _ ?_; clear hKr Kr)
    refine T.sregD 119 [0, 1, 2, 4, 6, 7, 8, 9, 10, 11, 12, 13, 14, 15, 16, 17, 18, 28, 59, 61, 82] fun Kr hKr => ?_
    simp only [go_sem, hal, hc]
    (repeat (refine ⟨by (first | exact True.intro | omega | rfl | (simp; done) | (simp; omega)), ?_⟩)); try (refine hKr _ ?_; clear hKr Kr)
    generalize s.c.getD a default = C at *
    refine T.sregD 119 [0, 1, 2, 4, 6, 7, 8, 9, 10, 11, 12, 13, 14, 15, 16, 17, 18, 28, 59, 61, 82] fun Kr hKr => ?_
    simp only [go_sem]
    (repeat (refine ⟨by (first | exact True.intro | omega | rfl | (simp; done) | (simp; omega)), ?_⟩)); try (refine hKr _ ?_; clear hKr Kr)
    refine T.seqK fun K45 hK45 => ?_
    refine T.sregD 119 [0, 1, 2, 4, 6, 7, 8, 9, 10, 11, 12, 13, 14, 15, 16, 17, 18, 28, 59, 61, 82] fun Kr hKr => ?_
    simp only [go_sem]
    (repeat (refine ⟨by (first | exact True.intro | omega | rfl | (simp; done) | (simp; omega)), ?_⟩)); try (refine hKr _ ?_; clear hKr Kr)
    refine T.condTD rfl rfl (fun hb => ?_) (fun hb => ?_) <;> simp at hb
    · -- too long
      refine T.sregD 119 [0, 1, 2, 4, 6, 7, 8, 9, 10, 11, 12, 13, 14, 15, 16, 17, 18, 28, 59, 61, 82] fun Kr hKr => ?_
      simp only [go_sem]
      (repeat (refine ⟨by (first | exact True.intro | omega | rfl | (simp; done) | (simp; omega)), ?_⟩)); try (refine hKr _ ?_; clear hKr Kr)
      refine T.ret (Fin.dataD rfl rfl rfl)
    refine T.skip ?_
    refine hK45 _ ?_
    refine T.seqK fun K46 hK46 => ?_
    cases first with
    | true =>
      have sF := Refuse_spec C 100 (by omega) (by omega)
      have hf : refuF C 100 = ⟨C.d, C.has, withL C.ref 100⟩ := by unfold refuF; rw [if_neg (by rw [hasN_mem, hasN_mem]; simp [f1, f2])]
      rw [hf] at sF
      have ok1 : OkC ⟨C.d, C.has, withL C.ref 100⟩ := ⟨hC.okd, by show C.has.length ≤ _; omega, by show (withL _ _).length ≤ _; rw [withL_len]; omega⟩
      have hin : (100 : Int) ∈ withL C.ref 100 := mem_withL.2 (.inl rfl)
      have hrec : recvF ⟨C.d, C.has, withL C.ref 100⟩ (a : Int) ⟨1, a, 100, nt⟩ = (⟨C.d, C.has, withL C.ref 100⟩, [rejP a 100]) := by
        have hsub : subB (a : Int) ⟨1, a, 100, nt⟩ = true := by unfold subB idB; simp [n3]
        unfold recvF decF
        rw [if_pos hsub]
        simp only
        rw [if_neg (fun g => f1 (hasN_mem.1 g)), if_pos (hasN_mem.2 hin)]
      have sR := Receive_spec ⟨C.d, C.has, withL C.ref 100⟩ a ⟨1, a, 100, nt⟩ ok1 (by show nt.length ≤ 100000; omega)
      rw [hrec] at sR
      have hf2 : refuF ⟨C.d, C.has, withL C.ref 100⟩ 100 = ⟨C.d, C.has, withL C.ref 100⟩ := by unfold refuF; rw [if_pos (.inr (hasN_mem.2 hin))]
      have sF2 := Refuse_spec ⟨C.d, C.has, withL C.ref 100⟩ 100 (by show C.has.length ≤ _; omega) (by show (withL _ _).length ≤ _; rw [withL_len]; omega)
      rw [hf2] at sF2
      have sK := marks_spec ⟨C.d, C.has, withL C.ref 100⟩ 100 (by show C.d.m.length ≤ _; omega)
      simp only at sK
      rw [hcnt0] at sK
      have sS := SamePk_spec [rejP a 100] [rejP a 100] (by simp) (by simp)
      rw [decide_eq_true rfl] at sS
      have sS' : Ideal.Spec Try.prog 18 [.sl false 4 (pksOf [rejP a 100]), .sl false 4 [.agg [.int .i64 3, .int .i64 a, .int .i64 100, .str []]]] (.bool true) none := sS
      generalize withL C.ref 100 = W at *
      refine T.sregD 119 [0, 1, 2, 4, 6, 7, 8, 9, 10, 11, 12, 13, 14, 15, 16, 17, 18, 28, 59, 61, 82] fun Kr hKr => ?_
      simp only [go_sem]
      (repeat (refine ⟨by (first | exact True.intro | omega | rfl | (simp; done) | (simp; omega)), ?_⟩)); try (refine hKr _ ?_; clear hKr Kr)
      refine T.condTD rfl rfl (fun hx => ?_) (fun hx => ?_) <;> try simp at hx
      refine T.regD 119 [0, 1, 2, 4, 6, 7, 8, 9, 10, 11, 12, 13, 14, 15, 16, 17, 18, 28, 59, 61, 82] fun Kr hKr => ?_
      simp only [go_sem]
      (repeat (refine ⟨by (first | exact True.intro | omega | rfl | (simp; done) | (simp; omega)), ?_⟩)); try (refine hKr _ ?_; clear hKr Kr)
      refine CallK.data (fun _ => Spec.args (sF) (by (first | exact ArgsLe.refl | (repeat (first | exact True.intro | refine And.intro (by first | exact AvLe.refl | exact AvLe.loose | exact AvLe.nil | exact AvLe.nilT | exact AvLe.slk | (refine AvLe.agg ?_; exact ArgsLe.refl) | (refine AvLe.agg ?_; (repeat (first | exact True.intro | refine And.intro (by first | exact AvLe.refl | exact AvLe.loose | exact AvLe.nil | exact AvLe.nilT | exact AvLe.slk) ?_)))) ?_))))) rfl ?_
      simp only [go_sem]
      (repeat (refine ⟨by (first | exact True.intro | omega | rfl | (simp; done) | (simp; omega)), ?_⟩)); try (refine hKr _ ?_; clear hKr Kr)
      refine hK46 _ ?_
      refine T.sregD 119 [0, 1, 2, 4, 6, 7, 8, 9, 10, 11, 12, 13, 14, 15, 16, 17, 18, 28, 59, 61, 82] fun Kr hKr => ?_
      simp only [go_sem]
      (repeat (refine ⟨by (first | exact True.intro | omega | rfl | (simp; done) | (simp; omega)), ?_⟩)); try (refine hKr _ ?_; clear hKr Kr)
      refine CallK.tup (fun _ => Spec.args (sR) (by (first | exact ArgsLe.refl | (repeat (first | exact True.intro | refine And.intro (by first | exact AvLe.refl | exact AvLe.loose | exact AvLe.nil | exact AvLe.nilT | exact AvLe.slk | (refine AvLe.agg ?_; exact ArgsLe.refl) | (refine AvLe.agg ?_; (repeat (first | exact True.intro | refine And.intro (by first | exact AvLe.refl | exact AvLe.loose | exact AvLe.nil | exact AvLe.nilT | exact AvLe.slk) ?_)))) ?_))))) ?_
      simp only [go_sem]
      (repeat (refine ⟨by (first | exact True.intro | omega | rfl | (simp; done) | (simp; omega)), ?_⟩)); try (refine hKr _ ?_; clear hKr Kr)
      refine T.sregD 119 [0, 1, 2, 4, 6, 7, 8, 9, 10, 11, 12, 13, 14, 15, 16, 17, 18, 28, 59, 61, 82] fun Kr hKr => ?_
      simp only [go_sem]
      (repeat (refine ⟨by (first | exact True.intro | omega | rfl | (simp; done) | (simp; omega)), ?_⟩)); try (refine hKr _ ?_; clear hKr Kr)
      refine CallK.data (fun _ => Spec.args (sF2) (by (first | exact ArgsLe.refl | (repeat (first | exact True.intro | refine And.intro (by first | exact AvLe.refl | exact AvLe.loose | exact AvLe.nil | exact AvLe.nilT | exact AvLe.slk | (refine AvLe.agg ?_; exact ArgsLe.refl) | (refine AvLe.agg ?_; (repeat (first | exact True.intro | refine And.intro (by first | exact AvLe.refl | exact AvLe.loose | exact AvLe.nil | exact AvLe.nilT | exact AvLe.slk) ?_)))) ?_))))) rfl ?_
      simp only [go_sem]
      (repeat (refine ⟨by (first | exact True.intro | omega | rfl | (simp; done) | (simp; omega)), ?_⟩)); try (refine hKr _ ?_; clear hKr Kr)
      refine T.sregD 119 [0, 1, 2, 4, 6, 7, 8, 9, 10, 11, 12, 13, 14, 15, 16, 17, 18, 28, 59, 61, 82] fun Kr hKr => ?_
      simp only [go_sem]
      (repeat (refine ⟨by (first | exact True.intro | omega | rfl | (simp; done) | (simp; omega)), ?_⟩)); try (refine hKr _ ?_; clear hKr Kr)
      refine CallK.tup (fun _ => Spec.args (sR) (by (first | exact ArgsLe.refl | (repeat (first | exact True.intro | refine And.intro (by first | exact AvLe.refl | exact AvLe.loose | exact AvLe.nil | exact AvLe.nilT | exact AvLe.slk | (refine AvLe.agg ?_; exact ArgsLe.refl) | (refine AvLe.agg ?_; (repeat (first | exact True.intro | refine And.intro (by first | exact AvLe.refl | exact AvLe.loose | exact AvLe.nil | exact AvLe.nilT | exact AvLe.slk) ?_)))) ?_))))) ?_
      simp only [go_sem]
      (repeat (refine ⟨by (first | exact True.intro | omega | rfl | (simp; done) | (simp; omega)), ?_⟩)); try (refine hKr _ ?_; clear hKr Kr)
      refine T.sregD 119 [0, 1, 2, 4, 6, 7, 8, 9, 10, 11, 12, 13, 14, 15, 16, 17, 18, 28, 59, 61, 82] fun Kr hKr => ?_
      simp only [go_sem]
      (repeat (refine ⟨by (first | exact True.intro | omega | rfl | (simp; done) | (simp; omega)), ?_⟩)); try (refine hKr _ ?_; clear hKr Kr)
      refine T.seqK fun K47 hK47 => ?_
      refine T.sregD 119 [0, 1, 2, 4, 6, 7, 8, 9, 10, 11, 12, 13, 14, 15, 16, 17, 18, 28, 59, 61, 82] fun Kr hKr => ?_
      simp only [go_sem]
      (repeat (refine ⟨by (first | exact True.intro | omega | rfl | (simp; done) | (simp; omega)), ?_⟩)); try (refine hKr _ ?_; clear hKr Kr)
      refine T.condTD rfl rfl (fun hx => ?_) (fun hx => ?_) <;> try simp at hx
      refine T.regD 119 [0, 1, 2, 4, 6, 7, 8, 9, 10, 11, 12, 13, 14, 15, 16, 17, 18, 28, 59, 61, 82] fun Kr hKr => ?_
      simp only [go_sem]
      (repeat (refine ⟨by (first | exact True.intro | omega | rfl | (simp; done) | (simp; omega)), ?_⟩)); try (refine hKr _ ?_; clear hKr Kr)
      refine hK47 _ ?_
      refine T.sregD 119 [0, 1, 2, 4, 6, 7, 8, 9, 10, 11, 12, 13, 14, 15, 16, 17, 18, 28, 59, 61, 82] fun Kr hKr => ?_
      simp only [go_sem]
      (repeat (refine ⟨by (first | exact True.intro | omega | rfl | (simp; done) | (simp; omega)), ?_⟩)); try (refine hKr _ ?_; clear hKr Kr)
      refine T.sregD 119 [0, 1, 2, 4, 6, 7, 8, 9, 10, 11, 12, 13, 14, 15, 16, 17, 18, 28, 59, 61, 82] fun Kr hKr => ?_
      simp only [go_sem]
      (repeat (refine ⟨by (first | exact True.intro | omega | rfl | (simp; done) | (simp; omega)), ?_⟩)); try (refine hKr _ ?_; clear hKr Kr)
      refine CallK.data (fun _ => Spec.args (sS') (by (first | exact ArgsLe.refl | (repeat (first | exact True.intro | refine And.intro (by first | exact AvLe.refl | exact AvLe.loose | exact AvLe.nil | exact AvLe.nilT | exact AvLe.slk | (refine AvLe.agg ?_; exact ArgsLe.refl) | (refine AvLe.agg ?_; (repeat (first | exact True.intro | refine And.intro (by first | exact AvLe.refl | exact AvLe.loose | exact AvLe.nil | exact AvLe.nilT | exact AvLe.slk) ?_)))) ?_))))) rfl ?_
      simp only [go_sem]
      (repeat (refine ⟨by (first | exact True.intro | omega | rfl | (simp; done) | (simp; omega)), ?_⟩)); try (refine hKr _ ?_; clear hKr Kr)
      refine CallK.data (fun _ => Spec.args (sS') (by (first | exact ArgsLe.refl | (repeat (first | exact True.intro | refine And.intro (by first | exact AvLe.refl | exact AvLe.loose | exact AvLe.nil | exact AvLe.nilT | exact AvLe.slk | (refine AvLe.agg ?_; exact ArgsLe.refl) | (refine AvLe.agg ?_; (repeat (first | exact True.intro | refine And.intro (by first | exact AvLe.refl | exact AvLe.loose | exact AvLe.nil | exact AvLe.nilT | exact AvLe.slk) ?_)))) ?_))))) rfl ?_
      simp only [go_sem]
      (repeat (refine ⟨by (first | exact True.intro | omega | rfl | (simp; done) | (simp; omega)), ?_⟩)); try (refine hKr _ ?_; clear hKr Kr)
      have e0 : ((C.d.s.length : Int) = (C.d.s.length : Int) + 0 * (nt.length : Int)) = True := eq_true (by omega)
      refine CallK.data (fun _ => Spec.args (sK) (by (first | exact ArgsLe.refl | (repeat (first | exact True.intro | refine And.intro (by first | exact AvLe.refl | exact AvLe.loose | exact AvLe.nil | exact AvLe.nilT | exact AvLe.slk | (refine AvLe.agg ?_; exact ArgsLe.refl) | (refine AvLe.agg ?_; (repeat (first | exact True.intro | refine And.intro (by first | exact AvLe.refl | exact AvLe.loose | exact AvLe.nil | exact AvLe.nilT | exact AvLe.slk) ?_)))) ?_))))) rfl ?_
      simp only [go_sem, e0]
      (repeat (refine ⟨by (first | exact True.intro | omega | rfl | (simp; done) | (simp; omega)), ?_⟩)); try (refine hKr _ ?_; clear hKr Kr)
      refine T.ret (Fin.dataD rfl rfl rfl)
    | false =>
      have hbl : ¬ (C.d.s.length + nt.length > 400) := by omega
      rcases hnew with ⟨_, d', hrec, okd', hlen', hcnt'⟩ | ⟨g, _⟩
      · have hin : (100 : Int) ∈ withL C.has 100 := mem_withL.2 (.inl rfl)
        have sR := Receive_spec C a ⟨1, a, 100, nt⟩ ⟨hC.okd, by omega, by omega⟩ (by show nt.length ≤ 100000; omega)
        rw [hrec] at sR
        have hWl : (withL C.has 100).length ≤ C.has.length + 1 := by rw [withL_len]; omega
        have hf2 : refuF ⟨d', withL C.has 100, C.ref⟩ 100 = ⟨d', withL C.has 100, C.ref⟩ := by unfold refuF; rw [if_pos (.inl (hasN_mem.2 hin))]
        have sF2 := Refuse_spec ⟨d', withL C.has 100, C.ref⟩ 100 (by show (withL _ _).length ≤ _; omega) (by show C.ref.length ≤ _; omega)
        rw [hf2] at sF2
        have hrec2 : recvF ⟨d', withL C.has 100, C.ref⟩ (a : Int) ⟨1, a, 100, nt⟩ = (⟨d', withL C.has 100, C.ref⟩, [ackP a 100]) := by
          have hsub : subB (a : Int) ⟨1, a, 100, nt⟩ = true := by unfold subB idB; simp [n3]
          unfold recvF decF
          rw [if_pos hsub]
          simp only
          rw [if_pos (hasN_mem.2 hin)]
        have sR2 := Receive_spec ⟨d', withL C.has 100, C.ref⟩ a ⟨1, a, 100, nt⟩ ⟨okd', by show (withL _ _).length ≤ _; omega, by show C.ref.length ≤ _; omega⟩ (by show nt.length ≤ 100000; omega)
        rw [hrec2] at sR2
        have hdm' : d'.m.length ≤ 100 := okd'.cnt
        have sK := marks_spec ⟨d', withL C.has 100, C.ref⟩ 100 (by show d'.m.length ≤ _; omega)
        simp only at sK
        rw [hcnt'] at sK
        have sS := SamePk_spec [ackP a 100] [ackP a 100] (by simp) (by simp)
        rw [decide_eq_true rfl] at sS
        have sS' : Ideal.Spec Try.prog 18 [.sl false 4 (pksOf [ackP a 100]), .sl false 4 [.agg [.int .i64 2, .int .i64 a, .int .i64 100, .str []]]] (.bool true) none := sS
        generalize withL C.has 100 = W at *
        refine T.sregD 119 [0, 1, 2, 4, 6, 7, 8, 9, 10, 11, 12, 13, 14, 15, 16, 17, 18, 28, 59, 61, 82] fun Kr hKr => ?_
        simp only [go_sem]
        (repeat (refine ⟨by (first | exact True.intro | omega | rfl | (simp; done) | (simp; omega)), ?_⟩)); try (refine hKr _ ?_; clear hKr Kr)
        refine T.condTD rfl rfl (fun hx => ?_) (fun hx => ?_) <;> try simp at hx
        refine T.skip ?_
        refine hK46 _ ?_
        refine T.sregD 119 [0, 1, 2, 4, 6, 7, 8, 9, 10, 11, 12, 13, 14, 15, 16, 17, 18, 28, 59, 61, 82] fun Kr hKr => ?_
        simp only [go_sem]
        (repeat (refine ⟨by (first | exact True.intro | omega | rfl | (simp; done) | (simp; omega)), ?_⟩)); try (refine hKr _ ?_; clear hKr Kr)
        refine CallK.tup (fun _ => Spec.args (sR) (by (first | exact ArgsLe.refl | (repeat (first | exact True.intro | refine And.intro (by first | exact AvLe.refl | exact AvLe.loose | exact AvLe.nil | exact AvLe.nilT | exact AvLe.slk | (refine AvLe.agg ?_; exact ArgsLe.refl) | (refine AvLe.agg ?_; (repeat (first | exact True.intro | refine And.intro (by first | exact AvLe.refl | exact AvLe.loose | exact AvLe.nil | exact AvLe.nilT | exact AvLe.slk) ?_)))) ?_))))) ?_
        simp only [go_sem]
        (repeat (refine ⟨by (first | exact True.intro | omega | rfl | (simp; done) | (simp; omega)), ?_⟩)); try (refine hKr _ ?_; clear hKr Kr)
        refine T.sregD 119 [0, 1, 2, 4, 6, 7, 8, 9, 10, 11, 12, 13, 14, 15, 16, 17, 18, 28, 59, 61, 82] fun Kr hKr => ?_
        simp only [go_sem]
        (repeat (refine ⟨by (first | exact True.intro | omega | rfl | (simp; done) | (simp; omega)), ?_⟩)); try (refine hKr _ ?_; clear hKr Kr)
        refine CallK.data (fun _ => Spec.args (sF2) (by (first | exact ArgsLe.refl | (repeat (first | exact True.intro | refine And.intro (by first | exact AvLe.refl | exact AvLe.loose | exact AvLe.nil | exact AvLe.nilT | exact AvLe.slk | (refine AvLe.agg ?_; exact ArgsLe.refl) | (refine AvLe.agg ?_; (repeat (first | exact True.intro | refine And.intro (by first | exact AvLe.refl | exact AvLe.loose | exact AvLe.nil | exact AvLe.nilT | exact AvLe.slk) ?_)))) ?_))))) rfl ?_
        simp only [go_sem]
        (repeat (refine ⟨by (first | exact True.intro | omega | rfl | (simp; done) | (simp; omega)), ?_⟩)); try (refine hKr _ ?_; clear hKr Kr)
        refine T.sregD 119 [0, 1, 2, 4, 6, 7, 8, 9, 10, 11, 12, 13, 14, 15, 16, 17, 18, 28, 59, 61, 82] fun Kr hKr => ?_
        simp only [go_sem]
        (repeat (refine ⟨by (first | exact True.intro | omega | rfl | (simp; done) | (simp; omega)), ?_⟩)); try (refine hKr _ ?_; clear hKr Kr)
        refine CallK.tup (fun _ => Spec.args (sR2) (by (first | exact ArgsLe.refl | (repeat (first | exact True.intro | refine And.intro (by first | exact AvLe.refl | exact AvLe.loose | exact AvLe.nil | exact AvLe.nilT | exact AvLe.slk | (refine AvLe.agg ?_; exact ArgsLe.refl) | (refine AvLe.agg ?_; (repeat (first | exact True.intro | refine And.intro (by first | exact AvLe.refl | exact AvLe.loose | exact AvLe.nil | exact AvLe.nilT | exact AvLe.slk) ?_)))) ?_))))) ?_
        simp only [go_sem]
        (repeat (refine ⟨by (first | exact True.intro | omega | rfl | (simp; done) | (simp; omega)), ?_⟩)); try (refine hKr _ ?_; clear hKr Kr)
        refine T.sregD 119 [0, 1, 2, 4, 6, 7, 8, 9, 10, 11, 12, 13, 14, 15, 16, 17, 18, 28, 59, 61, 82] fun Kr hKr => ?_
        simp only [go_sem]
        (repeat (refine ⟨by (first | exact True.intro | omega | rfl | (simp; done) | (simp; omega)), ?_⟩)); try (refine hKr _ ?_; clear hKr Kr)
        refine T.seqK fun K47 hK47 => ?_
        refine T.sregD 119 [0, 1, 2, 4, 6, 7, 8, 9, 10, 11, 12, 13, 14, 15, 16, 17, 18, 28, 59, 61, 82] fun Kr hKr => ?_
        simp only [go_sem]
        (repeat (refine ⟨by (first | exact True.intro | omega | rfl | (simp; done) | (simp; omega)), ?_⟩)); try (refine hKr _ ?_; clear hKr Kr)
        refine T.condTD rfl rfl (fun hx => ?_) (fun hx => ?_) <;> try simp at hx
        refine T.skip ?_
        refine hK47 _ ?_
        refine T.sregD 119 [0, 1, 2, 4, 6, 7, 8, 9, 10, 11, 12, 13, 14, 15, 16, 17, 18, 28, 59, 61, 82] fun Kr hKr => ?_
        simp only [go_sem]
        (repeat (refine ⟨by (first | exact True.intro | omega | rfl | (simp; done) | (simp; omega)), ?_⟩)); try (refine hKr _ ?_; clear hKr Kr)
        refine T.sregD 119 [0, 1, 2, 4, 6, 7, 8, 9, 10, 11, 12, 13, 14, 15, 16, 17, 18, 28, 59, 61, 82] fun Kr hKr => ?_
        simp only [go_sem]
        (repeat (refine ⟨by (first | exact True.intro | omega | rfl | (simp; done) | (simp; omega)), ?_⟩)); try (refine hKr _ ?_; clear hKr Kr)
        refine CallK.data (fun _ => Spec.args (sS') (by (first | exact ArgsLe.refl | (repeat (first | exact True.intro | refine And.intro (by first | exact AvLe.refl | exact AvLe.loose | exact AvLe.nil | exact AvLe.nilT | exact AvLe.slk | (refine AvLe.agg ?_; exact ArgsLe.refl) | (refine AvLe.agg ?_; (repeat (first | exact True.intro | refine And.intro (by first | exact AvLe.refl | exact AvLe.loose | exact AvLe.nil | exact AvLe.nilT | exact AvLe.slk) ?_)))) ?_))))) rfl ?_
        simp only [go_sem]
        (repeat (refine ⟨by (first | exact True.intro | omega | rfl | (simp; done) | (simp; omega)), ?_⟩)); try (refine hKr _ ?_; clear hKr Kr)
        refine CallK.data (fun _ => Spec.args (sS') (by (first | exact ArgsLe.refl | (repeat (first | exact True.intro | refine And.intro (by first | exact AvLe.refl | exact AvLe.loose | exact AvLe.nil | exact AvLe.nilT | exact AvLe.slk | (refine AvLe.agg ?_; exact ArgsLe.refl) | (refine AvLe.agg ?_; (repeat (first | exact True.intro | refine And.intro (by first | exact AvLe.refl | exact AvLe.loose | exact AvLe.nil | exact AvLe.nilT | exact AvLe.slk) ?_)))) ?_))))) rfl ?_
        simp only [go_sem]
        (repeat (refine ⟨by (first | exact True.intro | omega | rfl | (simp; done) | (simp; omega)), ?_⟩)); try (refine hKr _ ?_; clear hKr Kr)
        have e0 : ((d'.s.length : Int) = (C.d.s.length : Int) + 1 * (nt.length : Int)) = True := eq_true (by omega)
        refine CallK.data (fun _ => Spec.args (sK) (by (first | exact ArgsLe.refl | (repeat (first | exact True.intro | refine And.intro (by first | exact AvLe.refl | exact AvLe.loose | exact AvLe.nil | exact AvLe.nilT | exact AvLe.slk | (refine AvLe.agg ?_; exact ArgsLe.refl) | (refine AvLe.agg ?_; (repeat (first | exact True.intro | refine And.intro (by first | exact AvLe.refl | exact AvLe.loose | exact AvLe.nil | exact AvLe.nilT | exact AvLe.slk) ?_)))) ?_))))) rfl ?_
        simp only [go_sem, e0]
        (repeat (refine ⟨by (first | exact True.intro | omega | rfl | (simp; done) | (simp; omega)), ?_⟩)); try (refine hKr _ ?_; clear hKr Kr)
        refine T.ret (Fin.dataD rfl rfl rfl)
      · omega
  obtain ⟨hb1, hb2⟩ : i < l.length ∧ i < 12 := ⟨by omega, by omega⟩
  have sN := Next_spec (runM l i) (l.getD i default) (hinv.okM (by omega))
  rw [next_eq (l.getD i default) hinv] at sN
  have hst : stepG hearF (runM l i) (l.getD i default) = runM l (i + 1) := rfl
  rw [hst] at sN
  refine T.skip ?_
  refine hK23 _ ?_
  refine T.seqK fun K25 hK25 => ?_
  refine T.block ?_
  refine T.drawD 119 [0, 1, 2, 4, 6, 7, 8, 9, 10, 11, 12, 13, 14, 15, 16, 17, 18, 28, 59, 61, 82] (.take 1 (.take 2 (.take 3 (.take 4 (.one 0 (.one 5 (.one 6 .done))))))) [] rfl (by decide +kernel) (by decide +kernel) fun Kr hKr => ?_
  simp only [go_sem, hb1]
  (repeat (refine ⟨by (first | exact True.intro | omega | rfl | (simp; done) | (simp; omega)), ?_⟩)); try (refine hKr _ ?_; clear hKr Kr)
  refine CallK.data (fun _ => Spec.args (sN) (by (first | exact ArgsLe.refl | (repeat (first | exact True.intro | refine And.intro (by first | exact AvLe.refl | exact AvLe.loose | exact AvLe.nil | exact AvLe.nilT | exact AvLe.slk | (refine AvLe.agg ?_; exact ArgsLe.refl) | (refine AvLe.agg ?_; (repeat (first | exact True.intro | refine And.intro (by first | exact AvLe.refl | exact AvLe.loose | exact AvLe.nil | exact AvLe.nilT | exact AvLe.slk) ?_)))) ?_))))) rfl ?_
  simp only [go_sem]
  (repeat (refine ⟨by (first | exact True.intro | omega | rfl | (simp; done) | (simp; omega)), ?_⟩)); try (refine hKr _ ?_; clear hKr Kr)
  refine hK25 _ ?_
  refine T.regD 119 [0, 1, 2, 4, 6, 7, 8, 9, 10, 11, 12, 13, 14, 15, 16, 17, 18, 28, 59, 61, 82] fun Kr hKr => ?_
  simp only [go_sem]
  (repeat (refine ⟨by (first | exact True.intro | omega | rfl | (simp; done) | (simp; omega)), ?_⟩)); try (refine hKr _ ?_; clear hKr Kr)
  refine ⟨i + 1, ?_, ?_, Le.fitS (by (repeat (first | exact DFit.nil | refine DFit.cons (by first | rfl | (simp [slook]; done) | (simp [slook]; omega)) ?_))) ?_⟩
  · exact ⟨by omega, by omega⟩
  · omega
  · (repeat (first | exact True.intro | refine And.intro (by first | rfl | (simp [look]; done)) ?_))
end Go.Proofs
