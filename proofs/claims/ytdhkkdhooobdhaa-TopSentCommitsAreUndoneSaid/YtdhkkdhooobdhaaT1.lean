/- Commits that are sent and undone: examples; the plain law. -/
import Derived.Test.YtdhkkdhooobdhaaUC
import Derived.Test.YtdhkkdhooobdhaaM2
import Derived.Test.YtdhkkdhooobdhaaQ1
set_option linter.unusedVariables false
set_option linter.unusedSimpArgs false
namespace Go.Proofs
open Go Go.Ideal
set_option maxRecDepth 8000
set_option maxHeartbeats 4000000

theorem good_new (n : Nat) (hn : n ≤ 8) : Good ⟨List.replicate n noDoc, []⟩ :=
  ⟨by simpa using hn, by simp, fun a ha => by simp at ha; simp [repF, List.getD, ha], by simp [Comm], List.Pairwise.nil, by simp, by simp, by simp⟩
theorem good_do {p : Past} {s : Stp} (h : Good p) (h0 : (doU p s).2 = 0) (hs : p.st.length < 90) (ht : s.e.s.length ≤ 1000) : Good (doU p s).1 ∧ ∃ a : Nat, s.app = a ∧ a < p.docs.length ∧ (actF (p.docs.getD a default) s).2 = 0 ∧ (doU p s).1 = ⟨p.docs.set a (actF (p.docs.getD a default) s).1, p.st ++ [s]⟩ ∧ s.und = false ∧ (s.id ≥ 0 → hasS p.st s.id = false ∧ s.e.k = 1) ∧ -1 ≤ s.id := by
  unfold doU at h0
  split at h0
  · cases h0
  rename_i c1
  split at h0
  · cases h0
  rename_i c2
  split at h0
  · cases h0
  rename_i c3
  split at h0
  · rename_i c4; exact absurd h0 c4
  rename_i c4
  have e : doU p s = (⟨p.docs.set s.app.toNat (actF (p.docs.getD s.app.toNat default) s).1, p.st ++ [s]⟩, 0) := by
    unfold doU; rw [if_neg c1, if_neg c2, if_neg c3, if_neg c4]
  simp only [not_or, Bool.not_eq_true] at c1
  obtain ⟨d1, d2, d3, d4⟩ := c1
  obtain ⟨a, ha⟩ : ∃ a : Nat, s.app = a := ⟨s.app.toNat, by omega⟩
  rw [ha] at e c4
  simp only [Int.toNat_natCast] at e c4
  have hal : a < p.docs.length := by omega
  have c3' : s.id ≥ 0 → hasS p.st s.id = false ∧ s.e.k = 1 := by
    intro g
    constructor
    · cases hh : hasS p.st s.id with
      | false => rfl
      | true => exact absurd ⟨g, .inr hh⟩ c3
    · by_cases hk : s.e.k = 1
      · exact hk
      · exact absurd ⟨g, .inl hk⟩ c3
  refine ⟨?_, a, ha, hal, by omega, by rw [e], d3, c3', by omega⟩
  rw [e]
  refine ⟨by simpa using h.dl, by simp; omega, fun b hb => ?_, ?_, ?_, ?_, ?_, ?_⟩
  · simp only [List.length_set] at hb
    show repF b (p.st ++ [s]) noDoc = _
    rw [rep_join (h.rep b hb)]
    by_cases hab : b = a
    · subst hab
      simp only [repF]
      rw [if_neg (by rw [ha, d3]; simp), if_neg c4]
      simp [List.getD, hal]
    · rw [rep_gone (.inl (by omega))]
      simp only [repF]
      congr 1
      simp only [List.getD]
      rw [List.getElem?_set_ne (by omega)]
  · intro x hx
    rcases List.mem_append.1 hx with hx | hx
    · exact h.com x hx
    · simp only [List.mem_singleton] at hx; subst hx; exact fun g => (c3' g).2
  · refine List.pairwise_append.2 ⟨h.dst, by simp, fun x hx y hy => ?_⟩
    simp only [List.mem_singleton] at hy; subst hy
    intro hx0 he
    have := (c3' (by omega)).1
    have h2 : hasS p.st y.id = true := List.any_eq_true.2 ⟨x, hx, by simpa using he.symm⟩
    rw [this] at h2; cases h2
  · intro x hx
    simp only [List.length_set]
    rcases List.mem_append.1 hx with hx | hx
    · exact h.app x hx
    · simp only [List.mem_singleton] at hx; subst hx; omega
  · intro x hx
    rcases List.mem_append.1 hx with hx | hx
    · exact h.txt x hx
    · simp only [List.mem_singleton] at hx; subst hx; exact ht
  · intro x hx
    rcases List.mem_append.1 hx with hx | hx
    · exact h.idr x hx
    · simp only [List.mem_singleton] at hx; subst hx; omega

/-! ### Examples -/
def exS : Stp := ⟨0, 0, ⟨1, 0, 0, 0, [97, 98]⟩, false⟩
def exP : Past := ⟨[⟨[97, 98], [⟨0, 0, 2, true⟩]⟩], [exS]⟩
theorem exP_eq : doU ⟨[noDoc], []⟩ exS = (exP, 0) := by decide +kernel
theorem exQ_eq : undU exP 0 = (⟨[noDoc], [⟨0, 0, ⟨1, 0, 0, 0, [97, 98]⟩, true⟩]⟩, [], 0) := by decide +kernel
theorem exR_eq : recvF ⟨noDoc, [], []⟩ 0 ⟨1, 0, 0, [97, 98]⟩ = (⟨⟨[97, 98], [⟨0, 0, 2, true⟩]⟩, [0], []⟩, [⟨2, 0, 0, []⟩]) := by decide +kernel
theorem exP_good : Good exP := by
  have := (good_do (good_new 1 (by decide)) (s := exS) (by show (doU ⟨[noDoc], []⟩ exS).2 = 0; rw [exP_eq]) (by simp) (by simp [exS])).1
  rwa [show (doU ⟨List.replicate 1 noDoc, []⟩ exS) = (exP, 0) from exP_eq] at this
theorem sanity33_spec : Ideal.Spec Try.prog 5 [] (.bool true) none := by
  have s1 := New_spec 1 (by decide)
  have s2 := (good_new 1 (by decide)).Do_spec exS (by simp [exS])
  rw [show (doU ⟨List.replicate 1 noDoc, []⟩ exS) = (exP, 0) from exP_eq] at s2
  have s3 := exP_good.Undo_spec 0
  rw [exQ_eq] at s3
  have s4 := Receive_spec ⟨noDoc, [], []⟩ 0 ⟨1, 0, 0, [97, 98]⟩ ⟨noDoc_ok, by simp, by simp⟩ (by simp)
  rw [exR_eq] at s4
  refine Ideal.Spec.of_TD (n := 77) (fn := Try.f5) rfl rfl rfl rfl rfl rfl rfl fun w ok => ?_
  refine T.sregD 77 [0, 1, 2, 3, 4, 5, 6, 7] fun Kr hKr => ?_
  simp only [go_sem, reduceCtorEq, Nat.reduceEqDiff, Nat.reduceBEq, Nat.reduceAdd, Nat.reduceMul, Nat.reduceLeDiff, Nat.reduceSub, Int.reduceToNat, Int.reduceNeg, Nat.reduceLT, Int.reduceMul, Int.reduceSub, Int.reduceAdd, Int.reduceLT, Int.reduceLE, Int.reduceGE, Int.reduceGT, Int.reduceDiv, Int.reduceMod, Int.reduceEq, Int.reducePow, Nat.reducePow, Nat.reduceDiv, Nat.reduceMod]
  (repeat (refine ⟨by (first | exact True.intro | omega | rfl | (simp; done) | (simp; omega)), ?_⟩)); try (refine hKr _ ?_; clear hKr Kr)
  refine T.sregD 77 [0, 1, 2, 3, 4, 5, 6, 7] fun Kr hKr => ?_
  simp only [go_sem, reduceCtorEq, Nat.reduceEqDiff, Nat.reduceBEq, Nat.reduceAdd, Nat.reduceMul, Nat.reduceLeDiff, Nat.reduceSub, Int.reduceToNat, Int.reduceNeg, Nat.reduceLT, Int.reduceMul, Int.reduceSub, Int.reduceAdd, Int.reduceLT, Int.reduceLE, Int.reduceGE, Int.reduceGT, Int.reduceDiv, Int.reduceMod, Int.reduceEq, Int.reducePow, Nat.reducePow, Nat.reduceDiv, Nat.reduceMod]
  (repeat (refine ⟨by (first | exact True.intro | omega | rfl | (simp; done) | (simp; omega)), ?_⟩)); try (refine hKr _ ?_; clear hKr Kr)
  refine CallK.data (fun _ => Spec.args (s1) (by (first | exact ArgsLe.refl | (repeat (first | exact True.intro | refine And.intro (by first | exact AvLe.refl | exact AvLe.loose | exact AvLe.nil | exact AvLe.nilT | exact AvLe.slk | (refine AvLe.agg ?_; exact ArgsLe.refl) | (refine AvLe.agg ?_; (repeat (first | exact True.intro | refine And.intro (by first | exact AvLe.refl | exact AvLe.loose | exact AvLe.nil | exact AvLe.nilT | exact AvLe.slk) ?_)))) ?_))))) rfl ?_
  simp only [go_sem, reduceCtorEq, Nat.reduceEqDiff, Nat.reduceBEq, Nat.reduceAdd, Nat.reduceMul, Nat.reduceLeDiff, Nat.reduceSub, Int.reduceToNat, Int.reduceNeg, Nat.reduceLT, Int.reduceMul, Int.reduceSub, Int.reduceAdd, Int.reduceLT, Int.reduceLE, Int.reduceGE, Int.reduceGT, Int.reduceDiv, Int.reduceMod, Int.reduceEq, Int.reducePow, Nat.reducePow, Nat.reduceDiv, Nat.reduceMod]
  (repeat (refine ⟨by (first | exact True.intro | omega | rfl | (simp; done) | (simp; omega)), ?_⟩)); try (refine hKr _ ?_; clear hKr Kr)
  refine CallK.tup (fun _ => Spec.args (s2) (by (first | exact ArgsLe.refl | (repeat (first | exact True.intro | refine And.intro (by first | exact AvLe.refl | exact AvLe.loose | exact AvLe.nil | exact AvLe.nilT | exact AvLe.slk | (refine AvLe.agg ?_; exact ArgsLe.refl) | (refine AvLe.agg ?_; (repeat (first | exact True.intro | refine And.intro (by first | exact AvLe.refl | exact AvLe.loose | exact AvLe.nil | exact AvLe.nilT | exact AvLe.slk) ?_)))) ?_))))) ?_
  simp only [go_sem, reduceCtorEq, Nat.reduceEqDiff, Nat.reduceBEq, Nat.reduceAdd, Nat.reduceMul, Nat.reduceLeDiff, Nat.reduceSub, Int.reduceToNat, Int.reduceNeg, Nat.reduceLT, Int.reduceMul, Int.reduceSub, Int.reduceAdd, Int.reduceLT, Int.reduceLE, Int.reduceGE, Int.reduceGT, Int.reduceDiv, Int.reduceMod, Int.reduceEq, Int.reducePow, Nat.reducePow, Nat.reduceDiv, Nat.reduceMod]
  (repeat (refine ⟨by (first | exact True.intro | omega | rfl | (simp; done) | (simp; omega)), ?_⟩)); try (refine hKr _ ?_; clear hKr Kr)
  refine T.sregD 77 [0, 1, 2, 3, 4, 5, 6, 7] fun Kr hKr => ?_
  simp only [go_sem, reduceCtorEq, Nat.reduceEqDiff, Nat.reduceBEq, Nat.reduceAdd, Nat.reduceMul, Nat.reduceLeDiff, Nat.reduceSub, Int.reduceToNat, Int.reduceNeg, Nat.reduceLT, Int.reduceMul, Int.reduceSub, Int.reduceAdd, Int.reduceLT, Int.reduceLE, Int.reduceGE, Int.reduceGT, Int.reduceDiv, Int.reduceMod, Int.reduceEq, Int.reducePow, Nat.reducePow, Nat.reduceDiv, Nat.reduceMod]
  (repeat (refine ⟨by (first | exact True.intro | omega | rfl | (simp; done) | (simp; omega)), ?_⟩)); try (refine hKr _ ?_; clear hKr Kr)
  refine CallK.tup (fun _ => Spec.args (s3) (by (first | exact ArgsLe.refl | (repeat (first | exact True.intro | refine And.intro (by first | exact AvLe.refl | exact AvLe.loose | exact AvLe.nil | exact AvLe.nilT | exact AvLe.slk | (refine AvLe.agg ?_; exact ArgsLe.refl) | (refine AvLe.agg ?_; (repeat (first | exact True.intro | refine And.intro (by first | exact AvLe.refl | exact AvLe.loose | exact AvLe.nil | exact AvLe.nilT | exact AvLe.slk) ?_)))) ?_))))) ?_
  simp only [go_sem, reduceCtorEq, Nat.reduceEqDiff, Nat.reduceBEq, Nat.reduceAdd, Nat.reduceMul, Nat.reduceLeDiff, Nat.reduceSub, Int.reduceToNat, Int.reduceNeg, Nat.reduceLT, Int.reduceMul, Int.reduceSub, Int.reduceAdd, Int.reduceLT, Int.reduceLE, Int.reduceGE, Int.reduceGT, Int.reduceDiv, Int.reduceMod, Int.reduceEq, Int.reducePow, Nat.reducePow, Nat.reduceDiv, Nat.reduceMod]
  (repeat (refine ⟨by (first | exact True.intro | omega | rfl | (simp; done) | (simp; omega)), ?_⟩)); try (refine hKr _ ?_; clear hKr Kr)
  refine T.sregD 77 [0, 1, 2, 3, 4, 5, 6, 7] fun Kr hKr => ?_
  simp only [go_sem, reduceCtorEq, Nat.reduceEqDiff, Nat.reduceBEq, Nat.reduceAdd, Nat.reduceMul, Nat.reduceLeDiff, Nat.reduceSub, Int.reduceToNat, Int.reduceNeg, Nat.reduceLT, Int.reduceMul, Int.reduceSub, Int.reduceAdd, Int.reduceLT, Int.reduceLE, Int.reduceGE, Int.reduceGT, Int.reduceDiv, Int.reduceMod, Int.reduceEq, Int.reducePow, Nat.reducePow, Nat.reduceDiv, Nat.reduceMod]
  (repeat (refine ⟨by (first | exact True.intro | omega | rfl | (simp; done) | (simp; omega)), ?_⟩)); try (refine hKr _ ?_; clear hKr Kr)
  refine CallK.tup (fun _ => Spec.args (s4) (by (first | exact ArgsLe.refl | (repeat (first | exact True.intro | refine And.intro (by first | exact AvLe.refl | exact AvLe.loose | exact AvLe.nil | exact AvLe.nilT | exact AvLe.slk | (refine AvLe.agg ?_; exact ArgsLe.refl) | (refine AvLe.agg ?_; (repeat (first | exact True.intro | refine And.intro (by first | exact AvLe.refl | exact AvLe.loose | exact AvLe.nil | exact AvLe.nilT | exact AvLe.slk) ?_)))) ?_))))) ?_
  simp only [go_sem, reduceCtorEq, Nat.reduceEqDiff, Nat.reduceBEq, Nat.reduceAdd, Nat.reduceMul, Nat.reduceLeDiff, Nat.reduceSub, Int.reduceToNat, Int.reduceNeg, Nat.reduceLT, Int.reduceMul, Int.reduceSub, Int.reduceAdd, Int.reduceLT, Int.reduceLE, Int.reduceGE, Int.reduceGT, Int.reduceDiv, Int.reduceMod, Int.reduceEq, Int.reducePow, Nat.reducePow, Nat.reduceDiv, Nat.reduceMod]
  (repeat (refine ⟨by (first | exact True.intro | omega | rfl | (simp; done) | (simp; omega)), ?_⟩)); try (refine hKr _ ?_; clear hKr Kr)
  have f1 : docsOf [noDoc] = [.agg [.str [], .sl false 4 []]] := rfl
  have f2 : docsOf exP.docs = [.agg [.str [97, 98], .sl false 4 (mksOf [⟨0, 0, 2, true⟩])]] := rfl
  have f3 : pksOf [⟨2, 0, 0, []⟩] = [.agg [.int .i64 2, .int .i64 0, .int .i64 0, .str []]] := rfl
  refine T.sregD 77 [0, 1, 2, 3, 4, 5, 6, 7] fun Kr hKr => ?_
  simp only [go_sem, reduceCtorEq, Nat.reduceEqDiff, Nat.reduceBEq, Nat.reduceAdd, Nat.reduceMul, Nat.reduceLeDiff, Nat.reduceSub, Int.reduceToNat, Int.reduceNeg, Nat.reduceLT, Int.reduceMul, Int.reduceSub, Int.reduceAdd, Int.reduceLT, Int.reduceLE, Int.reduceGE, Int.reduceGT, Int.reduceDiv, Int.reduceMod, Int.reduceEq, Int.reducePow, Nat.reducePow, Nat.reduceDiv, Nat.reduceMod, f1, f2, f3]
  (repeat (refine ⟨by (first | exact True.intro | omega | rfl | (simp; done) | (simp; omega)), ?_⟩)); try (refine hKr _ ?_; clear hKr Kr)
  refine T.ret (Fin.dataD (by rfl) rfl rfl)

/-! ### The state after some arrivals -/
def pkOf (x : MRaw) : Packet := ⟨1, 0, (newF x).id, (newF x).s⟩
def stpOf (c : Client) (x : MRaw) : Stp := ⟨0, (newF x).id, ⟨1, c.d.s.length, 0, 0, (newF x).s⟩, false⟩
def sentN (l : List MRaw) : Nat → Client × Past
  | 0 => (⟨noDoc, [], []⟩, ⟨[noDoc], []⟩)
  | i + 1 =>
    let r := (recvF (sentN l i).1 0 (pkOf (l.getD i default))).1
    (r, if r.has.length > (sentN l i).1.has.length then (doU (sentN l i).2 (stpOf (sentN l i).1 (l.getD i default))).1 else (sentN l i).2)
structure SInv (i : Nat) (c : Client) (p : Past) : Prop where
  good : Good p
  docs : p.docs = [c.d]
  okc : OkD c.d
  cnt : p.st.length = c.has.length
  hasL : c.has.length ≤ i
  refL : c.ref.length ≤ i
  ids : ∀ id, id ∈ c.has ↔ ∃ s ∈ p.st, s.id = id
  shp : ∀ s ∈ p.st, s.app = 0 ∧ s.id ≥ 0 ∧ s.und = false ∧ s.e.k = 1 ∧ fstM s ∈ c.d.m ∧ s.e.a + (s.e.s.length : Int) ≤ (c.d.s.length : Int)
  ord : p.st.Pairwise fun a b => a.e.a + (a.e.s.length : Int) ≤ b.e.a
theorem mem_withL {l : List Int} {id x : Int} : x ∈ withL l id ↔ x = id ∨ x ∈ l := by
  unfold withL
  have := List.takeWhile_append_dropWhile (p := fun x => decide (x < id)) (l := l)
  constructor
  · intro h
    rcases List.mem_append.1 h with h | h
    · exact .inr ((List.takeWhile_sublist _).mem h)
    · rcases List.mem_cons.1 h with h | h
      · exact .inl h
      · exact .inr ((List.dropWhile_sublist _).mem h)
  · rintro (h | h)
    · exact List.mem_append.2 (.inr (by simp [h]))
    · rw [← this] at h
      rcases List.mem_append.1 h with h | h
      · exact List.mem_append.2 (.inl h)
      · exact List.mem_append.2 (.inr (by simp [h]))
theorem hasN_mem {l : List Int} {id : Int} : hasN l id = true ↔ id ∈ l := by simp [hasN]
theorem sinv_step {i : Nat} {c : Client} {p : Past} (x : MRaw) (h : SInv i c p) (hi : i < 12) :
    (recvF c 0 (pkOf x)).2.length = 1 ∧
      let r := (recvF c 0 (pkOf x)).1
      (r.has.length > c.has.length → (doU p (stpOf c x)).2 = 0) ∧ SInv (i + 1) r (if r.has.length > c.has.length then (doU p (stpOf c x)).1 else p) := by
  obtain ⟨n1, n2, n3, n4⟩ := noteT_ok x.t.toNat
  have hid : 0 ≤ (newF x).id ∧ (newF x).id < 12 := by show 0 ≤ (x.i.toNat : Int) % 12 ∧ (x.i.toNat : Int) % 12 < 12; omega
  have hs : (newF x).s = noteT x.t.toNat := rfl
  have hsub : subB 0 (pkOf x) = true := by
    unfold subB pkOf idB
    simp only [hs, n1, decide_true, Bool.true_and, Bool.and_true, Bool.and_eq_true, decide_eq_true_eq]
    omega
  have hr : recvF c 0 (pkOf x) = ((decF c 0 (newF x).id (newF x).s).1, [(decF c 0 (newF x).id (newF x).s).2]) := by
    unfold recvF; rw [if_pos hsub]; rfl
  rw [hr]
  refine ⟨rfl, ?_⟩
  simp only
  have weak : SInv (i + 1) c p := ⟨h.good, h.docs, h.okc, h.cnt, by have := h.hasL; omega, by have := h.refL; omega, h.ids, h.shp, h.ord⟩
  have hhas := h.hasL
  have href := h.refL
  by_cases h1 : hasN c.has (newF x).id = true
  · have e : decF c 0 (newF x).id (newF x).s = (c, ackP 0 (newF x).id) := by unfold decF; rw [if_pos h1]
    rw [e]
    exact ⟨fun g => absurd g (by simp), by rw [if_neg (by simp)]; exact weak⟩
  by_cases h2 : hasN c.ref (newF x).id = true
  · have e : decF c 0 (newF x).id (newF x).s = (c, rejP 0 (newF x).id) := by unfold decF; rw [if_neg h1, if_pos h2]
    rw [e]
    exact ⟨fun g => absurd g (by simp), by rw [if_neg (by simp)]; exact weak⟩
  by_cases h3 : (putF c.d (newF x).id c.d.s.length (newF x).s).2 = 0
  rotate_left
  · have e : decF c 0 (newF x).id (newF x).s = (⟨c.d, c.has, withL c.ref (newF x).id⟩, rejP 0 (newF x).id) := by unfold decF; rw [if_neg h1, if_neg h2, if_pos h3]
    rw [e]
    refine ⟨fun g => absurd g (by simp), ?_⟩
    rw [if_neg (by simp)]
    exact ⟨h.good, h.docs, h.okc, h.cnt, by show c.has.length ≤ i + 1; omega, by show (withL c.ref _).length ≤ i + 1; rw [withL_len]; omega, h.ids, h.shp, h.ord⟩
  have e : decF c 0 (newF x).id (newF x).s = (⟨(putF c.d (newF x).id c.d.s.length (newF x).s).1, withL c.has (newF x).id, c.ref⟩, ackP 0 (newF x).id) := by unfold decF; rw [if_neg h1, if_neg h2, if_neg (by omega)]
  rw [e]
  simp only
  have hlt : (withL c.has (newF x).id).length > c.has.length := by rw [withL_len]; omega
  rw [if_pos hlt]
  have hact : actF c.d (stpOf c x) = putF c.d (newF x).id c.d.s.length (newF x).s := by unfold actF; rw [if_pos (show (stpOf c x).id ≥ 0 from hid.1)]; rfl
  have hfresh : hasS p.st (newF x).id = false := by
    cases hh : hasS p.st (newF x).id with
    | false => rfl
    | true =>
      obtain ⟨s, hs1, hs2⟩ := List.any_eq_true.1 hh
      exact absurd (hasN_mem.2 ((h.ids _).2 ⟨s, hs1, by simpa using hs2⟩)) h1
  have hst : p.st.length < 12 := by have := h.cnt; omega
  have hd : doU p (stpOf c x) = (⟨[(putF c.d (newF x).id c.d.s.length (newF x).s).1], p.st ++ [stpOf c x]⟩, 0) := by
    unfold doU
    rw [if_neg (by rw [h.docs]; simp [stpOf]; omega), if_neg (by omega), if_neg (by rintro ⟨_, g | g⟩; exact absurd rfl g; rw [show (stpOf c x).id = (newF x).id from rfl, hfresh] at g; cases g)]
    have e0 : p.docs.getD (stpOf c x).app.toNat default = c.d := by rw [h.docs]; rfl
    rw [e0, hact, if_neg (by omega), h.docs]; rfl
  have z : (doU p (stpOf c x)).2 = 0 := by rw [hd]
  refine ⟨fun _ => z, ?_⟩
  obtain ⟨g1, a, _, _, _, _, _, _, _⟩ := good_do h.good z (by omega) (by show (newF x).s.length ≤ 1000; rw [hs]; omega)
  have E := act_eff h.okc (s := stpOf c x) (fun _ => rfl) (by rw [hact]; exact h3)
  rw [hd] at g1 ⊢
  simp only at g1 ⊢
  have hP : (actF c.d (stpOf c x)).1 = (putF c.d (newF x).id c.d.s.length (newF x).s).1 := by rw [hact]
  have hlen : ((actF c.d (stpOf c x)).1.s.length : Int) = c.d.s.length + (newF x).s.length := by
    rw [E.txt, chg_len E.poss, if_pos (show (stpOf c x).e.k = 1 from rfl)]; rfl
  refine ⟨g1, rfl, by rw [← hP]; exact E.ok, by simp only [List.length_append, List.length_singleton, withL_len, h.cnt], by rw [withL_len]; omega, by show c.ref.length ≤ i + 1; omega, fun id => ?_, fun s hs0 => ?_, ?_⟩
  · rw [mem_withL, h.ids]
    constructor
    · rintro (g | ⟨s, s1, s2⟩)
      · exact ⟨stpOf c x, by simp, g.symm⟩
      · exact ⟨s, by simp [s1], s2⟩
    · rintro ⟨s, s1, s2⟩
      rcases List.mem_append.1 s1 with s1 | s1
      · exact .inr ⟨s, s1, s2⟩
      · simp only [List.mem_singleton] at s1; subst s1; exact .inl s2.symm
  · rw [← hP]
    rcases List.mem_append.1 hs0 with s1 | s1
    · obtain ⟨a1, a2, a3, a4, a5, a6⟩ := h.shp s s1
      refine ⟨a1, a2, a3, a4, ?_, by simp only; omega⟩
      refine E.car _ a5 _ ?_
      rw [carM_ins rfl]
      unfold insM
      rw [if_pos (show (fstM s).t ≤ (stpOf c x).e.a from a6)]
    · simp only [List.mem_singleton] at s1; subst s1
      refine ⟨rfl, hid.1, rfl, rfl, (E.put hid.1).1, ?_⟩
      rw [hlen]; exact Int.le_refl _
  · refine List.pairwise_append.2 ⟨h.ord, by simp, fun s hs1 y hy => ?_⟩
    simp only [List.mem_singleton] at hy; subst hy
    exact (h.shp s hs1).2.2.2.2.2
theorem sinv_all (l : List MRaw) : ∀ i, i ≤ 12 → SInv i (sentN l i).1 (sentN l i).2
  | 0, _ => ⟨good_new 1 (by decide), rfl, noDoc_ok, rfl, by simp [sentN], by simp [sentN], by simp [sentN], by simp [sentN], List.Pairwise.nil⟩
  | i + 1, hi => (sinv_step (l.getD i default) (sinv_all l i (by omega)) (by omega)).2.2
/-- Later ends do not tear. -/
theorem chw_end (m : Mark) : ∀ l : List Stp, m.w = true → (∀ s ∈ l, s.e.k = 1 ∧ m.t ≤ s.e.a) → ChW 0 m l ∧ endM 0 m l = m
  | [], _, _ => ⟨trivial, rfl⟩
  | s :: l, hw, h => by
    obtain ⟨r1, r2⟩ := chw_end m l hw fun x hx => h x (by simp [hx])
    obtain ⟨h1, h2⟩ := h s (by simp)
    have e : carM s.e m = some m := by rw [carM_ins h1]; unfold insM; rw [if_pos h2]
    simp only [ChW, endM]
    by_cases g : goneS 0 s
    · rw [if_pos g, if_pos g]; exact ⟨r1, r2⟩
    · rw [if_neg g, if_neg g, e]
      exact ⟨⟨m, rfl, hw, r1⟩, r2⟩
theorem sub_cut {s : List UInt8} {f t x y : Int} (hm : 0 ≤ f ∧ f < t ∧ t ≤ s.length) (hx : 0 ≤ x ∧ x < y ∧ y ≤ s.length) (hd : Dsj f t x y) : sub (cutN s f.toNat t.toNat) (x + wx f t x) (y + wx f t x) = sub s x y := by
  obtain ⟨f, rfl⟩ : ∃ n : Nat, f = n := ⟨f.toNat, by omega⟩
  obtain ⟨t, rfl⟩ : ∃ n : Nat, t = n := ⟨t.toNat, by omega⟩
  obtain ⟨x, rfl⟩ : ∃ n : Nat, x = n := ⟨x.toNat, by omega⟩
  obtain ⟨y, rfl⟩ : ∃ n : Nat, y = n := ⟨y.toNat, by omega⟩
  unfold Dsj at hd
  simp only [Int.toNat_natCast]
  apply List.ext_getElem?
  intro i
  rw [sub_get]
  unfold wx
  split
  · rw [Int.add_zero, Int.add_zero, sub_get, cut_get _ ⟨by omega, by omega⟩]
    (repeat' split) <;> first | rfl | (exfalso; omega)
  · rw [show (x : Int) + ((f : Int) - t) = ((x - (t - f) : Nat) : Int) by omega, show (y : Int) + ((f : Int) - t) = ((y - (t - f) : Nat) : Int) by omega, sub_get, cut_get _ ⟨by omega, by omega⟩]
    (repeat' split) <;> first | rfl | (exfalso; omega) | (congr 1; omega)
/-- What the texts are behind an undoing. -/
theorem undone_text {D D' : Doc} {m x : Mark} (h : Rel D D' m) (hx : x ∈ D.m) (hw : x.w = true) (hne : x.id ≠ m.id) : txtF D' x.id = (sub D.s x.f x.t, 0) ∧ txtF D x.id = (sub D.s x.f x.t, 0) := by
  obtain ⟨h1, h2⟩ := h.oth x hx hw hne
  refine ⟨?_, txt_mem h.ok hx⟩
  have := txt_mem h.ok' h2
  rw [show (wxM m x).id = x.id from rfl] at this
  rw [this, h.txt]
  congr 1
  exact sub_cut (h.ok.mks m h.mem).2 (h.ok.mks x hx).2 h1
end Go.Proofs
