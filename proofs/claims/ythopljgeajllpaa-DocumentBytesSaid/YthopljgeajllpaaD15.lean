/- Documents: the bytes of a text after an edit. -/
import Derived.Test.YthopljgeajllpaaD12
import Derived.Test.YthopljgeajllpaaD13
set_option linter.unusedVariables false
set_option linter.unusedSimpArgs false
namespace Go.Proofs
open Go Go.Ideal
set_option maxRecDepth 8000
set_option maxHeartbeats 4000000

/-! ### Counting bytes -/
def i95 (L : List Int) : List AV := L.map (.int .i64)
@[go_sem] theorem i95_len (L : List Int) : (i95 L).length = L.length := by simp [i95]
@[go_sem] theorem i95_take (L : List Int) (n : Nat) : (i95 L).take n = i95 (L.take n) := by simp [i95]
@[go_sem] theorem i95_drop (L : List Int) (n : Nat) : (i95 L).drop n = i95 (L.drop n) := by simp [i95]
@[go_sem] theorem i95_get {L : List Int} {i : Nat} (h : i < L.length) : (i95 L).getD i .junk = .int .i64 (L.getD i 0) := by simp [i95, List.getD, h]
@[go_sem] theorem i95_all (L : List Int) : (i95 L).all AV.data0 = true := by
  rw [List.all_eq_true]; intro x hx
  obtain ⟨n, _, rfl⟩ := List.mem_map.1 hx; rfl
theorem i95_set {L : List Int} {i : Nat} (h : i < L.length) (v : Int) : i95 (L.take i) ++ AV.int .i64 v :: i95 (L.drop (i + 1)) = i95 (L.set i v) := by
  simp only [i95]
  rw [show (AV.int .i64 v :: (L.drop (i + 1)).map (AV.int .i64)) = (v :: L.drop (i + 1)).map (AV.int .i64) from rfl, ← List.map_append]
  congr 1
  rw [List.set_eq_take_append_cons_drop, if_pos h]
@[go_sem] theorem i95_nil : i95 [] = [] := rfl
@[go_sem] theorem i95_kill (L : List Int) (k : Nat) : (i95 L).map (AV.kill0 k) = i95 L := by
  simp only [i95, List.map_map]
  exact List.map_congr_left fun n _ => rfl
@[go_sem] theorem i95_nm (L : List Int) : (i95 L).flatMap AV.nm0 = [] := by
  rw [List.flatMap_eq_nil_iff]; intro x hx
  obtain ⟨n, _, rfl⟩ := List.mem_map.1 hx; rfl
theorem eqC_same (n : Int) : eqC 0 (.int .i64 n) (.int .i64 n) = (True, true) := by simp [eqC]
@[go_sem] theorem i95_eq {L : List Int} (h : L.length = 95) : eqL (i95 L) (i95 L) ((List.range 95).map fun i => (i, 0)) = (True, true) := by
  have key : ∀ is : List Nat, (∀ i ∈ is, i < 95) → eqL (i95 L) (i95 L) (is.map fun i => (i, 0)) = (True, true) := by
    intro is
    induction is with
    | nil => intro _; rfl
    | cons i is ih =>
      intro hi
      have h1 : i < L.length := by rw [h]; exact hi i (by simp)
      simp only [List.map_cons, eqL, ih fun j hj => hi j (by simp [hj]), i95_get h1, eqC_same, i95_len, h1, and_self, Bool.and_self]
  exact key _ (fun i hi => by simpa using hi)
@[go_sem] theorem Try.z44' : zeroAV Try.prog 44 = some (.agg (i95 (List.replicate 95 0))) := rfl
@[go_sem] theorem Try.p44' : placesOf Try.prog 44 = some ((List.range 95).map fun i => (i * 1, 1)) := rfl
def bump (L : List Int) (b : UInt8) : List Int := if okB b = true then L.set (b.toNat - 32) (L.getD (b.toNat - 32) 0 + 1) else L
def cntL (s : List UInt8) : List Int := s.foldl bump (List.replicate 95 0)
theorem bump_len (L : List Int) (b : UInt8) : (bump L b).length = L.length := by unfold bump; split <;> simp
theorem cntL_len (s : List UInt8) : (cntL s).length = 95 := by
  have : ∀ (L : List Int), (s.foldl bump L).length = L.length := by
    induction s with
    | nil => intro L; rfl
    | cons b s ih => intro L; rw [List.foldl_cons, ih, bump_len]
  rw [cntL, this]; simp
theorem bump_comm (L : List Int) (a b : UInt8) : bump (bump L a) b = bump (bump L b) a := by
  by_cases h : a = b
  · rw [h]
  unfold bump
  by_cases ha : okB a = true
  · by_cases hb : okB b = true
    · rw [if_pos ha, if_pos hb, if_pos hb, if_pos ha]
      have hne : a.toNat - 32 ≠ b.toNat - 32 := by
        intro e
        simp only [okB, Bool.not_eq_true', Bool.or_eq_false_iff, decide_eq_false_iff_not] at ha hb
        exact h (UInt8.toNat_inj.1 (by omega))
      rw [List.set_comm _ _ hne]
      simp only [List.getD_eq_getElem?_getD, List.getElem?_set_ne hne, List.getElem?_set_ne (Ne.symm hne)]
    · rw [if_pos ha, if_neg hb, if_neg hb, if_pos ha]
  · by_cases hb : okB b = true
    · rw [if_neg ha, if_pos hb, if_neg ha]
    · rw [if_neg ha, if_neg hb, if_neg ha]
theorem cntL_perm {s t : List UInt8} (h : s.Perm t) : cntL s = cntL t :=
  List.Perm.foldl_eq' h (fun a _ b _ L => bump_comm L a b) _
theorem cntL_bound (s : List UInt8) (i : Nat) : 0 ≤ (cntL s).getD i 0 ∧ (cntL s).getD i 0 ≤ s.length := by
  have : ∀ (L : List Int) (n : Nat), (∀ i, 0 ≤ L.getD i 0 ∧ L.getD i 0 ≤ n) → ∀ i, 0 ≤ (s.foldl bump L).getD i 0 ∧ (s.foldl bump L).getD i 0 ≤ (n + s.length : Nat) := by
    induction s with
    | nil => intro L n h i; simpa using h i
    | cons b s ih =>
      intro L n h i
      rw [List.foldl_cons]
      have := ih (bump L b) (n + 1) (fun j => by
        unfold bump
        have hj := h j
        split
        · simp only [List.getD_eq_getElem?_getD, List.getElem?_set] at hj ⊢
          split
          · split
            · rename_i e _; simp only [Option.getD_some]
              have := h (b.toNat - 32)
              simp only [List.getD_eq_getElem?_getD] at this
              omega
            · simp
              omega
          · omega
        · omega) i
      simp only [List.length_cons]; omega
  have := this (List.replicate 95 0) 0 (fun j => by
    simp only [List.getD_eq_getElem?_getD, List.getElem?_replicate]
    split <;> simp) i
  simpa [cntL] using this
theorem cntL_step {s : List UInt8} {i : Nat} (h : i < s.length) : cntL (s.take (i + 1)) = bump (cntL (s.take i)) (s.getD i 0) := by
  have : s.take (i + 1) = s.take i ++ [s.getD i 0] := by rw [List.take_add_one]; simp [List.getD, h]
  rw [this, cntL, List.foldl_append]; rfl
theorem count_spec (s : List UInt8) (hl : s.length ≤ 100000) : Ideal.Spec Try.prog 16 [.str s] (.agg (i95 (cntL s))) none := by
  refine Ideal.Spec.of_CD (n := 31) (fn := Try.f16) rfl rfl rfl rfl rfl rfl rfl fun w ok => ?_
  refine T.post [.tmp 2] ?_
  refine T.sregD 31 [0, 2, 3, 4, 9, 21] fun Kr hKr => ?_
  simp only [go_sem, reduceCtorEq, Nat.reduceEqDiff, Nat.reduceBEq, Nat.reduceAdd, Nat.reduceMul, Nat.reduceLeDiff, Nat.reduceSub, Int.reduceToNat, Int.reduceNeg, Nat.reduceLT, Int.reduceMul, Int.reduceSub, Int.reduceAdd, Int.reduceLT, Int.reduceLE, Int.reduceGE, Int.reduceGT, Int.reduceDiv, Int.reduceMod, Int.reduceEq, Int.reducePow, Nat.reducePow, Nat.reduceDiv, Nat.reduceMod, List.length_replicate]
  (repeat (refine ⟨by (first | exact True.intro | omega | rfl | (simp; done) | (simp; omega)), ?_⟩)); try (refine hKr _ ?_; clear hKr Kr)
  refine T.sregD 31 [0, 2, 3, 4, 9, 21] fun Kr hKr => ?_
  simp only [go_sem, reduceCtorEq, Nat.reduceEqDiff, Nat.reduceBEq, Nat.reduceAdd, Nat.reduceMul, Nat.reduceLeDiff, Nat.reduceSub, Int.reduceToNat, Int.reduceNeg, Nat.reduceLT, Int.reduceMul, Int.reduceSub, Int.reduceAdd, Int.reduceLT, Int.reduceLE, Int.reduceGE, Int.reduceGT, Int.reduceDiv, Int.reduceMod, Int.reduceEq, Int.reducePow, Nat.reducePow, Nat.reduceDiv, Nat.reduceMod, List.length_replicate, List.drop_replicate, Nat.sub_self, List.replicate_zero]
  (repeat (refine ⟨by (first | exact True.intro | omega | rfl | (simp; done) | (simp; omega)), ?_⟩)); try (refine hKr _ ?_; clear hKr Kr)
  refine T.seqK fun K1 hK1 => ?_
  refine T.sregD 31 [0, 2, 3, 4, 9, 21] fun Kr hKr => ?_
  simp only [go_sem, reduceCtorEq, Nat.reduceEqDiff, Nat.reduceBEq, Nat.reduceAdd, Nat.reduceMul, Nat.reduceLeDiff, Nat.reduceSub, Int.reduceToNat, Int.reduceNeg, Nat.reduceLT, Int.reduceMul, Int.reduceSub, Int.reduceAdd, Int.reduceLT, Int.reduceLE, Int.reduceGE, Int.reduceGT, Int.reduceDiv, Int.reduceMod, Int.reduceEq, Int.reducePow, Nat.reducePow, Nat.reduceDiv, Nat.reduceMod]
  (repeat (refine ⟨by (first | exact True.intro | omega | rfl | (simp; done) | (simp; omega)), ?_⟩)); try (refine hKr _ ?_; clear hKr Kr)
  refine T.bloop (fun i : Nat => ⟨dense 31 [(0, .str s), (2, .op 2 0 0), (3, .op 3 0 0), (4, .int .i64 i)], [(3, ⟨95, 44, true, [.agg (i95 (cntL (s.take i)))]⟩), (2, ⟨95, 44, true, [.agg (i95 (List.replicate 95 0))]⟩)]⟩) (fun i => i ≤ s.length) (fun i => s.length - i) 0 (by simp) ?_ fun i hi => ?_
  · refine Le.fitS (by (repeat (first | exact DFit.nil | refine DFit.cons (by first | rfl | (simp [slook]; done) | (simp [slook]; omega)) ?_))) (by (repeat (first | exact True.intro | refine And.intro (by first | rfl | (simp [look]; done)) ?_)))
  have hcl := cntL_len (s.take i)
  refine T.seqK fun K2 hK2 => ?_
  refine T.sregD 31 [0, 2, 3, 4, 9, 21] fun Kr hKr => ?_
  simp only [go_sem, reduceCtorEq, Nat.reduceEqDiff, Nat.reduceBEq, Nat.reduceAdd, Nat.reduceMul, Nat.reduceLeDiff, Nat.reduceSub, Int.reduceToNat, Int.reduceNeg, Nat.reduceLT, Int.reduceMul, Int.reduceSub, Int.reduceAdd, Int.reduceLT, Int.reduceLE, Int.reduceGE, Int.reduceGT, Int.reduceDiv, Int.reduceMod, Int.reduceEq, Int.reducePow, Nat.reducePow, Nat.reduceDiv, Nat.reduceMod]
  (repeat (refine ⟨by (first | exact True.intro | omega | rfl | (simp; done) | (simp; omega)), ?_⟩)); try (refine hKr _ ?_; clear hKr Kr)
  refine T.condFD rfl rfl (fun hb => ?_) (fun hb => ?_) <;> simp at hb
  · -- no: exit
    refine T.exit ?_
    simp only [if_true]
    refine hK1 _ ?_
    have : i = s.length := by omega
    subst this
    rw [List.take_length] at hcl ⊢
    have htk : (cntL s).take 95 = cntL s := List.take_of_length_le (by omega)
    generalize cntL s = C at *
    refine T.sregD 31 [0, 2, 3, 4, 9, 21] fun Kr hKr => ?_
    simp only [go_sem, reduceCtorEq, Nat.reduceEqDiff, Nat.reduceBEq, Nat.reduceAdd, Nat.reduceMul, Nat.reduceLeDiff, Nat.reduceSub, Int.reduceToNat, Int.reduceNeg, Nat.reduceLT, Int.reduceMul, Int.reduceSub, Int.reduceAdd, Int.reduceLT, Int.reduceLE, Int.reduceGE, Int.reduceGT, Int.reduceDiv, Int.reduceMod, Int.reduceEq, Int.reducePow, Nat.reducePow, Nat.reduceDiv, Nat.reduceMod, hcl, htk, List.length_replicate, List.drop_replicate, Nat.sub_self, List.replicate_zero]
    (repeat (refine ⟨by (first | exact True.intro | omega | rfl | (simp; done) | (simp; omega)), ?_⟩)); try (refine hKr _ ?_; clear hKr Kr)
    refine T.ret ?_
    simp only [go_sem, reduceCtorEq, Nat.reduceEqDiff, Nat.reduceBEq, Nat.reduceAdd, Nat.reduceMul, Nat.reduceLeDiff, Nat.reduceSub, Int.reduceToNat, Int.reduceNeg, Nat.reduceLT, Int.reduceMul, Int.reduceSub, Int.reduceAdd, Int.reduceLT, Int.reduceLE, Int.reduceGE, Int.reduceGT, Int.reduceDiv, Int.reduceMod, Int.reduceEq, Int.reducePow, Nat.reducePow, Nat.reduceDiv, Nat.reduceMod, hcl, htk]
    exact ⟨ResCellD rfl rfl rfl rfl (by simp only [go_sem, reduceCtorEq, Nat.reduceEqDiff, Nat.reduceBEq, Nat.reduceAdd, Nat.reduceMul, Nat.reduceLeDiff, Nat.reduceSub, Int.reduceToNat, Int.reduceNeg, Nat.reduceLT, Int.reduceMul, Int.reduceSub, Int.reduceAdd, Int.reduceLT, Int.reduceLE, Int.reduceGE, Int.reduceGT, Int.reduceDiv, Int.reduceMod, Int.reduceEq, Int.reducePow, Nat.reducePow, Nat.reduceDiv, Nat.reduceMod, hcl]) (by simp only [go_sem, reduceCtorEq, Nat.reduceEqDiff, Nat.reduceBEq, Nat.reduceAdd, Nat.reduceMul, Nat.reduceLeDiff, Nat.reduceSub, Int.reduceToNat, Int.reduceNeg, Nat.reduceLT, Int.reduceMul, Int.reduceSub, Int.reduceAdd, Int.reduceLT, Int.reduceLE, Int.reduceGE, Int.reduceGT, Int.reduceDiv, Int.reduceMod, Int.reduceEq, Int.reducePow, Nat.reducePow, Nat.reduceDiv, Nat.reduceMod, htk]) rfl, trivial⟩
  have hst := cntL_step hb
  have hbd := cntL_bound (s.take i)
  have hlt : (s.take i).length ≤ i := by simp; omega
  refine T.skip ?_
  refine hK2 _ ?_
  refine T.seqK fun K3 hK3 => ?_
  refine T.block ?_
  generalize cntL (s.take i) = C at *
  generalize hce : s.getD i 0 = ch at *
  refine T.sregD 31 [0, 2, 3, 4, 9, 21] fun Kr hKr => ?_
  simp only [go_sem, reduceCtorEq, Nat.reduceEqDiff, Nat.reduceBEq, Nat.reduceAdd, Nat.reduceMul, Nat.reduceLeDiff, Nat.reduceSub, Int.reduceToNat, Int.reduceNeg, Nat.reduceLT, Int.reduceMul, Int.reduceSub, Int.reduceAdd, Int.reduceLT, Int.reduceLE, Int.reduceGE, Int.reduceGT, Int.reduceDiv, Int.reduceMod, Int.reduceEq, Int.reducePow, Nat.reducePow, Nat.reduceDiv, Nat.reduceMod, hb, hce]
  (repeat (refine ⟨by (first | exact True.intro | omega | rfl | (simp; done) | (simp; omega)), ?_⟩)); try (refine hKr _ ?_; clear hKr Kr)
  refine T.condTD rfl rfl (fun hc => ?_) (fun hc => ?_) <;> simp only [cond_and, Bool.and_eq_true, Bool.and_eq_false_iff, decide_eq_true_eq, decide_eq_false_iff_not] at hc
  · have hok : okB ch = true := by
      simp only [okB, Bool.not_eq_true', Bool.or_eq_false_iff, decide_eq_false_iff_not]; omega
    have hj : ((ch.toNat : Int) - 32).toNat = ch.toNat - 32 := by omega
    have hj2 : ch.toNat - 32 < 95 := by omega
    have hj3 : ch.toNat - 32 < C.length := by omega
    have hbc := hbd (ch.toNat - 32)
    have hset := i95_set hj3 (C.getD (ch.toNat - 32) 0 + 1)
    rw [bump, if_pos hok] at hst
    refine T.regD 31 [0, 2, 3, 4, 9, 21] fun Kr hKr => ?_
    simp only [go_sem, reduceCtorEq, Nat.reduceEqDiff, Nat.reduceBEq, Nat.reduceAdd, Nat.reduceMul, Nat.reduceLeDiff, Nat.reduceSub, Int.reduceToNat, Int.reduceNeg, Nat.reduceLT, Int.reduceMul, Int.reduceSub, Int.reduceAdd, Int.reduceLT, Int.reduceLE, Int.reduceGE, Int.reduceGT, Int.reduceDiv, Int.reduceMod, Int.reduceEq, Int.reducePow, Nat.reducePow, Nat.reduceDiv, Nat.reduceMod, hb, hce, hj, hcl, hj2, hset]
    (repeat (refine ⟨by (first | exact True.intro | omega | rfl | (simp; done) | (simp; omega)), ?_⟩)); try (refine hKr _ ?_; clear hKr Kr)
    refine hK3 _ ?_
    refine T.regD 31 [0, 2, 3, 4, 9, 21] fun Kr hKr => ?_
    simp only [go_sem, reduceCtorEq, Nat.reduceEqDiff, Nat.reduceBEq, Nat.reduceAdd, Nat.reduceMul, Nat.reduceLeDiff, Nat.reduceSub, Int.reduceToNat, Int.reduceNeg, Nat.reduceLT, Int.reduceMul, Int.reduceSub, Int.reduceAdd, Int.reduceLT, Int.reduceLE, Int.reduceGE, Int.reduceGT, Int.reduceDiv, Int.reduceMod, Int.reduceEq, Int.reducePow, Nat.reducePow, Nat.reduceDiv, Nat.reduceMod]
    (repeat (refine ⟨by (first | exact True.intro | omega | rfl | (simp; done) | (simp; omega)), ?_⟩)); try (refine hKr _ ?_; clear hKr Kr)
    refine ⟨i + 1, ?_, ?_, Le.fitS (by (repeat (first | exact DFit.nil | refine DFit.cons (by first | rfl | (simp [slook, hst]; done) | (simp [slook, hst]; omega)) ?_))) ?_⟩
    · omega
    · omega
    · rw [hst]; (repeat (first | exact True.intro | refine And.intro (by first | rfl | (simp [look]; done)) ?_))
  have hok : ¬ okB ch = true := by
    simp only [okB, Bool.not_eq_true', Bool.or_eq_false_iff, decide_eq_false_iff_not]; omega
  rw [bump, if_neg hok] at hst
  refine T.skip ?_
  refine hK3 _ ?_
  refine T.regD 31 [0, 2, 3, 4, 9, 21] fun Kr hKr => ?_
  simp only [go_sem, reduceCtorEq, Nat.reduceEqDiff, Nat.reduceBEq, Nat.reduceAdd, Nat.reduceMul, Nat.reduceLeDiff, Nat.reduceSub, Int.reduceToNat, Int.reduceNeg, Nat.reduceLT, Int.reduceMul, Int.reduceSub, Int.reduceAdd, Int.reduceLT, Int.reduceLE, Int.reduceGE, Int.reduceGT, Int.reduceDiv, Int.reduceMod, Int.reduceEq, Int.reducePow, Nat.reducePow, Nat.reduceDiv, Nat.reduceMod]
  (repeat (refine ⟨by (first | exact True.intro | omega | rfl | (simp; done) | (simp; omega)), ?_⟩)); try (refine hKr _ ?_; clear hKr Kr)
  refine ⟨i + 1, ?_, ?_, Le.fitS (by (repeat (first | exact DFit.nil | refine DFit.cons (by first | rfl | (simp [slook, hst]; done) | (simp [slook, hst]; omega)) ?_))) ?_⟩
  · omega
  · omega
  · rw [hst]; (repeat (first | exact True.intro | refine And.intro (by first | rfl | (simp [look]; done)) ?_))

/-! ### The law -/
theorem mov_perm (s : List UInt8) (a n t : Nat) (h : a + n ≤ s.length) : (chg s ⟨3, a, n, t, []⟩).Perm s := by
  rw [chg_mov]
  have hs : s.take a ++ ((s.take (a + n)).drop a ++ s.drop (a + n)) = s := by
    have h1 : (s.take (a + n)).drop a = (s.drop a).take n := by rw [List.drop_take]; congr 1; omega
    have h2 : s.drop (a + n) = (s.drop a).drop n := by rw [List.drop_drop]
    rw [h1, h2, List.take_append_drop, List.take_append_drop]
  generalize hr : s.take a ++ s.drop (a + n) = r
  generalize (s.take (a + n)).drop a = p at *
  have e1 : (r.take t ++ p ++ r.drop t).Perm (p ++ r) := by
    have : (r.take t ++ p).Perm (p ++ r.take t) := List.perm_append_comm
    have h2 := this.append_right (r.drop t)
    rw [List.append_assoc p, List.take_append_drop] at h2
    exact h2
  refine e1.trans ?_
  rw [← hr]
  have e2 : (p ++ (s.take a ++ s.drop (a + n))).Perm (s.take a ++ (p ++ s.drop (a + n))) := by
    rw [← List.append_assoc, ← List.append_assoc]
    exact List.perm_append_comm.append_right _
  rw [hs] at e2
  exact e2
theorem bytes_law (l : List Raw) (x : Raw) : Ideal.Spec Try.prog 4 [.sl false 5 (rawsOf l), rawA x] (.bool true) none := by
  have sm := Made14 l
  obtain ⟨hok, _⟩ := madeN_ok l (min l.length 14)
  have hmd : madeF l 14 = madeN l (min l.length 14) := rfl
  rw [← hmd] at hok
  generalize madeF l 14 = d at *
  have hlen := hok.len
  have hcnt := hok.cnt
  have se := Edit_spec x d.s.length (by omega)
  have hp := editF_poss x d.s.length
  have hel := editF_len x d.s.length
  generalize editF x d.s.length = e at *
  have sd := Do_spec d e hok (by omega)
  obtain ⟨q1, q2, q3, q4, q5, q6, q7⟩ := possB_smE hp
  refine Ideal.Spec.of_TD (n := 139) (fn := Try.f4) rfl rfl rfl rfl rfl rfl rfl fun w ok => ?_
  refine T.sregD 139 [0, 1, 3, 4, 5, 6, 7, 8, 9, 10, 11, 27, 43, 44, 63, 95] fun Kr hKr => ?_
  simp only [go_sem, reduceCtorEq, Nat.reduceEqDiff, Nat.reduceBEq, Nat.reduceAdd, Nat.reduceMul, Nat.reduceLeDiff, Nat.reduceSub, Int.reduceToNat, Int.reduceNeg, Nat.reduceLT, Int.reduceMul, Int.reduceSub, Int.reduceAdd, Int.reduceLT, Int.reduceLE, Int.reduceGE, Int.reduceGT, Int.reduceDiv, Int.reduceMod, Int.reduceEq, Int.reducePow, Nat.reducePow, Nat.reduceDiv, Nat.reduceMod]
  (repeat (refine ⟨by (first | exact True.intro | omega | rfl | (simp; done) | (simp; omega)), ?_⟩)); try (refine hKr _ ?_; clear hKr Kr)
  refine T.sregD 139 [0, 1, 3, 4, 5, 6, 7, 8, 9, 10, 11, 27, 43, 44, 63, 95] fun Kr hKr => ?_
  simp only [go_sem, reduceCtorEq, Nat.reduceEqDiff, Nat.reduceBEq, Nat.reduceAdd, Nat.reduceMul, Nat.reduceLeDiff, Nat.reduceSub, Int.reduceToNat, Int.reduceNeg, Nat.reduceLT, Int.reduceMul, Int.reduceSub, Int.reduceAdd, Int.reduceLT, Int.reduceLE, Int.reduceGE, Int.reduceGT, Int.reduceDiv, Int.reduceMod, Int.reduceEq, Int.reducePow, Nat.reducePow, Nat.reduceDiv, Nat.reduceMod]
  (repeat (refine ⟨by (first | exact True.intro | omega | rfl | (simp; done) | (simp; omega)), ?_⟩)); try (refine hKr _ ?_; clear hKr Kr)
  refine CallK.data (fun _ => Spec.args (sanity_spec) (by (first | exact ArgsLe.refl | (repeat (first | exact True.intro | refine And.intro (by first | exact AvLe.refl | exact AvLe.loose | exact AvLe.nil | exact AvLe.nilT | exact AvLe.slk | (refine AvLe.agg ?_; exact ArgsLe.refl) | (refine AvLe.agg ?_; (repeat (first | exact True.intro | refine And.intro (by first | exact AvLe.refl | exact AvLe.loose | exact AvLe.nil | exact AvLe.nilT | exact AvLe.slk) ?_)))) ?_))))) rfl ?_
  simp only [go_sem, reduceCtorEq, Nat.reduceEqDiff, Nat.reduceBEq, Nat.reduceAdd, Nat.reduceMul, Nat.reduceLeDiff, Nat.reduceSub, Int.reduceToNat, Int.reduceNeg, Nat.reduceLT, Int.reduceMul, Int.reduceSub, Int.reduceAdd, Int.reduceLT, Int.reduceLE, Int.reduceGE, Int.reduceGT, Int.reduceDiv, Int.reduceMod, Int.reduceEq, Int.reducePow, Nat.reducePow, Nat.reduceDiv, Nat.reduceMod]
  (repeat (refine ⟨by (first | exact True.intro | omega | rfl | (simp; done) | (simp; omega)), ?_⟩)); try (refine hKr _ ?_; clear hKr Kr)
  refine T.sregD 139 [0, 1, 3, 4, 5, 6, 7, 8, 9, 10, 11, 27, 43, 44, 63, 95] fun Kr hKr => ?_
  simp only [go_sem, reduceCtorEq, Nat.reduceEqDiff, Nat.reduceBEq, Nat.reduceAdd, Nat.reduceMul, Nat.reduceLeDiff, Nat.reduceSub, Int.reduceToNat, Int.reduceNeg, Nat.reduceLT, Int.reduceMul, Int.reduceSub, Int.reduceAdd, Int.reduceLT, Int.reduceLE, Int.reduceGE, Int.reduceGT, Int.reduceDiv, Int.reduceMod, Int.reduceEq, Int.reducePow, Nat.reducePow, Nat.reduceDiv, Nat.reduceMod]
  (repeat (refine ⟨by (first | exact True.intro | omega | rfl | (simp; done) | (simp; omega)), ?_⟩)); try (refine hKr _ ?_; clear hKr Kr)
  refine CallK.data (fun _ => Spec.args (sm) (by (first | exact ArgsLe.refl | (repeat (first | exact True.intro | refine And.intro (by first | exact AvLe.refl | exact AvLe.loose | exact AvLe.nil | exact AvLe.nilT | exact AvLe.slk | (refine AvLe.agg ?_; exact ArgsLe.refl) | (refine AvLe.agg ?_; (repeat (first | exact True.intro | refine And.intro (by first | exact AvLe.refl | exact AvLe.loose | exact AvLe.nil | exact AvLe.nilT | exact AvLe.slk) ?_)))) ?_))))) rfl ?_
  simp only [go_sem, reduceCtorEq, Nat.reduceEqDiff, Nat.reduceBEq, Nat.reduceAdd, Nat.reduceMul, Nat.reduceLeDiff, Nat.reduceSub, Int.reduceToNat, Int.reduceNeg, Nat.reduceLT, Int.reduceMul, Int.reduceSub, Int.reduceAdd, Int.reduceLT, Int.reduceLE, Int.reduceGE, Int.reduceGT, Int.reduceDiv, Int.reduceMod, Int.reduceEq, Int.reducePow, Nat.reducePow, Nat.reduceDiv, Nat.reduceMod]
  (repeat (refine ⟨by (first | exact True.intro | omega | rfl | (simp; done) | (simp; omega)), ?_⟩)); try (refine hKr _ ?_; clear hKr Kr)
  refine T.sregD 139 [0, 1, 3, 4, 5, 6, 7, 8, 9, 10, 11, 27, 43, 44, 63, 95] fun Kr hKr => ?_
  simp only [go_sem, reduceCtorEq, Nat.reduceEqDiff, Nat.reduceBEq, Nat.reduceAdd, Nat.reduceMul, Nat.reduceLeDiff, Nat.reduceSub, Int.reduceToNat, Int.reduceNeg, Nat.reduceLT, Int.reduceMul, Int.reduceSub, Int.reduceAdd, Int.reduceLT, Int.reduceLE, Int.reduceGE, Int.reduceGT, Int.reduceDiv, Int.reduceMod, Int.reduceEq, Int.reducePow, Nat.reducePow, Nat.reduceDiv, Nat.reduceMod]
  (repeat (refine ⟨by (first | exact True.intro | omega | rfl | (simp; done) | (simp; omega)), ?_⟩)); try (refine hKr _ ?_; clear hKr Kr)
  refine CallK.data (fun _ => Spec.args (se) (by (first | exact ArgsLe.refl | (repeat (first | exact True.intro | refine And.intro (by first | exact AvLe.refl | exact AvLe.loose | exact AvLe.nil | exact AvLe.nilT | exact AvLe.slk | (refine AvLe.agg ?_; exact ArgsLe.refl) | (refine AvLe.agg ?_; (repeat (first | exact True.intro | refine And.intro (by first | exact AvLe.refl | exact AvLe.loose | exact AvLe.nil | exact AvLe.nilT | exact AvLe.slk) ?_)))) ?_))))) rfl ?_
  simp only [go_sem, reduceCtorEq, Nat.reduceEqDiff, Nat.reduceBEq, Nat.reduceAdd, Nat.reduceMul, Nat.reduceLeDiff, Nat.reduceSub, Int.reduceToNat, Int.reduceNeg, Nat.reduceLT, Int.reduceMul, Int.reduceSub, Int.reduceAdd, Int.reduceLT, Int.reduceLE, Int.reduceGE, Int.reduceGT, Int.reduceDiv, Int.reduceMod, Int.reduceEq, Int.reducePow, Nat.reducePow, Nat.reduceDiv, Nat.reduceMod]
  (repeat (refine ⟨by (first | exact True.intro | omega | rfl | (simp; done) | (simp; omega)), ?_⟩)); try (refine hKr _ ?_; clear hKr Kr)
  refine T.sregD 139 [0, 1, 3, 4, 5, 6, 7, 8, 9, 10, 11, 27, 43, 44, 63, 95] fun Kr hKr => ?_
  simp only [go_sem, reduceCtorEq, Nat.reduceEqDiff, Nat.reduceBEq, Nat.reduceAdd, Nat.reduceMul, Nat.reduceLeDiff, Nat.reduceSub, Int.reduceToNat, Int.reduceNeg, Nat.reduceLT, Int.reduceMul, Int.reduceSub, Int.reduceAdd, Int.reduceLT, Int.reduceLE, Int.reduceGE, Int.reduceGT, Int.reduceDiv, Int.reduceMod, Int.reduceEq, Int.reducePow, Nat.reducePow, Nat.reduceDiv, Nat.reduceMod]
  (repeat (refine ⟨by (first | exact True.intro | omega | rfl | (simp; done) | (simp; omega)), ?_⟩)); try (refine hKr _ ?_; clear hKr Kr)
  refine CallK.tup (fun _ => Spec.args (sd) (by (first | exact ArgsLe.refl | (repeat (first | exact True.intro | refine And.intro (by first | exact AvLe.refl | exact AvLe.loose | exact AvLe.nil | exact AvLe.nilT | exact AvLe.slk | (refine AvLe.agg ?_; exact ArgsLe.refl) | (refine AvLe.agg ?_; (repeat (first | exact True.intro | refine And.intro (by first | exact AvLe.refl | exact AvLe.loose | exact AvLe.nil | exact AvLe.nilT | exact AvLe.slk) ?_)))) ?_))))) ?_
  simp only [go_sem, reduceCtorEq, Nat.reduceEqDiff, Nat.reduceBEq, Nat.reduceAdd, Nat.reduceMul, Nat.reduceLeDiff, Nat.reduceSub, Int.reduceToNat, Int.reduceNeg, Nat.reduceLT, Int.reduceMul, Int.reduceSub, Int.reduceAdd, Int.reduceLT, Int.reduceLE, Int.reduceGE, Int.reduceGT, Int.reduceDiv, Int.reduceMod, Int.reduceEq, Int.reducePow, Nat.reducePow, Nat.reduceDiv, Nat.reduceMod]
  (repeat (refine ⟨by (first | exact True.intro | omega | rfl | (simp; done) | (simp; omega)), ?_⟩)); try (refine hKr _ ?_; clear hKr Kr)
  refine T.seqK fun K1 hK1 => ?_
  refine T.sregD 139 [0, 1, 3, 4, 5, 6, 7, 8, 9, 10, 11, 27, 43, 44, 63, 95] fun Kr hKr => ?_
  simp only [go_sem, reduceCtorEq, Nat.reduceEqDiff, Nat.reduceBEq, Nat.reduceAdd, Nat.reduceMul, Nat.reduceLeDiff, Nat.reduceSub, Int.reduceToNat, Int.reduceNeg, Nat.reduceLT, Int.reduceMul, Int.reduceSub, Int.reduceAdd, Int.reduceLT, Int.reduceLE, Int.reduceGE, Int.reduceGT, Int.reduceDiv, Int.reduceMod, Int.reduceEq, Int.reducePow, Nat.reducePow, Nat.reduceDiv, Nat.reduceMod]
  (repeat (refine ⟨by (first | exact True.intro | omega | rfl | (simp; done) | (simp; omega)), ?_⟩)); try (refine hKr _ ?_; clear hKr Kr)
  by_cases hbig : e.k = 1 ∧ (d.s.length : Int) + e.s.length > 400
  · have ee : doF d e = (noDoc, 2) := by unfold doF; rw [if_neg (by rw [hp]; decide), if_pos hbig]
    rw [ee]
    refine T.condTD rfl rfl (fun hx => ?_) (fun hx => ?_) <;> try simp at hx
    have hk1 : (e.k = 1) = True := eq_true hbig.1
    refine T.sregD 139 [0, 1, 3, 4, 5, 6, 7, 8, 9, 10, 11, 27, 43, 44, 63, 95] fun Kr hKr => ?_
    simp only [go_sem, reduceCtorEq, Nat.reduceEqDiff, Nat.reduceBEq, Nat.reduceAdd, Nat.reduceMul, Nat.reduceLeDiff, Nat.reduceSub, Int.reduceToNat, Int.reduceNeg, Nat.reduceLT, Int.reduceMul, Int.reduceSub, Int.reduceAdd, Int.reduceLT, Int.reduceLE, Int.reduceGE, Int.reduceGT, Int.reduceDiv, Int.reduceMod, Int.reduceEq, Int.reducePow, Nat.reducePow, Nat.reduceDiv, Nat.reduceMod, hk1]
    (repeat (refine ⟨by (first | exact True.intro | omega | rfl | (simp; done) | (simp; omega)), ?_⟩)); try (refine hKr _ ?_; clear hKr Kr)
    refine T.ret (Fin.dataD rfl rfl rfl)
  have ee : doF d e = (⟨chg d.s e, carL d.m e⟩, 0) := by unfold doF; rw [if_neg (by rw [hp]; decide), if_neg hbig]
  have hok2 := (doF_ok (e := e) hok (by rw [ee])).1
  rw [ee] at hok2 ⊢
  simp only at hok2
  have hlen2 := hok2.len
  simp only at hlen2
  have hcl := chg_len hp
  refine T.condTD rfl rfl (fun hx => ?_) (fun hx => ?_) <;> try simp at hx
  refine T.skip ?_
  refine hK1 _ ?_
  obtain ⟨k, a, n, t, xs⟩ := e
  simp only at *
  obtain ⟨a, rfl⟩ : ∃ y : Nat, a = y := ⟨a.toNat, by omega⟩
  refine T.sdrawD 139 [0, 1, 3, 4, 5, 6, 7, 8, 9, 10, 11, 27, 43, 44, 63, 95] (.take 0 (.take 1 (.take 2 (.take 3 (.take 4 (.take 5 .done)))))) [6, 8] rfl (by decide +kernel) (by decide +kernel) fun Kr hKr => ?_
  simp only [go_sem, reduceCtorEq, Nat.reduceEqDiff, Nat.reduceBEq, Nat.reduceAdd, Nat.reduceMul, Nat.reduceLeDiff, Nat.reduceSub, Int.reduceToNat, Int.reduceNeg, Nat.reduceLT, Int.reduceMul, Int.reduceSub, Int.reduceAdd, Int.reduceLT, Int.reduceLE, Int.reduceGE, Int.reduceGT, Int.reduceDiv, Int.reduceMod, Int.reduceEq, Int.reducePow, Nat.reducePow, Nat.reduceDiv, Nat.reduceMod]
  (repeat (refine ⟨by (first | exact True.intro | omega | rfl | (simp; done) | (simp; omega)), ?_⟩)); try (refine hKr _ ?_; clear hKr Kr)
  refine T.seqK fun K2 hK2 => ?_
  refine T.sregD 139 [0, 1, 3, 4, 5, 6, 7, 8, 9, 10, 11, 27, 43, 44, 63, 95] fun Kr hKr => ?_
  simp only [go_sem, reduceCtorEq, Nat.reduceEqDiff, Nat.reduceBEq, Nat.reduceAdd, Nat.reduceMul, Nat.reduceLeDiff, Nat.reduceSub, Int.reduceToNat, Int.reduceNeg, Nat.reduceLT, Int.reduceMul, Int.reduceSub, Int.reduceAdd, Int.reduceLT, Int.reduceLE, Int.reduceGE, Int.reduceGT, Int.reduceDiv, Int.reduceMod, Int.reduceEq, Int.reducePow, Nat.reducePow, Nat.reduceDiv, Nat.reduceMod]
  (repeat (refine ⟨by (first | exact True.intro | omega | rfl | (simp; done) | (simp; omega)), ?_⟩)); try (refine hKr _ ?_; clear hKr Kr)
  refine T.block ?_
  refine T.sregD 139 [0, 1, 3, 4, 5, 6, 7, 8, 9, 10, 11, 27, 43, 44, 63, 95] fun Kr hKr => ?_
  simp only [go_sem, reduceCtorEq, Nat.reduceEqDiff, Nat.reduceBEq, Nat.reduceAdd, Nat.reduceMul, Nat.reduceLeDiff, Nat.reduceSub, Int.reduceToNat, Int.reduceNeg, Nat.reduceLT, Int.reduceMul, Int.reduceSub, Int.reduceAdd, Int.reduceLT, Int.reduceLE, Int.reduceGE, Int.reduceGT, Int.reduceDiv, Int.reduceMod, Int.reduceEq, Int.reducePow, Nat.reducePow, Nat.reduceDiv, Nat.reduceMod]
  (repeat (refine ⟨by (first | exact True.intro | omega | rfl | (simp; done) | (simp; omega)), ?_⟩)); try (refine hKr _ ?_; clear hKr Kr)
  refine T.condTD rfl rfl (fun h1 => ?_) (fun h1 => ?_) <;> simp only [decide_eq_true_eq, decide_eq_false_iff_not] at h1
  · -- Insert
    subst h1
    rw [if_pos rfl] at hcl
    rw [chg_ins] at hlen2 ⊢
    have hadd : (d.s.take a).length + (xs.length + (d.s.drop a).length) ≤ 1000 := by simp; omega
    refine T.sdrawD 139 [0, 1, 3, 4, 5, 6, 7, 8, 9, 10, 11, 27, 43, 44, 63, 95] (.take 0 (.take 1 (.take 2 (.take 3 (.take 4 (.take 5 (.take 6 (.take 7 (.take 8 (.take 9 (.take 10 (.take 11 (.take 12 (.take 13 (.take 14 (.take 15 (.take 16 (.take 17 .done)))))))))))))))))) [7] rfl (by decide +kernel) (by decide +kernel) fun Kr hKr => ?_
    simp only [go_sem, reduceCtorEq, Nat.reduceEqDiff, Nat.reduceBEq, Nat.reduceAdd, Nat.reduceMul, Nat.reduceLeDiff, Nat.reduceSub, Int.reduceToNat, Int.reduceNeg, Nat.reduceLT, Int.reduceMul, Int.reduceSub, Int.reduceAdd, Int.reduceLT, Int.reduceLE, Int.reduceGE, Int.reduceGT, Int.reduceDiv, Int.reduceMod, Int.reduceEq, Int.reducePow, Nat.reducePow, Nat.reduceDiv, Nat.reduceMod, List.drop_zero, List.take_length, beq_self_eq_true]
    (repeat (refine ⟨by (first | exact True.intro | omega | rfl | (simp; done) | (simp; omega)), ?_⟩)); try (refine hKr _ ?_; clear hKr Kr)
    refine T.ret (Fin.dataD rfl rfl rfl)
  obtain ⟨r1, r2⟩ := q6 h1
  obtain ⟨n, rfl⟩ : ∃ y : Nat, n = y := ⟨n.toNat, by omega⟩
  refine T.sregD 139 [0, 1, 3, 4, 5, 6, 7, 8, 9, 10, 11, 27, 43, 44, 63, 95] fun Kr hKr => ?_
  simp only [go_sem, reduceCtorEq, Nat.reduceEqDiff, Nat.reduceBEq, Nat.reduceAdd, Nat.reduceMul, Nat.reduceLeDiff, Nat.reduceSub, Int.reduceToNat, Int.reduceNeg, Nat.reduceLT, Int.reduceMul, Int.reduceSub, Int.reduceAdd, Int.reduceLT, Int.reduceLE, Int.reduceGE, Int.reduceGT, Int.reduceDiv, Int.reduceMod, Int.reduceEq, Int.reducePow, Nat.reducePow, Nat.reduceDiv, Nat.reduceMod]
  (repeat (refine ⟨by (first | exact True.intro | omega | rfl | (simp; done) | (simp; omega)), ?_⟩)); try (refine hKr _ ?_; clear hKr Kr)
  refine T.condTD rfl rfl (fun h2 => ?_) (fun h2 => ?_) <;> simp only [decide_eq_true_eq, decide_eq_false_iff_not] at h2
  · -- Delete
    subst h2
    rw [chg_del]
    have hl2 : (d.s.take a ++ d.s.drop (a + n)).length = d.s.length - n := by simp; omega
    have htk : (d.s.take a ++ d.s.drop (a + n)).take a = d.s.take a := by
      rw [List.take_append_of_le_length (by simp; omega), List.take_of_length_le (by simp; omega)]
    have hdr : (d.s.take a ++ d.s.drop (a + n)).drop a = d.s.drop (a + n) := by
      have : (d.s.take a).length = a := by simp; omega
      rw [List.drop_append, this, List.drop_eq_nil_of_le (by omega)]; simp
    have hs : d.s.take a ++ ((d.s.take (a + n)).drop a ++ d.s.drop (a + n)) = d.s := by
      have h1 : (d.s.take (a + n)).drop a = (d.s.drop a).take n := by rw [List.drop_take]; congr 1; omega
      have h2 : d.s.drop (a + n) = (d.s.drop a).drop n := by rw [List.drop_drop]
      rw [h1, h2, List.take_append_drop, List.take_append_drop]
    have hmin : ((((d.s.take a ++ d.s.drop (a + n)).length : Nat) : Int) < (a : Int)) = False := eq_false (by omega)
    generalize d.s.take a ++ d.s.drop (a + n) = t2 at *
    have hl3 : (d.s.take a).length + ((d.s.take (a + n)).drop a).length + (d.s.drop (a + n)).length ≤ 1000 := by simp; omega
    have hl4 : (d.s.take a).length + ((d.s.take (a + n)).drop a).length ≤ 1000 := by simp; omega
    refine T.sdrawD 139 [0, 1, 3, 4, 5, 6, 7, 8, 9, 10, 11, 27, 43, 44, 63, 95] (.take 0 (.take 1 (.take 2 (.take 3 (.take 4 (.take 5 (.take 6 (.take 7 (.take 8 (.take 9 (.take 10 (.take 11 (.take 12 (.take 13 (.take 14 (.take 15 (.take 16 (.take 17 (.take 18 (.take 19 (.take 20 (.take 21 (.take 22 (.take 23 (.take 24 (.take 25 (.take 26 (.take 27 (.take 28 (.take 29 (.take 30 .done))))))))))))))))))))))))))))))) [7] rfl (by decide +kernel) (by decide +kernel) fun Kr hKr => ?_
    simp only [go_sem, reduceCtorEq, Nat.reduceEqDiff, Nat.reduceBEq, Nat.reduceAdd, Nat.reduceMul, Nat.reduceLeDiff, Nat.reduceSub, Int.reduceToNat, Int.reduceNeg, Nat.reduceLT, Int.reduceMul, Int.reduceSub, Int.reduceAdd, Int.reduceLT, Int.reduceLE, Int.reduceGE, Int.reduceGT, Int.reduceDiv, Int.reduceMod, Int.reduceEq, Int.reducePow, Nat.reducePow, Nat.reduceDiv, Nat.reduceMod, List.drop_zero, List.take_length, hmin, htk, hdr, hs, beq_self_eq_true]
    (repeat (refine ⟨by (first | exact True.intro | omega | rfl | (simp; done) | (simp; omega)), ?_⟩)); try (refine hKr _ ?_; clear hKr Kr)
    refine T.ret (Fin.dataD rfl rfl rfl)
  rw [if_neg h1, if_neg h2] at hcl
  refine T.sregD 139 [0, 1, 3, 4, 5, 6, 7, 8, 9, 10, 11, 27, 43, 44, 63, 95] fun Kr hKr => ?_
  simp only [go_sem, reduceCtorEq, Nat.reduceEqDiff, Nat.reduceBEq, Nat.reduceAdd, Nat.reduceMul, Nat.reduceLeDiff, Nat.reduceSub, Int.reduceToNat, Int.reduceNeg, Nat.reduceLT, Int.reduceMul, Int.reduceSub, Int.reduceAdd, Int.reduceLT, Int.reduceLE, Int.reduceGE, Int.reduceGT, Int.reduceDiv, Int.reduceMod, Int.reduceEq, Int.reducePow, Nat.reducePow, Nat.reduceDiv, Nat.reduceMod]
  (repeat (refine ⟨by (first | exact True.intro | omega | rfl | (simp; done) | (simp; omega)), ?_⟩)); try (refine hKr _ ?_; clear hKr Kr)
  refine T.condTD rfl rfl (fun h3 => ?_) (fun h3 => ?_) <;> simp only [decide_eq_true_eq, decide_eq_false_iff_not] at h3
  · -- Move
    subst h3
    obtain ⟨r3, r4⟩ := q7 rfl
    obtain ⟨t, rfl⟩ : ∃ y : Nat, t = y := ⟨t.toNat, by omega⟩
    have e0 : chg d.s ⟨3, (a : Int), (n : Int), (t : Int), xs⟩ = chg d.s ⟨3, (a : Int), (n : Int), (t : Int), []⟩ := rfl
    have hpm := mov_perm d.s a n t (by omega)
    have hc1 := count_spec d.s (by omega)
    have hc2 := count_spec (chg d.s ⟨3, (a : Int), (n : Int), (t : Int), []⟩) (by rw [← e0]; omega)
    rw [cntL_perm hpm] at hc2
    have hpc : ((chg d.s ⟨3, (a : Int), (n : Int), (t : Int), []⟩).take (t + n)).drop t = (d.s.take (a + n)).drop a := by
      rw [chg_mov]
      have hpl : ((d.s.take (a + n)).drop a).length = n := by simp; omega
      have hrl : (d.s.take a ++ d.s.drop (a + n)).length = d.s.length - n := by simp; omega
      generalize d.s.take a ++ d.s.drop (a + n) = r at *
      generalize (d.s.take (a + n)).drop a = p at *
      have h1 : (r.take t).length = t := by simp; omega
      rw [List.take_append_of_le_length (by simp; omega), List.take_of_length_le (by simp; omega), List.drop_append, h1, List.drop_eq_nil_of_le (by omega)]; simp
    have hC := cntL_len d.s
    rw [e0] at hcl ⊢
    have hlq : (chg d.s ⟨3, (a : Int), (n : Int), (t : Int), []⟩).length = d.s.length := by omega
    generalize chg d.s ⟨3, (a : Int), (n : Int), (t : Int), []⟩ = t2 at *
    generalize cntL d.s = C at *
    refine T.sdrawD 139 [0, 1, 3, 4, 5, 6, 7, 8, 9, 10, 11, 27, 43, 44, 63, 95] (.take 0 (.take 1 (.take 2 (.take 3 (.take 4 (.take 5 (.take 6 (.take 8 (.one 7 (.one 9 (.take 10 (.take 11 (.take 12 (.take 13 (.take 14 (.take 15 (.take 16 (.take 17 (.take 18 (.take 19 (.take 20 (.take 21 (.take 22 (.take 23 (.take 24 (.take 25 (.take 26 (.take 27 (.take 28 (.take 29 (.take 30 (.take 31 (.take 32 (.take 33 (.take 34 (.take 35 (.take 36 .done))))))))))))))))))))))))))))))))))))) [7] rfl (by decide +kernel) (by decide +kernel) fun Kr hKr => ?_
    simp only [go_sem, reduceCtorEq, Nat.reduceEqDiff, Nat.reduceBEq, Nat.reduceAdd, Nat.reduceMul, Nat.reduceLeDiff, Nat.reduceSub, Int.reduceToNat, Int.reduceNeg, Nat.reduceLT, Int.reduceMul, Int.reduceSub, Int.reduceAdd, Int.reduceLT, Int.reduceLE, Int.reduceGE, Int.reduceGT, Int.reduceDiv, Int.reduceMod, Int.reduceEq, Int.reducePow, Nat.reducePow, Nat.reduceDiv, Nat.reduceMod, hlq, beq_self_eq_true]
    (repeat (refine ⟨by (first | exact True.intro | omega | rfl | (simp; done) | (simp; omega)), ?_⟩)); try (refine hKr _ ?_; clear hKr Kr)
    refine CallK.data (fun _ => Spec.args (hc1) (by (first | exact ArgsLe.refl | (repeat (first | exact True.intro | refine And.intro (by first | exact AvLe.refl | exact AvLe.loose | exact AvLe.nil | exact AvLe.nilT | exact AvLe.slk | (refine AvLe.agg ?_; exact ArgsLe.refl) | (refine AvLe.agg ?_; (repeat (first | exact True.intro | refine And.intro (by first | exact AvLe.refl | exact AvLe.loose | exact AvLe.nil | exact AvLe.nilT | exact AvLe.slk) ?_)))) ?_))))) rfl ?_
    simp only [go_sem, reduceCtorEq, Nat.reduceEqDiff, Nat.reduceBEq, Nat.reduceAdd, Nat.reduceMul, Nat.reduceLeDiff, Nat.reduceSub, Int.reduceToNat, Int.reduceNeg, Nat.reduceLT, Int.reduceMul, Int.reduceSub, Int.reduceAdd, Int.reduceLT, Int.reduceLE, Int.reduceGE, Int.reduceGT, Int.reduceDiv, Int.reduceMod, Int.reduceEq, Int.reducePow, Nat.reducePow, Nat.reduceDiv, Nat.reduceMod, hlq, hC, hpc, beq_self_eq_true]
    (repeat (refine ⟨by (first | exact True.intro | omega | rfl | (simp; done) | (simp; omega)), ?_⟩)); try (refine hKr _ ?_; clear hKr Kr)
    refine CallK.data (fun _ => Spec.args (hc2) (by (first | exact ArgsLe.refl | (repeat (first | exact True.intro | refine And.intro (by first | exact AvLe.refl | exact AvLe.loose | exact AvLe.nil | exact AvLe.nilT | exact AvLe.slk | (refine AvLe.agg ?_; exact ArgsLe.refl) | (refine AvLe.agg ?_; (repeat (first | exact True.intro | refine And.intro (by first | exact AvLe.refl | exact AvLe.loose | exact AvLe.nil | exact AvLe.nilT | exact AvLe.slk) ?_)))) ?_))))) rfl ?_
    simp only [go_sem, reduceCtorEq, Nat.reduceEqDiff, Nat.reduceBEq, Nat.reduceAdd, Nat.reduceMul, Nat.reduceLeDiff, Nat.reduceSub, Int.reduceToNat, Int.reduceNeg, Nat.reduceLT, Int.reduceMul, Int.reduceSub, Int.reduceAdd, Int.reduceLT, Int.reduceLE, Int.reduceGE, Int.reduceGT, Int.reduceDiv, Int.reduceMod, Int.reduceEq, Int.reducePow, Nat.reducePow, Nat.reduceDiv, Nat.reduceMod, hlq, hC, hpc, beq_self_eq_true]
    (repeat (refine ⟨by (first | exact True.intro | omega | rfl | (simp; done) | (simp; omega)), ?_⟩)); try (refine hKr _ ?_; clear hKr Kr)
    refine T.ret (Fin.dataD rfl rfl rfl)
  have e0 : chg d.s ⟨k, (a : Int), (n : Int), t, xs⟩ = d.s := by unfold chg; simp only; rw [if_neg h1, if_neg h2, if_neg h3]
  have e1 : carL d.m ⟨k, (a : Int), (n : Int), t, xs⟩ = d.m := by
    have : carM ⟨k, (a : Int), (n : Int), t, xs⟩ = some := by
      funext m; unfold carM; simp only; rw [if_neg h1, if_neg h2, if_neg (by omega)]
    rw [carL, this, List.filterMap_some]
  have ss := Same_spec d d (by omega) (by omega) (by omega) (by omega)
  rw [decide_eq_true rfl] at ss
  rw [e0, e1]
  refine T.skip ?_
  refine hK2 _ ?_
  refine T.sregD 139 [0, 1, 3, 4, 5, 6, 7, 8, 9, 10, 11, 27, 43, 44, 63, 95] fun Kr hKr => ?_
  simp only [go_sem, reduceCtorEq, Nat.reduceEqDiff, Nat.reduceBEq, Nat.reduceAdd, Nat.reduceMul, Nat.reduceLeDiff, Nat.reduceSub, Int.reduceToNat, Int.reduceNeg, Nat.reduceLT, Int.reduceMul, Int.reduceSub, Int.reduceAdd, Int.reduceLT, Int.reduceLE, Int.reduceGE, Int.reduceGT, Int.reduceDiv, Int.reduceMod, Int.reduceEq, Int.reducePow, Nat.reducePow, Nat.reduceDiv, Nat.reduceMod]
  (repeat (refine ⟨by (first | exact True.intro | omega | rfl | (simp; done) | (simp; omega)), ?_⟩)); try (refine hKr _ ?_; clear hKr Kr)
  refine CallK.data (fun _ => Spec.args (ss) (by (first | exact ArgsLe.refl | (repeat (first | exact True.intro | refine And.intro (by first | exact AvLe.refl | exact AvLe.loose | exact AvLe.nil | exact AvLe.nilT | exact AvLe.slk | (refine AvLe.agg ?_; exact ArgsLe.refl) | (refine AvLe.agg ?_; (repeat (first | exact True.intro | refine And.intro (by first | exact AvLe.refl | exact AvLe.loose | exact AvLe.nil | exact AvLe.nilT | exact AvLe.slk) ?_)))) ?_))))) rfl ?_
  simp only [go_sem, reduceCtorEq, Nat.reduceEqDiff, Nat.reduceBEq, Nat.reduceAdd, Nat.reduceMul, Nat.reduceLeDiff, Nat.reduceSub, Int.reduceToNat, Int.reduceNeg, Nat.reduceLT, Int.reduceMul, Int.reduceSub, Int.reduceAdd, Int.reduceLT, Int.reduceLE, Int.reduceGE, Int.reduceGT, Int.reduceDiv, Int.reduceMod, Int.reduceEq, Int.reducePow, Nat.reducePow, Nat.reduceDiv, Nat.reduceMod]
  (repeat (refine ⟨by (first | exact True.intro | omega | rfl | (simp; done) | (simp; omega)), ?_⟩)); try (refine hKr _ ?_; clear hKr Kr)
  refine T.ret (Fin.dataD rfl rfl rfl)
end Go.Proofs
