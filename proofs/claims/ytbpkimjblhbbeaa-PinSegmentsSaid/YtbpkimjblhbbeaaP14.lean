/- The reference's ways. -/
import Derived.Test.YtbpkimjblhbbeaaP11
set_option linter.unusedVariables false
set_option linter.unusedSimpArgs false
namespace Go.Proofs
open Go Go.Ideal
set_option maxRecDepth 8000
set_option maxHeartbeats 8000000

abbrev Way := List Edge
def wayA (w : Way) : AV := .sl false 4 (edgesOf w)
def waysOf (l : List Way) : List AV := l.map wayA
@[go_sem] theorem waysOf_len (l : List Way) : (waysOf l).length = l.length := by simp [waysOf]
@[go_sem] theorem waysOf_get {l : List Way} {i : Nat} (h : i < l.length) : (waysOf l).getD i .junk = .sl false 4 (edgesOf (l.getD i default)) := by simp [waysOf, wayA, List.getD, h]
theorem waysOf_app (l m : List Way) : waysOf (l ++ m) = waysOf l ++ waysOf m := by simp [waysOf]
@[go_sem] theorem waysOf_nil : waysOf [] = [] := rfl
theorem waysOf_one (w : Way) : waysOf [w] = [.sl false 4 (edgesOf w)] := rfl

def fullP (g : Edge → List Way) (f : Int) (X : List Edge) : List Way := (X.filter fun e => decide (e.f = f)).flatMap fun e => (g e).map (e :: ·)
def part (g : Edge → List Way) (f : Int) (X : List Edge) : List Way := (fullP g f X).take 300
def ways (X : List Edge) (n : Int) : Nat → Int → List Way
  | 0, _ => []
  | k + 1, f => if f = n then [[]] else part (fun e => ways X n k e.t) f X
theorem fullP_app (g : Edge → List Way) (f : Int) (X Y : List Edge) : fullP g f (X ++ Y) = fullP g f X ++ fullP g f Y := by simp [fullP]
theorem take_take_app {α : Type} (A B : List α) (k : Nat) : (A.take k ++ B).take k = (A ++ B).take k := by
  rw [List.take_append, List.take_append, List.take_take, Nat.min_self, List.length_take]
  congr 2
  omega
theorem part_len (g : Edge → List Way) (f : Int) (X : List Edge) : (part g f X).length ≤ 300 := by unfold part; rw [List.length_take]; omega
theorem part_no {g : Edge → List Way} {f : Int} {X : List Edge} {i : Nat} (hi : i < X.length) (h : (X.getD i default).f ≠ f) : part g f (X.take (i + 1)) = part g f (X.take i) := by
  unfold part
  rw [take_succ_pin hi, fullP_app]
  congr 1
  simp [fullP, -List.getD_eq_getElem?_getD, h]
theorem part_yes {g : Edge → List Way} {f : Int} {X : List Edge} {i : Nat} (hi : i < X.length) (h : (X.getD i default).f = f) :
    part g f (X.take (i + 1)) = (part g f (X.take i) ++ (g (X.getD i default)).map (X.getD i default :: ·)).take 300 := by
  unfold part
  rw [take_take_app, take_succ_pin hi, fullP_app]
  congr 2
  simp [fullP, -List.getD_eq_getElem?_getD, h]
theorem ways_len (X : List Edge) (n : Int) (k : Nat) (f : Int) : (ways X n k f).length ≤ 300 := by
  cases k with
  | zero => simp [ways]
  | succ k =>
    rw [ways]
    split
    · simp
    · exact part_len _ _ _

theorem ways_short (X : List Edge) (n : Int) : ∀ (k : Nat) (f : Int), ∀ w ∈ ways X n k f, w.length < k
  | 0, f, w, h => by simp [ways] at h
  | k + 1, f, w, h => by
    rw [ways] at h
    split at h
    · rw [List.mem_singleton] at h; subst h; simp
    · have h := List.mem_of_mem_take h
      rw [fullP, List.mem_flatMap] at h
      obtain ⟨e, _, h⟩ := h
      obtain ⟨v, hv, rfl⟩ := List.mem_map.1 h
      have := ways_short X n k e.t v hv
      simp; omega

/-- The edges go forward. -/
def Fwd (n : Nat) (X : List Edge) : Prop := ∀ e ∈ X, 0 ≤ e.f ∧ e.f < e.t ∧ e.t ≤ n

theorem ways_spec (X : List Edge) (n : Nat) (hn : n ≤ 1000) (hX : X.length < 2 ^ 30) (hF : Fwd n X) : ∀ (k : Nat) (f : Int), k ≤ 100000 → 0 ≤ f → f ≤ n → n - f < k →
    Ideal.Spec Try.prog 26 [latA n X, .int .i64 f] (.sl false 1 (waysOf (ways X n k f))) none
  | 0, f, _, _, _, h => by omega
  | k + 1, f, hk, h0, h1, h2 => by
    have ih := fun (e : Edge) (he : e ∈ X) (hf : e.f = f) => ways_spec X n hn hX hF k e.t (by omega) (by have := hF e he; omega) (hF e he).2.2 (by have := hF e he; omega)
    obtain ⟨R, hR⟩ : ∃ R, ways X n (k + 1) f = R := ⟨_, rfl⟩
    rw [hR]
    rw [ways] at hR
    refine Ideal.Spec.of_TD (n := 69) (fn := Try.f26) rfl rfl rfl rfl rfl rfl rfl fun w ok => ?_
    refine T.post [.tmp 4] ?_
    refine T.sregD 69 [0, 1, 2, 4, 5, 6, 7, 8, 9, 14, 23, 33, 50] fun Kr hKr => ?_
    simp only [go_sem, reduceCtorEq, Nat.reduceEqDiff, Nat.reduceBEq, Nat.reduceAdd, Nat.reduceMul, Nat.reduceLeDiff, Nat.reduceSub, Int.reduceToNat, Int.reduceNeg, Nat.reduceLT, Int.reduceMul, Int.reduceSub, Int.reduceAdd, Int.reduceLT, Int.reduceLE, Int.reduceGE, Int.reduceGT, Int.reduceDiv, Int.reduceMod, Int.reduceEq, Int.reducePow, Nat.reducePow, Nat.reduceDiv, Nat.reduceMod]
    (repeat (refine ⟨by (first | exact True.intro | omega | rfl | (simp; done) | (simp; omega)), ?_⟩)); try (refine hKr _ ?_; clear hKr Kr)
    refine T.sregD 69 [0, 1, 2, 4, 5, 6, 7, 8, 9, 14, 23, 33, 50] fun Kr hKr => ?_
    simp only [go_sem, reduceCtorEq, Nat.reduceEqDiff, Nat.reduceBEq, Nat.reduceAdd, Nat.reduceMul, Nat.reduceLeDiff, Nat.reduceSub, Int.reduceToNat, Int.reduceNeg, Nat.reduceLT, Int.reduceMul, Int.reduceSub, Int.reduceAdd, Int.reduceLT, Int.reduceLE, Int.reduceGE, Int.reduceGT, Int.reduceDiv, Int.reduceMod, Int.reduceEq, Int.reducePow, Nat.reducePow, Nat.reduceDiv, Nat.reduceMod]
    (repeat (refine ⟨by (first | exact True.intro | omega | rfl | (simp; done) | (simp; omega)), ?_⟩)); try (refine hKr _ ?_; clear hKr Kr)
    refine T.seqK fun K94 hK94 => ?_
    refine T.sregD 69 [0, 1, 2, 4, 5, 6, 7, 8, 9, 14, 23, 33, 50] fun Kr hKr => ?_
    simp only [go_sem, reduceCtorEq, Nat.reduceEqDiff, Nat.reduceBEq, Nat.reduceAdd, Nat.reduceMul, Nat.reduceLeDiff, Nat.reduceSub, Int.reduceToNat, Int.reduceNeg, Nat.reduceLT, Int.reduceMul, Int.reduceSub, Int.reduceAdd, Int.reduceLT, Int.reduceLE, Int.reduceGE, Int.reduceGT, Int.reduceDiv, Int.reduceMod, Int.reduceEq, Int.reducePow, Nat.reducePow, Nat.reduceDiv, Nat.reduceMod]
    (repeat (refine ⟨by (first | exact True.intro | omega | rfl | (simp; done) | (simp; omega)), ?_⟩)); try (refine hKr _ ?_; clear hKr Kr)
    refine T.condTD rfl rfl (fun hb => ?_) (fun hb => ?_) <;> simp at hb
    · -- yes
      rw [if_pos hb] at hR
      subst hR
      refine T.sregD 69 [0, 1, 2, 4, 5, 6, 7, 8, 9, 14, 23, 33, 50] fun Kr hKr => ?_
      simp only [go_sem, reduceCtorEq, Nat.reduceEqDiff, Nat.reduceBEq, Nat.reduceAdd, Nat.reduceMul, Nat.reduceLeDiff, Nat.reduceSub, Int.reduceToNat, Int.reduceNeg, Nat.reduceLT, Int.reduceMul, Int.reduceSub, Int.reduceAdd, Int.reduceLT, Int.reduceLE, Int.reduceGE, Int.reduceGT, Int.reduceDiv, Int.reduceMod, Int.reduceEq, Int.reducePow, Nat.reducePow, Nat.reduceDiv, Nat.reduceMod]
      (repeat (refine ⟨by (first | exact True.intro | omega | rfl | (simp; done) | (simp; omega)), ?_⟩)); try (refine hKr _ ?_; clear hKr Kr)
      refine T.ret ?_
      simp only [go_sem, reduceCtorEq, Nat.reduceEqDiff, Nat.reduceBEq, Nat.reduceAdd, Nat.reduceMul, Nat.reduceLeDiff, Nat.reduceSub, Int.reduceToNat, Int.reduceNeg, Nat.reduceLT, Int.reduceMul, Int.reduceSub, Int.reduceAdd, Int.reduceLT, Int.reduceLE, Int.reduceGE, Int.reduceGT, Int.reduceDiv, Int.reduceMod, Int.reduceEq, Int.reducePow, Nat.reducePow, Nat.reduceDiv, Nat.reduceMod]
      exact Fin.dataD (by simp [slook, waysOf, wayA, edgesOf]) rfl rfl
    rw [if_neg hb] at hR
    generalize hg : (fun e : Edge => ways X n k e.t) = g at *
    have hgl : ∀ e, (g e).length ≤ 300 := fun e => by rw [← hg]; exact ways_len _ _ _ _
    have hgs : ∀ e, ∀ w ∈ g e, w.length < k := fun e => by rw [← hg]; exact ways_short _ _ _ _
    refine T.skip ?_
    refine hK94 _ ?_
    refine T.seqK fun K95 hK95 => ?_
    refine T.sregD 69 [0, 1, 2, 4, 5, 6, 7, 8, 9, 14, 23, 33, 50] fun Kr hKr => ?_
    simp only [go_sem, reduceCtorEq, Nat.reduceEqDiff, Nat.reduceBEq, Nat.reduceAdd, Nat.reduceMul, Nat.reduceLeDiff, Nat.reduceSub, Int.reduceToNat, Int.reduceNeg, Nat.reduceLT, Int.reduceMul, Int.reduceSub, Int.reduceAdd, Int.reduceLT, Int.reduceLE, Int.reduceGE, Int.reduceGT, Int.reduceDiv, Int.reduceMod, Int.reduceEq, Int.reducePow, Nat.reducePow, Nat.reduceDiv, Nat.reduceMod]
    (repeat (refine ⟨by (first | exact True.intro | omega | rfl | (simp; done) | (simp; omega)), ?_⟩)); try (refine hKr _ ?_; clear hKr Kr)
    refine T.bloop (fun i : Nat => ⟨dense 69 [(1, .int .i64 f), (2, .op 2 0 0), (5, .osl 10 0 (part g f (X.take i)).length), (6, .int .i64 i)], [(2, ⟨2, 30, true, [latA n X]⟩), (10, ⟨1, 28, false, waysOf (part g f (X.take i))⟩)]⟩) (fun i => i ≤ X.length) (fun i => X.length - i) 0 (by simp) ?_ fun i hi => ?_
    · refine Le.fitS (by (repeat (first | exact DFit.nil | refine DFit.cons (by first | rfl | (simp [slook, part, fullP]; done) | (simp [slook, part, fullP]; omega)) ?_))) (by (repeat (first | exact True.intro | refine And.intro (by first | rfl | (simp [look]; done)) ?_)))
    refine T.seqK fun K96 hK96 => ?_
    refine T.sregD 69 [0, 1, 2, 4, 5, 6, 7, 8, 9, 14, 23, 33, 50] fun Kr hKr => ?_
    simp only [go_sem, reduceCtorEq, Nat.reduceEqDiff, Nat.reduceBEq, Nat.reduceAdd, Nat.reduceMul, Nat.reduceLeDiff, Nat.reduceSub, Int.reduceToNat, Int.reduceNeg, Nat.reduceLT, Int.reduceMul, Int.reduceSub, Int.reduceAdd, Int.reduceLT, Int.reduceLE, Int.reduceGE, Int.reduceGT, Int.reduceDiv, Int.reduceMod, Int.reduceEq, Int.reducePow, Nat.reducePow, Nat.reduceDiv, Nat.reduceMod]
    (repeat (refine ⟨by (first | exact True.intro | omega | rfl | (simp; done) | (simp; omega)), ?_⟩)); try (refine hKr _ ?_; clear hKr Kr)
    refine T.condFD rfl rfl (fun hb => ?_) (fun hb => ?_) <;> simp [-List.getD_eq_getElem?_getD] at hb
    · -- no: exit
      refine T.exit ?_
      simp only [if_true]
      refine hK95 _ ?_
      have : i = X.length := by omega
      subst this
      rw [List.take_length, hR] at *
      refine T.sregD 69 [0, 1, 2, 4, 5, 6, 7, 8, 9, 14, 23, 33, 50] fun Kr hKr => ?_
      simp only [go_sem, reduceCtorEq, Nat.reduceEqDiff, Nat.reduceBEq, Nat.reduceAdd, Nat.reduceMul, Nat.reduceLeDiff, Nat.reduceSub, Int.reduceToNat, Int.reduceNeg, Nat.reduceLT, Int.reduceMul, Int.reduceSub, Int.reduceAdd, Int.reduceLT, Int.reduceLE, Int.reduceGE, Int.reduceGT, Int.reduceDiv, Int.reduceMod, Int.reduceEq, Int.reducePow, Nat.reducePow, Nat.reduceDiv, Nat.reduceMod]
      (repeat (refine ⟨by (first | exact True.intro | omega | rfl | (simp; done) | (simp; omega)), ?_⟩)); try (refine hKr _ ?_; clear hKr Kr)
      refine T.ret ?_
      simp only [go_sem, reduceCtorEq, Nat.reduceEqDiff, Nat.reduceBEq, Nat.reduceAdd, Nat.reduceMul, Nat.reduceLeDiff, Nat.reduceSub, Int.reduceToNat, Int.reduceNeg, Nat.reduceLT, Int.reduceMul, Int.reduceSub, Int.reduceAdd, Int.reduceLT, Int.reduceLE, Int.reduceGE, Int.reduceGT, Int.reduceDiv, Int.reduceMod, Int.reduceEq, Int.reducePow, Nat.reducePow, Nat.reduceDiv, Nat.reduceMod, Nat.le_refl]
      have e2 : (waysOf R).take R.length = waysOf R := List.take_of_length_le (by simp [waysOf])
      exact Fin.dataD (by simp only [slook, e2]; simp) rfl rfl
    refine T.skip ?_
    refine hK96 _ ?_
    refine T.seqK fun K97 hK97 => ?_
    refine T.block ?_
    refine T.seqK fun K98 hK98 => ?_
    have hmem : X.getD i default ∈ X := by simp [List.getD, hb]
    have hno := part_no (g := g) (f := f) hb
    have hyes := part_yes (g := g) (f := f) hb
    have hih := ih _ hmem
    have hge : ways X n k (X.getD i default).t = g (X.getD i default) := by rw [← hg]
    rw [hge] at hih
    have hP := part_len g f (X.take i)
    generalize part g f (X.take i) = P at *
    generalize hxe : X.getD i default = e at *
    refine T.sregD 69 [0, 1, 2, 4, 5, 6, 7, 8, 9, 14, 23, 33, 50] fun Kr hKr => ?_
    simp only [go_sem, reduceCtorEq, Nat.reduceEqDiff, Nat.reduceBEq, Nat.reduceAdd, Nat.reduceMul, Nat.reduceLeDiff, Nat.reduceSub, Int.reduceToNat, Int.reduceNeg, Nat.reduceLT, Int.reduceMul, Int.reduceSub, Int.reduceAdd, Int.reduceLT, Int.reduceLE, Int.reduceGE, Int.reduceGT, Int.reduceDiv, Int.reduceMod, Int.reduceEq, Int.reducePow, Nat.reducePow, Nat.reduceDiv, Nat.reduceMod, hb, hxe]
    (repeat (refine ⟨by (first | exact True.intro | omega | rfl | (simp; done) | (simp; omega)), ?_⟩)); try (refine hKr _ ?_; clear hKr Kr)
    refine T.condTD rfl rfl (fun hc => ?_) (fun hc => ?_) <;> simp at hc
    · -- yes
      refine T.exit ?_
      simp only [if_true]
      refine hK97 _ ?_
      rw [← hno hc]
      refine T.regD 69 [0, 1, 2, 4, 5, 6, 7, 8, 9, 14, 23, 33, 50] fun Kr hKr => ?_
      simp only [go_sem, reduceCtorEq, Nat.reduceEqDiff, Nat.reduceBEq, Nat.reduceAdd, Nat.reduceMul, Nat.reduceLeDiff, Nat.reduceSub, Int.reduceToNat, Int.reduceNeg, Nat.reduceLT, Int.reduceMul, Int.reduceSub, Int.reduceAdd, Int.reduceLT, Int.reduceLE, Int.reduceGE, Int.reduceGT, Int.reduceDiv, Int.reduceMod, Int.reduceEq, Int.reducePow, Nat.reducePow, Nat.reduceDiv, Nat.reduceMod]
      (repeat (refine ⟨by (first | exact True.intro | omega | rfl | (simp; done) | (simp; omega)), ?_⟩)); try (refine hKr _ ?_; clear hKr Kr)
      refine ⟨i + 1, ?_, ?_, Le.fitS (by (repeat (first | exact DFit.nil | refine DFit.cons (by first | rfl | (simp [slook]; done) | (simp [slook]; omega)) ?_))) ?_⟩
      · omega
      · omega
      · (repeat (first | exact True.intro | refine And.intro (by first | rfl | (simp [look]; done)) ?_))
    have hgl := hgl e
    have hgs := hgs e
    have hyes := hyes hc
    have hih := hih hc
    generalize g e = G at *
    refine T.skip ?_
    refine hK98 _ ?_
    refine T.sdrawD 69 [0, 1, 2, 4, 5, 6, 7, 8, 9, 14, 23, 33, 50] (.take 0 (.take 1 (.take 2 (.take 3 (.take 4 (.take 5 (.take 6 (.one 7 (.take 8 .done))))))))) [2] rfl (by decide +kernel) (by decide +kernel) fun Kr hKr => ?_
    simp only [go_sem, reduceCtorEq, Nat.reduceEqDiff, Nat.reduceBEq, Nat.reduceAdd, Nat.reduceMul, Nat.reduceLeDiff, Nat.reduceSub, Int.reduceToNat, Int.reduceNeg, Nat.reduceLT, Int.reduceMul, Int.reduceSub, Int.reduceAdd, Int.reduceLT, Int.reduceLE, Int.reduceGE, Int.reduceGT, Int.reduceDiv, Int.reduceMod, Int.reduceEq, Int.reducePow, Nat.reducePow, Nat.reduceDiv, Nat.reduceMod, hb, hxe]
    (repeat (refine ⟨by (first | exact True.intro | omega | rfl | (simp; done) | (simp; omega)), ?_⟩)); try (refine hKr _ ?_; clear hKr Kr)
    refine CallK.data (fun _ => Spec.args (hih) (by (first | exact ArgsLe.refl | (repeat (first | exact True.intro | refine And.intro (by first | exact AvLe.refl | exact AvLe.loose | exact AvLe.nil | exact AvLe.nilT | (refine AvLe.agg ?_; exact ArgsLe.refl) | (refine AvLe.agg ?_; (repeat (first | exact True.intro | refine And.intro (by first | exact AvLe.refl | exact AvLe.loose | exact AvLe.nil | exact AvLe.nilT) ?_)))) ?_))))) rfl ?_
    simp only [go_sem, reduceCtorEq, Nat.reduceEqDiff, Nat.reduceBEq, Nat.reduceAdd, Nat.reduceMul, Nat.reduceLeDiff, Nat.reduceSub, Int.reduceToNat, Int.reduceNeg, Nat.reduceLT, Int.reduceMul, Int.reduceSub, Int.reduceAdd, Int.reduceLT, Int.reduceLE, Int.reduceGE, Int.reduceGT, Int.reduceDiv, Int.reduceMod, Int.reduceEq, Int.reducePow, Nat.reducePow, Nat.reduceDiv, Nat.reduceMod, hb, hxe]
    (repeat (refine ⟨by (first | exact True.intro | omega | rfl | (simp; done) | (simp; omega)), ?_⟩)); try (refine hKr _ ?_; clear hKr Kr)
    refine T.sregD 69 [0, 1, 2, 4, 5, 6, 7, 8, 9, 14, 23, 33, 50] fun Kr hKr => ?_
    simp only [go_sem, reduceCtorEq, Nat.reduceEqDiff, Nat.reduceBEq, Nat.reduceAdd, Nat.reduceMul, Nat.reduceLeDiff, Nat.reduceSub, Int.reduceToNat, Int.reduceNeg, Nat.reduceLT, Int.reduceMul, Int.reduceSub, Int.reduceAdd, Int.reduceLT, Int.reduceLE, Int.reduceGE, Int.reduceGT, Int.reduceDiv, Int.reduceMod, Int.reduceEq, Int.reducePow, Nat.reducePow, Nat.reduceDiv, Nat.reduceMod]
    (repeat (refine ⟨by (first | exact True.intro | omega | rfl | (simp; done) | (simp; omega)), ?_⟩)); try (refine hKr _ ?_; clear hKr Kr)
    refine T.bloop (fun q : Nat => ⟨dense 69 [(1, .int .i64 f), (2, .op 2 0 0), (5, .osl 10 0 (P.length + q)), (6, .int .i64 i), (7, .sl false 1 (waysOf G)), (8, .int .i64 q)], [(2, ⟨2, 30, true, [latA n X]⟩), (10, ⟨1, 28, false, waysOf (P ++ (G.take q).map (e :: ·))⟩)]⟩) (fun q => q ≤ G.length ∧ P.length + q ≤ 300) (fun q => G.length - q) 0 (by simp; omega) ?_ fun q hq => ?_
    · refine Le.fitS (by (repeat (first | exact DFit.nil | refine DFit.cons (by first | rfl | (simp [slook]; done) | (simp [slook]; omega)) ?_))) (by simp only [List.take_zero, List.map_nil, List.append_nil]; (repeat (first | exact True.intro | refine And.intro (by first | rfl | (simp [look]; done)) ?_)))
    obtain ⟨hq, hq3⟩ := hq
    refine T.seqK fun K99 hK99 => ?_
    refine T.sregD 69 [0, 1, 2, 4, 5, 6, 7, 8, 9, 14, 23, 33, 50] fun Kr hKr => ?_
    simp only [go_sem, reduceCtorEq, Nat.reduceEqDiff, Nat.reduceBEq, Nat.reduceAdd, Nat.reduceMul, Nat.reduceLeDiff, Nat.reduceSub, Int.reduceToNat, Int.reduceNeg, Nat.reduceLT, Int.reduceMul, Int.reduceSub, Int.reduceAdd, Int.reduceLT, Int.reduceLE, Int.reduceGE, Int.reduceGT, Int.reduceDiv, Int.reduceMod, Int.reduceEq, Int.reducePow, Nat.reducePow, Nat.reduceDiv, Nat.reduceMod]
    (repeat (refine ⟨by (first | exact True.intro | omega | rfl | (simp; done) | (simp; omega)), ?_⟩)); try (refine hKr _ ?_; clear hKr Kr)
    refine T.condFD rfl rfl (fun hd => ?_) (fun hd => ?_)
    · -- no: exit
      have hd' : ¬ (q < G.length ∧ P.length + q < 300) := fun ⟨h1, h2⟩ => by
        have a1 : decide ((q : Int) < (G.length : Int)) = true := by simp; omega
        have a2 : decide (((P.length + q : Nat) : Int) < 300) = true := by simp; omega
        rw [a1, a2] at hd; simp at hd
      have hfin : (P ++ G.map (e :: ·)).take 300 = P ++ (G.take q).map (e :: ·) := by
        rw [List.take_append, List.take_of_length_le hP, ← List.map_take]
        by_cases h : q < G.length
        · rw [show 300 - P.length = q by omega]
        · rw [List.take_of_length_le (show G.length ≤ 300 - P.length by omega), List.take_of_length_le (show G.length ≤ q by omega)]
      rw [hfin] at hyes
      have hyl : (part g f (List.take (i + 1) X)).length = P.length + q := by rw [hyes]; simp; omega
      refine T.exit ?_
      simp only [if_true]
      refine hK97 _ ?_
      refine T.regD 69 [0, 1, 2, 4, 5, 6, 7, 8, 9, 14, 23, 33, 50] fun Kr hKr => ?_
      simp only [go_sem, reduceCtorEq, Nat.reduceEqDiff, Nat.reduceBEq, Nat.reduceAdd, Nat.reduceMul, Nat.reduceLeDiff, Nat.reduceSub, Int.reduceToNat, Int.reduceNeg, Nat.reduceLT, Int.reduceMul, Int.reduceSub, Int.reduceAdd, Int.reduceLT, Int.reduceLE, Int.reduceGE, Int.reduceGT, Int.reduceDiv, Int.reduceMod, Int.reduceEq, Int.reducePow, Nat.reducePow, Nat.reduceDiv, Nat.reduceMod]
      (repeat (refine ⟨by (first | exact True.intro | omega | rfl | (simp; done) | (simp; omega)), ?_⟩)); try (refine hKr _ ?_; clear hKr Kr)
      refine ⟨i + 1, ?_, ?_, Le.fitS (by (repeat (first | exact DFit.nil | refine DFit.cons (by first | rfl | (simp [slook, hyl]; done) | (simp [slook, hyl]; omega)) ?_))) ?_⟩
      · omega
      · omega
      · rw [hyes]; (repeat (first | exact True.intro | refine And.intro (by first | rfl | (simp [look]; done)) ?_))
    have hd' : q < G.length ∧ P.length + q < 300 := by
      by_cases h1 : q < G.length
      · by_cases h2 : P.length + q < 300
        · exact ⟨h1, h2⟩
        · have a1 : decide ((q : Int) < (G.length : Int)) = true := by simp; omega
          have a2 : decide (((P.length + q : Nat) : Int) < 300) = false := by simp; omega
          rw [a1, a2] at hd; simp at hd
      · have a1 : decide ((q : Int) < (G.length : Int)) = false := by simp; omega
        rw [a1] at hd; simp at hd
    obtain ⟨hq1, hq2⟩ := hd'
    refine T.skip ?_
    refine hK99 _ ?_
    refine T.seqK fun K100 hK100 => ?_
    refine T.block ?_
    have hst : P ++ (G.take (q + 1)).map (e :: ·) = (P ++ (G.take q).map (e :: ·)) ++ [e :: G.getD q default] := by
      rw [take_succ_pin hq1, List.map_append]; simp
    have hMl : (P ++ (G.take q).map (e :: ·)).length = P.length + q := by simp; omega
    generalize P ++ (G.take q).map (e :: ·) = M at *
    have hsh := hgs (G.getD q default) (by simp [List.getD, hq1])
    refine T.sdrawD 69 [0, 1, 2, 4, 5, 6, 7, 8, 9, 14, 23, 33, 50] (.take 0 (.take 1 (.take 2 (.take 3 (.take 4 (.take 6 (.take 7 (.take 8 (.take 9 (.one 5 (.one 10 (.take 11 .done)))))))))))) [2] rfl (by decide +kernel) (by decide +kernel) fun Kr hKr => ?_
    simp only [go_sem, reduceCtorEq, Nat.reduceEqDiff, Nat.reduceBEq, Nat.reduceAdd, Nat.reduceMul, Nat.reduceLeDiff, Nat.reduceSub, Int.reduceToNat, Int.reduceNeg, Nat.reduceLT, Int.reduceMul, Int.reduceSub, Int.reduceAdd, Int.reduceLT, Int.reduceLE, Int.reduceGE, Int.reduceGT, Int.reduceDiv, Int.reduceMod, Int.reduceEq, Int.reducePow, Nat.reducePow, Nat.reduceDiv, Nat.reduceMod, hb, hxe, hq1]
    (repeat (refine ⟨by (first | exact True.intro | omega | rfl | (simp; done) | (simp; omega)), ?_⟩)); try (refine hKr _ ?_; clear hKr Kr)
    generalize hre : G.getD q default = r at *
    have hle : 1 + r.length ≤ r.length + 1 := by omega
    have htk : List.take (1 + r.length) (AV.agg [AV.int .i64 e.f, AV.int .i64 e.t, AV.int .i64 e.w, AV.int .i64 e.c] :: edgesOf r) = edgesOf (e :: r) :=
      List.take_of_length_le (by simp [edgesOf]; omega)
    refine T.regD 69 [0, 1, 2, 4, 5, 6, 7, 8, 9, 14, 23, 33, 50] fun Kr hKr => ?_
    simp only [go_sem, reduceCtorEq, Nat.reduceEqDiff, Nat.reduceBEq, Nat.reduceAdd, Nat.reduceMul, Nat.reduceLeDiff, Nat.reduceSub, Int.reduceToNat, Int.reduceNeg, Nat.reduceLT, Int.reduceMul, Int.reduceSub, Int.reduceAdd, Int.reduceLT, Int.reduceLE, Int.reduceGE, Int.reduceGT, Int.reduceDiv, Int.reduceMod, Int.reduceEq, Int.reducePow, Nat.reducePow, Nat.reduceDiv, Nat.reduceMod, hle, htk]
    (repeat (refine ⟨by (first | exact True.intro | omega | rfl | (simp; done) | (simp; omega)), ?_⟩)); try (refine hKr _ ?_; clear hKr Kr)
    refine hK100 _ ?_
    refine T.regD 69 [0, 1, 2, 4, 5, 6, 7, 8, 9, 14, 23, 33, 50] fun Kr hKr => ?_
    simp only [go_sem, reduceCtorEq, Nat.reduceEqDiff, Nat.reduceBEq, Nat.reduceAdd, Nat.reduceMul, Nat.reduceLeDiff, Nat.reduceSub, Int.reduceToNat, Int.reduceNeg, Nat.reduceLT, Int.reduceMul, Int.reduceSub, Int.reduceAdd, Int.reduceLT, Int.reduceLE, Int.reduceGE, Int.reduceGT, Int.reduceDiv, Int.reduceMod, Int.reduceEq, Int.reducePow, Nat.reducePow, Nat.reduceDiv, Nat.reduceMod]
    (repeat (refine ⟨by (first | exact True.intro | omega | rfl | (simp; done) | (simp; omega)), ?_⟩)); try (refine hKr _ ?_; clear hKr Kr)
    refine ⟨q + 1, ?_, ?_, Le.fitS (by (repeat (first | exact DFit.nil | refine DFit.cons (by first | rfl | (simp [slook]; done) | (simp [slook]; omega)) ?_))) ?_⟩
    · omega
    · omega
    · rw [hst, waysOf_app, waysOf_one]; (repeat (first | exact True.intro | refine And.intro (by first | rfl | (simp [look]; done)) ?_))

theorem sameW_spec (a b : List Way) (hl : a.length < 2 ^ 31) (hl2 : b.length < 2 ^ 31) (hwa : ∀ x ∈ a, x.length < 2 ^ 31) (hwb : ∀ x ∈ b, x.length < 2 ^ 31) :
    Ideal.Spec Try.prog 27 [.sl false 1 (waysOf a), .sl false 1 (waysOf b)] (.bool (decide (a = b))) none := by
  refine Ideal.Spec.of_TD (n := 29) (fn := Try.f27) rfl rfl rfl rfl rfl rfl rfl fun w ok => ?_
  refine T.sregD 29 [0, 1, 4, 5, 10, 14, 28] fun Kr hKr => ?_
  simp only [go_sem, reduceCtorEq, Nat.reduceEqDiff, Nat.reduceBEq, Nat.reduceAdd, Nat.reduceMul, Nat.reduceLeDiff, Nat.reduceSub, Int.reduceToNat, Int.reduceNeg, Nat.reduceLT, Int.reduceMul, Int.reduceSub, Int.reduceAdd, Int.reduceLT, Int.reduceLE, Int.reduceGE, Int.reduceGT, Int.reduceDiv, Int.reduceMod, Int.reduceEq, Int.reducePow, Nat.reducePow, Nat.reduceDiv, Nat.reduceMod]
  (repeat (refine ⟨by (first | exact True.intro | omega | rfl | (simp; done) | (simp; omega)), ?_⟩)); try (refine hKr _ ?_; clear hKr Kr)
  refine T.seqK fun K101 hK101 => ?_
  refine T.sregD 29 [0, 1, 4, 5, 10, 14, 28] fun Kr hKr => ?_
  simp only [go_sem, reduceCtorEq, Nat.reduceEqDiff, Nat.reduceBEq, Nat.reduceAdd, Nat.reduceMul, Nat.reduceLeDiff, Nat.reduceSub, Int.reduceToNat, Int.reduceNeg, Nat.reduceLT, Int.reduceMul, Int.reduceSub, Int.reduceAdd, Int.reduceLT, Int.reduceLE, Int.reduceGE, Int.reduceGT, Int.reduceDiv, Int.reduceMod, Int.reduceEq, Int.reducePow, Nat.reducePow, Nat.reduceDiv, Nat.reduceMod]
  (repeat (refine ⟨by (first | exact True.intro | omega | rfl | (simp; done) | (simp; omega)), ?_⟩)); try (refine hKr _ ?_; clear hKr Kr)
  refine T.condTD rfl rfl (fun hb => ?_) (fun hb => ?_) <;> simp at hb
  · refine T.sregD 29 [0, 1, 4, 5, 10, 14, 28] fun Kr hKr => ?_
    simp only [go_sem, reduceCtorEq, Nat.reduceEqDiff, Nat.reduceBEq, Nat.reduceAdd, Nat.reduceMul, Nat.reduceLeDiff, Nat.reduceSub, Int.reduceToNat, Int.reduceNeg, Nat.reduceLT, Int.reduceMul, Int.reduceSub, Int.reduceAdd, Int.reduceLT, Int.reduceLE, Int.reduceGE, Int.reduceGT, Int.reduceDiv, Int.reduceMod, Int.reduceEq, Int.reducePow, Nat.reducePow, Nat.reduceDiv, Nat.reduceMod]
    (repeat (refine ⟨by (first | exact True.intro | omega | rfl | (simp; done) | (simp; omega)), ?_⟩)); try (refine hKr _ ?_; clear hKr Kr)
    have : a ≠ b := fun e => by subst e; exact absurd rfl hb
    refine T.ret (Fin.dataD (by simp [slook, this]) rfl rfl)
  have hle : a.length = b.length := by omega
  refine T.skip ?_
  refine hK101 _ ?_
  refine T.seqK fun K102 hK102 => ?_
  refine T.sregD 29 [0, 1, 4, 5, 10, 14, 28] fun Kr hKr => ?_
  simp only [go_sem, reduceCtorEq, Nat.reduceEqDiff, Nat.reduceBEq, Nat.reduceAdd, Nat.reduceMul, Nat.reduceLeDiff, Nat.reduceSub, Int.reduceToNat, Int.reduceNeg, Nat.reduceLT, Int.reduceMul, Int.reduceSub, Int.reduceAdd, Int.reduceLT, Int.reduceLE, Int.reduceGE, Int.reduceGT, Int.reduceDiv, Int.reduceMod, Int.reduceEq, Int.reducePow, Nat.reducePow, Nat.reduceDiv, Nat.reduceMod]
  (repeat (refine ⟨by (first | exact True.intro | omega | rfl | (simp; done) | (simp; omega)), ?_⟩)); try (refine hKr _ ?_; clear hKr Kr)
  refine T.bloop (fun i : Nat => ⟨dense 29 [(0, .sl false 1 (waysOf a)), (1, .sl false 1 (waysOf b)), (5, .int .i64 i)], []⟩) (fun i => i ≤ a.length ∧ a.take i = b.take i) (fun i => a.length - i) 0 (by simp) ?_ fun i hi => ?_
  · refine Le.fitS (by (repeat (first | exact DFit.nil | refine DFit.cons (by first | rfl | (simp [slook]; done) | (simp [slook]; omega)) ?_))) (by (repeat (first | exact True.intro | refine And.intro (by first | rfl | (simp [look]; done)) ?_)))
  obtain ⟨hi, hn⟩ := hi
  refine T.seqK fun K103 hK103 => ?_
  refine T.sregD 29 [0, 1, 4, 5, 10, 14, 28] fun Kr hKr => ?_
  simp only [go_sem, reduceCtorEq, Nat.reduceEqDiff, Nat.reduceBEq, Nat.reduceAdd, Nat.reduceMul, Nat.reduceLeDiff, Nat.reduceSub, Int.reduceToNat, Int.reduceNeg, Nat.reduceLT, Int.reduceMul, Int.reduceSub, Int.reduceAdd, Int.reduceLT, Int.reduceLE, Int.reduceGE, Int.reduceGT, Int.reduceDiv, Int.reduceMod, Int.reduceEq, Int.reducePow, Nat.reducePow, Nat.reduceDiv, Nat.reduceMod]
  (repeat (refine ⟨by (first | exact True.intro | omega | rfl | (simp; done) | (simp; omega)), ?_⟩)); try (refine hKr _ ?_; clear hKr Kr)
  refine T.condFD rfl rfl (fun hb => ?_) (fun hb => ?_) <;> simp at hb
  · -- no: exit
    refine T.exit ?_
    simp only [if_true]
    refine hK102 _ ?_
    refine T.sregD 29 [0, 1, 4, 5, 10, 14, 28] fun Kr hKr => ?_
    simp only [go_sem, reduceCtorEq, Nat.reduceEqDiff, Nat.reduceBEq, Nat.reduceAdd, Nat.reduceMul, Nat.reduceLeDiff, Nat.reduceSub, Int.reduceToNat, Int.reduceNeg, Nat.reduceLT, Int.reduceMul, Int.reduceSub, Int.reduceAdd, Int.reduceLT, Int.reduceLE, Int.reduceGE, Int.reduceGT, Int.reduceDiv, Int.reduceMod, Int.reduceEq, Int.reducePow, Nat.reducePow, Nat.reduceDiv, Nat.reduceMod]
    (repeat (refine ⟨by (first | exact True.intro | omega | rfl | (simp; done) | (simp; omega)), ?_⟩)); try (refine hKr _ ?_; clear hKr Kr)
    have : i = a.length := by omega
    subst this
    rw [List.take_length, hle, List.take_length] at hn
    refine T.ret (Fin.dataD (by simp [slook, hn]) rfl rfl)
  refine T.skip ?_
  refine hK103 _ ?_
  refine T.seqK fun K104 hK104 => ?_
  refine T.block ?_
  have hb2 : i < b.length := by omega
  have hs := sameE_spec 0 0 (a.getD i default) (b.getD i default) (hwa _ (by simp [List.getD, hb])) (hwb _ (by simp [List.getD, hb2]))
  rw [show decide ((0 : Int) = 0 ∧ a.getD i default = b.getD i default) = decide (a.getD i default = b.getD i default) by simp] at hs
  refine T.sdrawD 29 [0, 1, 4, 5, 10, 14, 28] (.take 0 (.take 1 (.take 2 (.take 3 (.take 4 (.take 5 (.take 6 (.take 7 (.take 8 (.take 9 (.one 10 (.take 11 .done)))))))))))) [] rfl (by decide +kernel) (by decide +kernel) fun Kr hKr => ?_
  simp only [go_sem, reduceCtorEq, Nat.reduceEqDiff, Nat.reduceBEq, Nat.reduceAdd, Nat.reduceMul, Nat.reduceLeDiff, Nat.reduceSub, Int.reduceToNat, Int.reduceNeg, Nat.reduceLT, Int.reduceMul, Int.reduceSub, Int.reduceAdd, Int.reduceLT, Int.reduceLE, Int.reduceGE, Int.reduceGT, Int.reduceDiv, Int.reduceMod, Int.reduceEq, Int.reducePow, Nat.reducePow, Nat.reduceDiv, Nat.reduceMod, hb, hb2]
  (repeat (refine ⟨by (first | exact True.intro | omega | rfl | (simp; done) | (simp; omega)), ?_⟩)); try (refine hKr _ ?_; clear hKr Kr)
  refine CallK.data (fun _ => Spec.args (hs) (by (first | exact ArgsLe.refl | (repeat (first | exact True.intro | refine And.intro (by first | exact AvLe.refl | exact AvLe.loose | exact AvLe.nil | exact AvLe.nilT | (refine AvLe.agg ?_; exact ArgsLe.refl) | (refine AvLe.agg ?_; (repeat (first | exact True.intro | refine And.intro (by first | exact AvLe.refl | exact AvLe.loose | exact AvLe.nil | exact AvLe.nilT) ?_)))) ?_))))) rfl ?_
  simp only [go_sem, reduceCtorEq, Nat.reduceEqDiff, Nat.reduceBEq, Nat.reduceAdd, Nat.reduceMul, Nat.reduceLeDiff, Nat.reduceSub, Int.reduceToNat, Int.reduceNeg, Nat.reduceLT, Int.reduceMul, Int.reduceSub, Int.reduceAdd, Int.reduceLT, Int.reduceLE, Int.reduceGE, Int.reduceGT, Int.reduceDiv, Int.reduceMod, Int.reduceEq, Int.reducePow, Nat.reducePow, Nat.reduceDiv, Nat.reduceMod, hb, hb2]
  (repeat (refine ⟨by (first | exact True.intro | omega | rfl | (simp; done) | (simp; omega)), ?_⟩)); try (refine hKr _ ?_; clear hKr Kr)
  refine T.condTD rfl rfl (fun hc => ?_) (fun hc => ?_) <;> simp [-List.getD_eq_getElem?_getD] at hc
  · -- yes
    refine T.sregD 29 [0, 1, 4, 5, 10, 14, 28] fun Kr hKr => ?_
    simp only [go_sem, reduceCtorEq, Nat.reduceEqDiff, Nat.reduceBEq, Nat.reduceAdd, Nat.reduceMul, Nat.reduceLeDiff, Nat.reduceSub, Int.reduceToNat, Int.reduceNeg, Nat.reduceLT, Int.reduceMul, Int.reduceSub, Int.reduceAdd, Int.reduceLT, Int.reduceLE, Int.reduceGE, Int.reduceGT, Int.reduceDiv, Int.reduceMod, Int.reduceEq, Int.reducePow, Nat.reducePow, Nat.reduceDiv, Nat.reduceMod]
    (repeat (refine ⟨by (first | exact True.intro | omega | rfl | (simp; done) | (simp; omega)), ?_⟩)); try (refine hKr _ ?_; clear hKr Kr)
    have : a ≠ b := fun e => by subst e; exact hc rfl
    refine T.ret (Fin.dataD (by simp [slook, this]) rfl rfl)
  refine T.skip ?_
  refine hK104 _ ?_
  refine T.regD 29 [0, 1, 4, 5, 10, 14, 28] fun Kr hKr => ?_
  simp only [go_sem, reduceCtorEq, Nat.reduceEqDiff, Nat.reduceBEq, Nat.reduceAdd, Nat.reduceMul, Nat.reduceLeDiff, Nat.reduceSub, Int.reduceToNat, Int.reduceNeg, Nat.reduceLT, Int.reduceMul, Int.reduceSub, Int.reduceAdd, Int.reduceLT, Int.reduceLE, Int.reduceGE, Int.reduceGT, Int.reduceDiv, Int.reduceMod, Int.reduceEq, Int.reducePow, Nat.reducePow, Nat.reduceDiv, Nat.reduceMod]
  (repeat (refine ⟨by (first | exact True.intro | omega | rfl | (simp; done) | (simp; omega)), ?_⟩)); try (refine hKr _ ?_; clear hKr Kr)
  refine ⟨i + 1, ?_, ?_, Le.fitS (by (repeat (first | exact DFit.nil | refine DFit.cons (by first | rfl | (simp [slook]; done) | (simp [slook]; omega)) ?_))) ?_⟩
  · refine ⟨by omega, ?_⟩
    rw [take_succ_pin hb, take_succ_pin hb2, hn, hc]
  · omega
  · (repeat (first | exact True.intro | refine And.intro (by first | rfl | (simp [look]; done)) ?_))
end Go.Proofs
