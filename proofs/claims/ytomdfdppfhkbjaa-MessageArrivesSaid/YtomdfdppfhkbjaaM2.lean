/- Messages: actions. -/
import Derived.Test.YtomdfdppfhkbjaaM1
set_option linter.unusedVariables false
set_option linter.unusedSimpArgs false
namespace Go.Proofs
open Go Go.Ideal
set_option maxRecDepth 8000
set_option maxHeartbeats 4000000

structure MRaw where
  k : UInt8
  i : UInt8
  app : UInt8
  t : UInt8
  deriving Inhabited
@[go_sem] def mrawA (x : MRaw) : AV := .agg [.int .u8 x.k.toNat, .int .u8 x.i.toNat, .int .u8 x.app.toNat, .int .u8 x.t.toNat]
def mrawsOf (l : List MRaw) : List AV := l.map mrawA
@[go_sem] theorem mrawsOf_len (l : List MRaw) : (mrawsOf l).length = l.length := by simp [mrawsOf]
@[go_sem] theorem mrawsOf_get {l : List MRaw} {i : Nat} (h : i < l.length) : (mrawsOf l).getD i .junk = mrawA (l.getD i default) := by simp [mrawsOf, List.getD, h]
@[go_sem] theorem mrawsOf_take (l : List MRaw) (n : Nat) : (mrawsOf l).take n = mrawsOf (l.take n) := by simp [mrawsOf]
def noteT (n : Nat) : List UInt8 := if n % 4 = 0 then [97, 98] else if n % 4 = 1 then [99] else if n % 4 = 2 then [100, 32, 101] else
  [49, 50, 51, 52, 53, 54, 55, 56, 57, 48, 49, 50, 51, 52, 53, 54, 55, 56, 57, 48, 49, 50, 51, 52, 53, 54, 55, 56, 57, 48, 49, 50, 51, 52, 53, 54, 55, 56, 57, 48]
theorem noteT_ok (n : Nat) : noteB (noteT n) = true ∧ 1 ≤ (noteT n).length ∧ (noteT n).length ≤ 40 ∧ plainB (noteT n) = true := by
  unfold noteT
  split
  · decide +kernel
  · split
    · decide +kernel
    · split
      · decide +kernel
      · decide +kernel
structure Cmt where
  id : Int
  app : Int
  s : List UInt8
  deriving DecidableEq, Inhabited
@[go_sem] def cmA (c : Cmt) : AV := .agg [.int .i64 c.id, .int .i64 c.app, .str c.s]
def newF (x : MRaw) : Cmt := ⟨(x.i.toNat : Int) % 12, (x.app.toNat : Int) % 2, noteT x.t.toNat⟩
theorem TextM_spec (n : UInt8) : Ideal.Spec Try.prog 38 [.int .u8 n.toNat] (.str (noteT n.toNat)) none := by
  have hn := n.toNat_lt
  refine Ideal.Spec.of_TD (n := 8) (fn := Try.f38) rfl rfl rfl rfl rfl rfl rfl fun w ok => ?_
  have h4 : n.toNat % 4 = 0 ∨ n.toNat % 4 = 1 ∨ n.toNat % 4 = 2 ∨ n.toNat % 4 = 3 := by omega
  refine T.sregD 8 [0, 2] fun Kr hKr => ?_
  simp only [go_sem]
  (repeat (refine ⟨by (first | exact True.intro | omega | rfl | (simp; done) | (simp; omega)), ?_⟩)); try (refine hKr _ ?_; clear hKr Kr)
  rcases h4 with h | h | h | h
  · have e : noteT n.toNat = [97, 98] := by unfold noteT; rw [if_pos h]
    refine T.sregD 8 [0, 2] fun Kr hKr => ?_
    simp only [go_sem, h]
    (repeat (refine ⟨by (first | exact True.intro | omega | rfl | (simp; done) | (simp; omega)), ?_⟩)); try (refine hKr _ ?_; clear hKr Kr)
    refine T.ret (Fin.dataD (by rw [e]; rfl) rfl rfl)
  · have e : noteT n.toNat = [99] := by unfold noteT; rw [h]; rfl
    refine T.sregD 8 [0, 2] fun Kr hKr => ?_
    simp only [go_sem, h]
    (repeat (refine ⟨by (first | exact True.intro | omega | rfl | (simp; done) | (simp; omega)), ?_⟩)); try (refine hKr _ ?_; clear hKr Kr)
    refine T.ret (Fin.dataD (by rw [e]; rfl) rfl rfl)
  · have e : noteT n.toNat = [100, 32, 101] := by unfold noteT; rw [h]; rfl
    refine T.sregD 8 [0, 2] fun Kr hKr => ?_
    simp only [go_sem, h]
    (repeat (refine ⟨by (first | exact True.intro | omega | rfl | (simp; done) | (simp; omega)), ?_⟩)); try (refine hKr _ ?_; clear hKr Kr)
    refine T.ret (Fin.dataD (by rw [e]; rfl) rfl rfl)
  · have e : noteT n.toNat = [49, 50, 51, 52, 53, 54, 55, 56, 57, 48, 49, 50, 51, 52, 53, 54, 55, 56, 57, 48, 49, 50, 51, 52, 53, 54, 55, 56, 57, 48, 49, 50, 51, 52, 53, 54, 55, 56, 57, 48] := by unfold noteT; rw [h]; rfl
    refine T.sregD 8 [0, 2] fun Kr hKr => ?_
    simp only [go_sem, h]
    (repeat (refine ⟨by (first | exact True.intro | omega | rfl | (simp; done) | (simp; omega)), ?_⟩)); try (refine hKr _ ?_; clear hKr Kr)
    refine T.ret (Fin.dataD (by rw [e]; rfl) rfl rfl)
theorem NewM_spec (x : MRaw) : Ideal.Spec Try.prog 20 [mrawA x] (cmA (newF x)) none := by
  have s1 := TextM_spec x.t
  have h1 := x.i.toNat_lt
  have h2 := x.app.toNat_lt
  refine Ideal.Spec.of_CD (n := 15) (fn := Try.f20) rfl rfl rfl rfl rfl rfl rfl fun w ok => ?_
  refine T.post [.tmp 2] ?_
  refine T.sregD 15 [0, 1, 2] fun Kr hKr => ?_
  simp only [go_sem]
  (repeat (refine ⟨by (first | exact True.intro | omega | rfl | (simp; done) | (simp; omega)), ?_⟩)); try (refine hKr _ ?_; clear hKr Kr)
  refine T.sdrawD 15 [0, 1, 2] (.take 0 (.take 1 (.take 2 (.take 3 (.take 4 (.take 5 (.take 6 (.take 7 (.take 8 (.take 9 (.one 10 (.take 11 (.one 12 .done))))))))))))) [1] rfl (by decide +kernel) (by decide +kernel) fun Kr hKr => ?_
  simp only [go_sem]
  (repeat (refine ⟨by (first | exact True.intro | omega | rfl | (simp; done) | (simp; omega)), ?_⟩)); try (refine hKr _ ?_; clear hKr Kr)
  refine CallK.data (fun _ => Spec.args (s1) (by (first | exact ArgsLe.refl | (repeat (first | exact True.intro | refine And.intro (by first | exact AvLe.refl | exact AvLe.loose | exact AvLe.nil | exact AvLe.nilT | exact AvLe.slk | (refine AvLe.agg ?_; exact ArgsLe.refl) | (refine AvLe.agg ?_; (repeat (first | exact True.intro | refine And.intro (by first | exact AvLe.refl | exact AvLe.loose | exact AvLe.nil | exact AvLe.nilT | exact AvLe.slk) ?_)))) ?_))))) rfl ?_
  simp only [go_sem]
  (repeat (refine ⟨by (first | exact True.intro | omega | rfl | (simp; done) | (simp; omega)), ?_⟩)); try (refine hKr _ ?_; clear hKr Kr)
  refine T.ret ?_
  simp only [go_sem]
  exact ⟨ResCellD rfl rfl rfl rfl (by simp only [go_sem]) (by simp only [go_sem, newF]) rfl, trivial⟩
end Go.Proofs
