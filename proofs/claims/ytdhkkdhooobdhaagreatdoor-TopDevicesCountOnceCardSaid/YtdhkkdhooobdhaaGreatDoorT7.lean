/- The journal: first, Put, Read. -/
import Derived.Test.YtdhkkdhooobdhaaGreatDoorT6
import Derived.Lib.BytesEntry
import Derived.Laws.StandIn
set_option linter.unusedVariables false
set_option linter.unusedSimpArgs false
namespace Go.Proofs
open Go Go.Ideal
set_option maxRecDepth 8000
set_option maxHeartbeats 4000000
@[go_sem] theorem entry_len (l : List UInt8) : (entry l).length = l.length + 10 := by
  simp [entry, sumS_len]; omega
def ix (l : List UInt8) : Option Nat := l.findIdx? (· == 10)
def ixI (l : List UInt8) : Int := match ix l with | some i => i | none => -1
theorem lib_ix (l : List UInt8) : Lib.indexByte l 10 = ixI l := by
  unfold ixI ix
  induction l with
  | nil => rfl
  | cons b l ih =>
    unfold Lib.indexByte
    rw [ih, List.findIdx?_cons]
    by_cases hb : (b == 10) = true
    · simp [hb]
    · rw [if_neg hb, if_neg hb]
      cases h : List.findIdx? (· == 10) l with
      | none => simp
      | some i => simp
theorem x32 (ex : Bool) (l : List UInt8) : XSpec Tryz.prog 93 [.sl ex 1 (bytesOf l), .int .u8 10] (.int .i64 (ixI l)) := by
  intro ok w vs hp
  obtain ⟨v, vs', rfl, hv, hp⟩ := hp.cons_inv
  obtain ⟨u, vs', rfl, hu, hp⟩ := hp.cons_inv
  rw [hp.nil_inv]
  cases hu
  refine ⟨.int .i64 (ixI l), ?_, .int ..⟩
  rw [run_callFunc_indexByte (fn := Tryz.f93) rfl rfl rfl rfl rfl]
  rw [← lib_ix]
  generalize hx : bytesOf l = xs at hv
  cases hv with
  | slNil _ _ a cap hc =>
    have : l = [] := by simpa [bytesOf] using hx
    subst this
    cases a with
    | none => rw [Lib.run_indexByteNil]; rfl
    | some a =>
      have e : (Extern.BytealgIndexByte.indexByte #[.slice (some a) 0 cap, .int .u8 10]).run Tryz.prog w = .ok (.int .i64 (-1)) w := Lib.run_indexByteNil (P := Tryz.prog) w 0 cap 10
      rw [show ([Value.slice (some a) 0 cap, .int .u8 10] : List Value).toArray = #[.slice (some a) 0 cap, .int .u8 10] from rfl, e]; rfl
  | sl _ b o cap _ _ vs hb hne hcap hex hsz hl' h1 hm h =>
    subst hx
    rw [flat_bytesOf] at hl' h
    rw [bytesOf_len] at hl'
    rw [bytesOf_len, Lib.run_indexByteSlice w b o l.length cap (l.map fun x => (x.toNat : Int)) (by simp) (fun i hi => ?_)]
    · have : Lib.bytesOf (l.map fun x => (x.toNat : Int)) = l := by
        rw [Lib.bytesOf, List.map_map]
        conv => rhs; rw [← List.map_id l]
        apply List.map_congr_left
        intro x _
        simp
      rw [this]; rfl
    · have hvi : vs[i]? = some vs[i] := by simp [hl', hi]
      rw [hm i _ hvi]
      have := h i vs[i] (.int .u8 l[i].toNat) hvi (by simp [bytesOf, hi])
      generalize vs[i] = u at *
      cases this
      simp [hi]
theorem index_spec (ex : Bool) (l : List UInt8) : Ideal.Spec Tryz.prog 70 [.sl ex 1 (bytesOf l), .int .u8 10] (.int .i64 (ixI l)) none := by
  refine Ideal.Spec.of_TD (n := 8) (fn := Tryz.f70) rfl rfl rfl rfl rfl rfl rfl fun w ok => ?_
  refine T.sregD 8 [0, 1, 4] fun Kr hKr => ?_
  simp only [go_sem]
  (repeat (refine ⟨by (first | exact True.intro | omega | rfl | (simp; done) | (simp; omega)), ?_⟩)); try (refine hKr _ ?_; clear hKr Kr)
  refine T.sregD 8 [0, 1, 4] fun Kr hKr => ?_
  simp only [go_sem]
  (repeat (refine ⟨by (first | exact True.intro | omega | rfl | (simp; done) | (simp; omega)), ?_⟩)); try (refine hKr _ ?_; clear hKr Kr)
  refine CallK.ext (fun _ => x32 _ _) rfl ?_
  simp only [go_sem]
  (repeat (refine ⟨by (first | exact True.intro | omega | rfl | (simp; done) | (simp; omega)), ?_⟩)); try (refine hKr _ ?_; clear hKr Kr)
  refine T.ret (Fin.dataD rfl rfl rfl)
def first (b : List UInt8) : Option (List UInt8) :=
  match ix (b.take 210) with
  | none => none
  | some e => if e < 9 then none else if b.getD 8 0 == 32 && fit ((b.take e).drop 9) && b.take 8 == sumS ((b.take e).drop 9) then some ((b.take e).drop 9) else none
theorem ix_lt {l : List UInt8} {e : Nat} (h : ix l = some e) : e < l.length := by
  unfold ix at h
  obtain ⟨h1, _⟩ := List.findIdx?_eq_some_iff_findIdx_eq.1 h
  exact h1
theorem min210 (n : Nat) : (if (210 : Int) < (n : Int) then (210 : Int) else (n : Int)) = ((min n 210 : Nat) : Int) := by
  split <;> omega
theorem take_min (b : List UInt8) : b.take (min b.length 210) = b.take 210 := by
  by_cases h : b.length ≤ 210
  · rw [Nat.min_eq_left h, List.take_length, List.take_of_length_le h]
  · rw [Nat.min_eq_right (by omega)]
theorem firstj_spec (ex : Bool) (b : List UInt8) (hb : b.length < 2 ^ 60) :
    Ideal.Spec Tryz.prog 41 [.sl ex 1 (bytesOf b)] (match first b with | none => .tup [.str [], .int .i64 0, .bool false] | some line => .tup [.str line, .int .i64 (line.length + 10), .bool true]) none := by
  have e1 := min210 b.length
  have e2 := take_min b
  cases hi : ix (b.take 210) with
  | none =>
    have hf : first b = none := by simp [first, hi]
    have hI : ixI (b.take 210) = -1 := by simp [ixI, hi]
    rw [hf]; dsimp only
    refine Ideal.Spec.of_TD3 (n := 39) (fn := Tryz.f41) rfl rfl rfl rfl rfl rfl rfl fun w ok => ?_
    refine T.sregD 39 [0, 2, 3, 4, 5, 6, 20, 35] fun Kr hKr => ?_
    simp only [go_sem]
    (repeat (refine ⟨by (first | exact True.intro | omega | rfl | (simp; done) | (simp; omega)), ?_⟩)); try (refine hKr _ ?_; clear hKr Kr)
    refine T.sregD 39 [0, 2, 3, 4, 5, 6, 20, 35] fun Kr hKr => ?_
    simp only [go_sem, e1, e2]
    (repeat (refine ⟨by (first | exact True.intro | omega | rfl | (simp; done) | (simp; omega)), ?_⟩)); try (refine hKr _ ?_; clear hKr Kr)
    refine CallK.data (fun _ => Spec.args (index_spec _ _) (by (first | exact ArgsLe.refl | (repeat (first | exact True.intro | refine And.intro (by first | exact AvLe.refl | exact AvLe.loose | exact AvLe.nil | exact AvLe.nilT | exact AvLe.slk | (refine AvLe.agg ?_; exact ArgsLe.refl) | (refine AvLe.agg ?_; (repeat (first | exact True.intro | refine And.intro (by first | exact AvLe.refl | exact AvLe.loose | exact AvLe.nil | exact AvLe.nilT | exact AvLe.slk) ?_)))) ?_))))) rfl ?_
    simp only [go_sem, hI]
    (repeat (refine ⟨by (first | exact True.intro | omega | rfl | (simp; done) | (simp; omega)), ?_⟩)); try (refine hKr _ ?_; clear hKr Kr)
    refine T.seqK fun K46 hK46 => ?_
    refine T.sregD 39 [0, 2, 3, 4, 5, 6, 20, 35] fun Kr hKr => ?_
    simp only [go_sem]
    (repeat (refine ⟨by (first | exact True.intro | omega | rfl | (simp; done) | (simp; omega)), ?_⟩)); try (refine hKr _ ?_; clear hKr Kr)
    refine T.condTD rfl rfl (fun hb => ?_) (fun hb => ?_) <;> simp at hb
    refine T.sregD 39 [0, 2, 3, 4, 5, 6, 20, 35] fun Kr hKr => ?_
    simp only [go_sem]
    (repeat (refine ⟨by (first | exact True.intro | omega | rfl | (simp; done) | (simp; omega)), ?_⟩)); try (refine hKr _ ?_; clear hKr Kr)
    refine T.ret ⟨⟨rfl, rfl, rfl⟩, ⟨rfl, rfl, rfl⟩, ⟨rfl, rfl, rfl⟩⟩
  | some e =>
    have hI : ixI (b.take 210) = e := by simp [ixI, hi]
    have hlt := ix_lt hi
    rw [List.length_take] at hlt
    by_cases h9 : e < 9
    · have hf : first b = none := by simp [first, hi, h9]
      have hd : decide ((e : Int) < 9) = true := by simp; omega
      rw [hf]; dsimp only
      refine Ideal.Spec.of_TD3 (n := 39) (fn := Tryz.f41) rfl rfl rfl rfl rfl rfl rfl fun w ok => ?_
      refine T.sregD 39 [0, 2, 3, 4, 5, 6, 20, 35] fun Kr hKr => ?_
      simp only [go_sem]
      (repeat (refine ⟨by (first | exact True.intro | omega | rfl | (simp; done) | (simp; omega)), ?_⟩)); try (refine hKr _ ?_; clear hKr Kr)
      refine T.sregD 39 [0, 2, 3, 4, 5, 6, 20, 35] fun Kr hKr => ?_
      simp only [go_sem, e1, e2]
      (repeat (refine ⟨by (first | exact True.intro | omega | rfl | (simp; done) | (simp; omega)), ?_⟩)); try (refine hKr _ ?_; clear hKr Kr)
      refine CallK.data (fun _ => Spec.args (index_spec _ _) (by (first | exact ArgsLe.refl | (repeat (first | exact True.intro | refine And.intro (by first | exact AvLe.refl | exact AvLe.loose | exact AvLe.nil | exact AvLe.nilT | exact AvLe.slk | (refine AvLe.agg ?_; exact ArgsLe.refl) | (refine AvLe.agg ?_; (repeat (first | exact True.intro | refine And.intro (by first | exact AvLe.refl | exact AvLe.loose | exact AvLe.nil | exact AvLe.nilT | exact AvLe.slk) ?_)))) ?_))))) rfl ?_
      simp only [go_sem, hI]
      (repeat (refine ⟨by (first | exact True.intro | omega | rfl | (simp; done) | (simp; omega)), ?_⟩)); try (refine hKr _ ?_; clear hKr Kr)
      refine T.seqK fun K46 hK46 => ?_
      refine T.sregD 39 [0, 2, 3, 4, 5, 6, 20, 35] fun Kr hKr => ?_
      simp only [go_sem, hd]
      (repeat (refine ⟨by (first | exact True.intro | omega | rfl | (simp; done) | (simp; omega)), ?_⟩)); try (refine hKr _ ?_; clear hKr Kr)
      refine T.condTD rfl rfl (fun hb => ?_) (fun hb => ?_) <;> simp at hb
      refine T.sregD 39 [0, 2, 3, 4, 5, 6, 20, 35] fun Kr hKr => ?_
      simp only [go_sem]
      (repeat (refine ⟨by (first | exact True.intro | omega | rfl | (simp; done) | (simp; omega)), ?_⟩)); try (refine hKr _ ?_; clear hKr Kr)
      refine T.ret ⟨⟨rfl, rfl, rfl⟩, ⟨rfl, rfl, rfl⟩, ⟨rfl, rfl, rfl⟩⟩
    · have hd : decide ((e : Int) < 9) = false := by simp; omega
      have h8 : 8 < b.length := by omega
      have hll : ((b.take e).drop 9).length + 9 = e := by simp; omega
      have hr := (b.getD 8 0).toNat_lt
      have sf := fit_spec ((b.take e).drop 9)
      have ss := sumj_spec ((b.take e).drop 9) (by omega)
      by_cases h1 : b.getD 8 0 = 32
      · have hx : decide (((b.getD 8 0).toNat : Int) = 32) = true := by rw [h1]; rfl
        cases h2 : fit ((b.take e).drop 9) with
        | false =>
          have hf : first b = none := by simp [first, hi, h9, h2]
          rw [hf]; dsimp only
          refine Ideal.Spec.of_TD3 (n := 39) (fn := Tryz.f41) rfl rfl rfl rfl rfl rfl rfl fun w ok => ?_
          refine T.sregD 39 [0, 2, 3, 4, 5, 6, 20, 35] fun Kr hKr => ?_
          simp only [go_sem]
          (repeat (refine ⟨by (first | exact True.intro | omega | rfl | (simp; done) | (simp; omega)), ?_⟩)); try (refine hKr _ ?_; clear hKr Kr)
          refine T.sregD 39 [0, 2, 3, 4, 5, 6, 20, 35] fun Kr hKr => ?_
          simp only [go_sem, e1, e2]
          (repeat (refine ⟨by (first | exact True.intro | omega | rfl | (simp; done) | (simp; omega)), ?_⟩)); try (refine hKr _ ?_; clear hKr Kr)
          refine CallK.data (fun _ => Spec.args (index_spec _ _) (by (first | exact ArgsLe.refl | (repeat (first | exact True.intro | refine And.intro (by first | exact AvLe.refl | exact AvLe.loose | exact AvLe.nil | exact AvLe.nilT | exact AvLe.slk | (refine AvLe.agg ?_; exact ArgsLe.refl) | (refine AvLe.agg ?_; (repeat (first | exact True.intro | refine And.intro (by first | exact AvLe.refl | exact AvLe.loose | exact AvLe.nil | exact AvLe.nilT | exact AvLe.slk) ?_)))) ?_))))) rfl ?_
          simp only [go_sem, hI]
          (repeat (refine ⟨by (first | exact True.intro | omega | rfl | (simp; done) | (simp; omega)), ?_⟩)); try (refine hKr _ ?_; clear hKr Kr)
          refine T.seqK fun K46 hK46 => ?_
          refine T.sregD 39 [0, 2, 3, 4, 5, 6, 20, 35] fun Kr hKr => ?_
          simp only [go_sem, hd, h8, hx]
          (repeat (refine ⟨by (first | exact True.intro | omega | rfl | (simp; done) | (simp; omega)), ?_⟩)); try (refine hKr _ ?_; clear hKr Kr)
          refine T.condTD rfl rfl (fun hb => ?_) (fun hb => ?_) <;> simp at hb
          refine T.skip ?_
          refine hK46 _ ?_
          refine T.sregD 39 [0, 2, 3, 4, 5, 6, 20, 35] fun Kr hKr => ?_
          simp only [go_sem]
          (repeat (refine ⟨by (first | exact True.intro | omega | rfl | (simp; done) | (simp; omega)), ?_⟩)); try (refine hKr _ ?_; clear hKr Kr)
          refine T.seqK fun K47 hK47 => ?_
          refine T.sdraw2D 39 [0, 2, 3, 4, 5, 6, 20, 35] (.take 0 (.one 1 (.take 2 (.take 3 (.take 4 (.take 5 (.take 7 (.two 6 (.one 8 (.take 9 (.take 10 .done))) 8 (.one 6 (.take 9 (.take 10 .done))))))))))) [] rfl (by decide +kernel) (by decide +kernel) ?x1 ?h1 (fun Kr hKr => ?all1) ?rest1
          case all1 =>
            simp only [go_sem, h2]
            (repeat (any_goals (first | exact hKr _ (.inl rfl) | exact hKr _ (.inr (by (repeat (first | exact True.intro | refine And.intro (by first | rfl | (simp [look]; done)) ?_)))) | ((first | refine CallK.dataA (sf) ?_ rfl ?_ | refine CallK.tupA (sf) ?_ ?_ | refine CallK.ownA (sf) ?_ ?_); (focus ((first | exact ArgsLe.refl | (repeat (first | exact True.intro | refine And.intro (by first | exact AvLe.refl | exact AvLe.loose | exact AvLe.nil | exact AvLe.nilT | exact AvLe.slk | (refine AvLe.agg ?_; exact ArgsLe.refl) | (refine AvLe.agg ?_; (repeat (first | exact True.intro | refine And.intro (by first | exact AvLe.refl | exact AvLe.loose | exact AvLe.nil | exact AvLe.nilT | exact AvLe.slk) ?_)))) ?_))); done)); simp only [go_sem, h2]) | ((first | refine CallK.dataA (ss) ?_ rfl ?_ | refine CallK.tupA (ss) ?_ ?_ | refine CallK.ownA (ss) ?_ ?_); (focus ((first | exact ArgsLe.refl | (repeat (first | exact True.intro | refine And.intro (by first | exact AvLe.refl | exact AvLe.loose | exact AvLe.nil | exact AvLe.nilT | exact AvLe.slk | (refine AvLe.agg ?_; exact ArgsLe.refl) | (refine AvLe.agg ?_; (repeat (first | exact True.intro | refine And.intro (by first | exact AvLe.refl | exact AvLe.loose | exact AvLe.nil | exact AvLe.nilT | exact AvLe.slk) ?_)))) ?_))); done)); simp only [go_sem, h2]) | (refine And.intro ?_ ?_) | (first | exact True.intro | omega | rfl | (simp; done) | (simp; omega)))))
            all_goals (first | exact hKr _ (.inl rfl) | exact hKr _ (.inr (by (repeat (first | exact True.intro | refine And.intro (by first | rfl | (simp [look]; done)) ?_)))))
          case rest1 =>
          refine T.condTD rfl rfl (fun hb => ?_) (fun hb => ?_) <;> simp at hb
          refine T.sregD 39 [0, 2, 3, 4, 5, 6, 20, 35] fun Kr hKr => ?_
          simp only [go_sem]
          (repeat (refine ⟨by (first | exact True.intro | omega | rfl | (simp; done) | (simp; omega)), ?_⟩)); try (refine hKr _ ?_; clear hKr Kr)
          refine T.ret ⟨⟨rfl, rfl, rfl⟩, ⟨rfl, rfl, rfl⟩, ⟨rfl, rfl, rfl⟩⟩
        | true =>
          by_cases h3 : b.take 8 = sumS ((b.take e).drop 9)
          · have hy' : (b.take 8 == sumS ((b.take e).drop 9)) = true := by simpa using h3
            have hf : first b = some ((b.take e).drop 9) := by
              have : (b.getD 8 0 == 32) = true := by simpa using h1
              simp only [first, hi, if_neg h9, this, h2, hy', Bool.true_and, if_true]
            have hy : (b.take 8 == sumS ((b.take e).drop 9)) = true := by simpa using h3
            rw [hf]; dsimp only
            refine Ideal.Spec.of_TD3 (n := 39) (fn := Tryz.f41) rfl rfl rfl rfl rfl rfl rfl fun w ok => ?_
            refine T.sregD 39 [0, 2, 3, 4, 5, 6, 20, 35] fun Kr hKr => ?_
            simp only [go_sem]
            (repeat (refine ⟨by (first | exact True.intro | omega | rfl | (simp; done) | (simp; omega)), ?_⟩)); try (refine hKr _ ?_; clear hKr Kr)
            refine T.sregD 39 [0, 2, 3, 4, 5, 6, 20, 35] fun Kr hKr => ?_
            simp only [go_sem, e1, e2]
            (repeat (refine ⟨by (first | exact True.intro | omega | rfl | (simp; done) | (simp; omega)), ?_⟩)); try (refine hKr _ ?_; clear hKr Kr)
            refine CallK.data (fun _ => Spec.args (index_spec _ _) (by (first | exact ArgsLe.refl | (repeat (first | exact True.intro | refine And.intro (by first | exact AvLe.refl | exact AvLe.loose | exact AvLe.nil | exact AvLe.nilT | exact AvLe.slk | (refine AvLe.agg ?_; exact ArgsLe.refl) | (refine AvLe.agg ?_; (repeat (first | exact True.intro | refine And.intro (by first | exact AvLe.refl | exact AvLe.loose | exact AvLe.nil | exact AvLe.nilT | exact AvLe.slk) ?_)))) ?_))))) rfl ?_
            simp only [go_sem, hI]
            (repeat (refine ⟨by (first | exact True.intro | omega | rfl | (simp; done) | (simp; omega)), ?_⟩)); try (refine hKr _ ?_; clear hKr Kr)
            refine T.seqK fun K46 hK46 => ?_
            refine T.sregD 39 [0, 2, 3, 4, 5, 6, 20, 35] fun Kr hKr => ?_
            simp only [go_sem, hd, h8, hx]
            (repeat (refine ⟨by (first | exact True.intro | omega | rfl | (simp; done) | (simp; omega)), ?_⟩)); try (refine hKr _ ?_; clear hKr Kr)
            refine T.condTD rfl rfl (fun hb => ?_) (fun hb => ?_) <;> simp at hb
            refine T.skip ?_
            refine hK46 _ ?_
            refine T.sregD 39 [0, 2, 3, 4, 5, 6, 20, 35] fun Kr hKr => ?_
            simp only [go_sem]
            (repeat (refine ⟨by (first | exact True.intro | omega | rfl | (simp; done) | (simp; omega)), ?_⟩)); try (refine hKr _ ?_; clear hKr Kr)
            refine T.seqK fun K47 hK47 => ?_
            refine T.sdraw2D 39 [0, 2, 3, 4, 5, 6, 20, 35] (.take 0 (.one 1 (.take 2 (.take 3 (.take 4 (.take 5 (.take 7 (.two 6 (.one 8 (.take 9 (.take 10 .done))) 8 (.one 6 (.take 9 (.take 10 .done))))))))))) [] rfl (by decide +kernel) (by decide +kernel) ?x2 ?h2 (fun Kr hKr => ?all2) ?rest2
            case all2 =>
              simp only [go_sem, h2, hy]
              (repeat (any_goals (first | exact hKr _ (.inl rfl) | exact hKr _ (.inr (by (repeat (first | exact True.intro | refine And.intro (by first | rfl | (simp [look]; done)) ?_)))) | ((first | refine CallK.dataA (sf) ?_ rfl ?_ | refine CallK.tupA (sf) ?_ ?_ | refine CallK.ownA (sf) ?_ ?_); (focus ((first | exact ArgsLe.refl | (repeat (first | exact True.intro | refine And.intro (by first | exact AvLe.refl | exact AvLe.loose | exact AvLe.nil | exact AvLe.nilT | exact AvLe.slk | (refine AvLe.agg ?_; exact ArgsLe.refl) | (refine AvLe.agg ?_; (repeat (first | exact True.intro | refine And.intro (by first | exact AvLe.refl | exact AvLe.loose | exact AvLe.nil | exact AvLe.nilT | exact AvLe.slk) ?_)))) ?_))); done)); simp only [go_sem, h2, hy]) | ((first | refine CallK.dataA (ss) ?_ rfl ?_ | refine CallK.tupA (ss) ?_ ?_ | refine CallK.ownA (ss) ?_ ?_); (focus ((first | exact ArgsLe.refl | (repeat (first | exact True.intro | refine And.intro (by first | exact AvLe.refl | exact AvLe.loose | exact AvLe.nil | exact AvLe.nilT | exact AvLe.slk | (refine AvLe.agg ?_; exact ArgsLe.refl) | (refine AvLe.agg ?_; (repeat (first | exact True.intro | refine And.intro (by first | exact AvLe.refl | exact AvLe.loose | exact AvLe.nil | exact AvLe.nilT | exact AvLe.slk) ?_)))) ?_))); done)); simp only [go_sem, h2, hy]) | (refine And.intro ?_ ?_) | (first | exact True.intro | omega | rfl | (simp; done) | (simp; omega)))))
              all_goals (first | exact hKr _ (.inl rfl) | exact hKr _ (.inr (by (repeat (first | exact True.intro | refine And.intro (by first | rfl | (simp [look]; done)) ?_)))))
            case rest2 =>
            refine T.condTD rfl rfl (fun hb => ?_) (fun hb => ?_) <;> simp at hb
            refine T.skip ?_
            refine hK47 _ ?_
            refine T.sregD 39 [0, 2, 3, 4, 5, 6, 20, 35] fun Kr hKr => ?_
            simp only [go_sem]
            (repeat (refine ⟨by (first | exact True.intro | omega | rfl | (simp; done) | (simp; omega)), ?_⟩)); try (refine hKr _ ?_; clear hKr Kr)
            refine T.ret ?_
            rw [show (((b.take e).drop 9).length : Int) + 10 = (e : Int) + 1 by omega]
            exact ⟨⟨rfl, rfl, rfl⟩, ⟨rfl, rfl, rfl⟩, ⟨rfl, rfl, rfl⟩⟩
          · have hf : first b = none := by simp [first, hi, h9, h3]
            have hy : (b.take 8 == sumS ((b.take e).drop 9)) = false := by simpa using h3
            rw [hf]; dsimp only
            refine Ideal.Spec.of_TD3 (n := 39) (fn := Tryz.f41) rfl rfl rfl rfl rfl rfl rfl fun w ok => ?_
            refine T.sregD 39 [0, 2, 3, 4, 5, 6, 20, 35] fun Kr hKr => ?_
            simp only [go_sem]
            (repeat (refine ⟨by (first | exact True.intro | omega | rfl | (simp; done) | (simp; omega)), ?_⟩)); try (refine hKr _ ?_; clear hKr Kr)
            refine T.sregD 39 [0, 2, 3, 4, 5, 6, 20, 35] fun Kr hKr => ?_
            simp only [go_sem, e1, e2]
            (repeat (refine ⟨by (first | exact True.intro | omega | rfl | (simp; done) | (simp; omega)), ?_⟩)); try (refine hKr _ ?_; clear hKr Kr)
            refine CallK.data (fun _ => Spec.args (index_spec _ _) (by (first | exact ArgsLe.refl | (repeat (first | exact True.intro | refine And.intro (by first | exact AvLe.refl | exact AvLe.loose | exact AvLe.nil | exact AvLe.nilT | exact AvLe.slk | (refine AvLe.agg ?_; exact ArgsLe.refl) | (refine AvLe.agg ?_; (repeat (first | exact True.intro | refine And.intro (by first | exact AvLe.refl | exact AvLe.loose | exact AvLe.nil | exact AvLe.nilT | exact AvLe.slk) ?_)))) ?_))))) rfl ?_
            simp only [go_sem, hI]
            (repeat (refine ⟨by (first | exact True.intro | omega | rfl | (simp; done) | (simp; omega)), ?_⟩)); try (refine hKr _ ?_; clear hKr Kr)
            refine T.seqK fun K46 hK46 => ?_
            refine T.sregD 39 [0, 2, 3, 4, 5, 6, 20, 35] fun Kr hKr => ?_
            simp only [go_sem, hd, h8, hx]
            (repeat (refine ⟨by (first | exact True.intro | omega | rfl | (simp; done) | (simp; omega)), ?_⟩)); try (refine hKr _ ?_; clear hKr Kr)
            refine T.condTD rfl rfl (fun hb => ?_) (fun hb => ?_) <;> simp at hb
            refine T.skip ?_
            refine hK46 _ ?_
            refine T.sregD 39 [0, 2, 3, 4, 5, 6, 20, 35] fun Kr hKr => ?_
            simp only [go_sem]
            (repeat (refine ⟨by (first | exact True.intro | omega | rfl | (simp; done) | (simp; omega)), ?_⟩)); try (refine hKr _ ?_; clear hKr Kr)
            refine T.seqK fun K47 hK47 => ?_
            refine T.sdraw2D 39 [0, 2, 3, 4, 5, 6, 20, 35] (.take 0 (.one 1 (.take 2 (.take 3 (.take 4 (.take 5 (.take 7 (.two 6 (.one 8 (.take 9 (.take 10 .done))) 8 (.one 6 (.take 9 (.take 10 .done))))))))))) [] rfl (by decide +kernel) (by decide +kernel) ?x3 ?h3 (fun Kr hKr => ?all3) ?rest3
            case all3 =>
              simp only [go_sem, h2, hy]
              (repeat (any_goals (first | exact hKr _ (.inl rfl) | exact hKr _ (.inr (by (repeat (first | exact True.intro | refine And.intro (by first | rfl | (simp [look]; done)) ?_)))) | ((first | refine CallK.dataA (sf) ?_ rfl ?_ | refine CallK.tupA (sf) ?_ ?_ | refine CallK.ownA (sf) ?_ ?_); (focus ((first | exact ArgsLe.refl | (repeat (first | exact True.intro | refine And.intro (by first | exact AvLe.refl | exact AvLe.loose | exact AvLe.nil | exact AvLe.nilT | exact AvLe.slk | (refine AvLe.agg ?_; exact ArgsLe.refl) | (refine AvLe.agg ?_; (repeat (first | exact True.intro | refine And.intro (by first | exact AvLe.refl | exact AvLe.loose | exact AvLe.nil | exact AvLe.nilT | exact AvLe.slk) ?_)))) ?_))); done)); simp only [go_sem, h2, hy]) | ((first | refine CallK.dataA (ss) ?_ rfl ?_ | refine CallK.tupA (ss) ?_ ?_ | refine CallK.ownA (ss) ?_ ?_); (focus ((first | exact ArgsLe.refl | (repeat (first | exact True.intro | refine And.intro (by first | exact AvLe.refl | exact AvLe.loose | exact AvLe.nil | exact AvLe.nilT | exact AvLe.slk | (refine AvLe.agg ?_; exact ArgsLe.refl) | (refine AvLe.agg ?_; (repeat (first | exact True.intro | refine And.intro (by first | exact AvLe.refl | exact AvLe.loose | exact AvLe.nil | exact AvLe.nilT | exact AvLe.slk) ?_)))) ?_))); done)); simp only [go_sem, h2, hy]) | (refine And.intro ?_ ?_) | (first | exact True.intro | omega | rfl | (simp; done) | (simp; omega)))))
              all_goals (first | exact hKr _ (.inl rfl) | exact hKr _ (.inr (by (repeat (first | exact True.intro | refine And.intro (by first | rfl | (simp [look]; done)) ?_)))))
            case rest3 =>
            refine T.condTD rfl rfl (fun hb => ?_) (fun hb => ?_) <;> simp at hb
            refine T.sregD 39 [0, 2, 3, 4, 5, 6, 20, 35] fun Kr hKr => ?_
            simp only [go_sem]
            (repeat (refine ⟨by (first | exact True.intro | omega | rfl | (simp; done) | (simp; omega)), ?_⟩)); try (refine hKr _ ?_; clear hKr Kr)
            refine T.ret ⟨⟨rfl, rfl, rfl⟩, ⟨rfl, rfl, rfl⟩, ⟨rfl, rfl, rfl⟩⟩
      · have hf : first b = none := by
          have : (b.getD 8 0 == 32) = false := by simpa using h1
          simp only [first, hi, if_neg h9, this, Bool.false_and, Bool.false_eq_true, if_false]
        have hx : decide (((b.getD 8 0).toNat : Int) = 32) = false := by
          simp only [decide_eq_false_iff_not]
          intro h
          apply h1
          apply UInt8.toNat_inj.1
          exact_mod_cast h
        rw [hf]; dsimp only
        refine Ideal.Spec.of_TD3 (n := 39) (fn := Tryz.f41) rfl rfl rfl rfl rfl rfl rfl fun w ok => ?_
        refine T.sregD 39 [0, 2, 3, 4, 5, 6, 20, 35] fun Kr hKr => ?_
        simp only [go_sem]
        (repeat (refine ⟨by (first | exact True.intro | omega | rfl | (simp; done) | (simp; omega)), ?_⟩)); try (refine hKr _ ?_; clear hKr Kr)
        refine T.sregD 39 [0, 2, 3, 4, 5, 6, 20, 35] fun Kr hKr => ?_
        simp only [go_sem, e1, e2]
        (repeat (refine ⟨by (first | exact True.intro | omega | rfl | (simp; done) | (simp; omega)), ?_⟩)); try (refine hKr _ ?_; clear hKr Kr)
        refine CallK.data (fun _ => Spec.args (index_spec _ _) (by (first | exact ArgsLe.refl | (repeat (first | exact True.intro | refine And.intro (by first | exact AvLe.refl | exact AvLe.loose | exact AvLe.nil | exact AvLe.nilT | exact AvLe.slk | (refine AvLe.agg ?_; exact ArgsLe.refl) | (refine AvLe.agg ?_; (repeat (first | exact True.intro | refine And.intro (by first | exact AvLe.refl | exact AvLe.loose | exact AvLe.nil | exact AvLe.nilT | exact AvLe.slk) ?_)))) ?_))))) rfl ?_
        simp only [go_sem, hI]
        (repeat (refine ⟨by (first | exact True.intro | omega | rfl | (simp; done) | (simp; omega)), ?_⟩)); try (refine hKr _ ?_; clear hKr Kr)
        refine T.seqK fun K46 hK46 => ?_
        refine T.sregD 39 [0, 2, 3, 4, 5, 6, 20, 35] fun Kr hKr => ?_
        simp only [go_sem, hd, h8, hx]
        (repeat (refine ⟨by (first | exact True.intro | omega | rfl | (simp; done) | (simp; omega)), ?_⟩)); try (refine hKr _ ?_; clear hKr Kr)
        refine T.condTD rfl rfl (fun hb => ?_) (fun hb => ?_) <;> simp at hb
        refine T.sregD 39 [0, 2, 3, 4, 5, 6, 20, 35] fun Kr hKr => ?_
        simp only [go_sem]
        (repeat (refine ⟨by (first | exact True.intro | omega | rfl | (simp; done) | (simp; omega)), ?_⟩)); try (refine hKr _ ?_; clear hKr Kr)
        refine T.ret ⟨⟨rfl, rfl, rfl⟩, ⟨rfl, rfl, rfl⟩, ⟨rfl, rfl, rfl⟩⟩
theorem fit_len {l : List UInt8} (h : fit l = true) : l.length ≤ 200 := by
  simp [fit] at h; exact h.1
theorem putj_ok (ex : Bool) (b l : List UInt8) (h : fit l = true) (hb : b.length < 2 ^ 35) : Ideal.Spec Tryz.prog 13 [.sl ex 1 (bytesOf b), .str l] (.tup [.sl false 1 (bytesOf (b ++ entry l)), .int .i64 0]) none := by
  have hl := fit_len h
  refine Ideal.Spec.of_TD2 (n := 22) (fn := Tryz.f13) rfl rfl rfl rfl rfl rfl rfl fun w ok => ?_
  refine T.post [.tmp 4] ?_
  refine T.sregD 22 [0, 1, 4, 5, 8] fun Kr hKr => ?_
  simp only [go_sem]
  (repeat (refine ⟨by (first | exact True.intro | omega | rfl | (simp; done) | (simp; omega)), ?_⟩)); try (refine hKr _ ?_; clear hKr Kr)
  refine T.seqK fun K22 hK22 => ?_
  refine T.sregD 22 [0, 1, 4, 5, 8] fun Kr hKr => ?_
  simp only [go_sem]
  (repeat (refine ⟨by (first | exact True.intro | omega | rfl | (simp; done) | (simp; omega)), ?_⟩)); try (refine hKr _ ?_; clear hKr Kr)
  refine CallK.data (fun _ => Spec.args (fit_spec _) (by (first | exact ArgsLe.refl | (repeat (first | exact True.intro | refine And.intro (by first | exact AvLe.refl | exact AvLe.loose | exact AvLe.nil | exact AvLe.nilT | exact AvLe.slk | (refine AvLe.agg ?_; exact ArgsLe.refl) | (refine AvLe.agg ?_; (repeat (first | exact True.intro | refine And.intro (by first | exact AvLe.refl | exact AvLe.loose | exact AvLe.nil | exact AvLe.nilT | exact AvLe.slk) ?_)))) ?_))))) rfl ?_
  simp only [go_sem, h]
  (repeat (refine ⟨by (first | exact True.intro | omega | rfl | (simp; done) | (simp; omega)), ?_⟩)); try (refine hKr _ ?_; clear hKr Kr)
  refine T.condTD rfl rfl (fun hb => ?_) (fun hb => ?_) <;> simp at hb
  refine T.skip ?_
  refine hK22 _ ?_
  refine T.sdrawD 22 [0, 1, 4, 5, 8] (.take 0 (.take 1 (.take 2 (.take 3 (.take 4 (.take 5 (.take 6 (.take 9 (.one 7 (.take 8 (.take 10 (.take 11 (.one 12 (.take 13 (.take 14 .done))))))))))))))) [] rfl (by decide +kernel) (by decide +kernel) fun Kr hKr => ?_
  simp only [go_sem]
  (repeat (refine ⟨by (first | exact True.intro | omega | rfl | (simp; done) | (simp; omega)), ?_⟩)); try (refine hKr _ ?_; clear hKr Kr)
  have ss := sumj_spec l (by omega)
  refine CallK.data (fun _ => Spec.args (ss) (by (first | exact ArgsLe.refl | (repeat (first | exact True.intro | refine And.intro (by first | exact AvLe.refl | exact AvLe.loose | exact AvLe.nil | exact AvLe.nilT | exact AvLe.slk | (refine AvLe.agg ?_; exact ArgsLe.refl) | (refine AvLe.agg ?_; (repeat (first | exact True.intro | refine And.intro (by first | exact AvLe.refl | exact AvLe.loose | exact AvLe.nil | exact AvLe.nilT | exact AvLe.slk) ?_)))) ?_))))) rfl ?_
  simp only [go_sem]
  (repeat (refine ⟨by (first | exact True.intro | omega | rfl | (simp; done) | (simp; omega)), ?_⟩)); try (refine hKr _ ?_; clear hKr Kr)
  refine T.ret ?_
  simp only [go_sem]
  refine ⟨AtD ?_ rfl rfl, AtD rfl rfl rfl⟩
  have : (b ++ (sumS l ++ 32 :: (l ++ [10]))).take (b.length + (8 + (l.length + 1 + 1))) = b ++ (sumS l ++ 32 :: (l ++ [10])) := List.take_of_length_le (by simp [sumS_len])
  simp [slook, entry, this]
inductive Reads : List UInt8 → List (List UInt8) → Nat → Prop
  | stop {b : List UInt8} (h : first b = none) : Reads b [] 0
  | step {b line : List UInt8} {ls : List (List UInt8)} {n : Nat} (h : first b = some line) (t : Reads (b.drop (line.length + 10)) ls n) : Reads b (line :: ls) (line.length + 10 + n)
theorem first_len {b line : List UInt8} (h : first b = some line) : line.length + 10 ≤ b.length ∧ line.length ≤ 200 := by
  unfold first at h
  split at h
  · cases h
  · rename_i e hi
    have := ix_lt hi
    rw [List.length_take] at this
    split at h
    · cases h
    · split at h
      · cases h
        simp; omega
      · cases h
theorem readj_spec (ex : Bool) (b : List UInt8) (ls : List (List UInt8)) (n : Nat) (h : Reads b ls n) (hb : b.length < 2 ^ 35) :
    Ideal.Spec Tryz.prog 15 [.sl ex 1 (bytesOf b)] (.tup [.sl false 1 (strsOf ls), .int .i64 n]) none := by
  refine Ideal.Spec.of_TD2 (n := 28) (fn := Tryz.f15) rfl rfl rfl rfl rfl rfl rfl fun w ok => ?_
  refine T.post [.tmp 2] ?_
  refine T.sregD 28 [0, 2, 3, 4, 5, 6, 7, 8, 18] fun Kr hKr => ?_
  simp only [go_sem]
  (repeat (refine ⟨by (first | exact True.intro | omega | rfl | (simp; done) | (simp; omega)), ?_⟩)); try (refine hKr _ ?_; clear hKr Kr)
  refine T.sregD 28 [0, 2, 3, 4, 5, 6, 7, 8, 18] fun Kr hKr => ?_
  simp only [go_sem]
  (repeat (refine ⟨by (first | exact True.intro | omega | rfl | (simp; done) | (simp; omega)), ?_⟩)); try (refine hKr _ ?_; clear hKr Kr)
  refine T.sregD 28 [0, 2, 3, 4, 5, 6, 7, 8, 18] fun Kr hKr => ?_
  simp only [go_sem]
  (repeat (refine ⟨by (first | exact True.intro | omega | rfl | (simp; done) | (simp; omega)), ?_⟩)); try (refine hKr _ ?_; clear hKr Kr)
  refine T.bloop (fun p : List (List UInt8) × Nat => ⟨dense 28 [(0, .sl ex 1 (bytesOf b)), (4, .osl 4 0 p.1.length), (5, .int .i64 p.2)], [(4, ⟨1, 9, false, strsOf p.1⟩)]⟩) (fun p => p.2 ≤ b.length ∧ p.1.length ≤ p.2 ∧ ∃ ls2 n2, Reads (b.drop p.2) ls2 n2 ∧ ls = p.1 ++ ls2 ∧ n = p.2 + n2) (fun p => b.length - p.2) ([], 0) ⟨by simp, by simp, ls, n, by simpa using h, by simp, by simp⟩ ?_ fun p hp => ?_
  · refine (Le.own 4 4 1 9).trans ?_
    simp only [go_sem]
    refine Le.fitS (by (repeat (first | exact DFit.nil | refine DFit.cons (by first | rfl | (simp [slook]; done) | (simp [slook]; omega)) ?_))) (by (repeat (first | exact True.intro | refine And.intro (by first | rfl | (simp [look]; done)) ?_)))
  obtain ⟨m, n1⟩ := p
  obtain ⟨hn1, hm, ls2, n2, hr, hls, hn⟩ := hp
  simp only at hn1 hm hr hls hn
  have hl1 : (b.drop n1).length < 2 ^ 60 := by simp; omega
  refine T.block ?_
  cases hf : first (b.drop n1) with
  | none =>
    have hsp := firstj_spec ex (b.drop n1) hl1
    rw [hf] at hsp; dsimp only at hsp
    refine T.sregD 28 [0, 2, 3, 4, 5, 6, 7, 8, 18] fun Kr hKr => ?_
    simp only [go_sem]
    (repeat (refine ⟨by (first | exact True.intro | omega | rfl | (simp; done) | (simp; omega)), ?_⟩)); try (refine hKr _ ?_; clear hKr Kr)
    refine CallK.tup (fun _ => Spec.args (hsp) (by (first | exact ArgsLe.refl | (repeat (first | exact True.intro | refine And.intro (by first | exact AvLe.refl | exact AvLe.loose | exact AvLe.nil | exact AvLe.nilT | exact AvLe.slk | (refine AvLe.agg ?_; exact ArgsLe.refl) | (refine AvLe.agg ?_; (repeat (first | exact True.intro | refine And.intro (by first | exact AvLe.refl | exact AvLe.loose | exact AvLe.nil | exact AvLe.nilT | exact AvLe.slk) ?_)))) ?_))))) ?_
    simp only [go_sem]
    (repeat (refine ⟨by (first | exact True.intro | omega | rfl | (simp; done) | (simp; omega)), ?_⟩)); try (refine hKr _ ?_; clear hKr Kr)
    refine T.seqK fun K24 hK24 => ?_
    refine T.sregD 28 [0, 2, 3, 4, 5, 6, 7, 8, 18] fun Kr hKr => ?_
    simp only [go_sem]
    (repeat (refine ⟨by (first | exact True.intro | omega | rfl | (simp; done) | (simp; omega)), ?_⟩)); try (refine hKr _ ?_; clear hKr Kr)
    refine T.condTD rfl rfl (fun hb => ?_) (fun hb => ?_) <;> simp at hb
    refine T.sregD 28 [0, 2, 3, 4, 5, 6, 7, 8, 18] fun Kr hKr => ?_
    simp only [go_sem]
    (repeat (refine ⟨by (first | exact True.intro | omega | rfl | (simp; done) | (simp; omega)), ?_⟩)); try (refine hKr _ ?_; clear hKr Kr)
    refine T.ret ?_
    simp only [go_sem]
    cases hr with
    | stop => exact ⟨AtD (by simp [hls, slook]) rfl rfl, AtD (by simp [hn, slook]) rfl rfl⟩
    | step h => rw [hf] at h; cases h
  | some line =>
    have hsp := firstj_spec ex (b.drop n1) hl1
    have hlen := first_len hf
    rw [List.length_drop] at hlen
    rw [hf] at hsp; dsimp only at hsp
    refine T.sregD 28 [0, 2, 3, 4, 5, 6, 7, 8, 18] fun Kr hKr => ?_
    simp only [go_sem]
    (repeat (refine ⟨by (first | exact True.intro | omega | rfl | (simp; done) | (simp; omega)), ?_⟩)); try (refine hKr _ ?_; clear hKr Kr)
    refine CallK.tup (fun _ => Spec.args (hsp) (by (first | exact ArgsLe.refl | (repeat (first | exact True.intro | refine And.intro (by first | exact AvLe.refl | exact AvLe.loose | exact AvLe.nil | exact AvLe.nilT | exact AvLe.slk | (refine AvLe.agg ?_; exact ArgsLe.refl) | (refine AvLe.agg ?_; (repeat (first | exact True.intro | refine And.intro (by first | exact AvLe.refl | exact AvLe.loose | exact AvLe.nil | exact AvLe.nilT | exact AvLe.slk) ?_)))) ?_))))) ?_
    simp only [go_sem]
    (repeat (refine ⟨by (first | exact True.intro | omega | rfl | (simp; done) | (simp; omega)), ?_⟩)); try (refine hKr _ ?_; clear hKr Kr)
    refine T.seqK fun K24 hK24 => ?_
    refine T.sregD 28 [0, 2, 3, 4, 5, 6, 7, 8, 18] fun Kr hKr => ?_
    simp only [go_sem]
    (repeat (refine ⟨by (first | exact True.intro | omega | rfl | (simp; done) | (simp; omega)), ?_⟩)); try (refine hKr _ ?_; clear hKr Kr)
    refine T.condTD rfl rfl (fun hb => ?_) (fun hb => ?_) <;> simp at hb
    refine T.skip ?_
    refine hK24 _ ?_
    refine T.sregD 28 [0, 2, 3, 4, 5, 6, 7, 8, 18] fun Kr hKr => ?_
    simp only [go_sem]
    (repeat (refine ⟨by (first | exact True.intro | omega | rfl | (simp; done) | (simp; omega)), ?_⟩)); try (refine hKr _ ?_; clear hKr Kr)
    refine T.regD 28 [0, 2, 3, 4, 5, 6, 7, 8, 18] fun Kr hKr => ?_
    simp only [go_sem]
    (repeat (refine ⟨by (first | exact True.intro | omega | rfl | (simp; done) | (simp; omega)), ?_⟩)); try (refine hKr _ ?_; clear hKr Kr)
    cases hr with
    | stop h => rw [hf] at h; cases h
    | @step _ line' ls3 n3 h t =>
      rw [hf] at h; cases h
      refine ⟨(m ++ [line], n1 + (line.length + 10)), ?_, ?_, Le.fitS (by (repeat (first | exact DFit.nil | refine DFit.cons (by first | rfl | (simp [slook]; done) | (simp [slook]; omega)) ?_))) ?_⟩
      · refine ⟨by simp only; omega, by simp; omega, ls3, n3, by simpa [List.drop_drop] using t, by simp [hls], by simp only; omega⟩
      · simp only; omega
      · simp [strsOf_app, strsOf_one]; (repeat (first | exact True.intro | refine And.intro (by first | rfl | (simp [look]; done)) ?_))
end Go.Proofs
