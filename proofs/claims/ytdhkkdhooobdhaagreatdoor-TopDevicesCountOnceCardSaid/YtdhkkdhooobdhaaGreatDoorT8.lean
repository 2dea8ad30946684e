/- What a record counts (packages learn and decay). -/
import Derived.Test.YtdhkkdhooobdhaaGreatDoorGW
import Derived.WalkKit
import Derived.WalkSpells
import Derived.Deep.LoopGhost
import Derived.Lib.OthersKept
import Derived.BigQuiet
import Derived.Deep.QuietTactic
set_option linter.unusedVariables false
set_option linter.unusedSimpArgs false
namespace Go.Proofs
open Go Go.RowKit
set_option maxRecDepth 100000
set_option maxHeartbeats 1000000

theorem hlv_pow (n : Int) : ∀ k : Nat, n / 2 ^ k = hlv n k
  | 0 => by simp [hlv]
  | k + 1 => by
    have h := Int.shiftRight_add n k 1
    rw [Int.shiftRight_eq_div_pow, Int.shiftRight_eq_div_pow, Int.shiftRight_eq_div_pow] at h
    have e1 : ((2 ^ (k + 1) : Nat) : Int) = 2 ^ (k + 1) := by norm_cast
    have e2 : ((2 ^ k : Nat) : Int) = 2 ^ k := by norm_cast
    have e3 : ((2 ^ 1 : Nat) : Int) = 2 := by norm_cast
    rw [e1, e2, e3] at h
    rw [h, hlv_pow n k, hlv]
theorem at_calls (e v ep : Int) (he : 0 ≤ e ∧ e ≤ ep) (hp : ep ≤ 50) (hv : 0 ≤ v ∧ v ≤ 1000) (w : World) :
    Calls Tryz.prog 31 #[.agg #[.int .i64 e, .int .i64 v], .int .i64 ep] w fun x w' => x = .returned (.tuple #[.int .i64 (v / 2 ^ (ep - e).toNat), .int .i64 0]) ∧ Below w.heap.size w w' := by
  go_enter Tryz.func31, Tryz.ntmps31
  go_wp2
  go_ret2
  exact ⟨rfl, (Below.refl _ _).alloc (Nat.le_refl _) _⟩
open Go.Ideal
theorem at_spec (e v ep : Int) (he : 0 ≤ e ∧ e ≤ ep) (hp : ep ≤ 50) (hv : 0 ≤ v ∧ v ≤ 1000) : Ideal.Spec Tryz.prog 31 [.agg [.int .i64 e, .int .i64 v], .int .i64 ep] (.tup [.int .i64 (hlv v (ep - e).toNat), .int .i64 0]) none := by
  refine ⟨⟨Tryz.f31, Tryz.func31, rfl, rfl⟩, (fun o h => by cases h), fun ok w vs hlt hp2 => ?_⟩
  obtain ⟨x, vs', rfl, hx, hp2⟩ := hp2.cons_inv
  obtain ⟨y, vs', rfl, hy, hp2⟩ := hp2.cons_inv
  rw [hp2.nil_inv]
  cases hy
  cases hx with
  | agg us _ hl h1 hh =>
    match us, hl with
    | [a, b], _ =>
      have ha := hh 0 a _ rfl rfl
      have hb := hh 1 b _ rfl rfl
      cases ha; cases hb
      refine (at_calls e v ep he hp hv w).mono ?_
      rintro z w' ⟨rfl, hb⟩
      rw [hlv_pow]
      exact ⟨_, ok, fun _ => none, rfl, hb, fun _ h => h, fun b h => ⟨Nat.lt_of_lt_of_le (hlt b h) hb.size, .inl h⟩, ⟨[.int .i64 _, .int .i64 0], rfl, Pts.cons (R0.of_data (.int ..)) (Pts.cons (R0.of_data (.int ..)) Pts.nil)⟩, (fun k h => by cases h), ⟨by simp [Ideal.oneH, Ideal.look], by simp [Ideal.oneH, Ideal.look]⟩⟩
theorem valF_late {r : Rec} {ep : Int} (h : r.e < ep) (hp : ep ≤ 40) (he : 0 ≤ r.e) : valF r ep = hlv r.n (ep - r.e).toNat := by
  unfold valF halvedF; congr 1; omega
theorem valF_now {r : Rec} {ep : Int} (h : ¬ r.e < ep) : valF r ep = r.n := by
  unfold valF halvedF
  have e : min (max 0 (ep - r.e)).toNat 40 = 0 := by omega
  rw [e]; rfl
set_option maxRecDepth 8000 in
set_option maxHeartbeats 4000000 in
theorem CountL_spec (u : Usr) (h8 : u.l.length = 8) (hr : ∀ x ∈ u.r, RightR x) (hl : u.r.length ≤ 1000) (wd : List UInt8) (ep : Int) (ha : 0 ≤ ep ∧ ep ≤ 40) : Ideal.Spec Tryz.prog 11 [usrA u, .str wd, .int .i64 ep] (.int .i64 (S (cntF wd ep) u.r)) none := by
  refine Ideal.Spec.of_TD (n := 43) (fn := Tryz.f11) rfl rfl rfl rfl rfl rfl rfl fun w ok => ?_
  refine T.sregD 43 [0, 1, 2, 3, 6, 7, 9, 10, 12, 13, 14, 15, 21, 27] fun Kr hKr => ?_
  simp only [go_sem, h8]
  (repeat (refine ⟨by (first | exact True.intro | omega | rfl | (simp; done) | (simp; omega)), ?_⟩)); try (refine hKr _ ?_; clear hKr Kr)
  refine T.sregD 43 [0, 1, 2, 3, 6, 7, 9, 10, 12, 13, 14, 15, 21, 27] fun Kr hKr => ?_
  simp only [go_sem]
  (repeat (refine ⟨by (first | exact True.intro | omega | rfl | (simp; done) | (simp; omega)), ?_⟩)); try (refine hKr _ ?_; clear hKr Kr)
  refine T.seqK fun K32 hK32 => ?_
  refine T.sregD 43 [0, 1, 2, 3, 6, 7, 9, 10, 12, 13, 14, 15, 21, 27] fun Kr hKr => ?_
  simp only [go_sem]
  (repeat (refine ⟨by (first | exact True.intro | omega | rfl | (simp; done) | (simp; omega)), ?_⟩)); try (refine hKr _ ?_; clear hKr Kr)
  refine T.bloop (fun i : Nat => ⟨dense 43 [(1, .str wd), (2, .int .i64 ep), (7, .int .i64 (S (cntF wd ep) (u.r.take i))), (12, .sl false 6 (recsOf u.r)), (13, .int .i64 u.r.length), (14, .int .i64 i)], []⟩) (fun i => i ≤ u.r.length) (fun i => u.r.length - i) 0 (by simp) ?_ fun i hi => ?_
  · refine Le.fitS (by (repeat (first | exact DFit.nil | refine DFit.cons (by first | rfl | (simp [slook, List.take_zero, S, List.foldr_nil]; done) | (simp [slook, List.take_zero, S, List.foldr_nil]; omega)) ?_))) (by (repeat (first | exact True.intro | refine And.intro (by first | rfl | (simp [look]; done)) ?_)))
  have hSr := S_range wd ep (u.r.take i) (fun x hx => hr x (List.mem_of_mem_take hx))
  rw [List.length_take] at hSr
  refine T.sregD 43 [0, 1, 2, 3, 6, 7, 9, 10, 12, 13, 14, 15, 21, 27] fun Kr hKr => ?_
  simp only [go_sem]
  (repeat (refine ⟨by (first | exact True.intro | omega | rfl | (simp; done) | (simp; omega)), ?_⟩)); try (refine hKr _ ?_; clear hKr Kr)
  refine T.seqK fun K33 hK33 => ?_
  refine T.condFD rfl rfl (fun hb => ?_) (fun hb => ?_) <;> simp at hb
  · -- no: exit
    refine T.exit ?_
    simp only [if_true]
    refine hK32 _ ?_
    have hie : i = u.r.length := by omega
    subst hie
    rw [List.take_length]
    refine T.sregD 43 [0, 1, 2, 3, 6, 7, 9, 10, 12, 13, 14, 15, 21, 27] fun Kr hKr => ?_
    simp only [go_sem]
    (repeat (refine ⟨by (first | exact True.intro | omega | rfl | (simp; done) | (simp; omega)), ?_⟩)); try (refine hKr _ ?_; clear hKr Kr)
    refine T.ret (Fin.dataD rfl rfl rfl)
  refine T.skip ?_
  refine hK33 _ ?_
  have hx := hr (u.r.getD i default) (by simp [List.getD, hb])
  have hst := S_take (cntF wd ep) hb
  have hvr := valF_range hx ep
  have hc : cntF wd ep (u.r.getD i default) = if (u.r.getD i default).w = wd then valF (u.r.getD i default) ep else 0 := rfl
  refine T.seqK fun K34 hK34 => ?_
  refine T.block ?_
  refine T.sregD 43 [0, 1, 2, 3, 6, 7, 9, 10, 12, 13, 14, 15, 21, 27] fun Kr hKr => ?_
  simp only [go_sem, hb]
  (repeat (refine ⟨by (first | exact True.intro | omega | rfl | (simp; done) | (simp; omega)), ?_⟩)); try (refine hKr _ ?_; clear hKr Kr)
  generalize u.r.getD i default = x at *
  refine T.seqK fun K35 hK35 => ?_
  refine T.sregD 43 [0, 1, 2, 3, 6, 7, 9, 10, 12, 13, 14, 15, 21, 27] fun Kr hKr => ?_
  simp only [go_sem]
  (repeat (refine ⟨by (first | exact True.intro | omega | rfl | (simp; done) | (simp; omega)), ?_⟩)); try (refine hKr _ ?_; clear hKr Kr)
  by_cases hw : x.w = wd
  rotate_left
  · rw [if_neg hw] at hc
    rw [hc, Int.add_zero] at hst
    have hwb : (x.w == wd) = false := by rw [Bool.eq_false_iff, ne_eq, beq_iff_eq]; exact hw
    rw [hwb]
    refine T.condTD rfl rfl (fun hd => ?_) (fun hd => ?_) <;> try simp at hd
    refine T.exit ?_
    simp only [if_true]
    refine hK34 _ ?_
    refine T.regD 43 [0, 1, 2, 3, 6, 7, 9, 10, 12, 13, 14, 15, 21, 27] fun Kr hKr => ?_
    simp only [go_sem]
    (repeat (refine ⟨by (first | exact True.intro | omega | rfl | (simp; done) | (simp; omega)), ?_⟩)); try (refine hKr _ ?_; clear hKr Kr)
    refine ⟨i + 1, ?_, ?_, Le.fitS (by (repeat (first | exact DFit.nil | refine DFit.cons (by first | rfl | (simp [slook, hst]; done) | (simp [slook, hst]; omega)) ?_))) ?_⟩
    · omega
    · omega
    · (repeat (first | exact True.intro | refine And.intro (by first | rfl | (simp [look]; done)) ?_))
  rw [if_pos hw] at hc
  rw [hc] at hst
  have hwb : (x.w == wd) = true := by rw [beq_iff_eq]; exact hw
  rw [hwb]
  refine T.condTD rfl rfl (fun hd => ?_) (fun hd => ?_) <;> try simp at hd
  refine T.skip ?_
  refine hK35 _ ?_
  generalize S (cntF wd ep) (u.r.take i) = s at *
  have hxn := hx.n
  have hxe := hx.e
  refine T.sregD 43 [0, 1, 2, 3, 6, 7, 9, 10, 12, 13, 14, 15, 21, 27] fun Kr hKr => ?_
  simp only [go_sem]
  (repeat (refine ⟨by (first | exact True.intro | omega | rfl | (simp; done) | (simp; omega)), ?_⟩)); try (refine hKr _ ?_; clear hKr Kr)
  refine T.seqK fun K36 hK36 => ?_
  by_cases hlt : x.e < ep
  · have g1 : (x.e < ep) = True := eq_true hlt
    have s1 := at_spec x.e x.n ep (by omega) (by omega) (by omega)
    rw [valF_late hlt ha.2 hxe.1] at hst hvr
    generalize hlv x.n (ep - x.e).toNat = v at *
    refine T.sregD 43 [0, 1, 2, 3, 6, 7, 9, 10, 12, 13, 14, 15, 21, 27] fun Kr hKr => ?_
    simp only [go_sem, g1]
    (repeat (refine ⟨by (first | exact True.intro | omega | rfl | (simp; done) | (simp; omega)), ?_⟩)); try (refine hKr _ ?_; clear hKr Kr)
    refine T.condTD rfl rfl (fun hd => ?_) (fun hd => ?_) <;> try simp at hd
    refine T.regD 43 [0, 1, 2, 3, 6, 7, 9, 10, 12, 13, 14, 15, 21, 27] fun Kr hKr => ?_
    simp only [go_sem]
    (repeat (refine ⟨by (first | exact True.intro | omega | rfl | (simp; done) | (simp; omega)), ?_⟩)); try (refine hKr _ ?_; clear hKr Kr)
    refine CallK.tup (fun _ => Spec.args (s1) (by (first | exact ArgsLe.refl | (repeat (first | exact True.intro | refine And.intro (by first | exact AvLe.refl | exact AvLe.loose | exact AvLe.nil | exact AvLe.nilT | exact AvLe.slk | (refine AvLe.agg ?_; exact ArgsLe.refl) | (refine AvLe.agg ?_; (repeat (first | exact True.intro | refine And.intro (by first | exact AvLe.refl | exact AvLe.loose | exact AvLe.nil | exact AvLe.nilT | exact AvLe.slk) ?_)))) ?_))))) ?_
    simp only [go_sem]
    (repeat (refine ⟨by (first | exact True.intro | omega | rfl | (simp; done) | (simp; omega)), ?_⟩)); try (refine hKr _ ?_; clear hKr Kr)
    refine hK36 _ ?_
    refine T.regD 43 [0, 1, 2, 3, 6, 7, 9, 10, 12, 13, 14, 15, 21, 27] fun Kr hKr => ?_
    simp only [go_sem]
    (repeat (refine ⟨by (first | exact True.intro | omega | rfl | (simp; done) | (simp; omega)), ?_⟩)); try (refine hKr _ ?_; clear hKr Kr)
    refine hK34 _ ?_
    refine T.regD 43 [0, 1, 2, 3, 6, 7, 9, 10, 12, 13, 14, 15, 21, 27] fun Kr hKr => ?_
    simp only [go_sem]
    (repeat (refine ⟨by (first | exact True.intro | omega | rfl | (simp; done) | (simp; omega)), ?_⟩)); try (refine hKr _ ?_; clear hKr Kr)
    refine ⟨i + 1, ?_, ?_, Le.fitS (by (repeat (first | exact DFit.nil | refine DFit.cons (by first | rfl | (simp [slook, hst]; done) | (simp [slook, hst]; omega)) ?_))) ?_⟩
    · omega
    · omega
    · (repeat (first | exact True.intro | refine And.intro (by first | rfl | (simp [look]; done)) ?_))
  have g1 : (x.e < ep) = False := eq_false hlt
  rw [valF_now hlt] at hst
  refine T.sregD 43 [0, 1, 2, 3, 6, 7, 9, 10, 12, 13, 14, 15, 21, 27] fun Kr hKr => ?_
  simp only [go_sem, g1]
  (repeat (refine ⟨by (first | exact True.intro | omega | rfl | (simp; done) | (simp; omega)), ?_⟩)); try (refine hKr _ ?_; clear hKr Kr)
  refine T.condTD rfl rfl (fun hd => ?_) (fun hd => ?_) <;> try simp at hd
  refine T.skip ?_
  refine hK36 _ ?_
  refine T.regD 43 [0, 1, 2, 3, 6, 7, 9, 10, 12, 13, 14, 15, 21, 27] fun Kr hKr => ?_
  simp only [go_sem]
  (repeat (refine ⟨by (first | exact True.intro | omega | rfl | (simp; done) | (simp; omega)), ?_⟩)); try (refine hKr _ ?_; clear hKr Kr)
  refine hK34 _ ?_
  refine T.regD 43 [0, 1, 2, 3, 6, 7, 9, 10, 12, 13, 14, 15, 21, 27] fun Kr hKr => ?_
  simp only [go_sem]
  (repeat (refine ⟨by (first | exact True.intro | omega | rfl | (simp; done) | (simp; omega)), ?_⟩)); try (refine hKr _ ?_; clear hKr Kr)
  refine ⟨i + 1, ?_, ?_, Le.fitS (by (repeat (first | exact DFit.nil | refine DFit.cons (by first | rfl | (simp [slook, hst]; done) | (simp [slook, hst]; omega)) ?_))) ?_⟩
  · omega
  · omega
  · (repeat (first | exact True.intro | refine And.intro (by first | rfl | (simp [look]; done)) ?_))
end Go.Proofs
