/- Documents: contracts of the reference's doing, putting, and of its text of a mark. -/
import Derived.Test.YtdhkkdhooobdhaaD6
set_option linter.unusedVariables false
set_option linter.unusedSimpArgs false
namespace Go.Proofs
open Go Go.Ideal
set_option maxRecDepth 8000
set_option maxHeartbeats 4000000

theorem findIdx_some {l : List Mark} {id : Int} {i : Nat} (h : l.findIdx? (fun m => decide (m.id = id)) = some i) : i < l.length ∧ (l.getD i default).id = id ∧ ∀ q, q < i → (l.getD q default).id ≠ id := by
  rw [List.findIdx?_eq_some_iff_getElem] at h
  obtain ⟨hi, h1, h2⟩ := h
  refine ⟨hi, by simpa [List.getD, hi] using h1, fun q hq => ?_⟩
  have := h2 q hq
  simpa [List.getD, show q < l.length by omega] using this
theorem txt_ok {d : Doc} (hd : OkD d) (id : Int) : txtF d id = if fndF d.m id < 0 then ([], 330) else (sub d.s (d.m.getD (fndF d.m id).toNat default).f (d.m.getD (fndF d.m id).toNat default).t, 0) := by
  have hg : ∀ m ∈ d.m, goodM d id m = decide (m.id = id) := by
    intro m hm
    obtain ⟨_, h1, h2, h3⟩ := hd.mks m hm
    simp only [goodM]
    have a1 : m.f ≤ m.t := by omega
    have a2 : m.t ≤ (d.s.length : Int) := by omega
    simp [h1, a1, a2]
  have hn0 : ∀ (l : List Mark), (∀ m ∈ l, m ∈ d.m) → (∀ m ∈ l, m.id ≠ id) → l.find? (goodM d id) = none := by
    intro l h1 h2
    rw [List.find?_eq_none]
    intro x hx
    rw [hg x (h1 x hx)]
    simpa using h2 x hx
  unfold fndF
  cases hf : d.m.findIdx? (fun m => decide (m.id = id)) with
  | none =>
    rw [List.findIdx?_eq_none_iff] at hf
    simp only [txtF]
    rw [hn0 d.m (fun _ h => h) (fun m hm => by simpa using hf m hm)]
    rfl
  | some i =>
    obtain ⟨hi, h1, h2⟩ := findIdx_some hf
    have hm : d.m.getD i default ∈ d.m := by simp [List.getD, hi]
    have := find_take (p := goodM d id) hi (hn0 _ (fun m hm => List.mem_of_mem_take hm) (fun m hm => by
      obtain ⟨q, hq, rfl⟩ := List.mem_take_iff_getElem.1 hm
      have := h2 q (by omega)
      simpa [List.getD, show q < d.m.length by omega] using this)) (by rw [hg _ hm]; simpa using h1)
    have hneg : ¬ ((i : Int) < 0) := by omega
    simp only [txtF, this, hneg, if_false, Int.toNat_natCast]
/-! ### Doing -/
theorem chg_len {s : List UInt8} {e : Edit} (hp : possB e s.length = true) : ((chg s e).length : Int) = if e.k = 1 then (s.length : Int) + e.s.length else if e.k = 2 then s.length - e.n else s.length := by
  obtain ⟨q1, q2, q3, q4, q5, q6, q7⟩ := possB_smE hp
  unfold chg
  by_cases h1 : e.k = 1
  · rw [if_pos h1, if_pos h1]; simp; omega
  have := q6 h1
  rw [if_neg h1, if_neg h1]
  by_cases h2 : e.k = 2
  · rw [if_pos h2, if_pos h2]; simp; omega
  rw [if_neg h2, if_neg h2]
  by_cases h3 : e.k = 3
  · rw [if_pos h3]
    have := q7 h3
    simp; omega
  · rw [if_neg h3]
/-! ### Putting -/
def insR (m : Mark) : List Mark → List Mark
  | [] => []
  | x :: l => if m.id < x.id then m :: x :: l else x :: insR m l
theorem idx_map {f : Mark → Mark} (hf : ∀ m, (f m).id = m.id) (l : List Mark) (id : Int) : idx (l.map f) id = idx l id := by
  induction l with
  | nil => rfl
  | cons x l ih =>
    simp only [idx, List.map_cons, List.takeWhile_cons, hf] at ih ⊢
    split <;> simp [ih]
theorem insM_id (a n : Int) (m : Mark) : (insM a n m).id = m.id := by unfold insM; split <;> first | rfl | (split <;> rfl)
@[go_sem] def cmtA (id at_ : Int) (text : List UInt8) : AV := .agg [.int .i64 id, .int .i64 at_, .str text]
theorem hasId_fnd {l : List Mark} {id : Int} : (0 ≤ fndF l id) ↔ hasId l id = true := by
  unfold fndF
  cases hf : l.findIdx? (fun m => decide (m.id = id)) with
  | none =>
    rw [List.findIdx?_eq_none_iff] at hf
    have : hasId l id = false := by
      simp only [hasId, List.any_eq_false]; intro x hx; simpa using hf x hx
    simp [this]
  | some i =>
    obtain ⟨h1, h2, _⟩ := findIdx_some hf
    simp [hasId_at h1 h2]
end Go.Proofs
