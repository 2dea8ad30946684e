/- Documents, plainly: the texts of marks. -/
import Derived.Test.YtdhkkdhooobdhaaD12
set_option linter.unusedVariables false
set_option linter.unusedSimpArgs false
namespace Go.Proofs
open Go Go.Ideal
set_option maxRecDepth 8000
set_option maxHeartbeats 4000000

theorem hasId_mem {l : List Mark} {id : Int} : hasId l id = true ↔ ∃ m ∈ l, m.id = id := by
  simp [hasId]
theorem findIdx_of_mem {l : List Mark} {m : Mark} (hs : Srt l) (hm : m ∈ l) : fndF l m.id ≥ 0 ∧ l.getD (fndF l m.id).toNat default = m := by
  have h0 : 0 ≤ fndF l m.id := hasId_fnd.2 (hasId_mem.2 ⟨m, hm, rfl⟩)
  refine ⟨h0, ?_⟩
  unfold fndF at h0 ⊢
  cases hf : l.findIdx? (fun x => decide (x.id = m.id)) with
  | none => rw [hf] at h0; simp at h0
  | some i =>
    obtain ⟨h1, h2, h3⟩ := findIdx_some hf
    simp only [Int.toNat_natCast]
    obtain ⟨q, hq⟩ := List.getElem?_of_mem hm
    obtain ⟨hql, hqe⟩ := List.getElem?_eq_some_iff.1 hq
    have hqd : l.getD q default = m := by simp [List.getD, hq]
    rcases Nat.lt_trichotomy i q with h | h | h
    · have := hs.get hql h; rw [hqd] at this; omega
    · rw [h]; exact hqd
    · have := hs.get h1 h; rw [hqd] at this; omega
theorem txt_mem {d : Doc} {m : Mark} (hd : OkD d) (hm : m ∈ d.m) : txtF d m.id = (sub d.s m.f m.t, 0) := by
  obtain ⟨h1, h2⟩ := findIdx_of_mem hd.srt hm
  rw [txt_ok hd, if_neg (by omega), h2]
theorem txt_gone {d : Doc} {id : Int} (hd : OkD d) (h : hasId d.m id = false) : txtF d id = ([], 330) := by
  have : ¬ (0 ≤ fndF d.m id) := by intro h2; rw [hasId_fnd.1 h2] at h; cases h
  rw [txt_ok hd, if_pos (by omega)]
end Go.Proofs
