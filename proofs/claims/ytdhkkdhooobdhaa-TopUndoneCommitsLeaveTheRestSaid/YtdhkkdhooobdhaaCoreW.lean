/- A call that takes owned memory over, in a region whose order is given. -/
import Derived.Test.YtdhkkdhooobdhaaCoreP
set_option linter.unusedVariables false
set_option linter.unusedSimpArgs false
namespace Go.Ideal
open Go.RowKit
section
variable {c : Ctx} {σ : St} {ops : Array Oper} {N : St → Prop} {E : Nat → St → Prop} {R : St → Prop} {y : Code} {id : Nat}
theorem TL.own {i : Nat} {o : Oper} {rest : List Oper} {K : St → Prop} (hi : ops[i]? = some o) (h : ownStep c ops [] σ i K) (hK : ∀ σ', K σ' → TL c ops N E R rest σ') : TL c ops N E R (o :: rest) σ := fun a w ha => by
  obtain ⟨ok, φ, ha⟩ := ha
  have := ownStep_sound (Q := PQ c N E R) (K' := fun a w => wpList c.P ops (PQ c N E R) rest a w) h ha (fun σ' ok' φ' a w' h1 h2 _ => hK σ' h1 a w' ⟨ok', φ', h2⟩)
  unfold wpOp at this
  simp only [hi] at this
  unfold wpList
  exact this
theorem TS.pre : ∀ (pre rest : List Oper) (σ : St) {K : St → Prop}, TS c ops K pre σ → (∀ σ', K σ' → TL c ops N E R rest σ') → TL c ops N E R (pre ++ rest) σ
  | [], rest, σ, K, h, hK => hK σ h
  | o :: pre, rest, σ, K, h, hK => fun a w ha => by
    obtain ⟨ok, φ, ha⟩ := ha
    have := Step.sound (Q := PQ c N E R) h ha
    unfold wpStep at this
    rw [List.cons_append]
    unfold wpList
    split at this
    · rename_i hw
      simp only [hw, if_true]
      rcases this with this | this
      · exact .inl (Oper.wp_mono (fun a w ⟨σ', ok', φ', h1, h2, _⟩ => TS.pre pre rest σ' h1 hK a w ⟨ok', φ', h2⟩) this)
      · exact .inr this
    · rename_i hw
      simp only [hw, if_false]
      obtain ⟨σ', ok', φ', h1, h2, _⟩ := this
      exact TS.pre pre rest σ' h1 hK _ _ ⟨ok', φ', h2⟩
/-- A region in which the operation i is a call that takes owned memory over. -/
theorem T.sregO (n : Nat) (L : List Nat) (i : Nat) (hi : i < ops.toList.length) (h : ∀ K : St → Prop, (∀ σ', T c y N E R σ' → K σ') →
    TS c ops (fun σ1 => ownStep c ops [] σ1 i (fun σ2 => TS c ops (Cut n L K) (ops.toList.drop (i + 1)) σ2)) (ops.toList.take i) σ) : T c (.seq (.region id ops false) y) N E R σ :=
  T.seqK fun K hK => T.cutN (T.region (by
    have e : ops.toList = ops.toList.take i ++ ops.toList[i] :: ops.toList.drop (i + 1) := by rw [← List.drop_eq_getElem_cons hi, List.take_append_drop]
    rw [e]
    refine TS.pre _ _ _ (h K hK) fun σ1 h1 => ?_
    have hi' : ops[i]? = some ops.toList[i] := by rw [← Array.getElem?_toList, List.getElem?_eq_getElem hi]
    exact TL.own hi' h1 fun σ2 h2 => TS.tl _ _ h2))
end
end Go.Ideal
