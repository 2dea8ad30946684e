/- A call that takes owned memory over, in a region whose order is given. -/
import Derived.Test.YtdhkkdhooobdhaaGreatDoorCoreP
set_option linter.unusedVariables false
set_option linter.unusedSimpArgs false
namespace Go.Ideal
open Go.RowKit
section
variable {c : Ctx} {σ : St} {ops : Array Oper} {N : St → Prop} {E : Nat → St → Prop} {R : St → Prop} {y : Code} {id : Nat}
theorem TL.own {i : Nat} {o : Oper} {rest : List Oper} {K : St → Prop} (hi : ops[i]? = some o) (h : ownStep c ops [] σ i K) (hK : ∀ σ', K σ' → TL c ops N E R rest σ') : TL c ops N E R (o :: rest) σ := fun a w ha => by
  obtain ⟨ok, φ, ha⟩ := ha
  have := ownStep_sound (Q := PQ c N E R) (K' := fun a w => wpList c.P ops (PQ c N E R) rest a w) h ha (fun σ' ok' φ' a w' h1 h2 _ => hK σ' h1 a w' ⟨ok', φ', h2⟩)
  unfold wpOp at this
  simp only [hi] at this
  unfold wpList
  exact this
theorem TS.pre : ∀ (pre rest : List Oper) (σ : St) {K : St → Prop}, TS c ops K pre σ → (∀ σ', K σ' → TL c ops N E R rest σ') → TL c ops N E R (pre ++ rest) σ
  | [], rest, σ, K, h, hK => hK σ h
  | o :: pre, rest, σ, K, h, hK => fun a w ha => by
    obtain ⟨ok, φ, ha⟩ := ha
    have := Step.sound (Q := PQ c N E R) h ha
    unfold wpStep at this
    rw [List.cons_append]
    unfold wpList
    split at this
    · rename_i hw
      simp only [hw, if_true]
      rcases this with this | this
      · exact .inl (Oper.wp_mono (fun a w ⟨σ', ok', φ', h1, h2, _⟩ => TS.pre pre rest σ' h1 hK a w ⟨ok', φ', h2⟩) this)
      · exact .inr this
    · rename_i hw
      simp only [hw, if_false]
      obtain ⟨σ', ok', φ', h1, h2, _⟩ := this
      exact TS.pre pre rest σ' h1 hK _ _ ⟨ok', φ', h2⟩
/-! Maps with numbers as keys. -/
def mpGet : List Int → List AV → Int → Option AV
  | q :: ks, x :: xs, k => if k = q then some x else mpGet ks xs k
  | _, _, _ => none
theorem findNow_mp {ok : Nat → Prop} {w : World} (k : Int) : ∀ (l : List MapEntry) (ks : List Int) (xs : List AV) (i : Nat), l.map (·.key) = ks.map (Value.int .i64) → l.length = xs.length → (∀ (j : Nat) e x, l[j]? = some e → xs[j]? = some x → DRep ok w e.val x) →
    ∀ x, mpGet ks xs k = some x → ∃ j v, Instr.findNow (.int .i64) (.int .i64 k) l i = some (some (j, v)) ∧ DRep ok w v x
  | [], [], _, _, _, _, _, x, h => by simp [mpGet] at h
  | [], _ :: _, _, _, hk, _, _, x, h => by simp at hk
  | _ :: _, [], _, _, hk, _, _, x, h => by simp at hk
  | _ :: _, _ :: _, [], _, _, hl, _, x, h => by simp at hl
  | e :: l, q :: ks, y :: xs, i, hk, hl, hr, x, h => by
    simp only [List.map_cons, List.cons.injEq] at hk
    simp only [Instr.findNow, hk.1, Instr.sameNow, if_true]
    simp only [mpGet] at h
    by_cases hkq : k = q
    · rw [if_pos hkq] at h
      cases h
      rw [show (k == q) = true by simp [hkq]]
      exact ⟨i, e.val, rfl, hr 0 e y rfl rfl⟩
    · rw [if_neg hkq] at h
      rw [show (k == q) = false by simp [hkq]]
      exact findNow_mp k l ks xs (i + 1) hk.2 (by simpa using hl) (fun j e x h1 h2 => hr (j + 1) e x h1 h2) x h
theorem findNow_no (k : Int) : ∀ (l : List MapEntry) (ks : List Int) (i : Nat), l.map (·.key) = ks.map (Value.int .i64) → (∀ q ∈ ks, k ≠ q) → Instr.findNow (.int .i64) (.int .i64 k) l i = some none
  | [], [], _, _, _ => rfl
  | [], _ :: _, _, hk, _ => by simp at hk
  | _ :: _, [], _, hk, _ => by simp at hk
  | e :: l, q :: ks, i, hk, hn => by
    simp only [List.map_cons, List.cons.injEq] at hk
    simp only [Instr.findNow, hk.1, Instr.sameNow, if_true]
    rw [show (k == q) = false by simp [hn q (by simp)]]
    exact findNow_no k l ks (i + 1) hk.2 fun q hq => hn q (by simp [hq])
theorem checkKey_int {P : Program} {w : World} {t : TypeId} {k : Int} {b : Bool} (h : P.underlying t = some (.int .i64)) : (Instr.checkKey b 10000 t (.int .i64 k)).run P w = .ok () w := by
  obtain ⟨n, hn⟩ : ∃ n, 10000 = n + 1 := ⟨9999, rfl⟩
  rw [hn]
  simp [Instr.checkKey, run_underlying h]
/-- A new entry. -/
theorem mapUpd_run {P : Program} {w : World} {mt kt et : TypeId} (hm : P.underlying mt = some (.map kt et)) (hk : P.underlying kt = some (.int .i64)) {b clk : Nat} {es : Array MapEntry} {ks : List Int} (hb : w.heap[b]? = some (.map es clk))
    (hks : es.toList.map (·.key) = ks.map (Value.int .i64)) (k : Int) (v : Value) (hn : ∀ q ∈ ks, k ≠ q) :
    (Instr.mapUpdate mt (.map (some b)) (.int .i64 k) v).run P w = .ok () { w with heap := w.heap.setIfInBounds b (.map (es.push { key := .int .i64 k, val := v, born := clk }) (clk + 1)) } := by
  have h1 := findNow_no k es.toList ks 0 hks hn
  have hg : (getObj b).run P w = .ok (.map es clk) w := by simp [getObj, Sem.run, hb]
  have hs : ∀ o, (setObj b o).run P w = .ok () { w with heap := w.heap.setIfInBounds b o } := fun o => by simp [setObj, Sem.run, hb]
  simp [Instr.mapUpdate, run_underlying hm, run_underlying hk, hg, checkKey_int hk, Instr.findKey, h1, hs]
/-- Looking up a key that is there. -/
theorem lookup_run {ok : Nat → Prop} {P : Program} {w : World} {mt kt et : TypeId} (hm : P.underlying mt = some (.map kt et)) (hk : P.underlying kt = some (.int .i64)) {u : Value} {ks : List Int} {xs : List AV} (hu : DRep ok w u (.mp ks xs))
    (k : Int) {x : AV} (hx : mpGet ks xs k = some x) : ∃ v, (Instr.lookup mt u (.int .i64 k) true).run P w = .ok (.tuple #[v, .bool true]) w ∧ DRep ok w v x := by
  cases hu with
  | mp b clk es _ _ hb hh hks hl h =>
    obtain ⟨j, v, h1, h2⟩ := findNow_mp (ok := ok) (w := w) k es.toList ks xs 0 hks (by simpa using hl) (fun j e x h1 h2 => h j e x (by rw [← Array.getElem?_toList]; exact h1) h2) x hx
    have hg : (getObj b).run P w = .ok (.map es clk) w := by simp [getObj, Sem.run, hh]
    refine ⟨v, ?_, h2⟩
    simp [Instr.lookup, run_underlying hm, run_underlying hk, hg, checkKey_int hk, Instr.findKey, h1]
def lookStep (c : Ctx) (ops : Array Oper) (σ : St) (i : Nat) (K : St → Prop) : Prop :=
  ∃ d t m ix ty pos after kt et ks xs k x, ops[i]? = some ⟨some d, .lookup t m ix true, ty, pos, after, none⟩ ∧ c.P.underlying t = some (.map kt et) ∧ c.P.underlying kt = some (.int .i64) ∧ (σ.get true m).1 ∧ (σ.get true m).2 = .mp ks xs ∧
    (σ.get true ix).1 ∧ (σ.get true ix).2 = .int .i64 k ∧ mpGet ks xs k = some x ∧ K ⟨σ.s.set d (.tup [x, .bool true]), σ.h⟩
theorem TL.look {i : Nat} {o : Oper} {rest : List Oper} {K : St → Prop} (hi : ops[i]? = some o) (h : lookStep c ops σ i K) (hK : ∀ σ', K σ' → TL c ops N E R rest σ') : TL c ops N E R (o :: rest) σ := fun a w ha => by
  obtain ⟨ok, φ, ha⟩ := ha
  obtain ⟨d, t, m, ix, ty, pos, after, kt, et, ks, xs, k, x, ho, hm, hk, h1, h2, h3, h4, hx, hrest⟩ := h
  rw [hi] at ho
  cases ho
  unfold wpList
  have hw : Region.wanted (⟨some d, .lookup t m ix true, ty, pos, after, none⟩ : Oper) (yielded ops a.tmps) = true := wanted_eq ha rfl
  simp only [hw, if_true]
  refine .inl ?_
  have hu := ha.get rfl h1
  rw [h2] at hu
  have hu : DRep ok w (a.eval m) (.mp ks xs) := hu
  have hv := ha.get rfl h3
  rw [h4] at hv
  have hv := hv.int_inv
  obtain ⟨v, hr, hd⟩ := lookup_run (P := c.P) hm hk hu k hx
  have hrun : (execOp a.eval (⟨some d, .lookup t m ix true, ty, pos, after, none⟩ : Oper)).run c.P w = .ok (.value (.tuple #[v, .bool true])) w := by simp [execOp, hv, hr]
  have hR : R1 ok φ w (.tuple #[v, .bool true]) (.tup [x, .bool true]) := ⟨[v, .bool true], rfl, Pts.cons (R0.of_data hd) (Pts.cons (R0.of_data (.bool true)) Pts.nil)⟩
  unfold Oper.wp
  rw [hrun]
  exact hK _ hrest _ _ ⟨ok, φ, ha.goes (Goes.refl ha) (d := some d) (R2.of_R1 hR)⟩
/-- A region in which the operation i looks a key up in a map. -/
theorem T.sregM (n : Nat) (L : List Nat) (i : Nat) (hi : i < ops.toList.length) (h : ∀ K : St → Prop, (∀ σ', T c y N E R σ' → K σ') →
    TS c ops (fun σ1 => lookStep c ops σ1 i (fun σ2 => TS c ops (Cut n L K) (ops.toList.drop (i + 1)) σ2)) (ops.toList.take i) σ) : T c (.seq (.region id ops false) y) N E R σ :=
  T.seqK fun K hK => T.cutN (T.region (by
    have e : ops.toList = ops.toList.take i ++ ops.toList[i] :: ops.toList.drop (i + 1) := by rw [← List.drop_eq_getElem_cons hi, List.take_append_drop]
    rw [e]
    refine TS.pre _ _ _ (h K hK) fun σ1 h1 => ?_
    have hi' : ops[i]? = some ops.toList[i] := by rw [← Array.getElem?_toList, List.getElem?_eq_getElem hi]
    exact TL.look hi' h1 fun σ2 h2 => TS.tl _ _ h2))
end
end Go.Ideal
