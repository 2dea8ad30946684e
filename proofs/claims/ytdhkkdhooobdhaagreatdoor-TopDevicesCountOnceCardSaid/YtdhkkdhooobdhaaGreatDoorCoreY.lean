/- Results that are more than is asked. -/
import Derived.Test.YtdhkkdhooobdhaaGreatDoorCoreR
import Derived.LaidLaws
import Derived.LaidHandle
import Derived.Stop.Joined
set_option linter.unusedVariables false
set_option linter.unusedSimpArgs false
namespace Go.Ideal
open Go.RowKit

theorem AV.fin_R00 {ok : Nat → Prop} {φ : Names} {w : World} {v : Value} {x : AV} (h : x.fin = true) (hr : R0 ok φ w v x) : DRep ok w v x := AV.fin_R0 h (R2.of_R0 hr)
theorem Spec.weakT {P : Program} {f : FuncId} {ds : List AV} {rs rs' : List AV} (h : Spec P f ds (.tup rs) none) (hf : rs.all AV.fin = true) (hf' : rs'.all AV.fin = true) (hle : ArgsLe rs rs') : Spec P f ds (.tup rs') none := by
  refine ⟨h.1, by simp, fun ok w vs hlt hp => ?_⟩
  refine Calls.mono (h.2.2 ok w vs hlt hp) ?_
  rintro e w' ⟨v, ok', φ, h1, h2, h3, h4, h5, h6, h7⟩
  refine ⟨v, ok', φ, h1, h2, h3, h4, ?_, (fun k hk => by rw [AV.tup_names hf'] at hk; cases hk), h7⟩
  obtain ⟨us, rfl, hpts⟩ := h5
  have hd : Pts (DRep ok' w') us rs := ⟨hpts.1, fun i v x q1 q2 => AV.fin_R00 (List.all_eq_true.1 hf x (List.mem_of_getElem? q2)) (hpts.2 i v x q1 q2)⟩
  exact ⟨us, rfl, (hle.pts hd).mono fun v x hx => R0.of_data hx⟩

/-! A box's content, weakened. -/
section
variable {c : Ctx} {σ : St}
theorem ArgsLe.length : ∀ {xs ys : List AV}, ArgsLe xs ys → xs.length = ys.length
  | [], [], _ => rfl
  | _ :: _, _ :: _, h => by simp [h.2.length]
  | [], _ :: _, h => h.elim
  | _ :: _, [], h => h.elim
theorem ArgsLe.get : ∀ {xs ys : List AV}, ArgsLe xs ys → ∀ (i : Nat) x y, xs[i]? = some x → ys[i]? = some y → AvLe x y
  | [], [], _, _, _, _, h, _ => by simp at h
  | a :: xs, b :: ys, h, 0, x, y, h1, h2 => by simp at h1 h2; subst h1 h2; exact h.1
  | a :: xs, b :: ys, h, i + 1, x, y, h1, h2 => h.2.get i x y (by simpa using h1) (by simpa using h2)
  | [], _ :: _, h, _, _, _, _, _ => h.elim
  | _ :: _, [], h, _, _, _, _, _ => h.elim
theorem Le.boxW (b sz : Nat) (e : TypeId) (cs ds : List AV) (hb : look σ.h b = some ⟨sz, e, true, [.agg cs]⟩) (h1 : cs.all AV.data0 = true) (h2 : ds.all AV.data0 = true) (hle : ArgsLe cs ds) : Le c σ ⟨σ.s, upd σ.h b ⟨sz, e, true, [.agg ds]⟩⟩ := by
  rintro a w ⟨ok, φ, h⟩
  have hfx : flat [AV.agg cs] = cs := by simp [flat, AV.cells]
  have hfy : flat [AV.agg ds] = ds := by simp [flat, AV.cells]
  have hcl : cs.length = sz := by
    rcases h.heap.at_ b _ hb with ⟨_, a2⟩ | ⟨g, N, a1, a2, a3, cur, fz, b1, b2, b3, b4, b5, b6, b7⟩
    · simp at a2
    · simpa [AV.cells] using b5 (.agg cs) (by simp)
  refine ⟨ok, φ, h.defers, h.slots, ?_, h.okLt, h.okOr, h.ok0, h.below⟩
  refine h.heap.cells hb ?_ (by rw [hfx, hfy, hle.length]) (by simp) ?_
  · intro y hy
    simp at hy; subst hy
    simpa [AV.cells, ← hle.length] using hcl
  · intro i v x y hx hy hr
    rw [hfx] at hx; rw [hfy] at hy
    have hdx := List.all_eq_true.1 h1 x (List.mem_of_getElem? hx)
    have hdy := List.all_eq_true.1 h2 y (List.mem_of_getElem? hy)
    exact R0.of_data (hle.get i x y hx hy _ _ _ (R0.data hr hdx))
end
end Go.Ideal

/- Owned memory of which less is known. -/
set_option linter.unusedVariables false
set_option linter.unusedSimpArgs false
namespace Go.Ideal
open Go.RowKit
section
variable {c : Ctx} {σ : St}
theorem flat_two (xs ys : List AV) : flat (xs ++ ys) = flat xs ++ flat ys := by
  induction xs with
  | nil => rfl
  | cons x xs ih => rw [List.cons_append, flat_cons, flat_cons, ih, List.append_assoc]
/-- The first n elements of an object are known, and no more. -/
theorem Le.shrink (b n sz : Nat) (e : TypeId) (xs : List AV) (hb : look σ.h b = some ⟨sz, e, false, xs⟩) : Le c σ ⟨σ.s, upd σ.h b ⟨sz, e, false, xs.take n⟩⟩ := by
  rintro a w ⟨ok, φ, h⟩
  refine ⟨ok, φ, h.defers, h.slots, ?_, h.okLt, h.okOr, h.ok0, h.below⟩
  have hH := h.heap
  have hlk : ∀ j o, look (upd σ.h b ⟨sz, e, false, xs.take n⟩) j = some o → ∃ o0, look σ.h j = some o0 ∧ (j = b → o = ⟨sz, e, false, xs.take n⟩) ∧ (j ≠ b → o = o0) := by
    intro j o ho
    by_cases ej : j = b
    · subst ej
      rw [look_upd_self hb] at ho; cases ho
      exact ⟨_, hb, fun _ => rfl, fun h => absurd rfl h⟩
    · rw [look_upd_ne _ _ ej] at ho
      exact ⟨o, ho, fun h => absurd h ej, fun _ => rfl⟩
  refine ⟨fun j o ho => ?_, fun j j' o o' g sz N sz' N' h1 h2 => ?_⟩
  · obtain ⟨o0, h0, h1, h2⟩ := hlk j o ho
    by_cases ej : j = b
    · rw [h1 ej]
      subst ej
      rw [hb] at h0; cases h0
      have hfl : flat xs = flat (xs.take n) ++ flat (xs.drop n) := by rw [← flat_two, List.take_append_drop]
      have hle : (flat (xs.take n)).length ≤ (flat xs).length := by rw [hfl, List.length_append]; omega
      rcases hH.at_ j _ hb with ⟨a1, a2⟩ | ⟨g, N, a1, a2, a3, cur, fz, b1, b2, b3, b4, b5, b6, b7⟩
      · exact .inl ⟨a1, by simp only at a2 ⊢; rw [a2, List.take_nil]⟩
      · simp only at b4 b5 b6 b7
        refine .inr ⟨g, N, a1, a2, a3, cur, fz, b1, b2, b3, Nat.le_trans hle b4, fun x hx => b5 x (List.mem_of_mem_take hx), fun v hv => b6 v ?_, ?_, fun i v y q1 q2 => ?_⟩
        · exact List.mem_of_mem_take (i := (flat (xs.take n)).length) (by rw [List.take_take, Nat.min_eq_left hle]; exact hv)
        · rw [List.length_take]; exact Nat.min_eq_left (Nat.le_trans (Nat.le_trans hle b4) (Nat.le_of_eq (by rw [Array.length_toList]; exact b3.symm)))
        · have hi : i < (flat (xs.take n)).length := (List.getElem?_eq_some_iff.1 q2).1
          rw [List.getElem?_take, if_pos hi] at q1
          refine b7.2 i v y ?_ ?_
          · rw [List.getElem?_take, if_pos (Nat.lt_of_lt_of_le hi hle)]; exact q1
          · rw [hfl, List.getElem?_append_left hi]; exact q2
    · rw [h2 ej]; exact hH.at_ j o0 h0
  · obtain ⟨p, h3, _⟩ := hlk j o h1
    obtain ⟨p', h4, _⟩ := hlk j' o' h2
    exact hH.inj j j' p p' g sz N sz' N' h3 h4
end
end Go.Ideal

/- Arguments that are arrays of numbers, and slices of them. -/
set_option linter.unusedVariables false
set_option linter.unusedSimpArgs false
namespace Go.Ideal
open Go.RowKit Go.WideShapes Go.ChangeShapes

section
variable {H : Type} {enc : TypeId × Value → H} {P : Program} {w : World} {base : Nat} {spare : Nat → Bool} {held : Bool}
def intsA (k : IntKind) (l : List Int) : AV := .agg (l.map (.int k))
theorem ints_rep {k : IntKind} (l : List Int) : Pts (DRep (oldW w) w) (l.map (Value.int k)) (l.map (AV.int k)) := by
  refine ⟨by simp, fun i v x h1 h2 => ?_⟩
  rw [List.getElem?_map] at h1 h2
  cases h : l[i]? with
  | none => simp [h] at h1
  | some n => simp [h] at h1 h2; subst h1 h2; exact .int ..
theorem rd_ints {t e : TypeId} {n : Nat} {k : IntKind} (ht : P.underlying t = some (.array n e)) (he : P.underlying e = some (.int k)) (hc : P.cellsOf e = 1) (hct : P.cellsOf t = n) {fuel : Nat} {cs : List Value} {y : DataW H × List MemPlace}
    (h : DataW.trod enc P w base spare held fuel t cs = some y) : ∃ l : List Int, l.length = n ∧ (∀ x ∈ l, (Lit.int k x).wf = true) ∧ cs = l.map (Value.int k) := by
  obtain ⟨xs, m, _, _, hl, hx, hi⟩ := DataW.trod_array ht h
  rw [hct] at hl
  have each : ∀ i : Nat, ∃ a : Int, i < n → cs[i]? = some (.int k a) ∧ (Lit.int k a).wf = true := by
    intro i
    by_cases hin : i < n
    · have hi := hi i hin
      rw [hc, Nat.mul_one, List.getElem?_eq_getElem (by omega)] at hi
      obtain ⟨a, e0, _, w0⟩ := DataW.trod_int he hi
      refine ⟨a, fun _ => ⟨?_, w0⟩⟩
      have : (List.take 1 (List.drop i cs))[0]? = some (.int k a) := by rw [e0]; rfl
      rw [List.getElem?_take] at this
      simpa using this
    · exact ⟨0, fun h => absurd h hin⟩
  obtain ⟨f, hf⟩ := Classical.axiomOfChoice each
  refine ⟨(List.range n).map f, by simp, ?_, ?_⟩
  · intro x hx
    obtain ⟨i, hi, rfl⟩ := List.mem_map.1 hx
    exact (hf i (by simpa using hi)).2
  · apply List.ext_getElem?
    intro i
    by_cases hin : i < n
    · rw [(hf i hin).1]; simp [hin]
    · rw [List.getElem?_eq_none (by omega), List.getElem?_eq_none (by simp; omega)]
theorem arg_ints {t e : TypeId} {n : Nat} {k : IntKind} (ht : P.underlying t = some (.array n e)) (he : P.underlying e = some (.int k)) (hc : P.cellsOf e = 1) (hct : P.cellsOf t = n) {r : Reach} {b0 : Nat} {v : Value} {d : DataW H} {ps : List MemPlace}
    (hval : Value.okWide P w r b0 t v) (hd : DataW.Trod enc P w base spare held t v d ps) : ∃ l : List Int, l.length = n ∧ (∀ x ∈ l, (Lit.int k x).wf = true) ∧ DRep (oldW w) w v (intsA k l) := by
  have hv : ∃ cs, v = .agg cs := by
    unfold Value.okWide at hval
    rw [ht] at hval
    obtain ⟨cs, h, _⟩ := hval
    exact ⟨cs, h⟩
  obtain ⟨cs, rfl⟩ := hv
  obtain ⟨fuel, hf⟩ := hd
  obtain ⟨l, h1, h2, h3⟩ := rd_ints ht he hc hct hf
  refine ⟨l, h1, h2, ?_⟩
  simp only [Value.cells] at h3
  have hp := ints_rep (w := w) (k := k) l
  rw [← h3] at hp
  have := DRep.agg (ok := oldW w) (w := w) cs.toList (l.map (.int k)) hp.1 (by rw [h3]; intro v hv; obtain ⟨x, _, rfl⟩ := List.mem_map.1 hv; rfl) hp.2
  simpa [intsA] using this
end
end Go.Ideal

/- A law whose row lists variables with what they hold. -/
set_option linter.unusedVariables false
set_option linter.unusedSimpArgs false
namespace Go.Ideal
open Go.RowKit Go.WideShapes Go.ChangeShapes

section
variable {H : Type} {enc : TypeId × Value → H}

theorem law_lift_laid {C : Checked} {os : Os} {f : FuncId} {fn : Func} {s : ChangeSpec} {tb : TypeId} {laid : List (String × DataW Unit)} (own : ownKnob C.prog.godebug = none) (started : os.Started) (noInit : C.prog.inits.idxOf? f = none) (hfn : C.prog.funcs[f]? = some fn)
    (witness : ∃ (w : World) (tape : Tape) (i : Input), w.os = os ∧ (w.forCall tape i).Shaped C.prog ∧ i.vars = [] ∧ Input.okWide C.prog (w.forCall tape i) .any w.heap.size f i ∧
      ((s.pre enc C.prog fn [] false (w.forCall tape i).memory i.args ∧ laidMetH C.prog laid (w.forCall tape i).memory) ∧ sizedMet enc C.prog fn (OpenSpec.ofChange s) false (w.forCall tape i).memory i.args) ∧ ({} : Assume).holds C.prog (lone (Frame.enter C.prog f i.args .normal) [] (w.forCall tape i)))
    (hl : laidOutB C.prog = true) (hr : ∀ t ∈ fn.params.toList, C.prog.readableRec t = true ∧ t < C.prog.types.size)
    (hvars : s.vars = []) (hres : fn.resultTypes = #[tb]) (htb : C.prog.underlying tb = some .bool)
    (law : ∀ (W : World) (base : Nat) (args : Array Value) (ds : List (DataW H)) (p : List MemPlace), (∀ (j : Nat) t v, fn.params[j]? = some t → args[j]? = some v → Value.okWide C.prog W .any base t v) →
      DataW.TrodAll enc C.prog W 0 (fun _ => true) true fn.params.toList args.toList ds p →
      (s.fn H (ds ++ [])) = { results := [.lit (.bool true)], args := ds } ∧ ∃ xs : List AV, Pts (DRep (oldW W) W) args.toList xs ∧ Spec C.prog f xs (.bool true) none) :
    ReturnsInHanded {} C os f .any (fun w args => (s.pre enc C.prog fn [] false w args ∧ laidMetH C.prog laid w) ∧ sizedMet enc C.prog fn (OpenSpec.ofChange s) false w args) (s.post enc C.prog fn false true false false) := by
  refine returnsInHanded_of_change_and (X := fun w _ => laidMetH C.prog laid w) (fun _ _ _ hh h => h.of_heap hh) own started noInit hfn witness ?_
  intro W base args ds gs before hval hW _ _ _ _
  have hW0 := hW
  obtain ⟨p, q, hA, hV, rfl, _, _⟩ := hW
  rw [hvars] at hV
  obtain ⟨rfl, rfl⟩ := trodVars_none hV
  obtain ⟨hds, xs, hp, hs⟩ := law W base args ds p hval hA
  have hc := hs.2.2 (oldW W) W args.toList (fun b h => h) hp
  rw [Array.toArray_toList] at hc
  refine hc.mono ?_
  rintro e W' ⟨v, ok', φ, rfl, hb, _, _, hR, _⟩
  rw [hR.bool_inv]
  exact ⟨_, rfl, law_post hl hr hvars hres htb hds hW0 hb⟩
end
end Go.Ideal

