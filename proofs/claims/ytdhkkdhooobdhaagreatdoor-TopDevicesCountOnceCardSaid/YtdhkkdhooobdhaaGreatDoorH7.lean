/- Devices: the laws of Merge and Since, in plain words (no program). -/
import Derived.Test.YtdhkkdhooobdhaaGreatDoorH4
set_option linter.unusedVariables false
set_option linter.unusedSimpArgs false
namespace Go.Proofs
open Go Go.Ideal
set_option maxRecDepth 8000
set_option linter.unusedVariables false
section
variable {b : Bool} {k : Nat} {G : List Rec} {O : List Ord} {t : List Usr}
theorem TI.val (h : TI b k G O t) (hk : k ≤ 100) {i : Nat} (hi : i < 3) : ValU (t.getD i default) :=
  (h.kn i hi).val h.log (by have := h.size; omega) (by have := h.size; omega) (fun d hd => by have := h.low i hi d hd; omega)
/-- A user who knows part of all, with a clock in range. -/
structure Part (k : Nat) (G : List Rec) (O : List Ord) (u : Usr) : Prop where
  kn : Knows G O u
  low : ∀ d, 0 ≤ d ∧ d ≤ 7 → 0 ≤ lst u.l d ∧ lst u.l d ≤ k
theorem TI.part (h : TI b k G O t) {i : Nat} (hi : i < 3) : Part k G O (t.getD i default) := ⟨h.kn i hi, h.low i hi⟩
theorem Part.merge {u v : Usr} (hu : Part k G O u) (hv : Part k G O v) (hl : Log G O) (hs : G.length + O.length ≤ k) (hk : k ≤ 100) : ∃ m, mergeF u v = (m, 0) ∧ Merged u v m ∧ Part k G O m := by
  obtain ⟨m, h1, h2, h3⟩ := hu.kn.merge hl (by omega) (by omega) hv.kn
  exact ⟨m, h1, h2, h3, fun d hd => by have := hu.low d hd; have := hv.low d hd; rw [h2.l, maxL_lst _ _ hd.2]; omega⟩
theorem Part.val {u : Usr} (hu : Part k G O u) (hl : Log G O) (hs : G.length + O.length ≤ k) (hk : k ≤ 100) : ValU u := hu.kn.val hl (by omega) (by omega) (fun d hd => by have := hu.low d hd; omega)
theorem Part.len {u : Usr} (hu : Part k G O u) (hs : G.length + O.length ≤ k) : u.r.length + u.o.length ≤ k := by have := hu.kn.r_len; have := hu.kn.o_len; omega
/-- Merging leads to the one user with these numbers. -/
theorem Part.merge_to {u v m : Usr} (hu : Part k G O u) (hv : Part k G O v) (hl : Log G O) (hs : G.length + O.length ≤ k) (hk : k ≤ 100) (hm : Part k G O m) (e : m.l = maxL u.l v.l) : mergeF u v = (m, 0) := by
  obtain ⟨n, h1, h2, h3⟩ := hu.merge hv hl hs hk
  rw [h1, h3.kn.ext hm.kn (h2.l.trans e.symm)]
end
/-! ### Cleaning -/
end Go.Proofs

/- Devices: disagreeing users; counting (no program). -/
set_option linter.unusedVariables false
set_option linter.unusedSimpArgs false
namespace Go.Proofs
open Go Go.Ideal
set_option maxRecDepth 8000
set_option linter.unusedVariables false
/-! ### Counting -/
def S (f : Rec → Int) (l : List Rec) : Int := l.foldr (fun r n => f r + n) 0
theorem S_cons (f : Rec → Int) (r : Rec) (l : List Rec) : S f (r :: l) = f r + S f l := rfl
theorem S_app (f : Rec → Int) : ∀ l m : List Rec, S f (l ++ m) = S f l + S f m
  | [], m => by simp [S]
  | r :: l, m => by rw [List.cons_append, S_cons, S_cons, S_app f l m]; omega
theorem S_perm {f : Rec → Int} {l m : List Rec} (h : l.Perm m) : S f l = S f m := by
  induction h with
  | nil => rfl
  | cons x _ ih => rw [S_cons, S_cons, ih]
  | swap x y l => simp only [S_cons]; omega
  | trans _ _ h1 h2 => rw [h1, h2]
theorem S_same {f : Rec → Int} {l m : List Rec} (hl : l.Nodup) (hm : m.Nodup) (h : ∀ x, x ∈ l ↔ x ∈ m) : S f l = S f m := S_perm ((List.perm_ext_iff_of_nodup hl hm).2 h)
theorem nodup_two {l m : List Rec} (hl : l.Nodup) (hm : m.Nodup) (h : ∀ x ∈ l, ¬ x ∈ m) : (l ++ m).Nodup :=
  List.nodup_append.2 ⟨hl, hm, fun a ha b hb e => h a ha (e ▸ hb)⟩
/-- What counts together: of the first, what is not meant, and of the second what is not meant nor in the first. -/
theorem S_both (f : Rec → Int) {a b m : List Rec} (p : Rec → Bool) (ha : a.Nodup) (hb : b.Nodup) (hm : m.Nodup) (h : ∀ x, x ∈ m ↔ (x ∈ a ∨ x ∈ b) ∧ p x = false) :
    S f m = S f (a.filter fun x => !p x) + S f (b.filter fun x => !decide (x ∈ a) && !p x) := by
  rw [← S_app]
  refine S_same hm (nodup_two (ha.filter _) (hb.filter _) (fun x hx hb => ?_)) fun x => ?_
  · simp only [List.mem_filter, Bool.and_eq_true, Bool.not_eq_true', decide_eq_false_iff_not] at hx hb
    exact hb.2.1 hx.1
  · rw [h, List.mem_append, List.mem_filter, List.mem_filter]
    cases p x <;> by_cases hx : x ∈ a <;> simp [hx]
/-- Two devices of a team: both ways of merging, and again. -/
theorem once_plain {t : List Usr} {k : Nat} (h : TInv false k t) (hk : k ≤ 100) {i j : Nat} (hi : i < 3) (hj : j < 3) :
    ∃ u : Usr, mergeF (t.getD i default) (t.getD j default) = (u, 0) ∧ mergeF (t.getD j default) (t.getD i default) = (u, 0) ∧ mergeF u (t.getD j default) = (u, 0) ∧ ValU u ∧
      ∀ f, S f u.r = S f ((t.getD i default).r.filter fun x => !meantB ((t.getD i default).o ++ (t.getD j default).o) x) + S f ((t.getD j default).r.filter fun x => !decide (x ∈ (t.getD i default).r) && !meantB ((t.getD i default).o ++ (t.getD j default).o) x) := by
  obtain ⟨G, O, h⟩ := h
  have hl := h.log
  have hs := h.size
  have pi := h.part hi
  have pj := h.part hj
  generalize t.getD i default = u at *
  generalize t.getD j default = v at *
  obtain ⟨m, a1, a2, a3⟩ := pi.merge pj hl hs hk
  refine ⟨m, a1, pj.merge_to pi hl hs hk a3 (by rw [a2.l, maxL_comm]), a3.merge_to pj hl hs hk a3 (by rw [a2.l, maxL_again']), a3.val hl hs hk, fun f => S_both f _ pi.kn.ri.nodup pj.kn.ri.nodup a2.ri.nodup fun x => ?_⟩
  have e : meantB (u.o ++ v.o) x = meantB m.o x := by
    rw [Bool.eq_iff_iff, meant_iff, meant_iff]
    exact ⟨fun ⟨o, h1, h2⟩ => ⟨o, (a2.om o).2 (List.mem_append.1 h1), h2⟩, fun ⟨o, h1, h2⟩ => ⟨o, List.mem_append.2 ((a2.om o).1 h1), h2⟩⟩
  rw [e]; exact a2.rm x
end Go.Proofs

/- Devices: the fixed examples (no program). -/
set_option linter.unusedVariables false
set_option linter.unusedSimpArgs false
namespace Go.Proofs
open Go Go.Ideal
set_option maxRecDepth 8000
set_option linter.unusedVariables false
theorem word1 (a : UInt8) (h : okC a) : WordOk [a] := ⟨by simp, fun i hi => by
  simp only [List.length_cons, List.length_nil] at hi
  have : i = 0 := by omega
  subst this; exact h⟩
end Go.Proofs

