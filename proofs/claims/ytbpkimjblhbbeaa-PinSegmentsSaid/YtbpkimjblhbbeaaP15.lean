/- Ways: the plain law. -/
import Derived.Test.YtbpkimjblhbbeaaP14
import Derived.Test.YtbpkimjblhbbeaaP12
set_option linter.unusedVariables false
set_option linter.unusedSimpArgs false
namespace Go.Proofs
open Go Go.Ideal
set_option maxRecDepth 8000

/-! All ways, without a bound. -/
def fullW (X : List Edge) (n : Int) : Nat → Int → List Way
  | 0, _ => []
  | k + 1, f => if f = n then [[]] else fullP (fun e => fullW X n k e.t) f X
theorem flatMap_take {α β : Type} (g : α → List β) (c : Nat) : ∀ l : List α, (l.flatMap fun x => (g x).take c).take c = (l.flatMap g).take c
  | [] => rfl
  | x :: l => by
    rw [List.flatMap_cons, List.flatMap_cons, List.take_append, List.take_append, List.take_take, Nat.min_self, List.length_take]
    by_cases h : c ≤ (g x).length
    · rw [show c - min c (g x).length = 0 by omega, show c - (g x).length = 0 by omega]; simp
    · congr 1
      have := flatMap_take g c l
      have h2 : c - min c (g x).length = c - (g x).length := by omega
      rw [h2]
      have h3 := congrArg (List.take (c - (g x).length)) this
      rw [List.take_take, List.take_take, show min (c - (g x).length) c = c - (g x).length by omega] at h3
      exact h3
theorem ways_full (X : List Edge) (n : Int) : ∀ (k : Nat) (f : Int), ways X n k f = (fullW X n k f).take 300
  | 0, f => rfl
  | k + 1, f => by
    rw [ways, fullW]
    split
    · rfl
    · have ih := fun e : Edge => ways_full X n k e.t
      unfold part fullP
      have : (fun e : Edge => (ways X n k e.t).map (e :: ·)) = fun e => ((fullW X n k e.t).map (e :: ·)).take 300 := by
        funext e; rw [ih, List.map_take]
      rw [this, flatMap_take]
/-- A way stays a way where edges are left out. -/
def okW (L : List Pin) (w : Way) : Bool := w.all fun e => !L.any (agB e)
theorem restr_fm (G : Edge → List Way) (L : List Pin) (q : Edge → Bool) : ∀ Y : List Edge,
    ((Y.filter fun e => !L.any (agB e)).filter q).flatMap (fun e => ((G e).filter (okW L)).map (e :: ·)) = (Y.filter q).flatMap fun e => ((G e).map (e :: ·)).filter (okW L)
  | [] => rfl
  | x :: Y => by
    have ih := restr_fm G L q Y
    have key : ((G x).map (x :: ·)).filter (okW L) = if (!L.any (agB x)) = true then ((G x).filter (okW L)).map (x :: ·) else [] := by
      rw [List.filter_map]
      split
      · rename_i h
        congr 1
        apply List.filter_congr
        intro w _
        simp only [Function.comp, okW, List.all_cons, h, Bool.true_and]
      · rename_i h
        rw [List.map_eq_nil_iff, List.filter_eq_nil_iff]
        intro w _
        simp only [Function.comp, okW, List.all_cons, Bool.and_eq_true, not_and]
        intro h'; exact absurd h' h
    rw [List.filter_cons (p := q)]
    by_cases hq : q x = true
    · rw [if_pos hq, List.flatMap_cons, key, ← ih, List.filter_cons]
      split
      · rw [List.filter_cons, if_pos hq, List.flatMap_cons]
      · rfl
    · rw [if_neg hq, ← ih, List.filter_cons]
      split
      · rw [List.filter_cons, if_neg hq]
      · rfl
theorem fullW_restr (X : List Edge) (L : List Pin) (n : Int) : ∀ (k : Nat) (f : Int), fullW (restr X L) n k f = (fullW X n k f).filter (okW L)
  | 0, f => rfl
  | k + 1, f => by
    rw [fullW, fullW]
    split
    · rfl
    · have ih := fun e : Edge => fullW_restr X L n k e.t
      unfold fullP
      rw [List.filter_flatMap]
      have : (fun e : Edge => (fullW (restr X L) n k e.t).map (e :: ·)) = fun e => ((fullW X n k e.t).filter (okW L)).map (e :: ·) := by
        funext e; rw [ih]
      rw [this]
      exact restr_fm _ L _ X

/-- A way from f to n. -/
inductive Chain (n : Int) : Int → Way → Prop
  | nil : Chain n n []
  | cons {f : Int} {e : Edge} {w : Way} : e.f = f → f < e.t → Chain n e.t w → Chain n f (e :: w)
theorem fullW_chain {X : List Edge} {n : Nat} (hF : Fwd n X) : ∀ (k : Nat) (f : Int), ∀ w ∈ fullW X n k f, Chain n f w ∧ ∀ e ∈ w, e ∈ X
  | 0, f, w, h => by simp [fullW] at h
  | k + 1, f, w, h => by
    rw [fullW] at h
    split at h
    · rename_i hf
      rw [List.mem_singleton] at h; subst h hf
      exact ⟨.nil, by simp⟩
    · rw [fullP, List.mem_flatMap] at h
      obtain ⟨e, he, h⟩ := h
      obtain ⟨v, hv, rfl⟩ := List.mem_map.1 h
      obtain ⟨he1, he2⟩ := List.mem_filter.1 he
      have hef : e.f = f := by simpa using he2
      have ⟨h1, h2⟩ := fullW_chain hF k e.t v hv
      refine ⟨.cons hef (by have := (hF e he1).2.1; omega) h1, ?_⟩
      intro x hx
      rcases List.mem_cons.1 hx with rfl | hx
      · exact he1
      · exact h2 x hx
theorem Chain.le {n f : Int} {w : Way} (h : Chain n f w) : f ≤ n := by
  induction h with
  | nil => exact Int.le_refl _
  | cons h1 h2 _ ih => omega
theorem Chain.mem {n f : Int} {w : Way} (h : Chain n f w) : ∀ e ∈ w, f ≤ e.f ∧ e.f < e.t ∧ e.t ≤ n := by
  induction h with
  | nil => simp
  | @cons f e w h1 h2 h3 ih =>
    intro x hx
    have hle := h3.le
    rcases List.mem_cons.1 hx with rfl | hx
    · omega
    · have := ih x hx; omega
theorem Chain.sep {n f : Int} {w : Way} (h : Chain n f w) : w.Pairwise fun a b => a.t ≤ b.f := by
  induction h with
  | nil => exact .nil
  | @cons f e w h1 h2 h3 ih => exact .cons (fun x hx => (h3.mem x hx).1) ih
theorem Chain.at {n f : Int} {w : Way} (h : Chain n f w) {x : Int} (h1 : f ≤ x) (h2 : x < n) : ∃ e ∈ w, e.f ≤ x ∧ x < e.t := by
  induction h with
  | nil => omega
  | @cons f e w h3 h4 h5 ih =>
    by_cases h : x < e.t
    · exact ⟨e, by simp, by omega, h⟩
    · obtain ⟨y, hy, h6⟩ := ih (by omega)
      exact ⟨y, by simp [hy], h6⟩
/-- The segment and the word of a pin. -/
def segB (p : Pin) (e : Edge) : Bool := decide (e.f = p.f) && decide (e.t = p.t) && (decide (p.w = -1) || decide (p.w = e.w))
def hasSeg (w : Way) (p : Pin) : Bool := w.any (segB p)
def everyB (L : List Pin) (w : Way) : Bool := L.all (hasSeg w)
theorem seg_iff {n : Int} {w : Way} (h : Chain n 0 w) {p : Pin} (h0 : 0 ≤ p.f) (h1 : p.f < p.t) (h2 : p.t ≤ n) : hasSeg w p = true ↔ ∀ e ∈ w, agB e p = false := by
  have hm := h.mem
  unfold hasSeg
  rw [List.any_eq_true]
  constructor
  · rintro ⟨e, he, hs⟩ x hx
    simp only [segB, Bool.and_eq_true, Bool.or_eq_true, decide_eq_true_eq] at hs
    have a1 := hm e he
    have a2 := hm x hx
    have hcases : x = e ∨ x.t ≤ e.f ∨ e.t ≤ x.f := by
      have hsp := h.sep
      obtain ⟨i, hi, rfl⟩ := List.getElem_of_mem he
      obtain ⟨j, hj, rfl⟩ := List.getElem_of_mem hx
      rw [List.pairwise_iff_getElem] at hsp
      by_cases hij : i < j
      · exact .inr (.inr (hsp i j hi hj hij))
      · by_cases hji : j < i
        · exact .inr (.inl (hsp j i hj hi hji))
        · have : i = j := by omega
          subst this; exact .inl rfl
    unfold agB
    rcases hcases with rfl | hlt
    · rw [if_pos ⟨hs.1.1, hs.1.2⟩]
      rcases hs.2 with h | h <;> simp [h]
    · rw [if_neg (by omega)]
      simp only [Bool.and_eq_false_iff, decide_eq_false_iff_not]
      omega
  · intro hn
    obtain ⟨e, he, h3, h4⟩ := h.at h0 (by omega : p.f < n)
    have := hn e he
    refine ⟨e, he, ?_⟩
    unfold agB at this
    split at this
    · rename_i hh
      simp only [segB, hh.1, hh.2, decide_true, Bool.true_and, Bool.or_eq_true, decide_eq_true_eq]
      simp only [Bool.and_eq_false_iff, decide_eq_false_iff_not, Decidable.not_not] at this
      exact this
    · simp only [Bool.and_eq_false_iff, decide_eq_false_iff_not] at this
      omega
theorem every_eq {n : Int} {L : List Pin} (hV : V n L) {w : Way} (h : Chain n 0 w) : everyB L w = okW L w := by
  rw [Bool.eq_iff_iff]
  unfold everyB okW
  rw [List.all_eq_true, List.all_eq_true]
  constructor
  · intro h1 e he
    rw [Bool.not_eq_true', Bool.eq_false_iff, ne_eq, List.any_eq_true]
    rintro ⟨p, hp, hb⟩
    have hp1 := hV.2 p hp
    have := (seg_iff h hp1.f0 hp1.lt hp1.le).1 (h1 p hp) e he
    rw [hb] at this; cases this
  · intro h1 p hp
    have hp1 := hV.2 p hp
    refine (seg_iff h hp1.f0 hp1.lt hp1.le).2 fun e he => ?_
    have := h1 e he
    rw [Bool.not_eq_true', Bool.eq_false_iff, ne_eq, List.any_eq_true] at this
    rw [Bool.eq_false_iff]
    exact fun hb => this ⟨p, hp, hb⟩
/-- The ways of the restricted lattice. -/
theorem ways_restr {X : List Edge} {L : List Pin} {n k : Nat} (hF : Fwd n X) (hV : V n L) (hlen : (ways X n k 0).length ≠ 300) : ways (restr X L) n k 0 = (ways X n k 0).filter (everyB L) := by
  have h1 : ways X n k 0 = fullW X n k 0 := by
    rw [ways_full] at hlen ⊢
    rw [List.length_take] at hlen
    exact List.take_of_length_le (by omega)
  have h2 : (fullW X n k 0).length ≤ 300 := by rw [← h1]; exact ways_len _ _ _ _
  rw [ways_full, fullW_restr, h1, List.take_of_length_le (Nat.le_trans (List.length_filter_le _ _) h2)]
  apply List.filter_congr
  intro w hw
  exact (every_eq hV (fullW_chain hF k 0 w hw).1).symm
theorem mem_latt {m : List U3} {n : Nat} {e : Edge} (h : e ∈ latt m n) : ∃ f t w : Nat, f < t ∧ t ≤ n ∧ w < 3 ∧ e = ⟨f, t, w, f + w⟩ := by
  simp only [latt, e3, e2, e1, e0, List.mem_flatMap, List.mem_range] at h
  obtain ⟨f, hf, i, hi, w, hw, h⟩ := h
  split at h
  · rw [List.mem_singleton] at h
    exact ⟨f, f + 1 + i, w, by omega, by omega, hw, by rw [h]⟩
  · cases h
theorem latt_fwd (m : List U3) (n : Nat) : Fwd n (latt m n) := by
  intro e he
  obtain ⟨f, t, w, h1, h2, h3, rfl⟩ := mem_latt he
  simp only
  omega
theorem restr_fwd {n : Nat} {X : List Edge} (h : Fwd n X) (L : List Pin) : Fwd n (restr X L) := fun e he => h e (List.mem_filter.1 he).1
end Go.Proofs
