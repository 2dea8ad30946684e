/- PinSegments: the plain law and the walk. -/
import Derived.Test.YtbpkimjblhbbeaaP16
set_option linter.unusedVariables false
set_option linter.unusedSimpArgs false
namespace Go.Proofs
open Go Go.Ideal
set_option maxRecDepth 8000
set_option maxHeartbeats 8000000

def exP (e : Edge) : Pin := ⟨e.f, e.t, e.w⟩
def loP (e : Edge) : Pin := ⟨e.f, e.t, -1⟩
theorem Chain.one {n f : Int} {w : Way} (h : Chain n f w) {a b : Edge} (ha : a ∈ w) (hb : b ∈ w) : a = b ∨ a.t ≤ b.f ∨ b.t ≤ a.f := by
  have hsp := h.sep
  obtain ⟨i, hi, rfl⟩ := List.getElem_of_mem ha
  obtain ⟨j, hj, rfl⟩ := List.getElem_of_mem hb
  rw [List.pairwise_iff_getElem] at hsp
  by_cases hij : i < j
  · exact .inr (.inl (hsp i j hi hj hij))
  · by_cases hji : j < i
    · exact .inr (.inr (hsp j i hj hi hji))
    · have : i = j := by omega
      subst this; exact .inl rfl
theorem agB_pos {e : Edge} {p : Pin} (h : e.f = p.f ∧ e.t = p.t) : agB e p = (decide (p.w ≠ -1) && decide (p.w ≠ e.w)) := if_pos h
theorem agB_neg {e : Edge} {p : Pin} (h : ¬ (e.f = p.f ∧ e.t = p.t)) : agB e p = (decide (e.f < p.t) && decide (p.f < e.t)) := if_neg h
theorem agB_far {e : Edge} {p : Pin} (h : ¬ (e.f = p.f ∧ e.t = p.t)) : agB e p = true ↔ e.f < p.t ∧ p.f < e.t := by rw [agB_neg h]; simp
theorem agB_at {e : Edge} {p : Pin} (h : e.f = p.f ∧ e.t = p.t) : agB e p = true ↔ p.w ≠ -1 ∧ p.w ≠ e.w := by rw [agB_pos h]; simp
theorem lo_iff {n : Int} {w : Way} (h : Chain n 0 w) {e : Edge} (h0 : 0 ≤ e.f) (h1 : e.f < e.t) (h2 : e.t ≤ n) :
    (!(w.map loP).any (agB e)) = true ↔ ∃ x ∈ w, e.f = x.f ∧ e.t = x.t := by
  rw [Bool.not_eq_true', Bool.eq_false_iff, ne_eq, List.any_eq_true]
  constructor
  · intro hn
    obtain ⟨x, hx, h3, h4⟩ := h.at h0 (by omega : e.f < n)
    refine ⟨x, hx, ?_⟩
    by_cases hc : e.f = x.f ∧ e.t = x.t
    · exact hc
    · exact absurd ⟨loP x, List.mem_map.2 ⟨x, hx, rfl⟩, by exact (agB_far (p := loP x) hc).2 ⟨h4, show x.f < e.t by omega⟩⟩ hn
  · rintro ⟨x, hx, h3, h4⟩ ⟨p, hp, hb⟩
    obtain ⟨y, hy, rfl⟩ := List.mem_map.1 hp
    have hmx := h.mem x hx
    have hmy := h.mem y hy
    rcases h.one hx hy with rfl | hd | hd
    · simp [agB, loP, h3, h4] at hb
    · have hb : e.f < y.t ∧ y.f < e.t := (agB_far (p := loP y) (show ¬ (e.f = y.f ∧ e.t = y.t) by omega)).1 hb; omega
    · have hb : e.f < y.t ∧ y.f < e.t := (agB_far (p := loP y) (show ¬ (e.f = y.f ∧ e.t = y.t) by omega)).1 hb; omega
theorem ex_iff {n : Int} {w : Way} (h : Chain n 0 w) {e : Edge} (h0 : 0 ≤ e.f) (h1 : e.f < e.t) (h2 : e.t ≤ n) (hw : 0 ≤ e.w) (hww : ∀ x ∈ w, 0 ≤ x.w) :
    (!(w.map exP).any (agB e)) = true ↔ ∃ x ∈ w, e.f = x.f ∧ e.t = x.t ∧ e.w = x.w := by
  rw [Bool.not_eq_true', Bool.eq_false_iff, ne_eq, List.any_eq_true]
  constructor
  · intro hn
    obtain ⟨x, hx, h3, h4⟩ := h.at h0 (by omega : e.f < n)
    refine ⟨x, hx, ?_⟩
    by_cases hc : e.f = x.f ∧ e.t = x.t
    · refine ⟨hc.1, hc.2, Decidable.byContradiction fun hne => hn ⟨exP x, List.mem_map.2 ⟨x, hx, rfl⟩, ?_⟩⟩
      have := hww x hx
      exact (agB_at (p := exP x) hc).2 ⟨show x.w ≠ -1 by omega, show x.w ≠ e.w from fun h => hne h.symm⟩
    · exact absurd ⟨exP x, List.mem_map.2 ⟨x, hx, rfl⟩, by exact (agB_far (p := exP x) hc).2 ⟨h4, show x.f < e.t by omega⟩⟩ hn
  · rintro ⟨x, hx, h3, h4, h5⟩ ⟨p, hp, hb⟩
    obtain ⟨y, hy, rfl⟩ := List.mem_map.1 hp
    have hmx := h.mem x hx
    have hmy := h.mem y hy
    rcases h.one hx hy with rfl | hd | hd
    · simp [agB, exP, h3, h4, h5] at hb
    · have hb : e.f < y.t ∧ y.f < e.t := (agB_far (p := exP y) (show ¬ (e.f = y.f ∧ e.t = y.t) by omega)).1 hb; omega
    · have hb : e.f < y.t ∧ y.f < e.t := (agB_far (p := exP y) (show ¬ (e.f = y.f ∧ e.t = y.t) by omega)).1 hb; omega
theorem sorted_ext : ∀ (a b : Way), a.Pairwise (fun x y => x.f < y.f) → b.Pairwise (fun x y => x.f < y.f) → (∀ e, e ∈ a ↔ e ∈ b) → a = b
  | [], [], _, _, _ => rfl
  | [], y :: b, _, _, h => by have := (h y).2 (by simp); cases this
  | x :: a, [], _, _, h => by have := (h x).1 (by simp); cases this
  | x :: a, y :: b, ha, hb, h => by
    obtain ⟨ha1, ha2⟩ := List.pairwise_cons.1 ha
    obtain ⟨hb1, hb2⟩ := List.pairwise_cons.1 hb
    have hxy : x = y := by
      rcases List.mem_cons.1 ((h x).1 (by simp)) with h1 | h1
      · exact h1
      · rcases List.mem_cons.1 ((h y).2 (by simp)) with h2 | h2
        · exact h2.symm
        · have := hb1 x h1; have := ha1 y h2; omega
    subst hxy
    rw [sorted_ext a b ha2 hb2 fun e => ?_]
    have he := h e
    rw [List.mem_cons, List.mem_cons] at he
    constructor
    · intro h1
      rcases he.1 (.inr h1) with rfl | h2
      · have := ha1 e h1; omega
      · exact h2
    · intro h1
      rcases he.2 (.inr h1) with rfl | h2
      · have := hb1 e h1; omega
      · exact h2
def lexE (a b : Edge) : Prop := a.f < b.f ∨ a.f = b.f ∧ (a.t < b.t ∨ a.t = b.t ∧ a.w < b.w)
theorem range_lt (k : Nat) : (List.range k).Pairwise (· < ·) := List.pairwise_lt_range
theorem e0_mem {l : List U3} {n f t w : Nat} {x : Edge} (h : x ∈ e0 l n f t w) : x = ⟨f, t, w, f + w⟩ := by
  unfold e0 at h; split at h
  · simpa using h
  · cases h
theorem e1_mem {l : List U3} {n f t k : Nat} {x : Edge} (h : x ∈ e1 l n f t k) : x.f = f ∧ x.t = t := by
  simp only [e1, List.mem_flatMap] at h
  obtain ⟨w, _, h⟩ := h
  rw [e0_mem h]; simp
theorem e2_mem {l : List U3} {n f j : Nat} {x : Edge} (h : x ∈ e2 l n f j) : x.f = f := by
  simp only [e2, List.mem_flatMap] at h
  obtain ⟨w, _, h⟩ := h
  exact (e1_mem h).1
theorem latt_lex (m : List U3) (n : Nat) : (latt m n).Pairwise lexE := by
  unfold latt e3
  rw [List.pairwise_flatMap]
  refine ⟨fun f _ => ?_, (range_lt n).imp fun {a b} (h : a < b) x hx y hy => .inl (show x.f < y.f by rw [e2_mem hx, e2_mem hy]; exact Int.ofNat_lt.2 h)⟩
  unfold e2
  rw [List.pairwise_flatMap]
  refine ⟨fun i _ => ?_, (range_lt _).imp fun {a b} (h : a < b) x hx y hy => .inr ?_⟩
  rotate_left
  · have h1 := e1_mem hx; have h2 := e1_mem hy
    omega
  unfold e1
  rw [List.pairwise_flatMap]
  refine ⟨fun w _ => ?_, (range_lt _).imp fun {a b} (h : a < b) x hx y hy => .inr ?_⟩
  · unfold e0; split <;> simp
  · rw [e0_mem hx, e0_mem hy]; exact ⟨rfl, .inr ⟨rfl, Int.ofNat_lt.2 h⟩⟩
theorem latt_key {m : List U3} {n : Nat} {a b : Edge} (ha : a ∈ latt m n) (hb : b ∈ latt m n) (h1 : a.f = b.f) (h2 : a.w = b.w) (h3 : a.t = b.t) : a = b := by
  obtain ⟨f, t, w, _, _, _, rfl⟩ := mem_latt ha
  obtain ⟨f', t', w', _, _, _, rfl⟩ := mem_latt hb
  simp only at h1 h2 h3
  rw [h1, h2, h3]
theorem latt_word {m : List U3} {n : Nat} {a : Edge} (ha : a ∈ latt m n) : 0 ≤ a.w ∧ a.w < 3 := by
  obtain ⟨f, t, w, _, _, _, rfl⟩ := mem_latt ha
  simp only; omega
theorem ex_restr {m : List U3} {n : Nat} {w : Way} (h : Chain n 0 w) (hw : ∀ e ∈ w, e ∈ latt m n) : restr (latt m n) (w.map exP) = w := by
  have hF := latt_fwd m n
  have hww : ∀ x ∈ w, 0 ≤ x.w := fun x hx => (latt_word (hw x hx)).1
  have key : ∀ e, e ∈ restr (latt m n) (w.map exP) ↔ e ∈ w := by
    intro e
    unfold restr
    rw [List.mem_filter]
    constructor
    · rintro ⟨h1, h2⟩
      have hf := hF e h1
      obtain ⟨x, hx, h3, h4, h5⟩ := (ex_iff h hf.1 hf.2.1 hf.2.2 (latt_word h1).1 hww).1 h2
      rw [latt_key h1 (hw x hx) h3 h5 h4]; exact hx
    · intro h1
      have hf := hF e (hw e h1)
      exact ⟨hw e h1, (ex_iff h hf.1 hf.2.1 hf.2.2 (latt_word (hw e h1)).1 hww).2 ⟨e, h1, rfl, rfl, rfl⟩⟩
  refine sorted_ext _ _ ?_ ?_ key
  · refine ((latt_lex m n).filter _).imp_of_mem ?_
    intro a b ha hb hl
    have ha' := (key a).1 ha
    have hb' := (key b).1 hb
    have h1 := h.mem a ha'
    have h2 := h.mem b hb'
    unfold lexE at hl
    rcases h.one ha' hb' with rfl | hd | hd <;> omega
  · refine h.sep.imp_of_mem ?_
    intro a b ha hb hl
    have := h.mem a ha
    omega
theorem lo_len {m : List U3} {n : Nat} {w : Way} (h : Chain n 0 w) (hw : ∀ e ∈ w, e ∈ latt m n) : w.length ≤ (restr (latt m n) (w.map loP)).length := by
  have h1 := congrArg List.length (ex_restr h hw)
  rw [← h1]
  unfold restr
  rw [← List.countP_eq_length_filter, ← List.countP_eq_length_filter]
  apply List.countP_mono_left
  intro e he h2
  have hf := latt_fwd m n e he
  have hww : ∀ x ∈ w, 0 ≤ x.w := fun x hx => (latt_word (hw x hx)).1
  obtain ⟨x, hx, h3, h4, h5⟩ := (ex_iff h hf.1 hf.2.1 hf.2.2 (latt_word he).1 hww).1 h2
  exact (lo_iff h hf.1 hf.2.1 hf.2.2).2 ⟨x, hx, h3, h4⟩
theorem lo_has {m : List U3} {n : Nat} {w : Way} (h : Chain n 0 w) {e : Edge} (he : e ∈ restr (latt m n) (w.map loP)) : hasP (w.map loP) ⟨e.f, e.t, -1⟩ = true := by
  unfold restr at he
  obtain ⟨h1, h2⟩ := List.mem_filter.1 he
  have hf := latt_fwd m n e h1
  obtain ⟨x, hx, h3, h4⟩ := (lo_iff h hf.1 hf.2.1 hf.2.2).1 h2
  simp only [hasP, List.any_eq_true, beq_iff_eq]
  exact ⟨loP x, List.mem_map.2 ⟨x, hx, rfl⟩, by simp [loP, h3, h4]⟩
theorem chain_V {n : Int} {w : Way} (h : Chain n 0 w) (g : Edge → Pin) (hg : ∀ e ∈ w, (g e).f = e.f ∧ (g e).t = e.t ∧ -1 ≤ (g e).w ∧ (g e).w < 3) (r : Nat) : V n ((w.drop r).map g) := by
  constructor
  · rw [List.pairwise_map]
    refine (h.sep.sublist (List.drop_sublist r w)).imp_of_mem ?_
    intro a b ha hb hl
    have h1 := hg a (List.mem_of_mem_drop ha); have h2 := hg b (List.mem_of_mem_drop hb)
    omega
  · intro p hp
    obtain ⟨e, he, rfl⟩ := List.mem_map.1 hp
    have he := List.mem_of_mem_drop he
    have h1 := hg e he
    have h2 := h.mem e he
    exact ⟨by omega, by omega, by omega, by omega, by omega⟩
theorem chain_put {n : Int} {w : Way} (h : Chain n 0 w) (g : Edge → Pin) (hg : ∀ e ∈ w, (g e).f = e.f ∧ (g e).t = e.t ∧ -1 ≤ (g e).w ∧ (g e).w < 3) {r : Nat} (hr : r < w.length) :
    putP ((w.drop (r + 1)).map g) (g (w.getD r default)) = (w.drop r).map g := by
  have hin : w.getD r default ∈ w := by simp [List.getD, hr]
  have hx := hg _ hin
  have hxm := h.mem _ hin
  have hsep : ∀ y ∈ w.drop (r + 1), (w.getD r default).t ≤ y.f := by
    have := h.sep.sublist (List.drop_sublist r w)
    rw [drop_pin hr] at this
    exact (List.pairwise_cons.1 this).1
  rw [drop_pin hr (l := w)]
  generalize w.getD r default = x at *
  unfold putP
  have a1 : ((w.drop (r + 1)).map g).filter (fun q => decide (q.t ≤ (g x).f)) = [] := by
    rw [List.filter_eq_nil_iff]
    intro q hq
    obtain ⟨y, hy, rfl⟩ := List.mem_map.1 hq
    have hy' := List.mem_of_mem_drop hy
    have := hg y hy'; have := h.mem y hy'; have := hsep y hy
    simp; omega
  have a2 : ((w.drop (r + 1)).map g).filter (fun q => decide (q.f ≥ (g x).t)) = (w.drop (r + 1)).map g := by
    rw [List.filter_eq_self]
    intro q hq
    obtain ⟨y, hy, rfl⟩ := List.mem_map.1 hq
    have hy' := List.mem_of_mem_drop hy
    have := hg y hy'; have := h.mem y hy'; have := hsep y hy
    simp; omega
  rw [a1, a2]; rfl
theorem ways_mem {m : List U3} {n k : Nat} {w : Way} (h : w ∈ ways (latt m n) n k 0) : Chain n 0 w ∧ ∀ e ∈ w, e ∈ latt m n := by
  rw [ways_full] at h
  exact fullW_chain (latt_fwd m n) k 0 w (List.mem_of_mem_take h)

theorem segments_law (m : List U3) (c b : UInt8) : Ideal.Spec Try.prog 8 [.sl false 3 (u3sOf m), .agg [.int .u8 c.toNat, .int .u8 b.toNat]] (.bool true) none := by
  have hcl := c.toNat_lt
  have hbl := b.toNat_lt
  have e1 : ((c.toNat : Int) % 5) = ((c.toNat % 5 : Nat) : Int) := by simp
  have hm : c.toNat % 5 < 5 := Nat.mod_lt _ (by decide)
  generalize c.toNat % 5 = mm at *
  have e2 : (1 : Int) + (mm : Int) = ((1 + mm : Nat) : Int) := by omega
  obtain ⟨n, hn⟩ : ∃ n, 1 + mm = n := ⟨_, rfl⟩
  rw [hn] at e2
  have h0 : 0 < n := by omega
  have hlat := latt_spec m n h0 (by omega)
  have hXl := latt_len m n (by omega)
  have hXF := latt_fwd m n
  have hw1 := ways_spec (latt m n) n (by omega) (by omega) hXF (n + 1) 0 (by omega) (by omega) (by omega) (by omega)
  have hAl := ways_len (latt m n) n (n + 1) 0
  have hAs := ways_short (latt m n) n (n + 1) 0
  have hAm := fun w (h : w ∈ ways (latt m n) n (n + 1) 0) => ways_mem h
  have f1 := fun w h1 h2 => @ex_restr m n w h1 h2
  have f2 := fun w h1 h2 => @lo_len m n w h1 h2
  have f3 := fun w h1 e h2 => @lo_has m n w h1 e h2
  have f4 := fun (e : Edge) (h : e ∈ latt m n) => latt_word h
  generalize ways (latt m n) n (n + 1) 0 = A at *
  generalize latt m n = X at *
  refine Ideal.Spec.of_TD (n := 154) (fn := Try.f8) rfl rfl rfl rfl rfl rfl rfl fun w ok => ?_
  refine T.sregD 154 [0, 1, 3, 4, 5, 6, 7, 8, 9, 10, 11, 12, 13, 14, 15, 16, 17, 18, 19, 33, 50, 97, 121, 126, 144] fun Kr hKr => ?_
  simp only [go_sem, reduceCtorEq, Nat.reduceEqDiff, Nat.reduceBEq, Nat.reduceAdd, Nat.reduceMul, Nat.reduceLeDiff, Nat.reduceSub, Int.reduceToNat, Int.reduceNeg, Nat.reduceLT, Int.reduceMul, Int.reduceSub, Int.reduceAdd, Int.reduceLT, Int.reduceLE, Int.reduceGE, Int.reduceGT, Int.reduceDiv, Int.reduceMod, Int.reduceEq, Int.reducePow, Nat.reducePow, Nat.reduceDiv, Nat.reduceMod]
  (repeat (refine ⟨by (first | exact True.intro | omega | rfl | (simp; done) | (simp; omega)), ?_⟩)); try (refine hKr _ ?_; clear hKr Kr)
  refine T.sregD 154 [0, 1, 3, 4, 5, 6, 7, 8, 9, 10, 11, 12, 13, 14, 15, 16, 17, 18, 19, 33, 50, 97, 121, 126, 144] fun Kr hKr => ?_
  simp only [go_sem, reduceCtorEq, Nat.reduceEqDiff, Nat.reduceBEq, Nat.reduceAdd, Nat.reduceMul, Nat.reduceLeDiff, Nat.reduceSub, Int.reduceToNat, Int.reduceNeg, Nat.reduceLT, Int.reduceMul, Int.reduceSub, Int.reduceAdd, Int.reduceLT, Int.reduceLE, Int.reduceGE, Int.reduceGT, Int.reduceDiv, Int.reduceMod, Int.reduceEq, Int.reducePow, Nat.reducePow, Nat.reduceDiv, Nat.reduceMod]
  (repeat (refine ⟨by (first | exact True.intro | omega | rfl | (simp; done) | (simp; omega)), ?_⟩)); try (refine hKr _ ?_; clear hKr Kr)
  refine CallK.data (fun _ => Spec.args (sanity_spec) (by (first | exact ArgsLe.refl | (repeat (first | exact True.intro | refine And.intro (by first | exact AvLe.refl | exact AvLe.loose | exact AvLe.nil | exact AvLe.nilT | (refine AvLe.agg ?_; exact ArgsLe.refl) | (refine AvLe.agg ?_; (repeat (first | exact True.intro | refine And.intro (by first | exact AvLe.refl | exact AvLe.loose | exact AvLe.nil | exact AvLe.nilT) ?_)))) ?_))))) rfl ?_
  simp only [go_sem, reduceCtorEq, Nat.reduceEqDiff, Nat.reduceBEq, Nat.reduceAdd, Nat.reduceMul, Nat.reduceLeDiff, Nat.reduceSub, Int.reduceToNat, Int.reduceNeg, Nat.reduceLT, Int.reduceMul, Int.reduceSub, Int.reduceAdd, Int.reduceLT, Int.reduceLE, Int.reduceGE, Int.reduceGT, Int.reduceDiv, Int.reduceMod, Int.reduceEq, Int.reducePow, Nat.reducePow, Nat.reduceDiv, Nat.reduceMod]
  (repeat (refine ⟨by (first | exact True.intro | omega | rfl | (simp; done) | (simp; omega)), ?_⟩)); try (refine hKr _ ?_; clear hKr Kr)
  refine T.sregD 154 [0, 1, 3, 4, 5, 6, 7, 8, 9, 10, 11, 12, 13, 14, 15, 16, 17, 18, 19, 33, 50, 97, 121, 126, 144] fun Kr hKr => ?_
  simp only [go_sem, reduceCtorEq, Nat.reduceEqDiff, Nat.reduceBEq, Nat.reduceAdd, Nat.reduceMul, Nat.reduceLeDiff, Nat.reduceSub, Int.reduceToNat, Int.reduceNeg, Nat.reduceLT, Int.reduceMul, Int.reduceSub, Int.reduceAdd, Int.reduceLT, Int.reduceLE, Int.reduceGE, Int.reduceGT, Int.reduceDiv, Int.reduceMod, Int.reduceEq, Int.reducePow, Nat.reducePow, Nat.reduceDiv, Nat.reduceMod, e1, e2]
  (repeat (refine ⟨by (first | exact True.intro | omega | rfl | (simp; done) | (simp; omega)), ?_⟩)); try (refine hKr _ ?_; clear hKr Kr)
  refine T.sregD 154 [0, 1, 3, 4, 5, 6, 7, 8, 9, 10, 11, 12, 13, 14, 15, 16, 17, 18, 19, 33, 50, 97, 121, 126, 144] fun Kr hKr => ?_
  simp only [go_sem, reduceCtorEq, Nat.reduceEqDiff, Nat.reduceBEq, Nat.reduceAdd, Nat.reduceMul, Nat.reduceLeDiff, Nat.reduceSub, Int.reduceToNat, Int.reduceNeg, Nat.reduceLT, Int.reduceMul, Int.reduceSub, Int.reduceAdd, Int.reduceLT, Int.reduceLE, Int.reduceGE, Int.reduceGT, Int.reduceDiv, Int.reduceMod, Int.reduceEq, Int.reducePow, Nat.reducePow, Nat.reduceDiv, Nat.reduceMod]
  (repeat (refine ⟨by (first | exact True.intro | omega | rfl | (simp; done) | (simp; omega)), ?_⟩)); try (refine hKr _ ?_; clear hKr Kr)
  refine CallK.data (fun _ => Spec.args (hlat) (by (first | exact ArgsLe.refl | (repeat (first | exact True.intro | refine And.intro (by first | exact AvLe.refl | exact AvLe.loose | exact AvLe.nil | exact AvLe.nilT | (refine AvLe.agg ?_; exact ArgsLe.refl) | (refine AvLe.agg ?_; (repeat (first | exact True.intro | refine And.intro (by first | exact AvLe.refl | exact AvLe.loose | exact AvLe.nil | exact AvLe.nilT) ?_)))) ?_))))) rfl ?_
  simp only [go_sem, reduceCtorEq, Nat.reduceEqDiff, Nat.reduceBEq, Nat.reduceAdd, Nat.reduceMul, Nat.reduceLeDiff, Nat.reduceSub, Int.reduceToNat, Int.reduceNeg, Nat.reduceLT, Int.reduceMul, Int.reduceSub, Int.reduceAdd, Int.reduceLT, Int.reduceLE, Int.reduceGE, Int.reduceGT, Int.reduceDiv, Int.reduceMod, Int.reduceEq, Int.reducePow, Nat.reducePow, Nat.reduceDiv, Nat.reduceMod]
  (repeat (refine ⟨by (first | exact True.intro | omega | rfl | (simp; done) | (simp; omega)), ?_⟩)); try (refine hKr _ ?_; clear hKr Kr)
  refine T.sregD 154 [0, 1, 3, 4, 5, 6, 7, 8, 9, 10, 11, 12, 13, 14, 15, 16, 17, 18, 19, 33, 50, 97, 121, 126, 144] fun Kr hKr => ?_
  simp only [go_sem, reduceCtorEq, Nat.reduceEqDiff, Nat.reduceBEq, Nat.reduceAdd, Nat.reduceMul, Nat.reduceLeDiff, Nat.reduceSub, Int.reduceToNat, Int.reduceNeg, Nat.reduceLT, Int.reduceMul, Int.reduceSub, Int.reduceAdd, Int.reduceLT, Int.reduceLE, Int.reduceGE, Int.reduceGT, Int.reduceDiv, Int.reduceMod, Int.reduceEq, Int.reducePow, Nat.reducePow, Nat.reduceDiv, Nat.reduceMod]
  (repeat (refine ⟨by (first | exact True.intro | omega | rfl | (simp; done) | (simp; omega)), ?_⟩)); try (refine hKr _ ?_; clear hKr Kr)
  refine CallK.data (fun _ => Spec.args (hw1) (by (first | exact ArgsLe.refl | (repeat (first | exact True.intro | refine And.intro (by first | exact AvLe.refl | exact AvLe.loose | exact AvLe.nil | exact AvLe.nilT | (refine AvLe.agg ?_; exact ArgsLe.refl) | (refine AvLe.agg ?_; (repeat (first | exact True.intro | refine And.intro (by first | exact AvLe.refl | exact AvLe.loose | exact AvLe.nil | exact AvLe.nilT) ?_)))) ?_))))) rfl ?_
  simp only [go_sem, reduceCtorEq, Nat.reduceEqDiff, Nat.reduceBEq, Nat.reduceAdd, Nat.reduceMul, Nat.reduceLeDiff, Nat.reduceSub, Int.reduceToNat, Int.reduceNeg, Nat.reduceLT, Int.reduceMul, Int.reduceSub, Int.reduceAdd, Int.reduceLT, Int.reduceLE, Int.reduceGE, Int.reduceGT, Int.reduceDiv, Int.reduceMod, Int.reduceEq, Int.reducePow, Nat.reducePow, Nat.reduceDiv, Nat.reduceMod]
  (repeat (refine ⟨by (first | exact True.intro | omega | rfl | (simp; done) | (simp; omega)), ?_⟩)); try (refine hKr _ ?_; clear hKr Kr)
  refine T.seqK fun K27 hK27 => ?_
  refine T.sregD 154 [0, 1, 3, 4, 5, 6, 7, 8, 9, 10, 11, 12, 13, 14, 15, 16, 17, 18, 19, 33, 50, 97, 121, 126, 144] fun Kr hKr => ?_
  simp only [go_sem, reduceCtorEq, Nat.reduceEqDiff, Nat.reduceBEq, Nat.reduceAdd, Nat.reduceMul, Nat.reduceLeDiff, Nat.reduceSub, Int.reduceToNat, Int.reduceNeg, Nat.reduceLT, Int.reduceMul, Int.reduceSub, Int.reduceAdd, Int.reduceLT, Int.reduceLE, Int.reduceGE, Int.reduceGT, Int.reduceDiv, Int.reduceMod, Int.reduceEq, Int.reducePow, Nat.reducePow, Nat.reduceDiv, Nat.reduceMod]
  (repeat (refine ⟨by (first | exact True.intro | omega | rfl | (simp; done) | (simp; omega)), ?_⟩)); try (refine hKr _ ?_; clear hKr Kr)
  refine T.condTD rfl rfl (fun hb => ?_) (fun hb => ?_) <;> simp at hb
  · -- yes
    refine T.sregD 154 [0, 1, 3, 4, 5, 6, 7, 8, 9, 10, 11, 12, 13, 14, 15, 16, 17, 18, 19, 33, 50, 97, 121, 126, 144] fun Kr hKr => ?_
    simp only [go_sem, reduceCtorEq, Nat.reduceEqDiff, Nat.reduceBEq, Nat.reduceAdd, Nat.reduceMul, Nat.reduceLeDiff, Nat.reduceSub, Int.reduceToNat, Int.reduceNeg, Nat.reduceLT, Int.reduceMul, Int.reduceSub, Int.reduceAdd, Int.reduceLT, Int.reduceLE, Int.reduceGE, Int.reduceGT, Int.reduceDiv, Int.reduceMod, Int.reduceEq, Int.reducePow, Nat.reducePow, Nat.reduceDiv, Nat.reduceMod]
    (repeat (refine ⟨by (first | exact True.intro | omega | rfl | (simp; done) | (simp; omega)), ?_⟩)); try (refine hKr _ ?_; clear hKr Kr)
    refine T.ret (Fin.dataD rfl rfl rfl)
  have hpos : 0 < A.length := by
    rcases Nat.eq_zero_or_pos A.length with h | h
    · exact absurd (List.eq_nil_of_length_eq_zero h) hb
    · exact h
  refine T.skip ?_
  refine hK27 _ ?_
  have e3 : (b.toNat : Int) % (A.length : Int) = ((b.toNat % A.length : Nat) : Int) := by simp
  have hal : b.toNat % A.length < A.length := Nat.mod_lt _ hpos
  have hwm := hAm (A.getD (b.toNat % A.length) default) (by simp [List.getD, hal])
  have hws := hAs (A.getD (b.toNat % A.length) default) (by simp [List.getD, hal])
  generalize b.toNat % A.length = a at *
  generalize hae : A.getD a default = w1 at *
  obtain ⟨hch, hwX⟩ := hwm
  have g1 : ∀ e ∈ w1, (exP e).f = e.f ∧ (exP e).t = e.t ∧ -1 ≤ (exP e).w ∧ (exP e).w < 3 := fun e he => by
    have := f4 e (hwX e he); exact ⟨rfl, rfl, show -1 ≤ e.w by omega, show e.w < 3 by omega⟩
  have g2 : ∀ e ∈ w1, (loP e).f = e.f ∧ (loP e).t = e.t ∧ -1 ≤ (loP e).w ∧ (loP e).w < 3 := fun e he => ⟨rfl, rfl, show (-1 : Int) ≤ -1 by decide, show (-1 : Int) < 3 by decide⟩
  refine T.sregD 154 [0, 1, 3, 4, 5, 6, 7, 8, 9, 10, 11, 12, 13, 14, 15, 16, 17, 18, 19, 33, 50, 97, 121, 126, 144] fun Kr hKr => ?_
  simp only [go_sem, reduceCtorEq, Nat.reduceEqDiff, Nat.reduceBEq, Nat.reduceAdd, Nat.reduceMul, Nat.reduceLeDiff, Nat.reduceSub, Int.reduceToNat, Int.reduceNeg, Nat.reduceLT, Int.reduceMul, Int.reduceSub, Int.reduceAdd, Int.reduceLT, Int.reduceLE, Int.reduceGE, Int.reduceGT, Int.reduceDiv, Int.reduceMod, Int.reduceEq, Int.reducePow, Nat.reducePow, Nat.reduceDiv, Nat.reduceMod, e3, hal, hae]
  (repeat (refine ⟨by (first | exact True.intro | omega | rfl | (simp; done) | (simp; omega)), ?_⟩)); try (refine hKr _ ?_; clear hKr Kr)
  refine T.sregD 154 [0, 1, 3, 4, 5, 6, 7, 8, 9, 10, 11, 12, 13, 14, 15, 16, 17, 18, 19, 33, 50, 97, 121, 126, 144] fun Kr hKr => ?_
  simp only [go_sem, reduceCtorEq, Nat.reduceEqDiff, Nat.reduceBEq, Nat.reduceAdd, Nat.reduceMul, Nat.reduceLeDiff, Nat.reduceSub, Int.reduceToNat, Int.reduceNeg, Nat.reduceLT, Int.reduceMul, Int.reduceSub, Int.reduceAdd, Int.reduceLT, Int.reduceLE, Int.reduceGE, Int.reduceGT, Int.reduceDiv, Int.reduceMod, Int.reduceEq, Int.reducePow, Nat.reducePow, Nat.reduceDiv, Nat.reduceMod]
  (repeat (refine ⟨by (first | exact True.intro | omega | rfl | (simp; done) | (simp; omega)), ?_⟩)); try (refine hKr _ ?_; clear hKr Kr)
  refine T.seqK fun K28 hK28 => ?_
  refine T.sregD 154 [0, 1, 3, 4, 5, 6, 7, 8, 9, 10, 11, 12, 13, 14, 15, 16, 17, 18, 19, 33, 50, 97, 121, 126, 144] fun Kr hKr => ?_
  simp only [go_sem, reduceCtorEq, Nat.reduceEqDiff, Nat.reduceBEq, Nat.reduceAdd, Nat.reduceMul, Nat.reduceLeDiff, Nat.reduceSub, Int.reduceToNat, Int.reduceNeg, Nat.reduceLT, Int.reduceMul, Int.reduceSub, Int.reduceAdd, Int.reduceLT, Int.reduceLE, Int.reduceGE, Int.reduceGT, Int.reduceDiv, Int.reduceMod, Int.reduceEq, Int.reducePow, Nat.reducePow, Nat.reduceDiv, Nat.reduceMod]
  (repeat (refine ⟨by (first | exact True.intro | omega | rfl | (simp; done) | (simp; omega)), ?_⟩)); try (refine hKr _ ?_; clear hKr Kr)
  refine T.bloop (fun r : Nat => ⟨dense 154 [(5, .bool true), (6, .int .i64 n), (7, .op 7 0 0), (9, .sl false 4 (edgesOf w1)), (10, .sl false 3 (pinsOf ((w1.drop r).map exP))), (11, .sl false 3 (pinsOf ((w1.drop r).map loP))), (12, .int .i64 ((r : Int) - 1))], [(7, ⟨2, 30, true, [latA n X]⟩)]⟩) (fun r => r ≤ w1.length) (fun r => r) w1.length (by simp) ?_ fun r hr => ?_
  · rw [List.drop_length]
    refine (Le.frz 44).trans ((Le.frz 45).trans ?_)
    simp only [go_sem, reduceCtorEq, Nat.reduceEqDiff, Nat.reduceBEq, Nat.reduceAdd, Nat.reduceMul, Nat.reduceLeDiff, Nat.reduceSub, Int.reduceToNat, Int.reduceNeg, Nat.reduceLT, Int.reduceMul, Int.reduceSub, Int.reduceAdd, Int.reduceLT, Int.reduceLE, Int.reduceGE, Int.reduceGT, Int.reduceDiv, Int.reduceMod, Int.reduceEq, Int.reducePow, Nat.reducePow, Nat.reduceDiv, Nat.reduceMod, List.map_nil]
    refine Le.fitS (by (repeat (first | exact DFit.nil | refine DFit.cons (by first | rfl | (simp [slook]; done) | (simp [slook]; omega)) ?_))) (by (repeat (first | exact True.intro | refine And.intro (by first | rfl | (simp [look]; done)) ?_)))
  refine T.seqK fun K29 hK29 => ?_
  refine T.sregD 154 [0, 1, 3, 4, 5, 6, 7, 8, 9, 10, 11, 12, 13, 14, 15, 16, 17, 18, 19, 33, 50, 97, 121, 126, 144] fun Kr hKr => ?_
  simp only [go_sem, reduceCtorEq, Nat.reduceEqDiff, Nat.reduceBEq, Nat.reduceAdd, Nat.reduceMul, Nat.reduceLeDiff, Nat.reduceSub, Int.reduceToNat, Int.reduceNeg, Nat.reduceLT, Int.reduceMul, Int.reduceSub, Int.reduceAdd, Int.reduceLT, Int.reduceLE, Int.reduceGE, Int.reduceGT, Int.reduceDiv, Int.reduceMod, Int.reduceEq, Int.reducePow, Nat.reducePow, Nat.reduceDiv, Nat.reduceMod]
  (repeat (refine ⟨by (first | exact True.intro | omega | rfl | (simp; done) | (simp; omega)), ?_⟩)); try (refine hKr _ ?_; clear hKr Kr)
  refine T.condFD rfl rfl (fun hb => ?_) (fun hb => ?_) <;> simp [-List.getD_eq_getElem?_getD] at hb
  · -- no: exit
    refine T.exit ?_
    simp only [if_true]
    refine hK28 _ ?_
    have : r = 0 := by omega
    subst this
    rw [List.drop_zero]
    have r1 := restrict_spec n X (w1.map exP) (by omega) (by simp; omega)
    rw [f1 w1 hch hwX] at r1
    have r2 := restrict_spec n X (w1.map loP) (by omega) (by simp; omega)
    have z1 := f2 w1 hch hwX
    have z2 := f3 w1 hch
    have z3 := restr_len X (w1.map loP)
    have hsm := sameE_spec 0 0 w1 w1 (by omega) (by omega)
    rw [decide_eq_true ⟨rfl, rfl⟩] at hsm
    generalize restr X (w1.map loP) = Z at *
    refine T.sdraw2D 154 [0, 1, 3, 4, 5, 6, 7, 8, 9, 10, 11, 12, 13, 14, 15, 16, 17, 18, 19, 33, 50, 97, 121, 126, 144] (.take 0 (.take 1 (.take 3 (.take 4 (.three 2 (.three 5 (.two 6 (.one 7 (.one 8 (.one 9 .done))) 7 (.one 6 (.one 8 (.one 9 .done)))) 6 (.two 5 (.one 7 (.one 8 (.one 9 .done))) 7 (.one 5 (.one 8 (.one 9 .done)))) 7 (.two 5 (.one 6 (.one 8 (.one 9 .done))) 6 (.one 5 (.one 8 (.one 9 .done))))) 6 (.two 2 (.two 5 (.one 7 (.one 8 (.one 9 .done))) 7 (.one 5 (.one 8 (.one 9 .done)))) 7 (.one 2 (.one 5 (.one 8 (.one 9 .done))))) 7 (.two 2 (.two 5 (.one 6 (.one 8 (.one 9 .done))) 6 (.one 5 (.one 8 (.one 9 .done)))) 6 (.one 2 (.one 5 (.one 8 (.one 9 .done)))))))))) [7] rfl (by decide +kernel) (by decide +kernel) ?x1 ?h1 (fun Kr hKr => ?all1) ?rest1
    case all1 =>
      simp only [go_sem, reduceCtorEq, Nat.reduceEqDiff, Nat.reduceBEq, Nat.reduceAdd, Nat.reduceMul, Nat.reduceLeDiff, Nat.reduceSub, Int.reduceToNat, Int.reduceNeg, Nat.reduceLT, Int.reduceMul, Int.reduceSub, Int.reduceAdd, Int.reduceLT, Int.reduceLE, Int.reduceGE, Int.reduceGT, Int.reduceDiv, Int.reduceMod, Int.reduceEq, Int.reducePow, Nat.reducePow, Nat.reduceDiv, Nat.reduceMod]
      (repeat (any_goals (first | exact hKr _ (.inl rfl) | exact hKr _ (.inr (by (repeat (first | exact True.intro | refine And.intro (by first | rfl | (simp [look]; done)) ?_)))) | (refine CallK.dataA (r1) ?_ rfl ?_; (focus ((first | exact ArgsLe.refl | (repeat (first | exact True.intro | refine And.intro (by first | exact AvLe.refl | exact AvLe.loose | exact AvLe.nil | exact AvLe.nilT | (refine AvLe.agg ?_; exact ArgsLe.refl) | (refine AvLe.agg ?_; (repeat (first | exact True.intro | refine And.intro (by first | exact AvLe.refl | exact AvLe.loose | exact AvLe.nil | exact AvLe.nilT) ?_)))) ?_))); done)); simp only [go_sem, reduceCtorEq, Nat.reduceEqDiff, Nat.reduceBEq, Nat.reduceAdd, Nat.reduceMul, Nat.reduceLeDiff, Nat.reduceSub, Int.reduceToNat, Int.reduceNeg, Nat.reduceLT, Int.reduceMul, Int.reduceSub, Int.reduceAdd, Int.reduceLT, Int.reduceLE, Int.reduceGE, Int.reduceGT, Int.reduceDiv, Int.reduceMod, Int.reduceEq, Int.reducePow, Nat.reducePow, Nat.reduceDiv, Nat.reduceMod]) | (refine CallK.tupA (r1) ?_ ?_; (focus ((first | exact ArgsLe.refl | (repeat (first | exact True.intro | refine And.intro (by first | exact AvLe.refl | exact AvLe.loose | exact AvLe.nil | exact AvLe.nilT | (refine AvLe.agg ?_; exact ArgsLe.refl) | (refine AvLe.agg ?_; (repeat (first | exact True.intro | refine And.intro (by first | exact AvLe.refl | exact AvLe.loose | exact AvLe.nil | exact AvLe.nilT) ?_)))) ?_))); done)); simp only [go_sem, reduceCtorEq, Nat.reduceEqDiff, Nat.reduceBEq, Nat.reduceAdd, Nat.reduceMul, Nat.reduceLeDiff, Nat.reduceSub, Int.reduceToNat, Int.reduceNeg, Nat.reduceLT, Int.reduceMul, Int.reduceSub, Int.reduceAdd, Int.reduceLT, Int.reduceLE, Int.reduceGE, Int.reduceGT, Int.reduceDiv, Int.reduceMod, Int.reduceEq, Int.reducePow, Nat.reducePow, Nat.reduceDiv, Nat.reduceMod]) | (refine CallK.dataA (r2) ?_ rfl ?_; (focus ((first | exact ArgsLe.refl | (repeat (first | exact True.intro | refine And.intro (by first | exact AvLe.refl | exact AvLe.loose | exact AvLe.nil | exact AvLe.nilT | (refine AvLe.agg ?_; exact ArgsLe.refl) | (refine AvLe.agg ?_; (repeat (first | exact True.intro | refine And.intro (by first | exact AvLe.refl | exact AvLe.loose | exact AvLe.nil | exact AvLe.nilT) ?_)))) ?_))); done)); simp only [go_sem, reduceCtorEq, Nat.reduceEqDiff, Nat.reduceBEq, Nat.reduceAdd, Nat.reduceMul, Nat.reduceLeDiff, Nat.reduceSub, Int.reduceToNat, Int.reduceNeg, Nat.reduceLT, Int.reduceMul, Int.reduceSub, Int.reduceAdd, Int.reduceLT, Int.reduceLE, Int.reduceGE, Int.reduceGT, Int.reduceDiv, Int.reduceMod, Int.reduceEq, Int.reducePow, Nat.reducePow, Nat.reduceDiv, Nat.reduceMod]) | (refine CallK.tupA (r2) ?_ ?_; (focus ((first | exact ArgsLe.refl | (repeat (first | exact True.intro | refine And.intro (by first | exact AvLe.refl | exact AvLe.loose | exact AvLe.nil | exact AvLe.nilT | (refine AvLe.agg ?_; exact ArgsLe.refl) | (refine AvLe.agg ?_; (repeat (first | exact True.intro | refine And.intro (by first | exact AvLe.refl | exact AvLe.loose | exact AvLe.nil | exact AvLe.nilT) ?_)))) ?_))); done)); simp only [go_sem, reduceCtorEq, Nat.reduceEqDiff, Nat.reduceBEq, Nat.reduceAdd, Nat.reduceMul, Nat.reduceLeDiff, Nat.reduceSub, Int.reduceToNat, Int.reduceNeg, Nat.reduceLT, Int.reduceMul, Int.reduceSub, Int.reduceAdd, Int.reduceLT, Int.reduceLE, Int.reduceGE, Int.reduceGT, Int.reduceDiv, Int.reduceMod, Int.reduceEq, Int.reducePow, Nat.reducePow, Nat.reduceDiv, Nat.reduceMod]) | (refine And.intro ?_ ?_) | (first | exact True.intro | omega | rfl | (simp; done) | (simp; omega)))))
      all_goals (first | exact hKr _ (.inl rfl) | exact hKr _ (.inr (by (repeat (first | exact True.intro | refine And.intro (by first | rfl | (simp [look]; done)) ?_)))))
    case rest1 =>
    refine T.seqK fun K30 hK30 => ?_
    refine T.sregD 154 [0, 1, 3, 4, 5, 6, 7, 8, 9, 10, 11, 12, 13, 14, 15, 16, 17, 18, 19, 33, 50, 97, 121, 126, 144] fun Kr hKr => ?_
    simp only [go_sem, reduceCtorEq, Nat.reduceEqDiff, Nat.reduceBEq, Nat.reduceAdd, Nat.reduceMul, Nat.reduceLeDiff, Nat.reduceSub, Int.reduceToNat, Int.reduceNeg, Nat.reduceLT, Int.reduceMul, Int.reduceSub, Int.reduceAdd, Int.reduceLT, Int.reduceLE, Int.reduceGE, Int.reduceGT, Int.reduceDiv, Int.reduceMod, Int.reduceEq, Int.reducePow, Nat.reducePow, Nat.reduceDiv, Nat.reduceMod]
    (repeat (refine ⟨by (first | exact True.intro | omega | rfl | (simp; done) | (simp; omega)), ?_⟩)); try (refine hKr _ ?_; clear hKr Kr)
    refine CallK.data (fun _ => Spec.args (hsm) (by (first | exact ArgsLe.refl | (repeat (first | exact True.intro | refine And.intro (by first | exact AvLe.refl | exact AvLe.loose | exact AvLe.nil | exact AvLe.nilT | (refine AvLe.agg ?_; exact ArgsLe.refl) | (refine AvLe.agg ?_; (repeat (first | exact True.intro | refine And.intro (by first | exact AvLe.refl | exact AvLe.loose | exact AvLe.nil | exact AvLe.nilT) ?_)))) ?_))))) rfl ?_
    simp only [go_sem, reduceCtorEq, Nat.reduceEqDiff, Nat.reduceBEq, Nat.reduceAdd, Nat.reduceMul, Nat.reduceLeDiff, Nat.reduceSub, Int.reduceToNat, Int.reduceNeg, Nat.reduceLT, Int.reduceMul, Int.reduceSub, Int.reduceAdd, Int.reduceLT, Int.reduceLE, Int.reduceGE, Int.reduceGT, Int.reduceDiv, Int.reduceMod, Int.reduceEq, Int.reducePow, Nat.reducePow, Nat.reduceDiv, Nat.reduceMod]
    (repeat (refine ⟨by (first | exact True.intro | omega | rfl | (simp; done) | (simp; omega)), ?_⟩)); try (refine hKr _ ?_; clear hKr Kr)
    refine T.condTD rfl rfl (fun hb => ?_) (fun hb => ?_) <;> simp at hb
    · omega
    refine T.skip ?_
    refine hK30 _ ?_
    refine T.seqK fun K31 hK31 => ?_
    refine T.sregD 154 [0, 1, 3, 4, 5, 6, 7, 8, 9, 10, 11, 12, 13, 14, 15, 16, 17, 18, 19, 33, 50, 97, 121, 126, 144] fun Kr hKr => ?_
    simp only [go_sem, reduceCtorEq, Nat.reduceEqDiff, Nat.reduceBEq, Nat.reduceAdd, Nat.reduceMul, Nat.reduceLeDiff, Nat.reduceSub, Int.reduceToNat, Int.reduceNeg, Nat.reduceLT, Int.reduceMul, Int.reduceSub, Int.reduceAdd, Int.reduceLT, Int.reduceLE, Int.reduceGE, Int.reduceGT, Int.reduceDiv, Int.reduceMod, Int.reduceEq, Int.reducePow, Nat.reducePow, Nat.reduceDiv, Nat.reduceMod]
    (repeat (refine ⟨by (first | exact True.intro | omega | rfl | (simp; done) | (simp; omega)), ?_⟩)); try (refine hKr _ ?_; clear hKr Kr)
    refine T.bloop (fun i : Nat => ⟨dense 154 [(5, .bool true), (9, .sl false 4 (edgesOf w1)), (11, .sl false 3 (pinsOf (w1.map loP))), (18, .op 18 0 0), (19, .int .i64 i)], [(18, ⟨2, 30, true, [latA n Z]⟩)]⟩) (fun i => i ≤ Z.length) (fun i => Z.length - i) 0 (by simp) ?_ fun i hi => ?_
    · refine Le.fitS (by (repeat (first | exact DFit.nil | refine DFit.cons (by first | rfl | (simp [slook]; done) | (simp [slook]; omega)) ?_))) (by (repeat (first | exact True.intro | refine And.intro (by first | rfl | (simp [look]; done)) ?_)))
    refine T.seqK fun K32 hK32 => ?_
    refine T.sregD 154 [0, 1, 3, 4, 5, 6, 7, 8, 9, 10, 11, 12, 13, 14, 15, 16, 17, 18, 19, 33, 50, 97, 121, 126, 144] fun Kr hKr => ?_
    simp only [go_sem, reduceCtorEq, Nat.reduceEqDiff, Nat.reduceBEq, Nat.reduceAdd, Nat.reduceMul, Nat.reduceLeDiff, Nat.reduceSub, Int.reduceToNat, Int.reduceNeg, Nat.reduceLT, Int.reduceMul, Int.reduceSub, Int.reduceAdd, Int.reduceLT, Int.reduceLE, Int.reduceGE, Int.reduceGT, Int.reduceDiv, Int.reduceMod, Int.reduceEq, Int.reducePow, Nat.reducePow, Nat.reduceDiv, Nat.reduceMod]
    (repeat (refine ⟨by (first | exact True.intro | omega | rfl | (simp; done) | (simp; omega)), ?_⟩)); try (refine hKr _ ?_; clear hKr Kr)
    refine T.condFD rfl rfl (fun hc => ?_) (fun hc => ?_) <;> simp [-List.getD_eq_getElem?_getD] at hc
    · -- no: exit
      refine T.exit ?_
      simp only [if_true]
      refine hK31 _ ?_
      have hge : decide ((Z.length : Int) ≥ (w1.length : Int)) = true := by simp; omega
      refine T.sregD 154 [0, 1, 3, 4, 5, 6, 7, 8, 9, 10, 11, 12, 13, 14, 15, 16, 17, 18, 19, 33, 50, 97, 121, 126, 144] fun Kr hKr => ?_
      simp only [go_sem, reduceCtorEq, Nat.reduceEqDiff, Nat.reduceBEq, Nat.reduceAdd, Nat.reduceMul, Nat.reduceLeDiff, Nat.reduceSub, Int.reduceToNat, Int.reduceNeg, Nat.reduceLT, Int.reduceMul, Int.reduceSub, Int.reduceAdd, Int.reduceLT, Int.reduceLE, Int.reduceGE, Int.reduceGT, Int.reduceDiv, Int.reduceMod, Int.reduceEq, Int.reducePow, Nat.reducePow, Nat.reduceDiv, Nat.reduceMod, hge]
      (repeat (refine ⟨by (first | exact True.intro | omega | rfl | (simp; done) | (simp; omega)), ?_⟩)); try (refine hKr _ ?_; clear hKr Kr)
      refine T.ret (Fin.dataD rfl rfl rfl)
    refine T.skip ?_
    refine hK32 _ ?_
    refine T.seqK fun K33 hK33 => ?_
    refine T.block ?_
    have hz := z2 (Z.getD i default) (by simp [List.getD, hc])
    generalize hze : Z.getD i default = e at *
    have hhas := has_spec (w1.map loP) ⟨e.f, e.t, -1⟩ (by simp; omega)
    rw [hz] at hhas
    refine T.sdrawD 154 [0, 1, 3, 4, 5, 6, 7, 8, 9, 10, 11, 12, 13, 14, 15, 16, 17, 18, 19, 33, 50, 97, 121, 126, 144] (.take 0 (.take 1 (.take 2 (.take 3 (.take 4 (.take 5 (.take 6 (.take 7 (.take 8 (.take 9 (.take 10 (.take 11 (.take 12 (.take 13 (.one 14 (.take 15 .done)))))))))))))))) [18] rfl (by decide +kernel) (by decide +kernel) fun Kr hKr => ?_
    simp only [go_sem, reduceCtorEq, Nat.reduceEqDiff, Nat.reduceBEq, Nat.reduceAdd, Nat.reduceMul, Nat.reduceLeDiff, Nat.reduceSub, Int.reduceToNat, Int.reduceNeg, Nat.reduceLT, Int.reduceMul, Int.reduceSub, Int.reduceAdd, Int.reduceLT, Int.reduceLE, Int.reduceGE, Int.reduceGT, Int.reduceDiv, Int.reduceMod, Int.reduceEq, Int.reducePow, Nat.reducePow, Nat.reduceDiv, Nat.reduceMod, hc, hze]
    (repeat (refine ⟨by (first | exact True.intro | omega | rfl | (simp; done) | (simp; omega)), ?_⟩)); try (refine hKr _ ?_; clear hKr Kr)
    refine CallK.data (fun _ => Spec.args (hhas) (by (first | exact ArgsLe.refl | (repeat (first | exact True.intro | refine And.intro (by first | exact AvLe.refl | exact AvLe.loose | exact AvLe.nil | exact AvLe.nilT | (refine AvLe.agg ?_; exact ArgsLe.refl) | (refine AvLe.agg ?_; (repeat (first | exact True.intro | refine And.intro (by first | exact AvLe.refl | exact AvLe.loose | exact AvLe.nil | exact AvLe.nilT) ?_)))) ?_))))) rfl ?_
    simp only [go_sem, reduceCtorEq, Nat.reduceEqDiff, Nat.reduceBEq, Nat.reduceAdd, Nat.reduceMul, Nat.reduceLeDiff, Nat.reduceSub, Int.reduceToNat, Int.reduceNeg, Nat.reduceLT, Int.reduceMul, Int.reduceSub, Int.reduceAdd, Int.reduceLT, Int.reduceLE, Int.reduceGE, Int.reduceGT, Int.reduceDiv, Int.reduceMod, Int.reduceEq, Int.reducePow, Nat.reducePow, Nat.reduceDiv, Nat.reduceMod, hc, hze]
    (repeat (refine ⟨by (first | exact True.intro | omega | rfl | (simp; done) | (simp; omega)), ?_⟩)); try (refine hKr _ ?_; clear hKr Kr)
    refine T.condTD rfl rfl (fun hd => ?_) (fun hd => ?_) <;> simp at hd
    refine T.skip ?_
    refine hK33 _ ?_
    refine T.regD 154 [0, 1, 3, 4, 5, 6, 7, 8, 9, 10, 11, 12, 13, 14, 15, 16, 17, 18, 19, 33, 50, 97, 121, 126, 144] fun Kr hKr => ?_
    simp only [go_sem, reduceCtorEq, Nat.reduceEqDiff, Nat.reduceBEq, Nat.reduceAdd, Nat.reduceMul, Nat.reduceLeDiff, Nat.reduceSub, Int.reduceToNat, Int.reduceNeg, Nat.reduceLT, Int.reduceMul, Int.reduceSub, Int.reduceAdd, Int.reduceLT, Int.reduceLE, Int.reduceGE, Int.reduceGT, Int.reduceDiv, Int.reduceMod, Int.reduceEq, Int.reducePow, Nat.reducePow, Nat.reduceDiv, Nat.reduceMod]
    (repeat (refine ⟨by (first | exact True.intro | omega | rfl | (simp; done) | (simp; omega)), ?_⟩)); try (refine hKr _ ?_; clear hKr Kr)
    refine ⟨i + 1, ?_, ?_, Le.fitS (by (repeat (first | exact DFit.nil | refine DFit.cons (by first | rfl | (simp [slook]; done) | (simp [slook]; omega)) ?_))) ?_⟩
    · omega
    · omega
    · (repeat (first | exact True.intro | refine And.intro (by first | rfl | (simp [look]; done)) ?_))
  obtain ⟨q, rfl⟩ : ∃ q, r = q + 1 := ⟨r - 1, by omega⟩
  rw [show ((q + 1 : Nat) : Int) - 1 = (q : Int) by omega]
  refine T.skip ?_
  refine hK29 _ ?_
  refine T.seqK fun K34 hK34 => ?_
  refine T.block ?_
  have hq : q < w1.length := by omega
  have hin : w1.getD q default ∈ w1 := by simp [List.getD, hq]
  have p1 := chain_put hch exP g1 hq
  have p2 := chain_put hch loP g2 hq
  have b1 : putB ((w1.drop (q + 1)).map exP) (exP (w1.getD q default)) n = true := by
    simp only [putB, Bool.and_eq_true, validP_iff]
    refine ⟨⟨by omega, chain_V hch exP g1 _⟩, by omega, ?_⟩
    have := g1 _ hin; have := hch.mem _ hin
    exact ⟨.cons (by simp) .nil, fun p hp => by rw [List.mem_singleton] at hp; subst hp; exact ⟨by omega, by omega, by omega, by omega, by omega⟩⟩
  have b2 : putB ((w1.drop (q + 1)).map loP) (loP (w1.getD q default)) n = true := by
    simp only [putB, Bool.and_eq_true, validP_iff]
    refine ⟨⟨by omega, chain_V hch loP g2 _⟩, by omega, ?_⟩
    have := g2 _ hin; have := hch.mem _ hin
    exact ⟨.cons (by simp) .nil, fun p hp => by rw [List.mem_singleton] at hp; subst hp; exact ⟨by omega, by omega, by omega, by omega, by omega⟩⟩
  have s1 := put_yes _ _ n (by simp; omega) b1
  have s2 := put_yes _ _ n (by simp; omega) b2
  rw [p1] at s1
  rw [p2] at s2
  generalize (w1.drop (q + 1)).map exP = E1 at *
  generalize (w1.drop (q + 1)).map loP = E2 at *
  generalize hqe : w1.getD q default = e at *
  simp only [exP, loP] at s1 s2
  refine T.sdrawD 154 [0, 1, 3, 4, 5, 6, 7, 8, 9, 10, 11, 12, 13, 14, 15, 16, 17, 18, 19, 33, 50, 97, 121, 126, 144] (.take 0 (.take 1 (.take 2 (.take 3 (.take 4 (.take 5 (.take 6 (.take 7 (.take 8 (.take 9 (.take 10 (.take 11 (.take 12 (.take 13 (.take 14 (.take 15 (.take 16 (.take 17 (.one 18 (.take 19 (.take 20 (.take 21 (.take 22 (.take 23 .done)))))))))))))))))))))))) [] rfl (by decide +kernel) (by decide +kernel) fun Kr hKr => ?_
  simp only [go_sem, reduceCtorEq, Nat.reduceEqDiff, Nat.reduceBEq, Nat.reduceAdd, Nat.reduceMul, Nat.reduceLeDiff, Nat.reduceSub, Int.reduceToNat, Int.reduceNeg, Nat.reduceLT, Int.reduceMul, Int.reduceSub, Int.reduceAdd, Int.reduceLT, Int.reduceLE, Int.reduceGE, Int.reduceGT, Int.reduceDiv, Int.reduceMod, Int.reduceEq, Int.reducePow, Nat.reducePow, Nat.reduceDiv, Nat.reduceMod, hq, hqe]
  (repeat (refine ⟨by (first | exact True.intro | omega | rfl | (simp; done) | (simp; omega)), ?_⟩)); try (refine hKr _ ?_; clear hKr Kr)
  refine CallK.tup (fun _ => Spec.args (s1) (by (first | exact ArgsLe.refl | (repeat (first | exact True.intro | refine And.intro (by first | exact AvLe.refl | exact AvLe.loose | exact AvLe.nil | exact AvLe.nilT | (refine AvLe.agg ?_; exact ArgsLe.refl) | (refine AvLe.agg ?_; (repeat (first | exact True.intro | refine And.intro (by first | exact AvLe.refl | exact AvLe.loose | exact AvLe.nil | exact AvLe.nilT) ?_)))) ?_))))) ?_
  simp only [go_sem, reduceCtorEq, Nat.reduceEqDiff, Nat.reduceBEq, Nat.reduceAdd, Nat.reduceMul, Nat.reduceLeDiff, Nat.reduceSub, Int.reduceToNat, Int.reduceNeg, Nat.reduceLT, Int.reduceMul, Int.reduceSub, Int.reduceAdd, Int.reduceLT, Int.reduceLE, Int.reduceGE, Int.reduceGT, Int.reduceDiv, Int.reduceMod, Int.reduceEq, Int.reducePow, Nat.reducePow, Nat.reduceDiv, Nat.reduceMod, hq, hqe]
  (repeat (refine ⟨by (first | exact True.intro | omega | rfl | (simp; done) | (simp; omega)), ?_⟩)); try (refine hKr _ ?_; clear hKr Kr)
  refine T.sdrawD 154 [0, 1, 3, 4, 5, 6, 7, 8, 9, 10, 11, 12, 13, 14, 15, 16, 17, 18, 19, 33, 50, 97, 121, 126, 144] (.take 0 (.take 1 (.take 2 (.take 3 (.take 4 (.take 5 (.take 6 (.take 7 (.take 8 (.take 9 (.take 10 (.take 11 (.take 12 (.one 13 (.take 14 (.take 15 (.take 16 (.take 17 (.take 18 .done))))))))))))))))))) [] rfl (by decide +kernel) (by decide +kernel) fun Kr hKr => ?_
  simp only [go_sem, reduceCtorEq, Nat.reduceEqDiff, Nat.reduceBEq, Nat.reduceAdd, Nat.reduceMul, Nat.reduceLeDiff, Nat.reduceSub, Int.reduceToNat, Int.reduceNeg, Nat.reduceLT, Int.reduceMul, Int.reduceSub, Int.reduceAdd, Int.reduceLT, Int.reduceLE, Int.reduceGE, Int.reduceGT, Int.reduceDiv, Int.reduceMod, Int.reduceEq, Int.reducePow, Nat.reducePow, Nat.reduceDiv, Nat.reduceMod, hq, hqe]
  (repeat (refine ⟨by (first | exact True.intro | omega | rfl | (simp; done) | (simp; omega)), ?_⟩)); try (refine hKr _ ?_; clear hKr Kr)
  refine CallK.tup (fun _ => Spec.args (s2) (by (first | exact ArgsLe.refl | (repeat (first | exact True.intro | refine And.intro (by first | exact AvLe.refl | exact AvLe.loose | exact AvLe.nil | exact AvLe.nilT | (refine AvLe.agg ?_; exact ArgsLe.refl) | (refine AvLe.agg ?_; (repeat (first | exact True.intro | refine And.intro (by first | exact AvLe.refl | exact AvLe.loose | exact AvLe.nil | exact AvLe.nilT) ?_)))) ?_))))) ?_
  simp only [go_sem, reduceCtorEq, Nat.reduceEqDiff, Nat.reduceBEq, Nat.reduceAdd, Nat.reduceMul, Nat.reduceLeDiff, Nat.reduceSub, Int.reduceToNat, Int.reduceNeg, Nat.reduceLT, Int.reduceMul, Int.reduceSub, Int.reduceAdd, Int.reduceLT, Int.reduceLE, Int.reduceGE, Int.reduceGT, Int.reduceDiv, Int.reduceMod, Int.reduceEq, Int.reducePow, Nat.reducePow, Nat.reduceDiv, Nat.reduceMod, hq, hqe]
  (repeat (refine ⟨by (first | exact True.intro | omega | rfl | (simp; done) | (simp; omega)), ?_⟩)); try (refine hKr _ ?_; clear hKr Kr)
  refine T.seqK fun K35 hK35 => ?_
  refine T.sregD 154 [0, 1, 3, 4, 5, 6, 7, 8, 9, 10, 11, 12, 13, 14, 15, 16, 17, 18, 19, 33, 50, 97, 121, 126, 144] fun Kr hKr => ?_
  simp only [go_sem, reduceCtorEq, Nat.reduceEqDiff, Nat.reduceBEq, Nat.reduceAdd, Nat.reduceMul, Nat.reduceLeDiff, Nat.reduceSub, Int.reduceToNat, Int.reduceNeg, Nat.reduceLT, Int.reduceMul, Int.reduceSub, Int.reduceAdd, Int.reduceLT, Int.reduceLE, Int.reduceGE, Int.reduceGT, Int.reduceDiv, Int.reduceMod, Int.reduceEq, Int.reducePow, Nat.reducePow, Nat.reduceDiv, Nat.reduceMod]
  (repeat (refine ⟨by (first | exact True.intro | omega | rfl | (simp; done) | (simp; omega)), ?_⟩)); try (refine hKr _ ?_; clear hKr Kr)
  refine T.condTD rfl rfl (fun hb => ?_) (fun hb => ?_) <;> simp at hb
  refine T.skip ?_
  refine hK35 _ ?_
  refine T.regD 154 [0, 1, 3, 4, 5, 6, 7, 8, 9, 10, 11, 12, 13, 14, 15, 16, 17, 18, 19, 33, 50, 97, 121, 126, 144] fun Kr hKr => ?_
  simp only [go_sem, reduceCtorEq, Nat.reduceEqDiff, Nat.reduceBEq, Nat.reduceAdd, Nat.reduceMul, Nat.reduceLeDiff, Nat.reduceSub, Int.reduceToNat, Int.reduceNeg, Nat.reduceLT, Int.reduceMul, Int.reduceSub, Int.reduceAdd, Int.reduceLT, Int.reduceLE, Int.reduceGE, Int.reduceGT, Int.reduceDiv, Int.reduceMod, Int.reduceEq, Int.reducePow, Nat.reducePow, Nat.reduceDiv, Nat.reduceMod]
  (repeat (refine ⟨by (first | exact True.intro | omega | rfl | (simp; done) | (simp; omega)), ?_⟩)); try (refine hKr _ ?_; clear hKr Kr)
  refine hK34 _ ?_
  refine T.regD 154 [0, 1, 3, 4, 5, 6, 7, 8, 9, 10, 11, 12, 13, 14, 15, 16, 17, 18, 19, 33, 50, 97, 121, 126, 144] fun Kr hKr => ?_
  simp only [go_sem, reduceCtorEq, Nat.reduceEqDiff, Nat.reduceBEq, Nat.reduceAdd, Nat.reduceMul, Nat.reduceLeDiff, Nat.reduceSub, Int.reduceToNat, Int.reduceNeg, Nat.reduceLT, Int.reduceMul, Int.reduceSub, Int.reduceAdd, Int.reduceLT, Int.reduceLE, Int.reduceGE, Int.reduceGT, Int.reduceDiv, Int.reduceMod, Int.reduceEq, Int.reducePow, Nat.reducePow, Nat.reduceDiv, Nat.reduceMod]
  (repeat (refine ⟨by (first | exact True.intro | omega | rfl | (simp; done) | (simp; omega)), ?_⟩)); try (refine hKr _ ?_; clear hKr Kr)
  refine ⟨q, ?_, ?_, Le.fitS (by (repeat (first | exact DFit.nil | refine DFit.cons (by first | rfl | (simp [slook]; done) | (simp [slook]; omega)) ?_))) ?_⟩
  · omega
  · omega
  · (repeat (first | exact True.intro | refine And.intro (by first | rfl | (simp [look]; done)) ?_))
end Go.Proofs
