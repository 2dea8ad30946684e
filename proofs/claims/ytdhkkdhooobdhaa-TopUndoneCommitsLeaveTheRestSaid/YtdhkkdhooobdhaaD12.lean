/- Documents, plainly: what edits do to texts and to whole marks. -/
import Derived.Test.YtdhkkdhooobdhaaD8
set_option linter.unusedVariables false
set_option linter.unusedSimpArgs false
namespace Go.Proofs
open Go Go.Ideal
set_option maxRecDepth 8000
set_option maxHeartbeats 4000000

/-! ### Pieces of texts -/
theorem sub_get (s : List UInt8) (f t i : Nat) : (sub s (f : Int) (t : Int))[i]? = if f + i < t then s[f + i]? else none := by
  simp only [sub, Int.toNat_natCast, List.getElem?_drop, List.getElem?_take]
theorem ins_get (s x : List UInt8) (a i : Nat) (ha : a ≤ s.length) : (s.take a ++ x ++ s.drop a)[i]? = if i < a then s[i]? else if i < a + x.length then x[i - a]? else s[i - x.length]? := by
  simp only [List.getElem?_append, List.length_append, List.length_take, List.getElem?_take, List.getElem?_drop, Nat.min_eq_left ha]
  by_cases h1 : i < a
  · simp [h1, show i < a + x.length by omega]
  · by_cases h2 : i < a + x.length
    · simp [h1, h2]
    · simp only [h1, h2, if_false]
      congr 1; omega
theorem del_get (s : List UInt8) (a n i : Nat) (ha : a ≤ s.length) : (s.take a ++ s.drop (a + n))[i]? = if i < a then s[i]? else s[i + n]? := by
  simp only [List.getElem?_append, List.length_take, List.getElem?_take, List.getElem?_drop, Nat.min_eq_left ha]
  by_cases h1 : i < a
  · simp [h1]
  · simp only [h1, if_false]
    congr 1; omega
/-- An insert and a mark that stays whole. -/
theorem ins_sub {s x : List UInt8} {a : Nat} {m : Mark} (ha : a ≤ s.length) (hm : 0 ≤ m.f ∧ m.f < m.t ∧ m.t ≤ s.length) (hw : (insM a x.length m).w = true) :
    m.w = true ∧ sub (s.take a ++ x ++ s.drop a) (insM a x.length m).f (insM a x.length m).t = sub s m.f m.t := by
  obtain ⟨id, f, t, w⟩ := m
  obtain ⟨h1, h2, h3⟩ := hm
  simp only at h1 h2 h3
  obtain ⟨f, rfl⟩ : ∃ n : Nat, f = n := ⟨f.toNat, by omega⟩
  obtain ⟨t, rfl⟩ : ∃ n : Nat, t = n := ⟨t.toNat, by omega⟩
  unfold insM at hw ⊢
  simp only at hw ⊢
  split
  · rename_i h
    rw [if_pos h] at hw
    refine ⟨hw, ?_⟩
    apply List.ext_getElem?
    intro i
    rw [sub_get, sub_get, ins_get _ _ _ _ ha]
    by_cases hi : f + i < t
    · rw [if_pos hi, if_pos hi, if_pos (by omega)]
    · rw [if_neg hi, if_neg hi]
  · rename_i h
    rw [if_neg h] at hw
    split
    · rename_i h'
      rw [if_pos h'] at hw
      refine ⟨hw, ?_⟩
      apply List.ext_getElem?
      intro i
      show (sub _ ((f : Int) + (x.length : Int)) ((t : Int) + (x.length : Int)))[i]? = (sub s (f : Int) (t : Int))[i]?
      rw [← Int.natCast_add, ← Int.natCast_add, sub_get, sub_get, ins_get _ _ _ _ ha]
      by_cases hi : f + i < t
      · rw [if_pos (by omega), if_pos hi, if_neg (by omega), if_neg (by omega)]
        congr 1; omega
      · rw [if_neg (by omega), if_neg hi]
    · rename_i h'
      rw [if_neg h'] at hw
      cases hw
/-- A deletion and a mark that stays whole. -/
theorem del_sub {s : List UInt8} {a n : Nat} {m : Mark} (ha : a + n ≤ s.length) (hm : 0 ≤ m.f ∧ m.f < m.t ∧ m.t ≤ s.length) (hw : (delW a n m).w = true) :
    m.w = true ∧ sub (s.take a ++ s.drop (a + n)) (delW a n m).f (delW a n m).t = sub s m.f m.t := by
  obtain ⟨id, f, t, w⟩ := m
  obtain ⟨h1, h2, h3⟩ := hm
  simp only at h1 h2 h3
  obtain ⟨f, rfl⟩ : ∃ n : Nat, f = n := ⟨f.toNat, by omega⟩
  obtain ⟨t, rfl⟩ : ∃ n : Nat, t = n := ⟨t.toNat, by omega⟩
  simp only [delW, Bool.and_eq_true, decide_eq_true_eq] at hw ⊢
  obtain ⟨hw1, hw2⟩ := hw
  refine ⟨hw1, ?_⟩
  have key : (shutP (f : Int) a n = f ∧ shutP (t : Int) a n = t ∧ (t ≤ a ∨ n = 0)) ∨ (shutP (f : Int) a n = ((f - n : Nat) : Int) ∧ shutP (t : Int) a n = ((t - n : Nat) : Int) ∧ a + n ≤ f) := by
    unfold shutP at hw2 ⊢
    by_cases c1 : (t : Int) ≤ a
    · left; rw [if_pos c1, if_pos (by omega)]; exact ⟨rfl, rfl, .inl (by omega)⟩
    · rw [if_neg c1] at hw2
      by_cases c2 : (t : Int) - a ≤ n
      · rw [if_pos c2] at hw2
        by_cases c3 : (f : Int) ≤ a
        · rw [if_pos c3] at hw2; omega
        · rw [if_neg c3] at hw2
          by_cases c4 : (f : Int) - a ≤ n
          · rw [if_pos c4] at hw2; omega
          · omega
      · rw [if_neg c2] at hw2
        by_cases c3 : (f : Int) ≤ a
        · rw [if_pos c3] at hw2
          left
          rw [if_pos c3, if_neg c1, if_neg c2]
          exact ⟨rfl, by omega, .inr (by omega)⟩
        · rw [if_neg c3] at hw2
          right
          rw [if_neg c3, if_neg c1, if_neg c2]
          by_cases c4 : (f : Int) - a ≤ n
          · rw [if_pos c4] at hw2 ⊢
            exact ⟨by omega, by omega, by omega⟩
          · rw [if_neg c4]
            exact ⟨by omega, by omega, by omega⟩
  rcases key with ⟨k1, k2, k3⟩ | ⟨k1, k2, k3⟩
  · rw [k1, k2]
    apply List.ext_getElem?
    intro i
    rw [sub_get, sub_get, del_get _ _ _ _ (by omega)]
    by_cases hi : f + i < t
    · rw [if_pos hi, if_pos hi]
      split
      · rfl
      · congr 1; omega
    · rw [if_neg hi, if_neg hi]
  · rw [k1, k2]
    apply List.ext_getElem?
    intro i
    rw [sub_get, sub_get, del_get _ _ _ _ (by omega)]
    by_cases hi : f + i < t
    · rw [if_pos (by omega), if_pos hi, if_neg (by omega)]
      congr 1; omega
    · rw [if_neg (by omega), if_neg hi]

/-! The text after an edit, over natural numbers. -/
theorem chg_ins {s x : List UInt8} {a : Nat} {n t : Int} : chg s ⟨1, a, n, t, x⟩ = s.take a ++ x ++ s.drop a := by simp [chg]
theorem chg_del {s x : List UInt8} {a n : Nat} {t : Int} : chg s ⟨2, a, n, t, x⟩ = s.take a ++ s.drop (a + n) := by
  have : ((a : Int) + (n : Int)).toNat = a + n := by omega
  simp [chg, this]
theorem chg_mov {s x : List UInt8} {a n t : Nat} : chg s ⟨3, a, n, t, x⟩ = (s.take a ++ s.drop (a + n)).take t ++ (s.take (a + n)).drop a ++ (s.take a ++ s.drop (a + n)).drop t := by
  have : ((a : Int) + (n : Int)).toNat = a + n := by omega
  simp [chg, this]
/-- A mark that is whole after an edit was whole, and has the same text. -/
theorem whole_text {s : List UInt8} {e : Edit} {m m' : Mark} (hp : possB e s.length = true) (hm : 0 ≤ m.f ∧ m.f < m.t ∧ m.t ≤ s.length) (h : carM e m = some m') (hw : m'.w = true) :
    m.w = true ∧ sub (chg s e) m'.f m'.t = sub s m.f m.t := by
  obtain ⟨q1, q2, q3, q4, q5, q6, q7⟩ := possB_smE hp
  obtain ⟨k, a, n, t, x⟩ := e
  simp only at q1 q2 q3 q4 q5 q6 q7
  obtain ⟨a, rfl⟩ : ∃ y : Nat, a = y := ⟨a.toNat, by omega⟩
  unfold carM at h
  simp only at h
  by_cases h1 : k = 1
  · subst h1
    rw [if_pos rfl] at h
    cases h
    rw [chg_ins]
    exact ins_sub (by omega) hm hw
  rw [if_neg h1] at h
  obtain ⟨r1, r2⟩ := q6 h1
  obtain ⟨n, rfl⟩ : ∃ y : Nat, n = y := ⟨n.toNat, by omega⟩
  by_cases h2 : k = 2
  · subst h2
    rw [if_pos rfl] at h
    unfold delM at h
    split at h
    · cases h
    · cases h
      rw [chg_del]
      exact del_sub (by omega) hm hw
  rw [if_neg h2] at h
  by_cases h3 : k = 3 ∧ (n : Int) > 0
  · rw [if_pos h3] at h
    obtain ⟨rfl, hn⟩ := h3
    obtain ⟨r3, r4⟩ := q7 rfl
    obtain ⟨t, rfl⟩ : ∃ y : Nat, t = y := ⟨t.toNat, by omega⟩
    rw [chg_mov]
    have hpl : ((s.take (a + n)).drop a).length = n := by simp; omega
    have hrl : (s.take a ++ s.drop (a + n)).length = s.length - n := by simp; omega
    unfold movM at h
    split at h
    · rename_i hin
      cases h
      simp only at hw hin ⊢
      refine ⟨hw, ?_⟩
      obtain ⟨id, f, u, w⟩ := m
      obtain ⟨g1, g2, g3⟩ := hm
      simp only at g1 g2 g3 hin ⊢
      obtain ⟨f, rfl⟩ : ∃ y : Nat, f = y := ⟨f.toNat, by omega⟩
      obtain ⟨u, rfl⟩ : ∃ y : Nat, u = y := ⟨u.toNat, by omega⟩
      rw [show (f : Int) + ((t : Int) - (a : Int)) = ((f + t - a : Nat) : Int) by omega, show (u : Int) + ((t : Int) - (a : Int)) = ((u + t - a : Nat) : Int) by omega]
      apply List.ext_getElem?
      intro i
      rw [sub_get, sub_get, ins_get _ _ _ _ (by omega), hpl]
      by_cases hi : f + i < u
      · rw [if_pos (by omega), if_pos hi, if_neg (by omega), if_pos (by omega), List.getElem?_drop, List.getElem?_take, if_pos (by omega)]
        congr 1; omega
      · rw [if_neg (by omega), if_neg hi]
    · unfold delM at h
      split at h
      · rename_i hd; split at hd <;> cases h
      · rename_i y hd
        split at hd
        · cases hd
        · rename_i hlt
          simp only at hlt
          cases hd
          cases h
          have shb : ∀ p : Int, 0 ≤ p → p ≤ s.length → 0 ≤ shutP p a n ∧ shutP p a n ≤ s.length - n := by
            intro p h1 h2
            unfold shutP; (repeat' split) <;> omega
          have i1 := ins_sub (s := s.take a ++ s.drop (a + n)) (x := (s.take (a + n)).drop a) (a := t) (m := delW a n m) (by omega) ⟨(shb m.f hm.1 (by omega)).1, by simp only [delW]; omega, by
            rw [hrl]; have := (shb m.t (by omega) hm.2.2).2; simp only [delW]; omega⟩ (by rw [hpl]; exact hw)
          rw [hpl] at i1
          have i2 := del_sub (s := s) (a := a) (n := n) (m := m) (by omega) hm i1.1
          exact ⟨i2.1, by rw [i1.2, i2.2]⟩
  · rw [if_neg h3] at h
    cases h
    refine ⟨hw, ?_⟩
    by_cases hk3 : k = 3
    · subst hk3
      have hn0 : n = 0 := by omega
      subst hn0
      obtain ⟨r3, r4⟩ := q7 rfl
      obtain ⟨t, rfl⟩ : ∃ y : Nat, t = y := ⟨t.toNat, by omega⟩
      rw [chg_mov]
      have e1 : (s.take a ++ s.drop (a + 0)) = s := by simp
      have e2 : (s.take (a + 0)).drop a = [] := by simp
      rw [e1, e2]; simp
    · have : chg s ⟨k, a, n, t, x⟩ = s := by unfold chg; simp only; rw [if_neg h1, if_neg h2, if_neg hk3]
      rw [this]
end Go.Proofs
