/- Undo, plainly: places, whole marks and texts without a piece that stays whole. -/
import Derived.Test.YtdhkkdhooobdhaaU5
import Derived.Test.YtdhkkdhooobdhaaD12
set_option linter.unusedVariables false
set_option linter.unusedSimpArgs false
namespace Go.Proofs
open Go Go.Ideal
set_option maxRecDepth 8000
set_option maxHeartbeats 4000000

/-! ### Whole marks under an edit -/
/-- An edit with which a mark stays whole, and the distance that it moves. -/
inductive CW (e : Edit) (f t : Int) : Int → Prop
  | insL : e.k = 1 → t ≤ e.a → CW e f t 0
  | insR : e.k = 1 → e.a ≤ f → CW e f t e.s.length
  | del0 : e.k = 2 → e.n = 0 → CW e f t 0
  | delL : e.k = 2 → 0 < e.n → t ≤ e.a → CW e f t 0
  | delR : e.k = 2 → 0 < e.n → e.a + e.n ≤ f → CW e f t (-e.n)
  | mov0 : e.k = 3 → e.n = 0 → CW e f t 0
  | movI : e.k = 3 → 0 < e.n → e.a ≤ f → t ≤ e.a + e.n → CW e f t (e.t - e.a)
  | movLL : e.k = 3 → 0 < e.n → t ≤ e.a → t ≤ e.t → CW e f t 0
  | movLR : e.k = 3 → 0 < e.n → t ≤ e.a → e.t ≤ f → CW e f t e.n
  | movRL : e.k = 3 → 0 < e.n → e.a + e.n ≤ f → t - e.n ≤ e.t → CW e f t (-e.n)
  | movRR : e.k = 3 → 0 < e.n → e.a + e.n ≤ f → e.t ≤ f - e.n → CW e f t 0
  | sty : e.k = 4 → CW e f t 0
/-- What possible means for the numbers. -/
structure Pss (e : Edit) (n : Int) : Prop where
  k : e.k = 1 ∨ e.k = 2 ∨ e.k = 3 ∨ e.k = 4
  a : 0 ≤ e.a ∧ e.a ≤ n
  i : e.k = 1 → 1 ≤ e.s.length ∧ e.s.length ≤ 40 ∧ plainB e.s = true
  p : e.k ≠ 1 → 0 ≤ e.n ∧ e.n ≤ n - e.a
  t : e.k = 3 → 0 ≤ e.t ∧ e.t ≤ n - e.n
theorem pss_iff (e : Edit) (n : Int) : possB e n = true ↔ Pss e n := by
  constructor
  · intro h
    unfold possB at h
    by_cases h1 : e.k = 1
    · rw [if_pos h1] at h
      simp only [Bool.and_eq_true, decide_eq_true_eq] at h
      exact ⟨.inl h1, by omega, fun _ => ⟨by omega, by omega, h.2⟩, fun h => absurd h1 h, fun h => by omega⟩
    rw [if_neg h1] at h
    by_cases h2 : e.k = 2 ∨ e.k = 4
    · rw [if_pos h2] at h
      simp only [pieceB, Bool.and_eq_true, decide_eq_true_eq] at h
      exact ⟨by omega, by omega, fun h => absurd h h1, fun _ => by omega, fun h => by omega⟩
    rw [if_neg h2] at h
    by_cases h3 : e.k = 3
    · rw [if_pos h3] at h
      simp only [pieceB, Bool.and_eq_true, decide_eq_true_eq] at h
      exact ⟨by omega, by omega, fun h => absurd h h1, fun _ => by omega, fun _ => by omega⟩
    · rw [if_neg h3] at h; cases h
  · rintro ⟨k, a, i, n', t⟩
    unfold possB
    by_cases h1 : e.k = 1
    · rw [if_pos h1]
      obtain ⟨i1, i2, i3⟩ := i h1
      simp only [Bool.and_eq_true, decide_eq_true_eq]
      exact ⟨⟨⟨⟨by omega, by omega⟩, by omega⟩, by omega⟩, i3⟩
    rw [if_neg h1]
    have n' := n' h1
    by_cases h2 : e.k = 2 ∨ e.k = 4
    · rw [if_pos h2]
      simp only [pieceB, Bool.and_eq_true, decide_eq_true_eq]
      omega
    rw [if_neg h2, if_pos (by omega)]
    have t := t (by omega)
    simp only [pieceB, Bool.and_eq_true, decide_eq_true_eq]
    omega
theorem del_cw {a n f t : Int} (hn : 0 ≤ n) (hm : f < t) : shutP t a n - shutP f a n = t - f ↔ (n = 0 ∧ shutP f a n = f ∧ shutP t a n = t) ∨ (0 < n ∧ t ≤ a ∧ shutP f a n = f ∧ shutP t a n = t) ∨ (0 < n ∧ a + n ≤ f ∧ shutP f a n = f - n ∧ shutP t a n = t - n) := by
  unfold shutP
  (repeat' split) <;> omega
theorem ins_w {a n : Int} {m : Mark} (h : (insM a n m).w = true) : m.w = true ∧ (m.t ≤ a ∧ insM a n m = m ∨ a ≤ m.f ∧ insM a n m = ⟨m.id, m.f + n, m.t + n, m.w⟩) := by
  unfold insM at h ⊢
  by_cases c1 : m.t ≤ a
  · rw [if_pos c1] at h ⊢; exact ⟨h, .inl ⟨c1, rfl⟩⟩
  rw [if_neg c1] at h ⊢
  by_cases c2 : m.f ≥ a
  · rw [if_pos c2] at h ⊢; exact ⟨h, .inr ⟨c2, rfl⟩⟩
  · rw [if_neg c2] at h; cases h
theorem cw_of {e : Edit} {m m' : Mark} {n : Int} (hp : Pss e n) (hm : 0 ≤ m.f ∧ m.f < m.t ∧ m.t ≤ n) (h : carM e m = some m') (hw : m'.w = true) :
    m.w = true ∧ m'.id = m.id ∧ ∃ δ, CW e m.f m.t δ ∧ m'.f = m.f + δ ∧ m'.t = m.t + δ := by
  obtain ⟨id, f, t, w⟩ := m
  simp only at hm
  unfold carM at h
  by_cases h1 : e.k = 1
  · rw [if_pos h1] at h
    cases h
    unfold insM at hw ⊢
    simp only at hw ⊢
    by_cases c1 : t ≤ e.a
    · rw [if_pos c1] at hw ⊢
      exact ⟨hw, rfl, 0, .insL h1 c1, by simp, by simp⟩
    rw [if_neg c1] at hw ⊢
    by_cases c2 : f ≥ e.a
    · rw [if_pos c2] at hw ⊢
      exact ⟨hw, rfl, _, .insR h1 c2, rfl, rfl⟩
    · rw [if_neg c2] at hw; cases hw
  rw [if_neg h1] at h
  obtain ⟨n1, n2⟩ := hp.p h1
  by_cases h2 : e.k = 2
  · rw [if_pos h2] at h
    unfold delM at h
    split at h
    · cases h
    · cases h
      simp only [delW, Bool.and_eq_true, decide_eq_true_eq] at hw ⊢
      refine ⟨hw.1, trivial, ?_⟩
      rcases (del_cw n1 hm.2.1).1 hw.2 with ⟨c1, c2, c3⟩ | ⟨c1, c2, c3, c4⟩ | ⟨c1, c2, c3, c4⟩
      · exact ⟨0, .del0 h2 c1, by omega, by omega⟩
      · exact ⟨0, .delL h2 c1 c2, by omega, by omega⟩
      · exact ⟨_, .delR h2 c1 c2, by omega, by omega⟩
  rw [if_neg h2] at h
  by_cases h3 : e.k = 3 ∧ e.n > 0
  · rw [if_pos h3] at h
    obtain ⟨h3, hn⟩ := h3
    unfold movM at h
    split at h
    · rename_i hin
      cases h
      exact ⟨hw, rfl, _, .movI h3 hn hin.1 (by have := hin.2; simp only at this; omega), rfl, rfl⟩
    unfold delM at h
    split at h
    · cases h
    · rename_i x hd
      split at hd
      · cases hd
      cases hd
      cases h
      obtain ⟨k1, k2⟩ := ins_w hw
      simp only [delW, Bool.and_eq_true, decide_eq_true_eq] at k1 k2
      simp only [delW]
      rcases (del_cw n1 hm.2.1).1 k1.2 with ⟨c2, c3, c4⟩ | ⟨c2, c3, c4, c5⟩ | ⟨c2, c3, c4, c5⟩
      · omega
      · rcases k2 with ⟨k3, k4⟩ | ⟨k3, k4⟩ <;> rw [k4] <;> refine ⟨k1.1, rfl, ?_⟩
        · exact ⟨0, .movLL h3 hn c3 (by omega), by simp only; omega, by simp only; omega⟩
        · exact ⟨_, .movLR h3 hn c3 (by omega), by simp only; omega, by simp only; omega⟩
      · rcases k2 with ⟨k3, k4⟩ | ⟨k3, k4⟩ <;> rw [k4] <;> refine ⟨k1.1, rfl, ?_⟩
        · exact ⟨_, .movRL h3 hn c3 (by omega), by simp only; omega, by simp only; omega⟩
        · exact ⟨0, .movRR h3 hn c3 (by omega), by simp only; omega, by simp only; omega⟩
  rw [if_neg h3] at h
  cases h
  have := hp.k
  by_cases h4 : e.k = 3
  · exact ⟨hw, rfl, 0, .mov0 h4 (by omega), by simp, by simp⟩
  · exact ⟨hw, rfl, 0, .sty (by omega), by simp, by simp⟩
theorem of_cw {e : Edit} {id f t δ n : Int} (hp : Pss e n) (hm : 0 ≤ f ∧ f < t ∧ t ≤ n) (h : CW e f t δ) : carM e ⟨id, f, t, true⟩ = some ⟨id, f + δ, t + δ, true⟩ := by
  unfold carM
  have sh0 : ∀ p : Int, e.n = 0 → shutP p e.a e.n = p := by
    intro p h; unfold shutP; (repeat' split) <;> omega
  have sh1 : ∀ p : Int, p ≤ e.a → shutP p e.a e.n = p := by
    intro p h; unfold shutP; rw [if_pos h]
  have sh2 : ∀ p : Int, e.a + e.n ≤ p → 0 < e.n → shutP p e.a e.n = p - e.n := by
    intro p h h2; unfold shutP; (repeat' split) <;> omega
  cases h with
  | insL h1 h2 => rw [if_pos h1, insM]; simp [h2]
  | insR h1 h2 => rw [if_pos h1, insM]; simp only; rw [if_neg (by have := (hp.i h1).1; omega), if_pos h2]
  | del0 h1 h2 => rw [if_neg (by omega), if_pos h1, delM, delW]; simp only [sh0 _ h2]; rw [if_neg (by omega)]; simp
  | delL h1 h2 h3 => rw [if_neg (by omega), if_pos h1, delM, delW]; simp only [sh1 t h3, sh1 f (by omega)]; rw [if_neg (by omega)]; simp
  | delR h1 h2 h3 => rw [if_neg (by omega), if_pos h1, delM, delW]; simp only [sh2 t (by omega) h2, sh2 f h3 h2]; rw [if_neg (by omega)]; simp; omega
  | mov0 h1 h2 => rw [if_neg (by omega), if_neg (by omega), if_neg (by omega)]; simp
  | movI h1 h2 h3 h4 => rw [if_neg (by omega), if_neg (by omega), if_pos (by omega), movM]; simp only; rw [if_pos (by omega)]
  | movLL h1 h2 h3 h4 => rw [if_neg (by omega), if_neg (by omega), if_pos (by omega), movM]; simp only; rw [if_neg (by omega), delM, delW]; simp only [sh1 t h3, sh1 f (by omega)]; rw [if_neg (by omega)]; simp [insM, h4]
  | movLR h1 h2 h3 h4 => rw [if_neg (by omega), if_neg (by omega), if_pos (by omega), movM]; simp only; rw [if_neg (by omega), delM, delW]; simp only [sh1 t h3, sh1 f (by omega)]; rw [if_neg (by omega)]; simp only [insM, Bool.true_and]; rw [if_neg (by omega), if_pos h4]; simp
  | movRL h1 h2 h3 h4 => rw [if_neg (by omega), if_neg (by omega), if_pos (by omega), movM]; simp only; rw [if_neg (by omega), delM, delW]; simp only [sh2 t (by omega) h2, sh2 f h3 h2]; rw [if_neg (by omega)]; simp only [insM]; rw [if_pos h4]; simp; omega
  | movRR h1 h2 h3 h4 => rw [if_neg (by omega), if_neg (by omega), if_pos (by omega), movM]; simp only; rw [if_neg (by omega), delM, delW]; simp only [sh2 t (by omega) h2, sh2 f h3 h2]; rw [if_neg (by omega)]; simp only [insM]; rw [if_neg (by omega), if_pos h4]; simp; omega
  | sty h1 => rw [if_neg (by omega), if_neg (by omega), if_neg (by omega)]; simp
/-- Where a place is without a piece from f to t. -/
def wo (f t p : Int) : Int := if p ≤ f then p else if p < t then f else p - (t - f)
/-- An edit without a piece that stays whole. -/
inductive MV (e : Edit) (f t : Int) : Edit → Prop
  | ins : e.k = 1 → (t ≤ e.a ∨ e.a ≤ f) → MV e f t ⟨1, wo f t e.a, e.n, e.t, e.s⟩
  | del0 : e.k = 2 → e.n = 0 → MV e f t ⟨2, wo f t e.a, 0, e.t, e.s⟩
  | del : e.k = 2 → 0 < e.n → (t ≤ e.a ∨ e.a + e.n ≤ f) → MV e f t ⟨2, wo f t e.a, e.n, e.t, e.s⟩
  | mov0 : e.k = 3 → e.n = 0 → MV e f t ⟨3, wo f t e.a, 0, wo f t e.t, e.s⟩
  | movI : e.k = 3 → 0 < e.n → e.a ≤ f → t ≤ e.a + e.n → MV e f t ⟨3, e.a, e.n - (t - f), e.t, e.s⟩
  | movL : e.k = 3 → 0 < e.n → t ≤ e.a → (t ≤ e.t ∨ e.t ≤ f) → MV e f t ⟨3, e.a - (t - f), e.n, wo f t e.t, e.s⟩
  | movR : e.k = 3 → 0 < e.n → e.a + e.n ≤ f → (t - e.n ≤ e.t ∨ e.t ≤ f - e.n) → MV e f t ⟨3, e.a, e.n, wo (f - e.n) (t - e.n) e.t, e.s⟩
  | sty : e.k = 4 → MV e f t ⟨4, wo f t e.a, wo f t (e.a + e.n) - wo f t e.a, e.t, e.s⟩
theorem mv_of {e : Edit} {id f t δ n : Int} (hp : Pss e n) (hm : 0 ≤ f ∧ f < t ∧ t ≤ n) (h : CW e f t δ) : MV e f t (movU e ⟨id, f, t, true⟩) := by
  have hw : ∀ i g u p : Int, ∀ b : Bool, woF ⟨i, g, u, b⟩ p = wo g u p := fun _ _ _ _ _ => rfl
  have hpd : e.k ≠ 1 → Pss ⟨2, e.a, e.n, 0, []⟩ n := fun h1 => ⟨.inr (.inl rfl), hp.a, fun h => by simp at h, fun _ => hp.p h1, fun h => by simp at h⟩
  have ht : ∀ η, CW ⟨2, e.a, e.n, 0, []⟩ f t η → e.k ≠ 1 → ¬ (e.n > 0 ∧ f ≥ e.a ∧ t ≤ e.a + e.n) → tgtF e ⟨id, f, t, true⟩ = wo (f + η) (t + η) e.t := by
    intro η hη h1 h2
    have := of_cw (id := id) (hpd h1) hm hη
    unfold tgtF
    rw [if_neg (by simpa using h2), this]
    exact hw ..
  unfold movU
  simp only [hw]
  have mk : ∀ {a b : Edit}, MV e f t a → a = b → MV e f t b := fun h e => e ▸ h
  cases h with
  | insL h1 h2 => rw [if_pos h1, h1]; exact .ins h1 (.inl h2)
  | insR h1 h2 => rw [if_pos h1, h1]; exact .ins h1 (.inr h2)
  | del0 h1 h2 => rw [if_neg (by omega), if_neg (by omega), h1, h2]; exact mk (.del0 h1 h2) (by simp)
  | delL h1 h2 h3 => rw [if_neg (by omega), if_neg (by omega), h1]; refine mk (.del h1 h2 (.inl h3)) ?_; congr 1; unfold wo; (repeat' split) <;> omega
  | delR h1 h2 h3 => rw [if_neg (by omega), if_neg (by omega), h1]; refine mk (.del h1 h2 (.inr h3)) ?_; congr 1; unfold wo; (repeat' split) <;> omega
  | mov0 h1 h2 =>
    rw [if_neg (by omega), if_pos h1, h1, ht 0 (.del0 rfl h2) (by omega) (by omega), h2]; exact mk (.mov0 h1 h2) (by simp)
  | movI h1 h2 h3 h4 =>
    have : tgtF e ⟨id, f, t, true⟩ = e.t := by unfold tgtF; rw [if_pos (by exact ⟨h2, h3, h4⟩)]
    rw [if_neg (by omega), if_pos h1, h1, this]
    refine mk (.movI h1 h2 h3 h4) ?_
    congr 1 <;> (unfold wo; (repeat' split) <;> omega)
  | movLL h1 h2 h3 h4 =>
    rw [if_neg (by omega), if_pos h1, h1, ht 0 (.delL rfl h2 h3) (by omega) (by omega)]
    refine mk (.movL h1 h2 h3 (.inl h4)) ?_
    simp only [Int.add_zero]
    congr 1 <;> (unfold wo; (repeat' split) <;> omega)
  | movLR h1 h2 h3 h4 =>
    rw [if_neg (by omega), if_pos h1, h1, ht 0 (.delL rfl h2 h3) (by omega) (by omega)]
    refine mk (.movL h1 h2 h3 (.inr h4)) ?_
    simp only [Int.add_zero]
    congr 1 <;> (unfold wo; (repeat' split) <;> omega)
  | movRL h1 h2 h3 h4 =>
    rw [if_neg (by omega), if_pos h1, h1, ht _ (.delR rfl h2 h3) (by omega) (by omega)]
    refine mk (.movR h1 h2 h3 (.inl h4)) ?_
    congr 1 <;> (unfold wo; (repeat' split) <;> omega)
  | movRR h1 h2 h3 h4 =>
    rw [if_neg (by omega), if_pos h1, h1, ht _ (.delR rfl h2 h3) (by omega) (by omega)]
    refine mk (.movR h1 h2 h3 (.inr h4)) ?_
    congr 1 <;> (unfold wo; (repeat' split) <;> omega)
  | sty h1 => rw [if_neg (by omega), if_neg (by omega), h1]; exact .sty h1
/-- Where a whole mark is without another one. -/
def wx (f t x : Int) : Int := if x < f then 0 else f - t
def Dsj (f t x y : Int) : Prop := y ≤ f ∨ t ≤ x
theorem pss_mv {e e' : Edit} {f t n : Int} (hp : Pss e n) (hm : 0 ≤ f ∧ f < t ∧ t ≤ n) (h : MV e f t e') : Pss e' (n - (t - f)) := by
  obtain ⟨k, a, i, n', t'⟩ := hp
  cases h <;> refine ⟨by simp, ?_, ?_, ?_, ?_⟩ <;> simp only [wo] <;> intros <;> (try have i := i (by assumption)) <;> (try have n' := n' (by omega)) <;> (try have t' := t' (by omega)) <;> (try (first | exact i | contradiction)) <;> ((repeat' split) <;> omega)
theorem CW.to {e : Edit} {f t δ δ' : Int} (h : CW e f t δ) (he : δ = δ') : CW e f t δ' := he ▸ h
/-- Two whole marks: the second one without the first one. -/
theorem cw_mv {e e' : Edit} {f t δ x y η n : Int} (hp : Pss e n) (hm : 0 ≤ f ∧ f < t ∧ t ≤ n) (hx : 0 ≤ x ∧ x < y ∧ y ≤ n) (hd : Dsj f t x y) (h1 : CW e f t δ) (h2 : CW e x y η) (h3 : MV e f t e') :
    Dsj (f + δ) (t + δ) (x + η) (y + η) ∧ CW e' (x + wx f t x) (y + wx f t x) (η + wx (f + δ) (t + δ) (x + η) - wx f t x) := by
  have hxy : Dsj (f + δ) (t + δ) (x + η) (y + η) := by
    unfold Dsj at hd ⊢
    obtain ⟨k, a, i, n', t'⟩ := hp
    cases h1 <;> cases h2 <;> first | omega | (have := n' (by omega); have := t'; omega)
  refine ⟨hxy, ?_⟩
  obtain ⟨k, a, i, n', t'⟩ := hp
  unfold Dsj at hd hxy
  by_cases hk : e.k = 1
  · cases h3 <;> cases h1 <;> (try (exfalso; omega)) <;> cases h2 <;> (try (exfalso; omega)) <;>
    first | ((refine CW.to (.insL rfl ?_) ?_) <;> (try simp only [wo, wx]) <;> (repeat' split) <;> omega) | ((refine CW.to (.insR rfl ?_) ?_) <;> (try simp only [wo, wx]) <;> (repeat' split) <;> omega)
  have n' := n' hk
  by_cases hk : e.k = 2
  · cases h3 <;> (try (exfalso; omega)) <;> cases h1 <;> (try (exfalso; omega)) <;> cases h2 <;> (try (exfalso; omega)) <;>
    first | ((refine CW.to (.del0 rfl ?_) ?_) <;> (try simp only [wo, wx]) <;> (repeat' split) <;> omega) | ((refine CW.to (.delL rfl ?_ ?_) ?_) <;> (try simp only [wo, wx]) <;> (repeat' split) <;> omega) | ((refine CW.to (.delR rfl ?_ ?_) ?_) <;> (try simp only [wo, wx]) <;> (repeat' split) <;> omega)
  by_cases hk : e.k = 3
  · have t' := t' hk
    by_cases hl : e.n = t - f
    all_goals
      cases h3 <;> (try (exfalso; omega)) <;> cases h1 <;> (try (exfalso; omega)) <;> cases h2 <;> (try (exfalso; omega)) <;>
      first | ((refine CW.to (.mov0 rfl ?_) ?_) <;> (try simp only [wo, wx]) <;> (repeat' split) <;> omega) | ((refine CW.to (.movI rfl ?_ ?_ ?_) ?_) <;> (try simp only [wo, wx]) <;> (repeat' split) <;> omega) | ((refine CW.to (.movLL rfl ?_ ?_ ?_) ?_) <;> (try simp only [wo, wx]) <;> (repeat' split) <;> omega) | ((refine CW.to (.movLR rfl ?_ ?_ ?_) ?_) <;> (try simp only [wo, wx]) <;> (repeat' split) <;> omega) | ((refine CW.to (.movRL rfl ?_ ?_ ?_) ?_) <;> (try simp only [wo, wx]) <;> (repeat' split) <;> omega) | ((refine CW.to (.movRR rfl ?_ ?_ ?_) ?_) <;> (try simp only [wo, wx]) <;> (repeat' split) <;> omega)
  cases h3 <;> (try (exfalso; omega)) <;> cases h1 <;> (try (exfalso; omega)) <;> cases h2 <;> (try (exfalso; omega)) <;>
    ((refine CW.to (.sty rfl) ?_) <;> (try simp only [wo, wx]) <;> (repeat' split) <;> omega)
theorem mv1 {e e' : Edit} {f t : Int} (hk : e.k = 1) (h : MV e f t e') : (t ≤ e.a ∨ e.a ≤ f) ∧ e' = ⟨1, wo f t e.a, e.n, e.t, e.s⟩ := by
  cases h <;> first | exact ⟨by assumption, rfl⟩ | (exfalso; omega)
theorem mv2 {e e' : Edit} {f t : Int} (hk : e.k = 2) (h : MV e f t e') : (e.n = 0 ∨ 0 < e.n ∧ (t ≤ e.a ∨ e.a + e.n ≤ f)) ∧ e' = ⟨2, wo f t e.a, e.n, e.t, e.s⟩ := by
  cases h with
  | del0 h1 h2 => exact ⟨.inl h2, by rw [h2]⟩
  | del h1 h2 h3 => exact ⟨.inr ⟨h2, h3⟩, rfl⟩
  | _ => exfalso; omega
theorem mv4 {e e' : Edit} {f t : Int} (hk : e.k = 4) (h : MV e f t e') : e' = ⟨4, wo f t e.a, wo f t (e.a + e.n) - wo f t e.a, e.t, e.s⟩ := by
  cases h <;> first | rfl | (exfalso; omega)
theorem mv3 {e e' : Edit} {f t : Int} (hk : e.k = 3) (h : MV e f t e') : ∃ A N T, e' = ⟨3, A, N, T, e.s⟩ ∧
    (e.n = 0 ∧ A = wo f t e.a ∧ N = 0 ∧ T = wo f t e.t ∨ 0 < e.n ∧ e.a ≤ f ∧ t ≤ e.a + e.n ∧ A = e.a ∧ N = e.n - (t - f) ∧ T = e.t ∨
      0 < e.n ∧ t ≤ e.a ∧ (t ≤ e.t ∨ e.t ≤ f) ∧ A = e.a - (t - f) ∧ N = e.n ∧ T = wo f t e.t ∨ 0 < e.n ∧ e.a + e.n ≤ f ∧ (t - e.n ≤ e.t ∨ e.t ≤ f - e.n) ∧ A = e.a ∧ N = e.n ∧ T = wo (f - e.n) (t - e.n) e.t) := by
  cases h with
  | mov0 h1 h2 => exact ⟨_, _, _, rfl, .inl ⟨h2, rfl, rfl, rfl⟩⟩
  | movI h1 h2 h3 h4 => exact ⟨_, _, _, rfl, .inr (.inl ⟨h2, h3, h4, rfl, rfl, rfl⟩)⟩
  | movL h1 h2 h3 h4 => exact ⟨_, _, _, rfl, .inr (.inr (.inl ⟨h2, h3, h4, rfl, rfl, rfl⟩))⟩
  | movR h1 h2 h3 h4 => exact ⟨_, _, _, rfl, .inr (.inr (.inr ⟨h2, h3, h4, rfl, rfl, rfl⟩))⟩
  | _ => exfalso; omega
/-! ### Texts without a piece -/
def cutN (s : List UInt8) (f t : Nat) : List UInt8 := s.take f ++ s.drop t
theorem cut_get {s : List UInt8} {f t : Nat} (i : Nat) (h : f ≤ t ∧ t ≤ s.length) : (cutN s f t)[i]? = if i < f then s[i]? else s[i + (t - f)]? := by
  have := del_get s f (t - f) i (by omega)
  rw [show f + (t - f) = t by omega] at this
  exact this
theorem cut_len {s : List UInt8} {f t : Nat} (h : f ≤ t ∧ t ≤ s.length) : (cutN s f t).length = s.length - (t - f) := by
  simp [cutN]; omega
theorem ins_len (s x : List UInt8) (a : Nat) (h : a ≤ s.length) : (s.take a ++ x ++ s.drop a).length = s.length + x.length := by simp; omega
theorem cut_ins_l {s x : List UInt8} {a f t : Nat} (ha : a ≤ s.length) (h1 : f < t) (h2 : t ≤ a) :
    (cutN s f t).take (a - (t - f)) ++ x ++ (cutN s f t).drop (a - (t - f)) = cutN (s.take a ++ x ++ s.drop a) f t := by
  apply List.ext_getElem?
  intro i
  have := cut_len (s := s) (f := f) (t := t) ⟨by omega, by omega⟩
  have hl := ins_len s x a ha
  rw [ins_get _ _ _ _ (by omega), cut_get (s := s.take a ++ x ++ s.drop a) _ ⟨by omega, by omega⟩]
  simp only [cut_get (s := s) (f := f) (t := t) _ ⟨by omega, by omega⟩, ins_get s x a _ ha]
  (repeat' split) <;> first | rfl | (exfalso; omega) | (congr 1; omega)
theorem cut_ins_r {s x : List UInt8} {a f t : Nat} (ht : t ≤ s.length) (h1 : f < t) (h2 : a ≤ f) :
    (cutN s f t).take a ++ x ++ (cutN s f t).drop a = cutN (s.take a ++ x ++ s.drop a) (f + x.length) (t + x.length) := by
  apply List.ext_getElem?
  intro i
  have := cut_len (s := s) (f := f) (t := t) ⟨by omega, by omega⟩
  have ha : a ≤ s.length := by omega
  have hl := ins_len s x a ha
  rw [ins_get _ _ _ _ (by omega), cut_get (s := s.take a ++ x ++ s.drop a) _ ⟨by omega, by omega⟩]
  simp only [cut_get (s := s) (f := f) (t := t) _ ⟨by omega, by omega⟩, ins_get s x a _ ha]
  (repeat' split) <;> first | rfl | (exfalso; omega) | (congr 1; omega)
theorem dl_len (s : List UInt8) (a n : Nat) (h : a + n ≤ s.length) : (s.take a ++ s.drop (a + n)).length = s.length - n := by simp; omega
theorem cut_del_l {s : List UInt8} {a n f t : Nat} (ha : a + n ≤ s.length) (h1 : f < t) (h2 : t ≤ a) :
    (cutN s f t).take (a - (t - f)) ++ (cutN s f t).drop (a - (t - f) + n) = cutN (s.take a ++ s.drop (a + n)) f t := by
  apply List.ext_getElem?
  intro i
  have := cut_len (s := s) (f := f) (t := t) ⟨by omega, by omega⟩
  have hl := dl_len s a n ha
  have ha' : a ≤ s.length := by omega
  rw [del_get _ _ _ _ (by omega), cut_get (s := s.take a ++ s.drop (a + n)) _ ⟨by omega, by omega⟩]
  simp only [cut_get (s := s) (f := f) (t := t) _ ⟨by omega, by omega⟩, del_get s a n _ ha']
  (repeat' split) <;> first | rfl | (exfalso; omega) | (congr 1; omega)
theorem cut_del_r {s : List UInt8} {a n f t : Nat} (ht : t ≤ s.length) (h1 : f < t) (h2 : a + n ≤ f) :
    (cutN s f t).take a ++ (cutN s f t).drop (a + n) = cutN (s.take a ++ s.drop (a + n)) (f - n) (t - n) := by
  apply List.ext_getElem?
  intro i
  have := cut_len (s := s) (f := f) (t := t) ⟨by omega, by omega⟩
  have hl := dl_len s a n (by omega)
  have ha' : a ≤ s.length := by omega
  rw [del_get _ _ _ _ (by omega), cut_get (s := s.take a ++ s.drop (a + n)) _ ⟨by omega, by omega⟩]
  simp only [cut_get (s := s) (f := f) (t := t) _ ⟨by omega, by omega⟩, del_get s a n _ ha']
  (repeat' split) <;> first | rfl | (exfalso; omega) | (congr 1; omega)
/-- A move. -/
def movN (s : List UInt8) (a n t : Nat) : List UInt8 := (s.take a ++ s.drop (a + n)).take t ++ (s.take (a + n)).drop a ++ (s.take a ++ s.drop (a + n)).drop t
theorem mov_get {s : List UInt8} {a n t : Nat} (i : Nat) (ha : a + n ≤ s.length) (ht : t ≤ s.length - n) :
    (movN s a n t)[i]? = if i < t then (if i < a then s[i]? else s[i + n]?) else if i < t + n then s[a + (i - t)]? else (if i - n < a then s[i - n]? else s[i]?) := by
  have hl := dl_len s a n ha
  have hp : ((s.take (a + n)).drop a).length = n := by simp; omega
  unfold movN
  rw [ins_get _ _ _ _ (by omega), hp, del_get _ _ _ _ (by omega), del_get _ _ _ _ (by omega), List.getElem?_drop, List.getElem?_take]
  (repeat' split) <;> first | rfl | (exfalso; omega) | (congr 1; omega)
theorem mov_len {s : List UInt8} {a n t : Nat} (ha : a + n ≤ s.length) (ht : t ≤ s.length - n) : (movN s a n t).length = s.length := by
  have hl := dl_len s a n ha
  have hp : ((s.take (a + n)).drop a).length = n := by simp; omega
  unfold movN
  rw [ins_len _ _ _ (by omega), hp, hl]; omega
theorem cut_mov {s : List UInt8} {a n u a' n' u' f t f' t' : Nat} (ha : a + n ≤ s.length) (hu : u ≤ s.length - n) (hn : 0 < n) (h1 : f < t) (ht : t ≤ s.length)
    (h : (a ≤ f ∧ t ≤ a + n ∧ a' = a ∧ n' = n - (t - f) ∧ u' = u ∧ f' = f + u - a ∧ t' = t + u - a) ∨
      (t ≤ a ∧ a' = a - (t - f) ∧ n' = n ∧ (t ≤ u ∧ u' = u - (t - f) ∧ f' = f ∧ t' = t ∨ u ≤ f ∧ u' = u ∧ f' = f + n ∧ t' = t + n)) ∨
      (a + n ≤ f ∧ a' = a ∧ n' = n ∧ (t - n ≤ u ∧ u' = u - (t - f) ∧ f' = f - n ∧ t' = t - n ∨ u ≤ f - n ∧ u' = u ∧ f' = f ∧ t' = t))) :
    movN (cutN s f t) a' n' u' = cutN (movN s a n u) f' t' := by
  have hc := cut_len (s := s) (f := f) (t := t) ⟨by omega, by omega⟩
  have hm := mov_len ha hu
  apply List.ext_getElem?
  intro i
  rw [mov_get _ (by omega) (by omega), cut_get (s := movN s a n u) _ ⟨by omega, by omega⟩]
  simp only [mov_get _ ha hu, cut_get _ (show f ≤ t ∧ t ≤ s.length from ⟨by omega, ht⟩)]
  rcases h with ⟨c1, c2, rfl, rfl, rfl, rfl, rfl⟩ | ⟨c1, rfl, rfl, ⟨c2, rfl, rfl, rfl⟩ | ⟨c2, rfl, rfl, rfl⟩⟩ | ⟨c1, rfl, rfl, ⟨c2, rfl, rfl, rfl⟩ | ⟨c2, rfl, rfl, rfl⟩⟩
  all_goals
    (repeat' split) <;> first | rfl | (exfalso; omega) | (congr 1; omega)
end Go.Proofs
