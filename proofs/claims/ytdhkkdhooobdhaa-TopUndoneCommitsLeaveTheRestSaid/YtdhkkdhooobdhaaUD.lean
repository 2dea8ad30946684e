/- Undo, plainly: good pasts go on being good; marks that are torn stay torn; texts of commits. -/
import Derived.Test.YtdhkkdhooobdhaaUC
import Derived.Test.YtdhkkdhooobdhaaQ1
set_option linter.unusedVariables false
set_option linter.unusedSimpArgs false
namespace Go.Proofs
open Go Go.Ideal
set_option maxRecDepth 8000
set_option maxHeartbeats 4000000

theorem good_new (n : Nat) (hn : n ≤ 8) : Good ⟨List.replicate n noDoc, []⟩ :=
  ⟨by simpa using hn, by simp, fun a ha => by simp at ha; simp [repF, List.getD, ha], by simp [Comm], List.Pairwise.nil, by simp, by simp, by simp⟩
theorem good_do {p : Past} {s : Stp} (h : Good p) (h0 : (doU p s).2 = 0) (hs : p.st.length < 90) (ht : s.e.s.length ≤ 1000) : Good (doU p s).1 ∧ ∃ a : Nat, s.app = a ∧ a < p.docs.length ∧ (actF (p.docs.getD a default) s).2 = 0 ∧ (doU p s).1 = ⟨p.docs.set a (actF (p.docs.getD a default) s).1, p.st ++ [s]⟩ ∧ s.und = false ∧ (s.id ≥ 0 → hasS p.st s.id = false ∧ s.e.k = 1) ∧ -1 ≤ s.id := by
  unfold doU at h0
  split at h0
  · cases h0
  rename_i c1
  split at h0
  · cases h0
  rename_i c2
  split at h0
  · cases h0
  rename_i c3
  split at h0
  · rename_i c4; exact absurd h0 c4
  rename_i c4
  have e : doU p s = (⟨p.docs.set s.app.toNat (actF (p.docs.getD s.app.toNat default) s).1, p.st ++ [s]⟩, 0) := by
    unfold doU; rw [if_neg c1, if_neg c2, if_neg c3, if_neg c4]
  simp only [not_or, Bool.not_eq_true] at c1
  obtain ⟨d1, d2, d3, d4⟩ := c1
  obtain ⟨a, ha⟩ : ∃ a : Nat, s.app = a := ⟨s.app.toNat, by omega⟩
  rw [ha] at e c4
  simp only [Int.toNat_natCast] at e c4
  have hal : a < p.docs.length := by omega
  have c3' : s.id ≥ 0 → hasS p.st s.id = false ∧ s.e.k = 1 := by
    intro g
    constructor
    · cases hh : hasS p.st s.id with
      | false => rfl
      | true => exact absurd ⟨g, .inr hh⟩ c3
    · by_cases hk : s.e.k = 1
      · exact hk
      · exact absurd ⟨g, .inl hk⟩ c3
  refine ⟨?_, a, ha, hal, by omega, by rw [e], d3, c3', by omega⟩
  rw [e]
  refine ⟨by simpa using h.dl, by simp; omega, fun b hb => ?_, ?_, ?_, ?_, ?_, ?_⟩
  · simp only [List.length_set] at hb
    show repF b (p.st ++ [s]) noDoc = _
    rw [rep_join (h.rep b hb)]
    by_cases hab : b = a
    · subst hab
      simp only [repF]
      rw [if_neg (by rw [ha, d3]; simp), if_neg c4]
      simp [List.getD, hal]
    · rw [rep_gone (.inl (by omega))]
      simp only [repF]
      congr 1
      simp only [List.getD]
      rw [List.getElem?_set_ne (by omega)]
  · intro x hx
    rcases List.mem_append.1 hx with hx | hx
    · exact h.com x hx
    · simp only [List.mem_singleton] at hx; subst hx; exact fun g => (c3' g).2
  · refine List.pairwise_append.2 ⟨h.dst, by simp, fun x hx y hy => ?_⟩
    simp only [List.mem_singleton] at hy; subst hy
    intro hx0 he
    have := (c3' (by omega)).1
    have h2 : hasS p.st y.id = true := List.any_eq_true.2 ⟨x, hx, by simpa using he.symm⟩
    rw [this] at h2; cases h2
  · intro x hx
    simp only [List.length_set]
    rcases List.mem_append.1 hx with hx | hx
    · exact h.app x hx
    · simp only [List.mem_singleton] at hx; subst hx; omega
  · intro x hx
    rcases List.mem_append.1 hx with hx | hx
    · exact h.txt x hx
    · simp only [List.mem_singleton] at hx; subst hx; exact ht
  · intro x hx
    rcases List.mem_append.1 hx with hx | hx
    · exact h.idr x hx
    · simp only [List.mem_singleton] at hx; subst hx; omega
/-! ### What undoing leaves -/
def core (s : Stp) : Int × Int × Int × List UInt8 := (s.app, s.id, s.e.k, s.e.s)
theorem outS_core (s : Stp) (m : Mark) : core (outS s m) = core s := by simp [core, outS, movU_k, movU_s]
theorem remU_core (app : Int) : ∀ (l : List Stp) (m : Mark), (remU app m l).map core = l.map core
  | [], _ => rfl
  | s :: l, m => by
    simp only [remU]
    split
    · simp [remU_core app l]
    · simp [remU_core app l, outS_core]
theorem undS_core {p : Past} {i : Nat} (hi : i < p.st.length) : (undS p i).map core = p.st.map core := by
  rw [undS_eq p i hi]
  have hs : p.st = p.st.take i ++ p.st.getD i default :: p.st.drop (i + 1) := by rw [← drop_d hi]; simp
  conv => rhs; rw [hs]
  simp only [List.map_append, List.map_cons, remU_core]
  rfl
theorem mem_core {l l' : List Stp} (h : l.map core = l'.map core) {s : Stp} (hs : s ∈ l) : ∃ t ∈ l', t.app = s.app ∧ t.id = s.id ∧ t.e.k = s.e.k ∧ t.e.s = s.e.s := by
  have : core s ∈ l'.map core := h ▸ List.mem_map.2 ⟨s, hs, rfl⟩
  obtain ⟨t, ht, e⟩ := List.mem_map.1 this
  simp only [core, Prod.mk.injEq] at e
  exact ⟨t, ht, e⟩
theorem dst_core {l l' : List Stp} (h : l.map core = l'.map core) (hd : Dst l') : Dst l := by
  have key : ∀ l : List Stp, Dst l ↔ (l.map core).Pairwise (fun a b => a.2.1 ≥ 0 → b.2.1 ≠ a.2.1) := fun l => by
    rw [List.pairwise_map]; rfl
  rw [key] at hd ⊢
  rw [h]; exact hd
theorem rep_other {a b : Int} (hab : b ≠ a) : ∀ (l : List Stp) (m : Mark) (d : Doc), repF b (remU a m l) d = repF b l d
  | [], _, _ => rfl
  | s :: l, m, d => by
    simp only [remU]
    split
    · simp only [repF]
      split
      · exact rep_other hab l m d
      · split
        · rfl
        · exact rep_other hab l m _
    · rename_i g
      have h1 : s.app = a := Decidable.byContradiction fun e => g (.inl e)
      rw [rep_gone (.inl (by show s.app ≠ b; omega)), rep_gone (.inl (by omega : s.app ≠ b))]
      exact rep_other hab l _ d
theorem undS_len {p : Past} {i : Nat} (hi : i < p.st.length) : (undS p i).length = p.st.length := by
  have := congrArg List.length (undS_core hi); simpa using this
theorem good_und {p : Past} (h : Good p) {i : Nat} (hc : isCom p i = true) (hw : (depU p i).1 = []) : Good (undU p i).1 := by
  obtain ⟨a, D', ha, hal, hu, hr, _⟩ := undU_eq h hc hw
  obtain ⟨_, hi, _⟩ := isCom_inv hc
  simp only [Int.toNat_natCast] at hi
  have hcore := undS_core hi
  have hlen := undS_len hi
  rw [hu]
  refine ⟨by simpa using h.dl, by show (undS p i).length ≤ 90; rw [hlen]; exact h.sl, fun b hb => ?_, fun s hs => ?_, dst_core hcore h.dst, fun s hs => ?_, fun s hs => ?_, fun s hs => ?_⟩
  · simp only [List.length_set] at hb
    show repF b (undS p i) noDoc = _
    by_cases hab : b = a
    · subst hab
      rw [hr]
      simp [List.getD, hal]
    · have hs : p.st = p.st.take i ++ p.st.getD i default :: p.st.drop (i + 1) := by rw [← drop_d hi]; simp
      have hrb := h.rep b hb
      rw [hs] at hrb
      obtain ⟨D0, r0, r1⟩ := rep_split hrb
      rw [undS_eq p i hi, ha, rep_join r0, rep_gone (.inl (by show (a : Int) ≠ b; omega)), rep_other (by omega)]
      rw [rep_gone (.inl (by rw [ha]; omega))] at r1
      rw [r1]
      congr 1
      simp only [List.getD]
      rw [List.getElem?_set_ne (by omega)]
  · obtain ⟨t, ht, e1, e2, e3, e4⟩ := mem_core hcore hs
    intro g; rw [← e3]; exact h.com t ht (by omega)
  · obtain ⟨t, ht, e1, e2, e3, e4⟩ := mem_core hcore hs
    have := h.app t ht
    simp only [List.length_set]; omega
  · obtain ⟨t, ht, e1, e2, e3, e4⟩ := mem_core hcore hs
    rw [← e4]; exact h.txt t ht
  · obtain ⟨t, ht, e1, e2, e3, e4⟩ := mem_core hcore hs
    rw [← e2]; exact h.idr t ht
/-- Undoing works exactly for commits on which nothing depends. -/
theorem und_zero {p : Past} {i : Nat} (h0 : (undU p i).2.2 = 0) : isCom p i = true ∧ (depU p i).1 = [] := by
  unfold undU at h0
  split at h0
  · rename_i h1; exact absurd h0 h1
  · rename_i h1
    split at h0
    · cases h0
    · rename_i h2
      exact ⟨depU_inv.1.1 (by omega), by simpa using h2⟩

/-! ### Torn marks -/
theorem carM_w {e : Edit} {m m' : Mark} (h : carM e m = some m') : m'.id = m.id ∧ (m'.w = true → m.w = true) := by
  have ins : ∀ (a n : Int) (x : Mark), (insM a n x).id = x.id ∧ ((insM a n x).w = true → x.w = true) := by
    intro a n x; unfold insM
    split
    · exact ⟨rfl, id⟩
    · split
      · exact ⟨rfl, id⟩
      · exact ⟨rfl, fun h => by cases h⟩
  have del : ∀ (a n : Int) (x y : Mark), delM a n x = some y → y.id = x.id ∧ (y.w = true → x.w = true) := by
    intro a n x y h
    unfold delM at h
    split at h
    · cases h
    · cases h
      refine ⟨rfl, fun h => ?_⟩
      simp only [delW, Bool.and_eq_true] at h
      exact h.1
  unfold carM at h
  split at h
  · cases h; exact ins _ _ _
  · split at h
    · exact del _ _ _ _ h
    · split at h
      · unfold movM at h
        split at h
        · cases h; exact ⟨rfl, id⟩
        · cases hd : delM e.a e.n m with
          | none => rw [hd] at h; cases h
          | some y =>
            rw [hd] at h; cases h
            obtain ⟨h1, h2⟩ := del _ _ _ _ hd
            obtain ⟨h3, h4⟩ := ins e.t e.n y
            exact ⟨h3.trans h1, fun h => h2 (h4 h)⟩
      · cases h; exact ⟨rfl, id⟩
/-- The text of a mark that stays whole. -/
theorem sub_end (app : Int) : ∀ (l : List Stp) (m : Mark) (D Dn : Doc), OkD D → m ∈ D.m → m.w = true → Comm l → ChW app m l → repF app l D = (Dn, 0) →
    endM app m l ∈ Dn.m ∧ (endM app m l).id = m.id ∧ (endM app m l).w = true ∧ sub Dn.s (endM app m l).f (endM app m l).t = sub D.s m.f m.t
  | [], m, D, Dn, hD, hm, hw, _, _, hr => by cases hr; exact ⟨hm, rfl, hw, rfl⟩
  | s :: l, m, D, Dn, hD, hm, hmw, hc, hw, hr => by
    have hc' : Comm l := fun x hx => hc x (by simp [hx])
    simp only [ChW, endM] at hw ⊢
    by_cases g : goneS app s
    · rw [if_pos g] at hw ⊢
      rw [rep_gone g] at hr
      exact sub_end app l m D Dn hD hm hmw hc' hw hr
    · rw [if_neg g] at hw ⊢
      obtain ⟨m', h1, h2, h3⟩ := hw
      obtain ⟨z, hr⟩ := rep_cons g hr
      have E := act_eff hD (hc s (by simp)) z
      obtain ⟨i1, i2, i3, i4⟩ := sub_end app l m' _ Dn E.ok (E.car _ hm _ h1) h2 hc' h3 hr
      rw [h1]
      simp only [Option.getD_some]
      refine ⟨i1, by rw [i2]; exact (carM_w h1).1, i3, ?_⟩
      rw [i4, E.txt]
      obtain ⟨_, q1, q2, q3⟩ := hD.mks m hm
      exact (whole_text E.poss ⟨q1, q2, q3⟩ h1 h2).2
end Go.Proofs
