/- Devices: lists in the order of places; uniF, clashF, insR (no program). -/
import Derived.Test.YtdhkkdhooobdhaaGreatDoorGD
set_option linter.unusedVariables false
set_option linter.unusedSimpArgs false
namespace Go.Proofs
open Go Go.Ideal
set_option maxRecDepth 8000
set_option linter.unusedSectionVars false
theorem bef_iff (a b c e : Int) : befB a b c e = true ↔ a < c ∨ (a = c ∧ b < e) := by
  unfold befB; simp
theorem bef_not (a b c e : Int) : befB a b c e = false ↔ ¬ (a < c ∨ (a = c ∧ b < e)) := by
  rw [← bef_iff, Bool.not_eq_true]
section
variable {α : Type} [DecidableEq α] (d s : α → Int)
/-- The places of the list increase. -/
def Inc (l : List α) : Prop := l.Pairwise fun x y => befB (d x) (s x) (d y) (s y) = true
variable {d s}
theorem Inc.nil : Inc d s ([] : List α) := List.Pairwise.nil
theorem Inc.cons_iff {x : α} {l : List α} : Inc d s (x :: l) ↔ (∀ y ∈ l, d x < d y ∨ (d x = d y ∧ s x < s y)) ∧ Inc d s l := by
  unfold Inc; rw [List.pairwise_cons]; simp only [bef_iff]
theorem Inc.filter {l : List α} (h : Inc d s l) (p : α → Bool) : Inc d s (l.filter p) := List.Pairwise.filter p h
theorem Inc.nodup {l : List α} (h : Inc d s l) : l.Nodup := by
  refine List.Pairwise.imp ?_ h
  intro x y hxy e; subst e; rw [bef_iff] at hxy; omega
theorem Inc.uniq {l : List α} (h : Inc d s l) {x y : α} (hx : x ∈ l) (hy : y ∈ l) (e1 : d x = d y) (e2 : s x = s y) : x = y := by
  induction l with
  | nil => cases hx
  | cons z l ih =>
    rw [Inc.cons_iff] at h
    rcases List.mem_cons.1 hx with rfl | hx' <;> rcases List.mem_cons.1 hy with rfl | hy'
    · rfl
    · have := h.1 _ hy'; omega
    · have := h.1 _ hx'; omega
    · exact ih h.2 hx' hy'
theorem Inc.ext {l m : List α} (hl : Inc d s l) (hm : Inc d s m) (h : ∀ x, x ∈ l ↔ x ∈ m) : l = m := by
  induction l generalizing m with
  | nil =>
    cases m with
    | nil => rfl
    | cons y m => exact absurd ((h y).2 (by simp)) (by simp)
  | cons x l ih =>
    cases m with
    | nil => exact absurd ((h x).1 (by simp)) (by simp)
    | cons y m =>
      rw [Inc.cons_iff] at hl hm
      have hxy : x = y := by
        rcases List.mem_cons.1 ((h x).1 (by simp)) with e | e
        · exact e
        · rcases List.mem_cons.1 ((h y).2 (by simp)) with f | f
          · exact f.symm
          · have := hm.1 x e; have := hl.1 y f; omega
      subst hxy
      rw [ih hl.2 hm.2 fun z => ?_]
      have hz := h z
      constructor
      · intro hz1
        rcases List.mem_cons.1 (hz.1 (by simp [hz1])) with rfl | e
        · have := hl.1 z hz1; omega
        · exact e
      · intro hz1
        rcases List.mem_cons.1 (hz.2 (by simp [hz1])) with rfl | e
        · have := hm.1 z hz1; omega
        · exact e
theorem uni_iff : ∀ (n : Nat) (a b l : List α), a.length + b.length ≤ n → uniF d s a b = some l → ∀ x, x ∈ l ↔ x ∈ a ∨ x ∈ b
  | n, [], b, l, _, h => by
    simp only [uniF] at h; cases h
    intro x; simp
  | n, x :: a, [], l, _, h => by
    simp only [uniF] at h; cases h
    intro x; simp
  | 0, x :: a, y :: b, l, hn, _ => by simp at hn
  | n + 1, x :: a, y :: b, l, hn, h => by
    simp only [List.length_cons] at hn
    rw [uniF] at h
    have key : ∀ (p q : List α) (z : α), p.length + q.length ≤ n → (∀ w, (w = z ∨ w ∈ p ∨ w ∈ q) ↔ (w ∈ x :: a ∨ w ∈ y :: b)) → (uniF d s p q).map (z :: ·) = some l →
        ∀ w, w ∈ l ↔ w ∈ x :: a ∨ w ∈ y :: b := fun p q z h1 h2 h6 w => by
      cases hu : uniF d s p q with
      | none => rw [hu] at h6; cases h6
      | some m =>
        rw [hu] at h6; cases h6
        rw [List.mem_cons, uni_iff n p q m h1 hu w]
        exact h2 w
    split at h
    · exact key a (y :: b) x (by simp only [List.length_cons]; omega) (fun w => by rw [List.mem_cons (b := x), or_assoc]) h
    · split at h
      · exact key (x :: a) b y (by simp only [List.length_cons]; omega) (fun w => by simp only [List.mem_cons]; constructor <;> (intro h; rcases h with h | (h | h) | h <;> simp [h])) h
      · split at h
        · cases h
        · rename_i hne
          have hxy : x = y := by simpa using hne
          subst hxy
          exact key a b x (by omega) (fun w => by simp only [List.mem_cons]; exact ⟨fun h => h.elim (fun e => .inl (.inl e)) (fun h => h.elim (fun e => .inl (.inr e)) (fun e => .inr (.inr e))), fun h => h.elim (fun h => h.elim .inl (fun e => .inr (.inl e))) (fun h => h.elim .inl (fun e => .inr (.inr e)))⟩) h
theorem uni_inc : ∀ (n : Nat) (a b l : List α), a.length + b.length ≤ n → Inc d s a → Inc d s b → uniF d s a b = some l → Inc d s l
  | n, [], b, l, _, _, hb, h => by
    simp only [uniF] at h; cases h; exact hb
  | n, x :: a, [], l, _, ha, _, h => by
    simp only [uniF] at h; cases h; exact ha
  | 0, x :: a, y :: b, l, hn, _, _, _ => by simp at hn
  | n + 1, x :: a, y :: b, l, hn, ha, hb, h => by
    simp only [List.length_cons] at hn
    rw [uniF] at h
    have ha' := Inc.cons_iff.1 ha
    have hb' := Inc.cons_iff.1 hb
    have key : ∀ (p q : List α) (z : α), p.length + q.length ≤ n → Inc d s p → Inc d s q → (∀ w, w ∈ p ∨ w ∈ q → d z < d w ∨ (d z = d w ∧ s z < s w)) → (uniF d s p q).map (z :: ·) = some l → Inc d s l := fun p q z h1 hp hq h2 h6 => by
      cases hu : uniF d s p q with
      | none => rw [hu] at h6; cases h6
      | some m =>
        rw [hu] at h6; cases h6
        rw [Inc.cons_iff]
        exact ⟨fun w hw => h2 w ((uni_iff n p q m h1 hu w).1 hw), uni_inc n p q m h1 hp hq hu⟩
    split at h
    · rename_i hc; rw [bef_iff] at hc
      refine key a (y :: b) x (by simp only [List.length_cons]; omega) ha'.2 hb (fun w hw => ?_) h
      rcases hw with hw | hw
      · exact ha'.1 w hw
      · rcases List.mem_cons.1 hw with rfl | hw
        · exact hc
        · have := hb'.1 w hw; omega
    · split at h
      · rename_i hc; rw [bef_iff] at hc
        refine key (x :: a) b y (by simp only [List.length_cons]; omega) ha hb'.2 (fun w hw => ?_) h
        rcases hw with hw | hw
        · rcases List.mem_cons.1 hw with rfl | hw
          · exact hc
          · have := ha'.1 w hw; omega
        · exact hb'.1 w hw
      · split at h
        · cases h
        · rename_i hne
          have hxy : x = y := by simpa using hne
          subst hxy
          exact key a b x (by omega) ha'.2 hb'.2 (fun w hw => hw.elim (ha'.1 w) (hb'.1 w)) h
theorem uni_some : ∀ (n : Nat) (a b : List α), a.length + b.length ≤ n → (∀ x ∈ a, ∀ y ∈ b, d x = d y → s x = s y → x = y) → ∃ l, uniF d s a b = some l
  | n, [], b, _, _ => ⟨b, by simp only [uniF]⟩
  | n, x :: a, [], _, _ => ⟨x :: a, by simp only [uniF]⟩
  | 0, x :: a, y :: b, hn, _ => by simp at hn
  | n + 1, x :: a, y :: b, hn, h => by
    simp only [List.length_cons] at hn
    rw [uniF]
    split
    · obtain ⟨l, hl⟩ := uni_some n a (y :: b) (by simp only [List.length_cons]; omega) (fun u hu v hv => h u (by simp [hu]) v hv)
      exact ⟨_, by rw [hl]; rfl⟩
    · split
      · obtain ⟨l, hl⟩ := uni_some n (x :: a) b (by simp only [List.length_cons]; omega) (fun u hu v hv => h u hu v (by simp [hv]))
        exact ⟨_, by rw [hl]; rfl⟩
      · rename_i h1 h2
        rw [Bool.not_eq_true, bef_not] at h1 h2
        have e := h x (by simp) y (by simp) (by omega) (by omega)
        rw [if_neg (by simpa using e)]
        obtain ⟨l, hl⟩ := uni_some n a b (by omega) (fun u hu v hv => h u (by simp [hu]) v (by simp [hv]))
        exact ⟨_, by rw [hl]; rfl⟩
theorem uni_none {a b : List α} (ha : Inc d s a) (hb : Inc d s b) {x y : α} (hx : x ∈ a) (hy : y ∈ b) (e1 : d x = d y) (e2 : s x = s y) (hne : x ≠ y) : uniF d s a b = none := by
  cases h : uniF d s a b with
  | none => rfl
  | some l =>
    have hl := uni_inc _ a b l (Nat.le_refl _) ha hb h
    have hm := uni_iff _ a b l (Nat.le_refl _) h
    exact absurd (hl.uniq ((hm x).2 (.inl hx)) ((hm y).2 (.inr hy)) e1 e2) hne
theorem nodup_len {l m : List α} (hl : l.Nodup) (h : ∀ x ∈ l, x ∈ m) : l.length ≤ m.length := by
  induction l generalizing m with
  | nil => simp
  | cons x l ih =>
    rw [List.nodup_cons] at hl
    have hx := h x (by simp)
    have := ih (m := m.erase x) hl.2 (fun y hy => by
      have hne : y ≠ x := fun e => hl.1 (e ▸ hy)
      exact (List.mem_erase_of_ne hne).2 (h y (by simp [hy])))
    rw [List.length_erase_of_mem hx] at this
    have : 0 < m.length := List.length_pos_of_mem hx
    simp only [List.length_cons]; omega
/-! Putting one more element at its place -/
theorem ins_mem (p : α → Bool) (r : α) (l : List α) (x : α) : x ∈ l.takeWhile p ++ r :: l.dropWhile p ↔ x = r ∨ x ∈ l := by
  conv => rhs; rw [← List.takeWhile_append_dropWhile (p := p) (l := l)]
  simp only [List.mem_append, List.mem_cons]
  constructor <;> (intro h; rcases h with h | h | h <;> simp [h])
theorem ins_inc {r : α} {l : List α} (h : Inc d s l) (hn : ∀ x ∈ l, ¬ (d x = d r ∧ s x = s r)) : Inc d s (l.takeWhile (fun x => befB (d x) (s x) (d r) (s r)) ++ r :: l.dropWhile (fun x => befB (d x) (s x) (d r) (s r))) := by
  induction l with
  | nil => exact Inc.cons_iff.2 ⟨by simp, Inc.nil⟩
  | cons y l ih =>
    have h' := Inc.cons_iff.1 h
    by_cases hc : befB (d y) (s y) (d r) (s r) = true
    · rw [List.takeWhile_cons_of_pos (by exact hc), List.dropWhile_cons_of_pos (by exact hc), List.cons_append, Inc.cons_iff]
      refine ⟨fun z hz => ?_, ih h'.2 (fun x hx => hn x (by simp [hx]))⟩
      rcases (ins_mem _ _ _ z).1 hz with rfl | hz
      · exact (bef_iff ..).1 hc
      · exact h'.1 z hz
    · rw [List.takeWhile_cons_of_neg (by exact hc), List.dropWhile_cons_of_neg (by exact hc), List.nil_append, Inc.cons_iff]
      refine ⟨fun z hz => ?_, h⟩
      rw [Bool.not_eq_true, bef_not] at hc
      have := hn y (by simp)
      rcases List.mem_cons.1 hz with rfl | hz
      · omega
      · have := h'.1 z hz; omega
end
theorem clash_iff : ∀ (n : Nat) (a : List Rec) (b : List Ord), a.length + b.length ≤ n → Inc (·.d) (·.s) a → Inc (·.d) (·.s) b → (clashF a b = true ↔ ∃ x ∈ a, ∃ y ∈ b, x.d = y.d ∧ x.s = y.s)
  | n, [], b, _, _, _ => by simp [clashF]
  | n, x :: a, [], _, _, _ => by simp [clashF]
  | 0, x :: a, y :: b, hn, _, _ => by simp at hn
  | n + 1, x :: a, y :: b, hn, ha, hb => by
    simp only [List.length_cons] at hn
    have ha' := Inc.cons_iff.1 ha
    have hb' := Inc.cons_iff.1 hb
    rw [clashF]
    split
    · rename_i hc; rw [bef_iff] at hc
      rw [clash_iff n a (y :: b) (by simp only [List.length_cons]; omega) ha'.2 hb]
      constructor
      · rintro ⟨u, hu, v, hv, e⟩; exact ⟨u, by simp [hu], v, hv, e⟩
      · rintro ⟨u, hu, v, hv, e⟩
        rcases List.mem_cons.1 hu with rfl | hu
        · exfalso
          rcases List.mem_cons.1 hv with rfl | hv
          · omega
          · have := hb'.1 v hv; omega
        · exact ⟨u, hu, v, hv, e⟩
    · split
      · rename_i hc; rw [bef_iff] at hc
        rw [clash_iff n (x :: a) b (by simp only [List.length_cons]; omega) ha hb'.2]
        constructor
        · rintro ⟨u, hu, v, hv, e⟩; exact ⟨u, hu, v, by simp [hv], e⟩
        · rintro ⟨u, hu, v, hv, e⟩
          rcases List.mem_cons.1 hv with rfl | hv
          · exfalso
            rcases List.mem_cons.1 hu with rfl | hu
            · omega
            · have := ha'.1 u hu; omega
          · exact ⟨u, hu, v, hv, e⟩
      · rename_i h1 h2
        rw [Bool.not_eq_true, bef_not] at h1 h2
        exact ⟨fun _ => ⟨x, by simp, y, by simp, by omega, by omega⟩, fun _ => rfl⟩
end Go.Proofs

/- Devices: what users know; merging, learning, forgetting (no program). -/
set_option linter.unusedVariables false
set_option linter.unusedSimpArgs false
namespace Go.Proofs
open Go Go.Ideal
set_option maxRecDepth 8000
/-- The records and orders of all devices. -/
structure Log (G : List Rec) (O : List Ord) : Prop where
  gr : ∀ x ∈ G, RightR x ∧ x.d ≤ 2 ∧ x.n ≤ 9 ∧ x.e ≤ 9
  or : ∀ x ∈ O, RightO x ∧ x.d ≤ 2 ∧ x.e ≤ 9
  gg : ∀ x ∈ G, ∀ y ∈ G, x.d = y.d → x.s = y.s → x = y
  oo : ∀ x ∈ O, ∀ y ∈ O, x.d = y.d → x.s = y.s → x = y
  go : ∀ x ∈ G, ∀ y ∈ O, ¬ (x.d = y.d ∧ x.s = y.s)
/-- The greatest number known of a device. -/
def lst (l : List Int) (d : Int) : Int := l.getD d.toNat default
/-- What a user knows: of all, what is not newer than the clock, without the records that known orders mean. -/
structure Knows (G : List Rec) (O : List Ord) (u : Usr) : Prop where
  ri : Inc (·.d) (·.s) u.r
  oi : Inc (·.d) (·.s) u.o
  l : u.l.length = 8
  rm : ∀ x, x ∈ u.r ↔ x ∈ G ∧ x.s ≤ lst u.l x.d ∧ meantB u.o x = false
  om : ∀ x, x ∈ u.o ↔ x ∈ O ∧ x.s ≤ lst u.l x.d
theorem meant_iff {l : List Ord} {r : Rec} : meantB l r = true ↔ ∃ o ∈ l, meansB o r = true := by
  unfold meantB; rw [List.any_eq_true]
theorem meant_no {l : List Ord} {r : Rec} : meantB l r = false ↔ ∀ o ∈ l, meansB o r = false := by
  unfold meantB; rw [List.any_eq_false]; simp
theorem Knows.ext {G : List Rec} {O : List Ord} {u v : Usr} (hu : Knows G O u) (hv : Knows G O v) (h : u.l = v.l) : u = v := by
  have ho : u.o = v.o := hu.oi.ext hv.oi fun x => by rw [hu.om, hv.om, h]
  have hr : u.r = v.r := hu.ri.ext hv.ri fun x => by rw [hu.rm, hv.rm, h, ho]
  cases u; cases v; simp_all
theorem Knows.r_len {G : List Rec} {O : List Ord} {u : Usr} (h : Knows G O u) : u.r.length ≤ G.length := nodup_len h.ri.nodup fun x hx => ((h.rm x).1 hx).1
theorem Knows.o_len {G : List Rec} {O : List Ord} {u : Usr} (h : Knows G O u) : u.o.length ≤ O.length := nodup_len h.oi.nodup fun x hx => ((h.om x).1 hx).1
theorem Knows.ok {G : List Rec} {O : List Ord} {u : Usr} (h : Knows G O u) (hl : Log G O) (h1 : G.length ≤ 100) (h2 : O.length ≤ 100) : OkU u where
  r x hx := (hl.gr x ((h.rm x).1 hx).1).1
  o x hx := (hl.or x ((h.om x).1 hx).1).1
  l := h.l
  rl := by have := h.r_len; omega
  ol := by have := h.o_len; omega
/-! ### The greatest numbers -/
theorem maxL_get (a b : List Int) {n : Nat} (h : n < 8) : (maxL a b).getD n default = max (a.getD n default) (b.getD n default) := by
  simp [maxL, List.getD, h]
theorem maxL_lst (a b : List Int) {d : Int} (h : d ≤ 7) : lst (maxL a b) d = max (lst a d) (lst b d) := maxL_get a b (by omega)
theorem l8_ext {a b : List Int} (ha : a.length = 8) (hb : b.length = 8) (h : ∀ n, n < 8 → a.getD n default = b.getD n default) : a = b := by
  refine List.ext_getElem (by omega) fun n h1 h2 => ?_
  have := h n (by omega)
  simpa [List.getD, h1, h2] using this
theorem maxL_comm (a b : List Int) : maxL a b = maxL b a := l8_ext (maxL_len ..) (maxL_len ..) fun n h => by rw [maxL_get _ _ h, maxL_get _ _ h]; omega
theorem maxL_again' (a b : List Int) : maxL (maxL a b) b = maxL a b := l8_ext (maxL_len ..) (maxL_len ..) fun n h => by simp only [maxL_get _ _ h]; omega
/-! ### Merging -/
/-- What merging two users leads to. -/
structure Merged (u v m : Usr) : Prop where
  ri : Inc (·.d) (·.s) m.r
  oi : Inc (·.d) (·.s) m.o
  l : m.l = maxL u.l v.l
  om : ∀ x, x ∈ m.o ↔ x ∈ u.o ∨ x ∈ v.o
  rm : ∀ x, x ∈ m.r ↔ (x ∈ u.r ∨ x ∈ v.r) ∧ meantB m.o x = false
  rl : m.r.length ≤ u.r.length + v.r.length
  ol : m.o.length ≤ u.o.length + v.o.length
theorem Merged.ext {u v m n : Usr} (h : Merged u v m) (h2 : Merged u v n) : m = n := by
  have ho : m.o = n.o := h.oi.ext h2.oi fun x => by rw [h.om, h2.om]
  have hr : m.r = n.r := h.ri.ext h2.ri fun x => by rw [h.rm, h2.rm, ho]
  have hl : m.l = n.l := h.l.trans h2.l.symm
  cases m; cases n; simp_all
structure Fit (u v : Usr) : Prop where
  ur : Inc (·.d) (·.s) u.r
  uo : Inc (·.d) (·.s) u.o
  vr : Inc (·.d) (·.s) v.r
  vo : Inc (·.d) (·.s) v.o
  rl : u.r.length + v.r.length ≤ 400
  ol : u.o.length + v.o.length ≤ 400
theorem merge_ok {u v : Usr} (f : Fit u v) (hr : ∀ x ∈ u.r, ∀ y ∈ v.r, x.d = y.d → x.s = y.s → x = y) (ho : ∀ x ∈ u.o, ∀ y ∈ v.o, x.d = y.d → x.s = y.s → x = y)
    (hc : ∀ x, x ∈ u.r ∨ x ∈ v.r → ∀ y, y ∈ u.o ∨ y ∈ v.o → ¬ (x.d = y.d ∧ x.s = y.s)) : ∃ m, mergeF u v = (m, 0) ∧ Merged u v m := by
  obtain ⟨R, hR⟩ := uni_some (d := fun x : Rec => x.d) (s := fun x : Rec => x.s) _ u.r v.r (Nat.le_refl _) hr
  obtain ⟨P, hP⟩ := uni_some (d := fun x : Ord => x.d) (s := fun x : Ord => x.s) _ u.o v.o (Nat.le_refl _) ho
  have iR := uni_inc _ _ _ _ (Nat.le_refl _) f.ur f.vr hR
  have iP := uni_inc _ _ _ _ (Nat.le_refl _) f.uo f.vo hP
  have mR := uni_iff _ _ _ _ (Nat.le_refl _) hR
  have mP := uni_iff _ _ _ _ (Nat.le_refl _) hP
  have lR := (uni_mem _ _ _ _ _ _ (Nat.le_refl _) hR).1
  have lP := (uni_mem _ _ _ _ _ _ (Nat.le_refl _) hP).1
  have hcl : ¬ (clashF R P = true ∨ P.length > 400) := by
    intro h
    rcases h with h | h
    · obtain ⟨x, hx, y, hy, e⟩ := (clash_iff _ R P (Nat.le_refl _) iR iP).1 h
      exact hc x ((mR x).1 hx) y ((mP y).1 hy) e
    · have := f.ol; omega
  have lK : (R.filter fun r => !meantB P r).length ≤ R.length := List.length_filter_le _ _
  have hk : ¬ (R.filter fun r => !meantB P r).length > 400 := by have := f.rl; omega
  refine ⟨⟨R.filter fun r => !meantB P r, P, maxL u.l v.l⟩, ?_, ?_⟩
  · unfold mergeF
    rw [hR, hP]
    simp only
    rw [if_neg hcl, if_neg hk]
  · exact ⟨iR.filter _, iP, rfl, mP, fun x => by simp only [List.mem_filter, mR, Bool.not_eq_true'], by simp only; omega, lP⟩
theorem lst_le {l m : List Int} {d s : Int} (h : d ≤ 7) : s ≤ lst (maxL l m) d ↔ s ≤ lst l d ∨ s ≤ lst m d := by
  rw [maxL_lst _ _ h]; omega
theorem Knows.merge {G : List Rec} {O : List Ord} {u v : Usr} (hl : Log G O) (h1 : G.length ≤ 100) (h2 : O.length ≤ 100) (hu : Knows G O u) (hv : Knows G O v) :
    ∃ m, mergeF u v = (m, 0) ∧ Merged u v m ∧ Knows G O m := by
  have f : Fit u v := ⟨hu.ri, hu.oi, hv.ri, hv.oi, by have := hu.r_len; have := hv.r_len; omega, by have := hu.o_len; have := hv.o_len; omega⟩
  have gu : ∀ x, x ∈ u.r ∨ x ∈ v.r → x ∈ G := fun x hx => hx.elim (fun h => ((hu.rm x).1 h).1) (fun h => ((hv.rm x).1 h).1)
  have go : ∀ x, x ∈ u.o ∨ x ∈ v.o → x ∈ O := fun x hx => hx.elim (fun h => ((hu.om x).1 h).1) (fun h => ((hv.om x).1 h).1)
  obtain ⟨m, h, hm⟩ := merge_ok f (fun x hx y hy => hl.gg x (gu x (.inl hx)) y (gu y (.inr hy))) (fun x hx y hy => hl.oo x (go x (.inl hx)) y (go y (.inr hy)))
    (fun x hx y hy => hl.go x (gu x hx) y (go y hy))
  refine ⟨m, h, hm, hm.ri, hm.oi, by rw [hm.l, maxL_len], fun x => ?_, fun x => ?_⟩
  · rw [hm.rm]
    constructor
    · rintro ⟨hx, hn⟩
      have hg := gu x hx
      have hd := (hl.gr x hg).1.d
      refine ⟨hg, ?_, hn⟩
      rw [hm.l, lst_le hd.2]
      exact hx.imp (fun h => ((hu.rm x).1 h).2.1) (fun h => ((hv.rm x).1 h).2.1)
    · rintro ⟨hg, hs, hn⟩
      have hd := (hl.gr x hg).1.d
      rw [hm.l, lst_le hd.2] at hs
      refine ⟨?_, hn⟩
      rw [meant_no] at hn
      refine hs.imp (fun h => (hu.rm x).2 ⟨hg, h, meant_no.2 fun o ho => hn o ((hm.om o).2 (.inl ho))⟩) (fun h => (hv.rm x).2 ⟨hg, h, meant_no.2 fun o ho => hn o ((hm.om o).2 (.inr ho))⟩)
  · rw [hm.om, hu.om, hv.om]
    constructor
    · intro hx
      have ho : x ∈ O := hx.elim (·.1) (·.1)
      have hd := (hl.or x ho).1.d
      refine ⟨ho, ?_⟩
      rw [hm.l, lst_le hd.2]
      exact hx.imp (·.2) (·.2)
    · rintro ⟨ho, hs⟩
      have hd := (hl.or x ho).1.d
      rw [hm.l, lst_le hd.2] at hs
      exact hs.imp (fun h => ⟨ho, h⟩) (fun h => ⟨ho, h⟩)
/-! ### Steps -/
def lstUp (l : List Int) (d : Int) : List Int := l.set d.toNat (lst l d + 1)
theorem lstUp_len (l : List Int) (d : Int) : (lstUp l d).length = l.length := by simp [lstUp]
theorem lstUp_get {l : List Int} (hl : l.length = 8) {d e : Int} (hd : 0 ≤ d ∧ d ≤ 7) (he : 0 ≤ e ∧ e ≤ 7) : lst (lstUp l d) e = if e = d then lst l d + 1 else lst l e := by
  unfold lstUp
  generalize lst l d + 1 = v
  unfold lst
  by_cases h : e = d
  · subst h; rw [if_pos rfl]
    rw [List.getD_eq_getElem?_getD, List.getElem?_set_self (by omega)]; rfl
  · rw [if_neg h, List.getD_eq_getElem?_getD, List.getElem?_set_ne (by omega), ← List.getD_eq_getElem?_getD]
def recAt (r : Rec) (n : Int) : Rec := { r with s := n }
def ordAt (o : Ord) (n : Int) : Ord := { o with s := n }
def learnF (u : Usr) (r : Rec) : Usr :=
  let q := recAt r (lst u.l r.d + 1)
  ⟨if meantB u.o q = true then u.r else insR q u.r, u.o, lstUp u.l r.d⟩
def forgetF (u : Usr) (o : Ord) : Usr :=
  let q := ordAt o (lst u.l o.d + 1)
  ⟨keptF (insO q u.o) u.r, insO q u.o, lstUp u.l o.d⟩
/-- A user who knows all of a device. -/
def Own (G : List Rec) (O : List Ord) (u : Usr) (d : Int) : Prop := (∀ x ∈ G, x.d = d → x.s ≤ lst u.l d) ∧ ∀ x ∈ O, x.d = d → x.s ≤ lst u.l d
structure NewR (r : Rec) : Prop where
  d : 0 ≤ r.d ∧ r.d ≤ 2
  e : 0 ≤ r.e ∧ r.e ≤ 9
  w : WordOk r.w
  a : 0 ≤ r.a ∧ r.a ≤ 7
  n : 1 ≤ r.n ∧ r.n ≤ 9
theorem NewR.right {r : Rec} (h : NewR r) {n : Int} (hn : 1 ≤ n ∧ n ≤ 1000000) : RightR (recAt r n) where
  d := ⟨h.d.1, by have := h.d.2; simp only [recAt]; omega⟩
  s := hn
  e := ⟨h.e.1, by have := h.e.2; simp only [recAt]; omega⟩
  w := h.w
  a := h.a
  n := ⟨h.n.1, by have := h.n.2; simp only [recAt]; omega⟩
structure NewO (o : Ord) : Prop where
  r : RightO (ordAt o 1)
  d : o.d ≤ 2
  e : o.e ≤ 9
theorem NewO.right {o : Ord} (h : NewO o) {n : Int} (hn : 1 ≤ n ∧ n ≤ 1000000) : RightO (ordAt o n) := ⟨h.r.d, hn, h.r.e, h.r.k⟩
theorem insR_mem (r : Rec) (l : List Rec) (x : Rec) : x ∈ insR r l ↔ x = r ∨ x ∈ l := ins_mem _ r l x
theorem insO_mem (r : Ord) (l : List Ord) (x : Ord) : x ∈ insO r l ↔ x = r ∨ x ∈ l := ins_mem _ r l x
theorem insR_inc {r : Rec} {l : List Rec} (h : Inc (·.d) (·.s) l) (hn : ∀ x ∈ l, ¬ (x.d = r.d ∧ x.s = r.s)) : Inc (·.d) (·.s) (insR r l) := ins_inc h hn
theorem insO_inc {r : Ord} {l : List Ord} (h : Inc (·.d) (·.s) l) (hn : ∀ x ∈ l, ¬ (x.d = r.d ∧ x.s = r.s)) : Inc (·.d) (·.s) (insO r l) := ins_inc h hn
theorem learn_log {G : List Rec} {O : List Ord} {u : Usr} {r : Rec} (hl : Log G O) (ho : Own G O u r.d) (hr : NewR r) (h0 : 0 ≤ lst u.l r.d ∧ lst u.l r.d ≤ 1000) : Log (recAt r (lst u.l r.d + 1) :: G) O where
  gr x hx := by
    rcases List.mem_cons.1 hx with rfl | hx
    · exact ⟨hr.right (by omega), hr.d.2, hr.n.2, hr.e.2⟩
    · exact hl.gr x hx
  or := hl.or
  gg x hx y hy e1 e2 := by
    rcases List.mem_cons.1 hx with rfl | hx' <;> rcases List.mem_cons.1 hy with rfl | hy'
    · rfl
    · have := ho.1 y hy' (by simpa [recAt] using e1.symm); simp only [recAt] at e2; omega
    · have := ho.1 x hx' (by simpa [recAt] using e1); simp only [recAt] at e2; omega
    · exact hl.gg x hx' y hy' e1 e2
  oo := hl.oo
  go x hx y hy := by
    rcases List.mem_cons.1 hx with rfl | hx'
    · intro ⟨e1, e2⟩
      have := ho.2 y hy (by simpa [recAt] using e1.symm); simp only [recAt] at e2; omega
    · exact hl.go x hx' y hy
theorem forget_log {G : List Rec} {O : List Ord} {u : Usr} {r : Ord} (hl : Log G O) (ho : Own G O u r.d) (hr : NewO r) (h0 : 0 ≤ lst u.l r.d ∧ lst u.l r.d ≤ 1000) : Log G (ordAt r (lst u.l r.d + 1) :: O) where
  gr := hl.gr
  or x hx := by
    rcases List.mem_cons.1 hx with rfl | hx
    · exact ⟨hr.right (by omega), hr.d, hr.e⟩
    · exact hl.or x hx
  gg := hl.gg
  oo x hx y hy e1 e2 := by
    rcases List.mem_cons.1 hx with rfl | hx' <;> rcases List.mem_cons.1 hy with rfl | hy'
    · rfl
    · have := ho.2 y hy' (by simpa [ordAt] using e1.symm); simp only [ordAt] at e2; omega
    · have := ho.2 x hx' (by simpa [ordAt] using e1); simp only [ordAt] at e2; omega
    · exact hl.oo x hx' y hy' e1 e2
  go x hx y hy := by
    rcases List.mem_cons.1 hy with rfl | hy'
    · intro ⟨e1, e2⟩
      have := ho.1 x hx (by simpa [ordAt] using e1); simp only [ordAt] at e2; omega
    · exact hl.go x hx y hy'
theorem learn_other {G : List Rec} {O : List Ord} {v : Usr} {q : Rec} (hv : Knows G O v) (h : lst v.l q.d < q.s) : Knows (q :: G) O v where
  ri := hv.ri
  oi := hv.oi
  l := hv.l
  om := hv.om
  rm x := by
    rw [hv.rm]
    refine ⟨fun ⟨a, b, c⟩ => ⟨by simp [a], b, c⟩, fun ⟨a, b, c⟩ => ⟨?_, b, c⟩⟩
    rcases List.mem_cons.1 a with rfl | a
    · omega
    · exact a
theorem forget_other {G : List Rec} {O : List Ord} {v : Usr} {q : Ord} (hv : Knows G O v) (h : lst v.l q.d < q.s) : Knows G (q :: O) v where
  ri := hv.ri
  oi := hv.oi
  l := hv.l
  rm := hv.rm
  om x := by
    rw [hv.om]
    refine ⟨fun ⟨a, b⟩ => ⟨by simp [a], b⟩, fun ⟨a, b⟩ => ⟨?_, b⟩⟩
    rcases List.mem_cons.1 a with rfl | a
    · omega
    · exact a
theorem up_le {G : List Rec} {u : Usr} {d : Int} (hu : u.l.length = 8) (hd : 0 ≤ d ∧ d ≤ 2) {e s : Int} (he : 0 ≤ e ∧ e ≤ 7) (ho : e = d → s ≤ lst u.l d) : s ≤ lst (lstUp u.l d) e ↔ s ≤ lst u.l e := by
  rw [lstUp_get hu (by omega) he]
  split
  · rename_i h; have := ho h; subst h; omega
  · rfl
theorem learn_knows {G : List Rec} {O : List Ord} {u : Usr} {r : Rec} (hl : Log G O) (hu : Knows G O u) (ho : Own G O u r.d) (hr : NewR r) (h0 : 0 ≤ lst u.l r.d ∧ lst u.l r.d ≤ 1000) :
    Knows (recAt r (lst u.l r.d + 1) :: G) O (learnF u r) := by
  have hup : ∀ x : Rec, x ∈ G → (x.s ≤ lst (lstUp u.l r.d) x.d ↔ x.s ≤ lst u.l x.d) := fun x hx => up_le (G := G) hu.l hr.d (hl.gr x hx).1.d (fun e => ho.1 x hx e)
  have hupo : ∀ x : Ord, x ∈ O → (x.s ≤ lst (lstUp u.l r.d) x.d ↔ x.s ≤ lst u.l x.d) := fun x hx => up_le (G := G) hu.l hr.d (hl.or x hx).1.d (fun e => ho.2 x hx e)
  have hq : (recAt r (lst u.l r.d + 1)).s ≤ lst (lstUp u.l r.d) (recAt r (lst u.l r.d + 1)).d := by
    simp only [recAt]
    rw [lstUp_get hu.l (by have := hr.d; omega) (by have := hr.d; omega), if_pos rfl]; omega
  have hnew : ∀ x ∈ u.r, ¬ (x.d = (recAt r (lst u.l r.d + 1)).d ∧ x.s = (recAt r (lst u.l r.d + 1)).s) := fun x hx ⟨e1, e2⟩ => by
    have := ho.1 x ((hu.rm x).1 hx).1 (by simpa [recAt] using e1); simp only [recAt] at e2; omega
  refine ⟨?_, hu.oi, by simp only [learnF]; rw [lstUp_len, hu.l], fun x => ?_, fun x => ?_⟩
  · simp only [learnF]
    split
    · exact hu.ri
    · exact insR_inc hu.ri hnew
  · simp only [learnF]
    generalize recAt r (lst u.l r.d + 1) = q at *
    by_cases hm : meantB u.o q = true
    · rw [if_pos hm, hu.rm]
      constructor
      · rintro ⟨a, b, c⟩; exact ⟨by simp [a], (hup x a).2 b, c⟩
      · rintro ⟨a, b, c⟩
        rcases List.mem_cons.1 a with rfl | a
        · rw [hm] at c; cases c
        · exact ⟨a, (hup x a).1 b, c⟩
    · rw [if_neg hm, insR_mem, hu.rm]
      constructor
      · rintro (rfl | ⟨a, b, c⟩)
        · exact ⟨by simp, hq, by simpa using hm⟩
        · exact ⟨by simp [a], (hup x a).2 b, c⟩
      · rintro ⟨a, b, c⟩
        rcases List.mem_cons.1 a with rfl | a
        · exact .inl rfl
        · exact .inr ⟨a, (hup x a).1 b, c⟩
  · simp only [learnF]
    rw [hu.om]
    exact ⟨fun ⟨a, b⟩ => ⟨a, (hupo x a).2 b⟩, fun ⟨a, b⟩ => ⟨a, (hupo x a).1 b⟩⟩
theorem forget_knows {G : List Rec} {O : List Ord} {u : Usr} {r : Ord} (hl : Log G O) (hu : Knows G O u) (ho : Own G O u r.d) (hr : NewO r) (h0 : 0 ≤ lst u.l r.d ∧ lst u.l r.d ≤ 1000) :
    Knows G (ordAt r (lst u.l r.d + 1) :: O) (forgetF u r) := by
  have hd : 0 ≤ r.d ∧ r.d ≤ 2 := ⟨hr.r.d.1, hr.d⟩
  have hup : ∀ x : Rec, x ∈ G → (x.s ≤ lst (lstUp u.l r.d) x.d ↔ x.s ≤ lst u.l x.d) := fun x hx => up_le (G := G) hu.l hd (hl.gr x hx).1.d (fun e => ho.1 x hx e)
  have hupo : ∀ x : Ord, x ∈ O → (x.s ≤ lst (lstUp u.l r.d) x.d ↔ x.s ≤ lst u.l x.d) := fun x hx => up_le (G := G) hu.l hd (hl.or x hx).1.d (fun e => ho.2 x hx e)
  have hq : (ordAt r (lst u.l r.d + 1)).s ≤ lst (lstUp u.l r.d) (ordAt r (lst u.l r.d + 1)).d := by
    simp only [ordAt]
    rw [lstUp_get hu.l (by omega) (by omega), if_pos rfl]; omega
  have hnew : ∀ x ∈ u.o, ¬ (x.d = (ordAt r (lst u.l r.d + 1)).d ∧ x.s = (ordAt r (lst u.l r.d + 1)).s) := fun x hx ⟨e1, e2⟩ => by
    have := ho.2 x ((hu.om x).1 hx).1 (by simpa [ordAt] using e1); simp only [ordAt] at e2; omega
  refine ⟨hu.ri.filter _, insO_inc hu.oi hnew, by simp only [forgetF]; rw [lstUp_len, hu.l], fun x => ?_, fun x => ?_⟩
  · simp only [forgetF, keptF, List.mem_filter, Bool.not_eq_true', hu.rm]
    constructor
    · rintro ⟨⟨a, b, c⟩, e⟩; exact ⟨a, (hup x a).2 b, e⟩
    · rintro ⟨a, b, e⟩
      refine ⟨⟨a, (hup x a).1 b, ?_⟩, e⟩
      rw [meant_no] at e ⊢
      exact fun o ho => e o ((insO_mem _ _ _).2 (.inr ho))
  · simp only [forgetF]
    rw [insO_mem, hu.om]
    constructor
    · rintro (rfl | ⟨a, b⟩)
      · exact ⟨by simp, hq⟩
      · exact ⟨by simp [a], (hupo x a).2 b⟩
    · rintro ⟨a, b⟩
      rcases List.mem_cons.1 a with rfl | a
      · exact .inl rfl
      · exact .inr ⟨a, (hupo x a).1 b⟩
end Go.Proofs

/- Devices: steps, users and teams that are made of steps (no program). -/
set_option linter.unusedVariables false
set_option linter.unusedSimpArgs false
namespace Go.Proofs
open Go Go.Ideal
set_option maxRecDepth 8000
set_option linter.unusedVariables false
structure Raw where
  kind : Int
  dev : Int
  ep : Int
  wd : Int
  app : Int
  n : Int
  deriving Inhabited
def recOf (x : Raw) : Rec := ⟨x.dev % 3, 1, x.ep % 10, wordT x.wd, x.app % 3, 1 + x.n % 9⟩
def ordOf (x : Raw) : Ord :=
  let k := 1 + x.kind / 3 % 5
  if k = 1 then ⟨x.dev % 3, 1, x.ep % 10, k, wordT x.wd, 0, 0⟩
  else if k = 2 ∨ k = 3 then ⟨x.dev % 3, 1, x.ep % 10, k, [], x.app % 3, 0⟩
  else if k = 4 then ⟨x.dev % 3, 1, x.ep % 10, k, [], x.n % (x.ep % 10 + 1), 0⟩
  else ⟨x.dev % 3, 1, x.ep % 10, k, [], 1 + x.n % 6, x.app % 3⟩
structure OkRaw (x : Raw) : Prop where
  kind : 0 ≤ x.kind ∧ x.kind < 256
  dev : 0 ≤ x.dev ∧ x.dev < 256
  ep : 0 ≤ x.ep ∧ x.ep < 256
  wd : 0 ≤ x.wd ∧ x.wd < 256
  app : 0 ≤ x.app ∧ x.app < 256
  n : 0 ≤ x.n ∧ x.n < 256
theorem word_ok (n : Int) : WordOk (wordT n) := by
  unfold wordT
  have h1 : ∀ a : UInt8, okC a → WordOk [a] := fun a ha => ⟨by simp, fun i hi => by
    simp only [List.length_cons, List.length_nil] at hi
    have : i = 0 := by omega
    subst this; exact ha⟩
  have h2 : ∀ a b : UInt8, okC a → okC b → WordOk [a, b] := fun a b ha hb => ⟨by simp, fun i hi => by
    simp only [List.length_cons, List.length_nil] at hi
    rcases (by omega : i = 0 ∨ i = 1) with e | e <;> subst e
    · exact ha
    · exact hb⟩
  repeat' split
  · exact h1 _ (by unfold okC; decide)
  · exact h2 _ _ (by unfold okC; decide) (by unfold okC; decide)
  · exact h1 _ (by unfold okC; decide)
  · exact h2 _ _ (by unfold okC; decide) (by unfold okC; decide)
theorem recOf_new (x : Raw) : NewR (recOf x) where
  d := by simp only [recOf]; omega
  e := by simp only [recOf]; omega
  w := word_ok _
  a := by simp only [recOf]; omega
  n := by simp only [recOf]; omega
theorem mod_le (n e : Int) (h : 0 ≤ e) : 0 ≤ n % (e + 1) ∧ n % (e + 1) ≤ e := by
  have h1 := Int.emod_nonneg n (b := e + 1) (by omega)
  have h2 := Int.emod_lt_of_pos n (b := e + 1) (by omega)
  omega
theorem ordOf_new (x : Raw) : NewO (ordOf x) := by
  have hw := word_ok x.wd
  have hn := mod_le x.n (x.ep % 10) (by omega)
  unfold ordOf
  simp only
  generalize hk : 1 + x.kind / 3 % 5 = k
  have hk5 : k = 1 ∨ k = 2 ∨ k = 3 ∨ k = 4 ∨ k = 5 := by omega
  rcases hk5 with rfl | rfl | rfl | rfl | rfl <;> simp only [Int.reduceEq, if_true, if_false, true_or, or_true, or_false, false_or] <;>
    refine ⟨⟨by simp only [ordAt]; omega, by simp only [ordAt]; omega, by simp only [ordAt]; omega, ?_⟩, by simp only; omega, by simp only; omega⟩ <;> dsimp only [ordAt]
  · exact .inl ⟨rfl, hw, rfl, rfl⟩
  · exact .inr (.inl ⟨rfl, rfl, rfl, by omega, by omega⟩)
  · exact .inr (.inr (.inl ⟨rfl, rfl, rfl, by omega, by omega⟩))
  · exact .inr (.inr (.inr (.inl ⟨rfl, rfl, rfl, by omega, by omega⟩)))
  · exact .inr (.inr (.inr (.inr ⟨rfl, rfl, by omega, by omega, by omega, by omega⟩)))
theorem recOf_d (x : Raw) : (recOf x).d = x.dev % 3 := rfl
theorem ordOf_d (x : Raw) : (ordOf x).d = x.dev % 3 := by
  unfold ordOf; simp only; repeat' split
  all_goals rfl
def isOrdB (x : Raw) : Bool := decide (x.kind % 3 = 0)
def stepU (u : Usr) (x : Raw) : Usr := if isOrdB x = true then forgetF u (ordOf x) else learnF u (recOf x)
def madeU (l : List Raw) (n : Nat) : Usr := (l.take n).foldl stepU noUsr
/-! ### A single user -/
structure VI (k : Nat) (G : List Rec) (O : List Ord) (u : Usr) : Prop where
  log : Log G O
  kn : Knows G O u
  size : G.length + O.length ≤ k
  own : ∀ d, Own G O u d
  low : ∀ d, 0 ≤ d ∧ d ≤ 7 → 0 ≤ lst u.l d ∧ lst u.l d ≤ k
theorem no_lst (d : Int) : lst noUsr.l d = 0 := by
  unfold lst noUsr
  simp only [List.getD_eq_getElem?_getD, List.getElem?_replicate]
  split <;> rfl
theorem Log.empty : Log [] [] := ⟨by simp, by simp, by simp, by simp, by simp⟩
theorem Knows.empty : Knows [] [] noUsr := ⟨Inc.nil, Inc.nil, by simp [noUsr], by simp [noUsr], by simp [noUsr]⟩
theorem VI.zero : VI 0 [] [] noUsr := ⟨.empty, .empty, by simp, fun d => ⟨by simp, by simp⟩, fun d hd => by rw [no_lst]; omega⟩
theorem own_r {G : List Rec} {O : List Ord} {u : Usr} {d0 : Int} {q : Rec} (hl : Log G O) (hu : u.l.length = 8) (hd : 0 ≤ d0 ∧ d0 ≤ 2) (hq : q.d = d0) (hs : q.s = lst u.l d0 + 1) (v : Usr) (hv : v.l = lstUp u.l d0) {d : Int} (h : Own G O u d) : Own (q :: G) O v d := by
  have hlow : ∀ s : Int, 0 ≤ d ∧ d ≤ 7 → s ≤ lst u.l d → s ≤ lst v.l d := fun s hd7 hs => by
    rw [hv, lstUp_get hu (by omega) hd7]; split
    · rename_i e; subst e; omega
    · exact hs
  refine ⟨fun x hx e => ?_, fun x hx e => ?_⟩
  · rcases List.mem_cons.1 hx with rfl | hx
    · have hdd : d = d0 := by omega
      subst hdd
      rw [hv, lstUp_get hu (by omega) (by omega), if_pos rfl, hs]; omega
    · have := (hl.gr x hx).1.d; exact hlow _ (by omega) (h.1 x hx e)
  · have := (hl.or x hx).1.d; exact hlow _ (by omega) (h.2 x hx e)
theorem own_o {G : List Rec} {O : List Ord} {u : Usr} {d0 : Int} {q : Ord} (hl : Log G O) (hu : u.l.length = 8) (hd : 0 ≤ d0 ∧ d0 ≤ 2) (hq : q.d = d0) (hs : q.s = lst u.l d0 + 1) (v : Usr) (hv : v.l = lstUp u.l d0) {d : Int} (h : Own G O u d) : Own G (q :: O) v d := by
  have hlow : ∀ s : Int, 0 ≤ d ∧ d ≤ 7 → s ≤ lst u.l d → s ≤ lst v.l d := fun s hd7 hs => by
    rw [hv, lstUp_get hu (by omega) hd7]; split
    · rename_i e; subst e; omega
    · exact hs
  refine ⟨fun x hx e => ?_, fun x hx e => ?_⟩
  · have := (hl.gr x hx).1.d; exact hlow _ (by omega) (h.1 x hx e)
  · rcases List.mem_cons.1 hx with rfl | hx
    · have hdd : d = d0 := by omega
      subst hdd
      rw [hv, lstUp_get hu (by omega) (by omega), if_pos rfl, hs]; omega
    · have := (hl.or x hx).1.d; exact hlow _ (by omega) (h.2 x hx e)
theorem up_low {u : Usr} {k : Nat} (hu : u.l.length = 8) {d0 : Int} (hd : 0 ≤ d0 ∧ d0 ≤ 2) (h : ∀ d, 0 ≤ d ∧ d ≤ 7 → 0 ≤ lst u.l d ∧ lst u.l d ≤ (k : Int)) : ∀ d, 0 ≤ d ∧ d ≤ 7 → 0 ≤ lst (lstUp u.l d0) d ∧ lst (lstUp u.l d0) d ≤ ((k + 1 : Nat) : Int) := fun d hd7 => by
  rw [lstUp_get hu (by omega) hd7]
  have h1 := h d0 (by omega)
  have h2 := h d hd7
  split <;> omega
theorem VI.learn {k : Nat} {G : List Rec} {O : List Ord} {u : Usr} (h : VI k G O u) (hk : k ≤ 100) {r : Rec} (hr : NewR r) : VI (k + 1) (recAt r (lst u.l r.d + 1) :: G) O (learnF u r) := by
  have h0 := h.low r.d (by have := hr.d; omega)
  exact ⟨learn_log h.log (h.own _) hr (by omega), learn_knows h.log h.kn (h.own _) hr (by omega), by have := h.size; simp only [List.length_cons]; omega,
    fun d => own_r (q := recAt r (lst u.l r.d + 1)) h.log h.kn.l hr.d rfl rfl (learnF u r) rfl (h.own d), up_low h.kn.l hr.d h.low⟩
theorem VI.forget {k : Nat} {G : List Rec} {O : List Ord} {u : Usr} (h : VI k G O u) (hk : k ≤ 100) {r : Ord} (hr : NewO r) : VI (k + 1) G (ordAt r (lst u.l r.d + 1) :: O) (forgetF u r) := by
  have hd : 0 ≤ r.d ∧ r.d ≤ 2 := ⟨hr.r.d.1, hr.d⟩
  have h0 := h.low r.d (by omega)
  exact ⟨forget_log h.log (h.own _) hr (by omega), forget_knows h.log h.kn (h.own _) hr (by omega), by have := h.size; simp only [List.length_cons]; omega,
    fun d => own_o (q := ordAt r (lst u.l r.d + 1)) h.log h.kn.l hd rfl rfl (forgetF u r) rfl (h.own d), up_low h.kn.l hd h.low⟩
def VInv (k : Nat) (u : Usr) : Prop := ∃ G O, VI k G O u
theorem VInv.step {k : Nat} {u : Usr} (h : VInv k u) (hk : k ≤ 100) (x : Raw) : VInv (k + 1) (stepU u x) := by
  obtain ⟨G, O, h⟩ := h
  unfold stepU
  split
  · exact ⟨_, _, h.forget hk (ordOf_new x)⟩
  · exact ⟨_, _, h.learn hk (recOf_new x)⟩
theorem VInv.made (l : List Raw) : ∀ n, n ≤ l.length → n ≤ 100 → VInv n (madeU l n)
  | 0, _, _ => ⟨_, _, by unfold madeU; rw [List.take_zero]; exact VI.zero⟩
  | n + 1, h, hk => by
    have := VInv.made l n (by omega) (by omega)
    have e : madeU l (n + 1) = stepU (madeU l n) (l.getD n default) := by
      unfold madeU; rw [take_succ_d (by omega), List.foldl_append]; rfl
    rw [e]; exact this.step (by omega) _
theorem madeU_ge (l : List Raw) {n : Nat} (h : l.length ≤ n) : madeU l n = madeU l l.length := by
  unfold madeU; rw [List.take_of_length_le h, List.take_length]
theorem VInv.made' (l : List Raw) (n : Nat) (hn : n ≤ 100) : ∃ k, k ≤ n ∧ VInv k (madeU l n) := by
  by_cases h : n ≤ l.length
  · exact ⟨n, Nat.le_refl _, .made l n h hn⟩
  · rw [madeU_ge l (by omega)]; exact ⟨l.length, by omega, .made l _ (Nat.le_refl _) (by omega)⟩
/-! ### Teams -/
structure RawT where
  x : Raw
  sync : Bool
  wth : Int
  deriving Inhabited
def stepT (t : List Usr) (x : RawT) : List Usr :=
  let i := (x.x.dev % 3).toNat
  let k := (x.wth % 3).toNat
  if x.sync = true then (if (mergeF (t.getD i default) (t.getD k default)).2 = 0 then t.set i (mergeF (t.getD i default) (t.getD k default)).1 else t)
  else t.set i (stepU (t.getD i default) x.x)
def noTeam : List Usr := [noUsr, noUsr, noUsr]
def madeN (l : List RawT) (n : Nat) : List Usr := (l.take n).foldl stepT noTeam
structure TI (b : Bool) (k : Nat) (G : List Rec) (O : List Ord) (t : List Usr) : Prop where
  log : Log G O
  len : t.length = 3
  size : G.length + O.length ≤ k
  kn : ∀ i, i < 3 → Knows G O (t.getD i default)
  low : ∀ i, i < 3 → ∀ d, 0 ≤ d ∧ d ≤ 7 → 0 ≤ lst (t.getD i default).l d ∧ lst (t.getD i default).l d ≤ k
  top : ∀ i, i < 3 → ∀ j : Nat, j < 3 → lst (t.getD i default).l j ≤ lst (t.getD j default).l j
  own : ∀ i : Nat, i < 3 → Own G O (t.getD i default) i
  no : b = true → O = []
theorem set_get {t : List Usr} {i j : Nat} (h : i < t.length) (u : Usr) : (t.set i u).getD j default = if j = i then u else t.getD j default := by
  by_cases e : j = i
  · subst e; rw [if_pos rfl]; simp [List.getD, h]
  · rw [if_neg e]; simp [List.getD, List.getElem?_set_ne (Ne.symm e)]
theorem TI.zero (b : Bool) : TI b 0 [] [] noTeam := by
  have e : ∀ i, i < 3 → noTeam.getD i default = noUsr := fun i hi => by
    rcases (by omega : i = 0 ∨ i = 1 ∨ i = 2) with rfl | rfl | rfl <;> rfl
  exact ⟨.empty, rfl, by simp, fun i hi => by rw [e i hi]; exact .empty, fun i hi d hd => by rw [e i hi, no_lst]; omega, fun i hi j hj => by rw [e i hi, e j hj]; omega, fun i hi => ⟨by simp, by simp⟩, fun _ => rfl⟩
theorem TI.learn {b : Bool} {k : Nat} {G : List Rec} {O : List Ord} {t : List Usr} (h : TI b k G O t) (hk : k ≤ 100) {r : Rec} (hr : NewR r) {i : Nat} (hi : i < 3) (hd : r.d = i) :
    TI b (k + 1) (recAt r (lst (t.getD i default).l r.d + 1) :: G) O (t.set i (learnF (t.getD i default) r)) := by
  have hkn := h.kn i hi
  have hlow := h.low i hi
  have hown := h.own i hi
  have htop := h.top
  have hl3 := h.len
  have h0 := hlow r.d (by have := hr.d; omega)
  rw [← hd] at hown
  have hL : (learnF (t.getD i default) r).l = lstUp (t.getD i default).l r.d := rfl
  refine ⟨learn_log h.log hown hr (by omega), by rw [List.length_set]; exact hl3, by have := h.size; simp only [List.length_cons]; omega, fun j hj => ?_, fun j hj => ?_, fun j hj m hm => ?_, fun j hj => ?_, h.no⟩ <;> simp only [set_get (by omega : i < t.length)]
  · split
    · exact learn_knows h.log hkn hown hr (by omega)
    · refine learn_other (h.kn j hj) ?_
      have := htop j hj i hi
      simp only [recAt, hd]; omega
  · split
    · rw [hL]; exact up_low hkn.l hr.d hlow
    · intro d hd7; have := h.low j hj d hd7; omega
  · have t1 := htop j hj m hm
    have t2 := htop i hi m hm
    have t3 := htop j hj i hi
    split <;> split
    · omega
    · rw [hL, lstUp_get hkn.l (by have := hr.d; omega) (by omega), if_neg (by omega)]; omega
    · rename_i e; subst e
      rw [hL, lstUp_get hkn.l (by have := hr.d; omega) (by omega), if_pos hd.symm, hd]; omega
    · exact t1
  · split
    · rename_i e; subst e
      exact own_r (q := recAt r (lst (t.getD j default).l r.d + 1)) h.log hkn.l hr.d rfl rfl _ hL (h.own j hj)
    · refine ⟨fun x hx e => ?_, (h.own j hj).2⟩
      rcases List.mem_cons.1 hx with rfl | hx
      · simp only [recAt] at e; omega
      · exact (h.own j hj).1 x hx e
theorem TI.forget {b : Bool} {k : Nat} {G : List Rec} {O : List Ord} {t : List Usr} (h : TI b k G O t) (hb : b = false) (hk : k ≤ 100) {r : Ord} (hr : NewO r) {i : Nat} (hi : i < 3) (hd : r.d = i) :
    TI b (k + 1) G (ordAt r (lst (t.getD i default).l r.d + 1) :: O) (t.set i (forgetF (t.getD i default) r)) := by
  have hd2 : 0 ≤ r.d ∧ r.d ≤ 2 := ⟨hr.r.d.1, hr.d⟩
  have hkn := h.kn i hi
  have hlow := h.low i hi
  have hown := h.own i hi
  have htop := h.top
  have hl3 := h.len
  have h0 := hlow r.d (by omega)
  rw [← hd] at hown
  have hL : (forgetF (t.getD i default) r).l = lstUp (t.getD i default).l r.d := rfl
  refine ⟨forget_log h.log hown hr (by omega), by rw [List.length_set]; exact hl3, by have := h.size; simp only [List.length_cons]; omega, fun j hj => ?_, fun j hj => ?_, fun j hj m hm => ?_, fun j hj => ?_, fun e => (by rw [hb] at e; cases e)⟩ <;> simp only [set_get (by omega : i < t.length)]
  · split
    · exact forget_knows h.log hkn hown hr (by omega)
    · refine forget_other (h.kn j hj) ?_
      have := htop j hj i hi
      simp only [ordAt, hd]; omega
  · split
    · rw [hL]; exact up_low hkn.l hd2 hlow
    · intro d hd7; have := h.low j hj d hd7; omega
  · have t1 := htop j hj m hm
    have t2 := htop i hi m hm
    have t3 := htop j hj i hi
    split <;> split
    · omega
    · rw [hL, lstUp_get hkn.l (by omega) (by omega), if_neg (by omega)]; omega
    · rename_i e; subst e
      rw [hL, lstUp_get hkn.l (by omega) (by omega), if_pos hd.symm, hd]; omega
    · exact t1
  · split
    · rename_i e; subst e
      exact own_o (q := ordAt r (lst (t.getD j default).l r.d + 1)) h.log hkn.l hd2 rfl rfl _ hL (h.own j hj)
    · refine ⟨(h.own j hj).1, fun x hx e => ?_⟩
      rcases List.mem_cons.1 hx with rfl | hx
      · simp only [ordAt] at e; omega
      · exact (h.own j hj).2 x hx e
theorem TI.sync {b : Bool} {k : Nat} {G : List Rec} {O : List Ord} {t : List Usr} (h : TI b k G O t) (hk : k ≤ 100) {i p : Nat} (hi : i < 3) (hp : p < 3) :
    ∃ m, mergeF (t.getD i default) (t.getD p default) = (m, 0) ∧ TI b (k + 1) G O (t.set i m) := by
  obtain ⟨m, hm, hM, hK⟩ := (h.kn i hi).merge h.log (by have := h.size; omega) (by have := h.size; omega) (h.kn p hp)
  have htop := h.top
  have hl3 := h.len
  refine ⟨m, hm, h.log, by rw [List.length_set]; exact hl3, by have := h.size; omega, fun j hj => ?_, fun j hj => ?_, fun j hj q hq => ?_, fun j hj => ?_, h.no⟩ <;> simp only [set_get (by omega : i < t.length)]
  · split
    · exact hK
    · exact h.kn j hj
  · split
    · intro d hd
      have h1 := h.low i hi d hd
      have h2 := h.low p hp d hd
      rw [hM.l, maxL_lst _ _ hd.2]; omega
    · intro d hd; have := h.low j hj d hd; omega
  · have t1 := htop j hj q hq
    have t2 := htop i hi q hq
    have t3 := htop p hp q hq
    have t4 := htop j hj i hi
    split <;> split
    · omega
    · rw [hM.l, maxL_lst _ _ (by omega)]; omega
    · rename_i e; subst e
      rw [hM.l, maxL_lst _ _ (by omega)]; omega
    · exact t1
  · split
    · rename_i e; subst e
      have h1 := h.own j hj
      have h2 : ∀ s : Int, s ≤ lst (t.getD j default).l j → s ≤ lst m.l j := fun s hs => by rw [hM.l, maxL_lst _ _ (by omega)]; omega
      exact ⟨fun x hx e => h2 _ (h1.1 x hx e), fun x hx e => h2 _ (h1.2 x hx e)⟩
    · exact h.own j hj
def TInv (b : Bool) (k : Nat) (t : List Usr) : Prop := ∃ G O, TI b k G O t
theorem TInv.step {b : Bool} {k : Nat} {t : List Usr} (h : TInv b k t) (hk : k ≤ 100) (x : RawT) (hb : b = true → x.sync = true ∨ isOrdB x.x = false) : TInv b (k + 1) (stepT t x) := by
  obtain ⟨G, O, h⟩ := h
  unfold stepT
  have hi : (x.x.dev % 3).toNat < 3 := by omega
  have hp : (x.wth % 3).toNat < 3 := by omega
  have hd : x.x.dev % 3 = ((x.x.dev % 3).toNat : Int) := by omega
  simp only
  split
  · obtain ⟨m, e, hT⟩ := h.sync hk hi hp
    rw [e]
    simp only [if_true]
    exact ⟨_, _, hT⟩
  · rename_i hs
    unfold stepU
    split
    · rename_i ho
      refine ⟨_, _, h.forget ?_ hk (ordOf_new x.x) hi (by rw [ordOf_d]; exact hd)⟩
      cases b with
      | false => rfl
      | true => exact (hb rfl).elim (fun e => absurd e hs) (fun e => by rw [ho] at e; cases e)
    · exact ⟨_, _, h.learn hk (recOf_new x.x) hi (by rw [recOf_d]; exact hd)⟩
theorem TInv.made (b : Bool) (l : List RawT) (hb : b = true → ∀ x ∈ l, x.sync = true ∨ isOrdB x.x = false) : ∀ n, n ≤ l.length → n ≤ 100 → TInv b n (madeN l n)
  | 0, _, _ => ⟨_, _, by unfold madeN; rw [List.take_zero]; exact TI.zero b⟩
  | n + 1, h, hk => by
    have := TInv.made b l hb n (by omega) (by omega)
    have e : madeN l (n + 1) = stepT (madeN l n) (l.getD n default) := by
      unfold madeN; rw [take_succ_d (by omega), List.foldl_append]; rfl
    rw [e]; exact this.step (by omega) _ (fun e => hb e _ (by
      have : n < l.length := by omega
      simp [List.getD, this]))
theorem madeN_ge (l : List RawT) {n : Nat} (h : l.length ≤ n) : madeN l n = madeN l l.length := by
  unfold madeN; rw [List.take_of_length_le h, List.take_length]
theorem TInv.made' (b : Bool) (l : List RawT) (hb : b = true → ∀ x ∈ l, x.sync = true ∨ isOrdB x.x = false) (n : Nat) (hn : n ≤ 100) : ∃ k, k ≤ n ∧ TInv b k (madeN l n) := by
  by_cases h : n ≤ l.length
  · exact ⟨n, Nat.le_refl _, .made b l hb n h hn⟩
  · rw [madeN_ge l (by omega)]; exact ⟨l.length, by omega, .made b l hb _ (Nat.le_refl _) (by omega)⟩
end Go.Proofs

/- Devices: the reference's Merge, Since and Clean are the program's (no program). -/
set_option linter.unusedVariables false
set_option linter.unusedSimpArgs false
namespace Go.Proofs
open Go Go.Ideal
set_option maxRecDepth 8000
set_option linter.unusedVariables false
/-! ### Users that are valid -/
structure ValU (u : Usr) : Prop where
  ri : Inc (·.d) (·.s) u.r
  oi : Inc (·.d) (·.s) u.o
  l : u.l.length = 8
  rr : ∀ x ∈ u.r, RightR x ∧ x.s ≤ lst u.l x.d
  oo : ∀ x ∈ u.o, RightO x ∧ x.s ≤ lst u.l x.d
  nm : ∀ x ∈ u.r, meantB u.o x = false
  ro : ∀ x ∈ u.r, ∀ y ∈ u.o, ¬ (x.d = y.d ∧ x.s = y.s)
  low : ∀ d, 0 ≤ d ∧ d ≤ 7 → 0 ≤ lst u.l d ∧ lst u.l d ≤ 1000000
  rl : u.r.length ≤ 200
  ol : u.o.length ≤ 200
theorem Knows.val {G : List Rec} {O : List Ord} {u : Usr} (h : Knows G O u) (hl : Log G O) (h1 : G.length ≤ 100) (h2 : O.length ≤ 100) (low : ∀ d, 0 ≤ d ∧ d ≤ 7 → 0 ≤ lst u.l d ∧ lst u.l d ≤ 1000000) : ValU u where
  ri := h.ri
  oi := h.oi
  l := h.l
  rr x hx := ⟨(hl.gr x ((h.rm x).1 hx).1).1, ((h.rm x).1 hx).2.1⟩
  oo x hx := ⟨(hl.or x ((h.om x).1 hx).1).1, ((h.om x).1 hx).2⟩
  nm x hx := ((h.rm x).1 hx).2.2
  ro x hx y hy := hl.go x ((h.rm x).1 hx).1 y ((h.om y).1 hy).1
  low := low
  rl := by have := h.r_len; omega
  ol := by have := h.o_len; omega
theorem ValU.ok {u : Usr} (h : ValU u) : OkU u := ⟨fun x hx => (h.rr x hx).1, fun x hx => (h.oo x hx).1, h.l, by have := h.rl; omega, by have := h.ol; omega⟩
theorem ValU.filter {u : Usr} (h : ValU u) (p : Rec → Bool) (q : Ord → Bool) : ValU ⟨u.r.filter p, u.o.filter q, u.l⟩ where
  ri := h.ri.filter p
  oi := h.oi.filter q
  l := h.l
  rr x hx := h.rr x (List.mem_filter.1 hx).1
  oo x hx := h.oo x (List.mem_filter.1 hx).1
  nm x hx := by
    have := h.nm x (List.mem_filter.1 hx).1
    rw [meant_no] at this ⊢
    exact fun o ho => this o (List.mem_filter.1 ho).1
  ro x hx y hy := h.ro x (List.mem_filter.1 hx).1 y (List.mem_filter.1 hy).1
  low := h.low
  rl := by have := h.rl; have := List.length_filter_le p u.r; simp only; omega
  ol := by have := h.ol; have := List.length_filter_le q u.o; simp only; omega
theorem VInv.val {k : Nat} {u : Usr} (h : VInv k u) (hk : k ≤ 100) : ValU u := by
  obtain ⟨G, O, h⟩ := h
  exact h.kn.val h.log (by have := h.size; omega) (by have := h.size; omega) (fun d hd => by have := h.low d hd; omega)
theorem VInv.len {k : Nat} {u : Usr} (h : VInv k u) : u.r.length ≤ k ∧ u.o.length ≤ k := by
  obtain ⟨G, O, h⟩ := h
  have := h.kn.r_len; have := h.kn.o_len; have := h.size; omega
/-! ### Merge -/
def agreeB (a b : Usr) : Bool :=
  (a.r.all fun r => (b.r.all fun q => !(decide (q.d = r.d) && decide (q.s = r.s) && decide (q ≠ r))) && (b.o.all fun q => !(decide (q.d = r.d) && decide (q.s = r.s)))) &&
  (a.o.all fun o => b.o.all fun q => !(decide (q.d = o.d) && decide (q.s = o.s) && decide (q ≠ o)))
def addO (l : List Ord) (o : Ord) : List Ord := if o ∈ l then l else insO o l
def addR (l : List Rec) (r : Rec) : List Rec := if r ∈ l then l else insR r l
def mergeRF (a b : Usr) : Usr × Int :=
  if agreeB a b = true ∧ agreeB b a = true then
    let O := b.o.foldl addO a.o
    let K := keptF O (b.r.foldl addR a.r)
    if K.length > 400 ∨ O.length > 400 then (noUsr, 260) else (⟨K, O, maxL a.l b.l⟩, 0)
  else (noUsr, 260)
theorem agree_iff (a b : Usr) : agreeB a b = true ↔ (∀ x ∈ a.r, ∀ y ∈ b.r, x.d = y.d → x.s = y.s → x = y) ∧ (∀ x ∈ a.r, ∀ y ∈ b.o, ¬ (x.d = y.d ∧ x.s = y.s)) ∧ (∀ x ∈ a.o, ∀ y ∈ b.o, x.d = y.d → x.s = y.s → x = y) := by
  unfold agreeB
  simp only [Bool.and_eq_true, List.all_eq_true, Bool.not_eq_true', Bool.and_eq_false_iff, decide_eq_false_iff_not, Decidable.not_not, ne_eq]
  constructor
  · rintro ⟨h1, h2⟩
    refine ⟨fun x hx y hy e1 e2 => ?_, fun x hx y hy ⟨e1, e2⟩ => ?_, fun x hx y hy e1 e2 => ?_⟩
    · rcases (h1 x hx).1 y hy with (h | h) | h
      · exact absurd e1.symm h
      · exact absurd e2.symm h
      · exact h.symm
    · rcases (h1 x hx).2 y hy with h | h
      · exact h e1.symm
      · exact h e2.symm
    · rcases h2 x hx y hy with (h | h) | h
      · exact absurd e1.symm h
      · exact absurd e2.symm h
      · exact h.symm
  · rintro ⟨h1, h2, h3⟩
    refine ⟨fun x hx => ⟨fun y hy => ?_, fun y hy => ?_⟩, fun x hx y hy => ?_⟩
    · by_cases e1 : y.d = x.d
      · by_cases e2 : y.s = x.s
        · exact .inr (h1 x hx y hy e1.symm e2.symm).symm
        · exact .inl (.inr e2)
      · exact .inl (.inl e1)
    · by_cases e1 : y.d = x.d
      · by_cases e2 : y.s = x.s
        · exact absurd ⟨e1.symm, e2.symm⟩ (h2 x hx y hy)
        · exact .inr e2
      · exact .inl e1
    · by_cases e1 : y.d = x.d
      · by_cases e2 : y.s = x.s
        · exact .inr (h3 x hx y hy e1.symm e2.symm).symm
        · exact .inl (.inr e2)
      · exact .inl (.inl e1)
theorem addO_inv : ∀ (m l : List Ord), Inc (·.d) (·.s) l → (∀ x ∈ l, ∀ y ∈ m, x.d = y.d → x.s = y.s → x = y) → Inc (·.d) (·.s) m → Inc (·.d) (·.s) (m.foldl addO l) ∧ (∀ x, x ∈ m.foldl addO l ↔ x ∈ l ∨ x ∈ m) ∧ (m.foldl addO l).length ≤ l.length + m.length
  | [], l, h, _, _ => ⟨h, fun x => by simp, by simp⟩
  | y :: m, l, h, hc, hm => by
    have hm' := Inc.cons_iff.1 hm
    have h1 : Inc (·.d) (·.s) (addO l y) := by
      unfold addO; split
      · exact h
      · rename_i hn
        exact insO_inc h fun x hx ⟨e1, e2⟩ => hn (hc x hx y (by simp) e1 e2 ▸ hx)
    have h2 : ∀ x, x ∈ addO l y ↔ x = y ∨ x ∈ l := fun x => by
      unfold addO; split
      · rename_i hi
        exact ⟨.inr, fun h => h.elim (fun e => e ▸ hi) id⟩
      · exact insO_mem y l x
    have h4 : (addO l y).length ≤ l.length + 1 := by
      unfold addO; split
      · omega
      · have e : (l.takeWhile (befOO y)).length + (l.dropWhile (befOO y)).length = l.length := by rw [← List.length_append, List.takeWhile_append_dropWhile]
        unfold insO; simp only [List.length_append, List.length_cons]; omega
    obtain ⟨r1, r2, r3⟩ := addO_inv m (addO l y) h1 (fun x hx z hz e1 e2 => by
      rcases (h2 x).1 hx with rfl | hx
      · have := hm'.1 z hz; omega
      · exact hc x hx z (by simp [hz]) e1 e2) hm'.2
    refine ⟨r1, fun x => ?_, by simp only [List.foldl_cons, List.length_cons]; omega⟩
    rw [List.foldl_cons, r2, h2, List.mem_cons]
    constructor
    · rintro ((h | h) | h)
      · exact .inr (.inl h)
      · exact .inl h
      · exact .inr (.inr h)
    · rintro (h | h | h)
      · exact .inl (.inr h)
      · exact .inl (.inl h)
      · exact .inr h
theorem addR_inv : ∀ (m l : List Rec), Inc (·.d) (·.s) l → (∀ x ∈ l, ∀ y ∈ m, x.d = y.d → x.s = y.s → x = y) → Inc (·.d) (·.s) m → Inc (·.d) (·.s) (m.foldl addR l) ∧ (∀ x, x ∈ m.foldl addR l ↔ x ∈ l ∨ x ∈ m) ∧ (m.foldl addR l).length ≤ l.length + m.length
  | [], l, h, _, _ => ⟨h, fun x => by simp, by simp⟩
  | y :: m, l, h, hc, hm => by
    have hm' := Inc.cons_iff.1 hm
    have h1 : Inc (·.d) (·.s) (addR l y) := by
      unfold addR; split
      · exact h
      · rename_i hn
        exact insR_inc h fun x hx ⟨e1, e2⟩ => hn (hc x hx y (by simp) e1 e2 ▸ hx)
    have h2 : ∀ x, x ∈ addR l y ↔ x = y ∨ x ∈ l := fun x => by
      unfold addR; split
      · rename_i hi
        exact ⟨.inr, fun h => h.elim (fun e => e ▸ hi) id⟩
      · exact insR_mem y l x
    have h4 : (addR l y).length ≤ l.length + 1 := by
      unfold addR; split
      · omega
      · have e : (l.takeWhile (befRR y)).length + (l.dropWhile (befRR y)).length = l.length := by rw [← List.length_append, List.takeWhile_append_dropWhile]
        unfold insR; simp only [List.length_append, List.length_cons]; omega
    obtain ⟨r1, r2, r3⟩ := addR_inv m (addR l y) h1 (fun x hx z hz e1 e2 => by
      rcases (h2 x).1 hx with rfl | hx
      · have := hm'.1 z hz; omega
      · exact hc x hx z (by simp [hz]) e1 e2) hm'.2
    refine ⟨r1, fun x => ?_, by simp only [List.foldl_cons, List.length_cons]; omega⟩
    rw [List.foldl_cons, r2, h2, List.mem_cons]
    constructor
    · rintro ((h | h) | h)
      · exact .inr (.inl h)
      · exact .inl h
      · exact .inr (.inr h)
    · rintro (h | h | h)
      · exact .inl (.inr h)
      · exact .inl (.inl h)
      · exact .inr h
theorem merge_bad_r {a b : Usr} (h : uniF (·.d) (·.s) a.r b.r = none) : mergeF a b = (noUsr, 260) := by unfold mergeF; rw [h]
theorem merge_bad_o {a b : Usr} (h : uniF (·.d) (·.s) a.o b.o = none) : mergeF a b = (noUsr, 260) := by
  unfold mergeF; split
  · rfl
  · rw [h]
theorem merge_bad_c {a b : Usr} (ha : ValU a) (hb : ValU b) {x : Rec} {y : Ord} (hx : x ∈ a.r ∨ x ∈ b.r) (hy : y ∈ a.o ∨ y ∈ b.o) (e : x.d = y.d ∧ x.s = y.s) : mergeF a b = (noUsr, 260) := by
  unfold mergeF; split
  · rfl
  · rename_i R hR
    split
    · rfl
    · rename_i P hP
      have iR := uni_inc _ _ _ _ (Nat.le_refl _) ha.ri hb.ri hR
      have iP := uni_inc _ _ _ _ (Nat.le_refl _) ha.oi hb.oi hP
      have mR := uni_iff _ _ _ _ (Nat.le_refl _) hR
      have mP := uni_iff _ _ _ _ (Nat.le_refl _) hP
      rw [if_pos]
      exact .inl ((clash_iff _ R P (Nat.le_refl _) iR iP).2 ⟨x, (mR x).2 hx, y, (mP y).2 hy, e⟩)
theorem mergeRF_eq {a b : Usr} (ha : ValU a) (hb : ValU b) : mergeRF a b = mergeF a b := by
  by_cases h1 : ∀ x ∈ a.r, ∀ y ∈ b.r, x.d = y.d → x.s = y.s → x = y
  rotate_left
  · have hn : ¬ (agreeB a b = true ∧ agreeB b a = true) := fun h => h1 ((agree_iff a b).1 h.1).1
    unfold mergeRF; rw [if_neg hn]
    obtain ⟨x, h1⟩ := Classical.not_forall.1 h1
    obtain ⟨hx, h1⟩ := Classical.not_imp.1 h1
    obtain ⟨y, h1⟩ := Classical.not_forall.1 h1
    obtain ⟨hy, h1⟩ := Classical.not_imp.1 h1
    obtain ⟨e1, h1⟩ := Classical.not_imp.1 h1
    obtain ⟨e2, h1⟩ := Classical.not_imp.1 h1
    rw [merge_bad_r (uni_none ha.ri hb.ri hx hy e1 e2 h1)]
  by_cases h2 : ∀ x ∈ a.o, ∀ y ∈ b.o, x.d = y.d → x.s = y.s → x = y
  rotate_left
  · have hn : ¬ (agreeB a b = true ∧ agreeB b a = true) := fun h => h2 ((agree_iff a b).1 h.1).2.2
    unfold mergeRF; rw [if_neg hn]
    obtain ⟨x, h1⟩ := Classical.not_forall.1 h2
    obtain ⟨hx, h1⟩ := Classical.not_imp.1 h1
    obtain ⟨y, h1⟩ := Classical.not_forall.1 h1
    obtain ⟨hy, h1⟩ := Classical.not_imp.1 h1
    obtain ⟨e1, h1⟩ := Classical.not_imp.1 h1
    obtain ⟨e2, h1⟩ := Classical.not_imp.1 h1
    rw [merge_bad_o (uni_none ha.oi hb.oi hx hy e1 e2 h1)]
  by_cases h3 : ∀ x ∈ a.r, ∀ y ∈ b.o, ¬ (x.d = y.d ∧ x.s = y.s)
  rotate_left
  · have hn : ¬ (agreeB a b = true ∧ agreeB b a = true) := fun h => h3 ((agree_iff a b).1 h.1).2.1
    unfold mergeRF; rw [if_neg hn]
    obtain ⟨x, h1⟩ := Classical.not_forall.1 h3
    obtain ⟨hx, h1⟩ := Classical.not_imp.1 h1
    obtain ⟨y, h1⟩ := Classical.not_forall.1 h1
    obtain ⟨hy, h1⟩ := Classical.not_imp.1 h1
    rw [merge_bad_c ha hb (.inl hx) (.inr hy) (Decidable.not_not.1 h1)]
  by_cases h4 : ∀ x ∈ b.r, ∀ y ∈ a.o, ¬ (x.d = y.d ∧ x.s = y.s)
  rotate_left
  · have hn : ¬ (agreeB a b = true ∧ agreeB b a = true) := fun h => h4 ((agree_iff b a).1 h.2).2.1
    unfold mergeRF; rw [if_neg hn]
    obtain ⟨x, h1⟩ := Classical.not_forall.1 h4
    obtain ⟨hx, h1⟩ := Classical.not_imp.1 h1
    obtain ⟨y, h1⟩ := Classical.not_forall.1 h1
    obtain ⟨hy, h1⟩ := Classical.not_imp.1 h1
    rw [merge_bad_c ha hb (.inr hx) (.inl hy) (Decidable.not_not.1 h1)]
  have hy : agreeB a b = true ∧ agreeB b a = true := ⟨(agree_iff a b).2 ⟨h1, h3, h2⟩, (agree_iff b a).2 ⟨fun x hx y hy e1 e2 => (h1 y hy x hx e1.symm e2.symm).symm, h4, fun x hx y hy e1 e2 => (h2 y hy x hx e1.symm e2.symm).symm⟩⟩
  obtain ⟨m, hm, hM⟩ := merge_ok ⟨ha.ri, ha.oi, hb.ri, hb.oi, by have := ha.rl; have := hb.rl; omega, by have := ha.ol; have := hb.ol; omega⟩ h1 h2 (fun x hx y hy => by
    rcases hx with hx | hx <;> rcases hy with hy | hy
    · exact ha.ro x hx y hy
    · exact h3 x hx y hy
    · exact h4 x hx y hy
    · exact hb.ro x hx y hy)
  obtain ⟨o1, o2, o3⟩ := addO_inv b.o a.o ha.oi h2 hb.oi
  obtain ⟨r1, r2, r3⟩ := addR_inv b.r a.r ha.ri h1 hb.ri
  have lK := List.length_filter_le (fun r => !meantB (b.o.foldl addO a.o) r) (b.r.foldl addR a.r)
  unfold mergeRF
  rw [if_pos hy, hm]
  simp only
  have := ha.rl; have := hb.rl; have := ha.ol; have := hb.ol
  rw [if_neg (by unfold keptF; omega)]
  have : Merged a b ⟨keptF (b.o.foldl addO a.o) (b.r.foldl addR a.r), b.o.foldl addO a.o, maxL a.l b.l⟩ :=
    ⟨r1.filter _, o1, rfl, o2, fun x => by simp only [keptF, List.mem_filter, r2, Bool.not_eq_true'], by simp only [keptF]; omega, o3⟩
  rw [this.ext hM]
/-! ### Since, Clean -/
end Go.Proofs

