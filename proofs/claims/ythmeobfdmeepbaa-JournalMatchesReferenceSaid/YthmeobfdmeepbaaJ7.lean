/- The plain laws of the journal. -/
import Derived.Test.YthmeobfdmeepbaaJ5
set_option linter.unusedVariables false
set_option linter.unusedSimpArgs false
namespace Go.Proofs
open Go Go.Ideal
set_option maxRecDepth 8000
set_option maxHeartbeats 8000000

theorem tb_ok (c : UInt8) : okb (tb c) = true := by
  rw [okb_iff, tb_nat]; omega
theorem txt_ok (l : List UInt8) : fit (txt l) = true := by
  have h1 : (txt l).length ≤ 30 := by simp [txt]; omega
  have h2 : (txt l).all okb = true := by
    rw [List.all_eq_true]; intro x hx
    obtain ⟨y, _, rfl⟩ := List.mem_map.1 hx
    exact tb_ok y
  simp [fit, h2]; omega
theorem txt_len (l : List UInt8) : (txt l).length ≤ 30 := by simp [txt]; omega

def jrn (ls : List (List UInt8)) : List UInt8 := ls.flatMap entry
theorem jrn_len {ls : List (List UInt8)} (h : ∀ x ∈ ls, x.length ≤ 30) : (jrn ls).length ≤ ls.length * 40 := by
  induction ls with
  | nil => simp [jrn]
  | cons x ls ih =>
    have h1 := ih (fun y hy => h y (by simp [hy]))
    have h2 := h x (by simp)
    simp only [jrn, List.flatMap_cons, List.length_append, entry_len, List.length_cons] at *
    omega
theorem jrn_snoc (ls : List (List UInt8)) (x : List UInt8) : jrn (ls ++ [x]) = jrn ls ++ entry x := by simp [jrn]
theorem jrn_app (ls ms : List (List UInt8)) : jrn (ls ++ ms) = jrn ls ++ jrn ms := by simp [jrn]

theorem getD8 {x y : List UInt8} (h : x.length = 8) : (x ++ 32 :: y).getD 8 0 = 32 := by
  simp [List.getD, List.getElem?_append_right, h]

/-- The entry of a line is read. -/
theorem first_entry {x rest : List UInt8} (hx : fit x = true) : first (entry x ++ rest) = some x := by
  have hl := fit_len hx
  have hno : ∀ y ∈ sumS x ++ [32] ++ x, y ≠ 10 := by
    have h1 : ∀ y ∈ sumS x, y ≠ 10 := by
      intro y hy
      have : ∀ n, hexd n ≠ 10 := by
        intro n
        have : ∀ d ∈ digs, d ≠ 10 := by decide
        apply this
        unfold hexd
        have hd := dig_lt n
        simp [List.getD, hd]
      simp only [sumS, hexs, List.mem_append, List.mem_cons, List.not_mem_nil, or_false] at hy
      rcases hy with (rfl | rfl | rfl | rfl) | (rfl | rfl | rfl | rfl) <;> exact this _
    intro y hy
    rw [List.mem_append, List.mem_append] at hy
    rcases hy with (hy | hy) | hy
    · exact h1 y hy
    · simp at hy; subst hy; decide
    · simp [fit] at hx
      have := hx.2 y hy
      intro e; subst e; revert this; decide
  have hlen : (sumS x ++ [32] ++ x).length = x.length + 9 := by simp [sumS_len]; omega
  have he : entry x ++ rest = (sumS x ++ [32] ++ x) ++ 10 :: rest := by simp [entry]
  have hix : ix ((entry x ++ rest).take 210) = some (x.length + 9) := by
    refine ix_some ?_ ?_ ?_
    · rw [he]; simp only [List.length_take, List.length_append, List.length_cons, hlen] at *; omega
    · have : ((entry x ++ rest).take 210)[x.length + 9]? = some 10 := by
        rw [List.getElem?_take, if_pos (by omega), he, List.getElem?_append_right (by omega), hlen]; simp
      simp [List.getD, this]
    · intro y hy
      apply hno
      rw [List.take_take, Nat.min_eq_left (by omega), he, List.take_append_of_le_length (by omega), List.take_of_length_le (by omega)] at hy
      exact hy
  have h9 : ((entry x ++ rest).take (x.length + 9)).drop 9 = x := by
    rw [he, List.take_append_of_le_length (by omega), List.take_of_length_le (by omega), List.drop_append_of_le_length (by simp [sumS_len]), List.drop_of_length_le (by simp [sumS_len])]
    rfl
  have h8 : (entry x ++ rest).take 8 = sumS x := by
    simp only [entry, List.append_assoc]
    rw [List.take_append_of_le_length (by simp [sumS_len]), List.take_of_length_le (by simp [sumS_len])]
  have hsp : (entry x ++ rest).getD 8 0 = 32 := by
    simp only [entry, List.append_assoc, List.singleton_append]
    exact getD8 (sumS_len x)
  unfold first
  rw [hix]
  simp only [h9, h8, hsp, hx]
  simp

theorem reads_app {ls : List (List UInt8)} (h : ∀ x ∈ ls, fit x = true) {rest : List UInt8} {ms : List (List UInt8)} {n : Nat} (hr : Reads rest ms n) : Reads (jrn ls ++ rest) (ls ++ ms) ((jrn ls).length + n) := by
  induction ls with
  | nil => simpa [jrn] using hr
  | cons x ls ih =>
    have h1 := ih (fun y hy => h y (by simp [hy]))
    have e : jrn (x :: ls) ++ rest = entry x ++ (jrn ls ++ rest) := by simp [jrn]
    have el : (jrn (x :: ls)).length + n = x.length + 10 + ((jrn ls).length + n) := by simp [jrn, entry_len]; omega
    rw [e, el]
    refine .step (first_entry (h x (by simp))) ?_
    rw [List.drop_append_of_le_length (Nat.le_of_eq (entry_len x).symm), List.drop_of_length_le (Nat.le_of_eq (entry_len x))]
    simpa using h1
theorem first_nil : first [] = none := rfl
theorem reads_jrn {ls : List (List UInt8)} (h : ∀ x ∈ ls, fit x = true) : Reads (jrn ls) ls (jrn ls).length := by
  simpa using reads_app h (.stop first_nil)

theorem no10 {x : List UInt8} (hx : fit x = true) : ∀ y ∈ sumS x ++ [32] ++ x, y ≠ 10 := by
  have h1 : ∀ y ∈ sumS x, y ≠ 10 := by
    intro y hy
    have : ∀ n, hexd n ≠ 10 := by
      intro n
      have : ∀ d ∈ digs, d ≠ 10 := by decide
      apply this
      unfold hexd
      have hd := dig_lt n
      simp [List.getD, hd]
    simp only [sumS, hexs, List.mem_append, List.mem_cons, List.not_mem_nil, or_false] at hy
    rcases hy with (rfl | rfl | rfl | rfl) | (rfl | rfl | rfl | rfl) <;> exact this _
  intro y hy
  rw [List.mem_append, List.mem_append] at hy
  rcases hy with (hy | hy) | hy
  · exact h1 y hy
  · simp at hy; subst hy; decide
  · simp [fit] at hx
    have := hx.2 y hy
    intro e; subst e; revert this; decide
theorem pre_len (x : List UInt8) : (sumS x ++ [32] ++ x).length = x.length + 9 := by simp [sumS_len]; omega
theorem entry_eq (x rest : List UInt8) : entry x ++ rest = (sumS x ++ [32] ++ x) ++ 10 :: rest := by simp [entry]

theorem first_none {b : List UInt8} (h : ∀ y ∈ b.take 210, y ≠ 10) : first b = none := by
  have := ix_none.2 h
  unfold first; rw [this]

theorem first_torn {x rest : List UInt8} (hx : fit x = true) {n : Nat} (hn : n < x.length + 10) : first ((entry x ++ rest).take n) = none := by
  apply first_none
  intro y hy
  have hy := List.mem_of_mem_take hy
  rw [entry_eq, List.take_append_of_le_length (by rw [pre_len]; omega)] at hy
  exact no10 hx y (List.mem_of_mem_take hy)

theorem jrn_cons (x : List UInt8) (ls : List (List UInt8)) : jrn (x :: ls) = entry x ++ jrn ls := by simp [jrn]
theorem torn {ls : List (List UInt8)} (h : ∀ x ∈ ls, fit x = true) (n : Nat) : ∀ i b, b ≤ n → ∃ k m, whole n ls i b = (i + k, b + m) ∧ k ≤ ls.length ∧ Reads ((jrn ls).take (n - b)) (ls.take k) m := by
  induction ls with
  | nil => intro i b _; exact ⟨0, 0, rfl, by simp, by simpa [jrn] using Reads.stop first_nil⟩
  | cons x ls ih =>
    intro i b hb
    have hx := h x (by simp)
    rw [whole]
    by_cases hn : n < b + x.length + 10
    · rw [if_pos hn]
      refine ⟨0, 0, rfl, by simp, ?_⟩
      rw [jrn_cons]
      exact .stop (first_torn hx (by omega))
    · rw [if_neg hn]
      obtain ⟨k, m, h1, h2, h3⟩ := ih (fun y hy => h y (by simp [hy])) (i + 1) (b + x.length + 10) (by omega)
      refine ⟨k + 1, x.length + 10 + m, by rw [h1]; congr 1 <;> omega, by simp; omega, ?_⟩
      have hel := entry_len x
      have e : (jrn (x :: ls)).take (n - b) = entry x ++ (jrn ls).take (n - (b + x.length + 10)) := by
        rw [jrn_cons, List.take_append, hel, List.take_of_length_le (by omega)]
        congr 2; omega
      rw [e, List.take_succ_cons]
      refine .step (first_entry hx) ?_
      rw [List.drop_append_of_le_length (by omega), List.drop_of_length_le (by omega)]
      simpa using h3

/-! Sums -/
def tot (l : List UInt8) : Nat := (l.map (·.toNat)).sum
theorem tot_app (l m : List UInt8) : tot (l ++ m) = tot l + tot m := by simp [tot]
theorem tot_le (l : List UInt8) : tot l ≤ l.length * 255 := by
  induction l with
  | nil => simp [tot]
  | cons c l ih =>
    have := c.toNat_lt
    simp [tot] at ih ⊢; omega
theorem adl_one (l : List UInt8) : (adl l).1 = (1 + tot l) % 65521 := by
  have : ∀ (l : List UInt8) (p : Nat × Nat), p.1 < 65521 → (l.foldl step p).1 = (p.1 + tot l) % 65521 := by
    intro l
    induction l with
    | nil => intro p hp; simp [tot, Nat.mod_eq_of_lt hp]
    | cons c l ih =>
      intro p hp
      rw [List.foldl_cons, ih _ (step_lt p c).1]
      simp only [step, tot, List.map_cons, List.sum_cons]
      omega
  exact this l (1, 0) (by decide)
theorem hexd_inj {a b : Nat} (h : hexd a = hexd b) : a % 16 = b % 16 := by
  have key : ∀ i j : Fin 16, digs.getD i 0 = digs.getD j 0 → i = j := by decide
  have := key ⟨a % 16, Nat.mod_lt _ (by decide)⟩ ⟨b % 16, Nat.mod_lt _ (by decide)⟩ h
  simpa using this
theorem hexs_inj {a b : Nat} (ha : a < 65536) (hb : b < 65536) (h : hexs a = hexs b) : a = b := by
  simp only [hexs, List.cons.injEq, and_true] at h
  have h1 := hexd_inj h.1
  have h2 := hexd_inj h.2.1
  have h3 := hexd_inj h.2.2.1
  have h4 := hexd_inj h.2.2.2
  omega
theorem sum_tot {a b : List UInt8} (ha : a.length ≤ 200) (hb : b.length ≤ 200) (h : sumS a = sumS b) : tot a = tot b := by
  have h1 := (List.append_inj h rfl).2
  have h2 := hexs_inj (by have := adl_lt a; omega) (by have := adl_lt b; omega) h1
  rw [adl_one, adl_one] at h2
  have := tot_le a
  have := tot_le b
  omega
theorem tot_pos {l : List UInt8} (h : l.all okb = true) : l.length * 32 ≤ tot l := by
  induction l with
  | nil => simp [tot]
  | cons c l ih =>
    simp only [List.all_cons, Bool.and_eq_true] at h
    have := ih h.2
    have := (okb_iff c).1 h.1
    simp [tot] at *; omega
theorem tot_set {l : List UInt8} {k : Nat} (hk : k < l.length) (v : UInt8) : tot (l.set k v) + (l.getD k 0).toNat = tot l + v.toNat := by
  induction l generalizing k with
  | nil => simp at hk
  | cons c l ih =>
    cases k with
    | zero => simp [tot]; omega
    | succ k =>
      have := ih (k := k) (by simpa using hk)
      simp [tot] at *; omega

theorem first_eq {b : List UInt8} {e : Nat} (h : ix (b.take 210) = some e) (h9 : ¬ e < 9) : first b = if b.getD 8 0 == 32 && fit ((b.take e).drop 9) && b.take 8 == sumS ((b.take e).drop 9) then some ((b.take e).drop 9) else none := by
  unfold first; rw [h]; simp only [if_neg h9]
theorem first_small {b : List UInt8} {e : Nat} (h : ix (b.take 210) = some e) (h9 : e < 9) : first b = none := by
  unfold first; rw [h]; simp only [if_pos h9]
theorem first_sum {b : List UInt8} {e : Nat} (h : ix (b.take 210) = some e) (hs : b.take 8 ≠ sumS ((b.take e).drop 9)) : first b = none := by
  by_cases h9 : e < 9
  · exact first_small h h9
  · rw [first_eq h h9]
    have : (b.take 8 == sumS ((b.take e).drop 9)) = false := by simpa using hs
    rw [this, Bool.and_false]; rfl
/-- The first newline. -/
theorem ix_at {p r : List UInt8} (hp : ∀ y ∈ p, y ≠ 10) (hl : p.length < 210) : ix ((p ++ 10 :: r).take 210) = some p.length := by
  refine ix_some ?_ ?_ ?_
  · simp; omega
  · have : ((p ++ 10 :: r).take 210)[p.length]? = some 10 := by
      rw [List.getElem?_take, if_pos hl, List.getElem?_append_right (Nat.le_refl _)]; simp
    simp [List.getD, this]
  · intro y hy
    rw [List.take_take, Nat.min_eq_left (by omega), List.take_left] at hy
    exact hp y hy

theorem mem_set_ne {l : List UInt8} {j : Nat} {v : UInt8} (h : ∀ y ∈ l, y ≠ 10) (hv : v ≠ 10) : ∀ y ∈ l.set j v, y ≠ 10 := by
  intro y hy
  rcases List.mem_or_eq_of_mem_set hy with h1 | h1
  · exact h y h1
  · rw [h1]; exact hv
theorem set_ne_self {l : List UInt8} {j : Nat} {v : UInt8} (hj : j < l.length) (hv : v ≠ l.getD j 0) : l.set j v ≠ l := by
  intro h
  have : (l.set j v)[j]? = l[j]? := by rw [h]
  rw [List.getElem?_set_self hj] at this
  apply hv
  simp [List.getD, ← this]

theorem first_damaged {x : List UInt8} {ls : List (List UInt8)} (hx : fit x = true) (h30 : x.length ≤ 30) (hls : ∀ y ∈ ls, fit y = true ∧ y.length ≤ 30) {j : Nat} (hj : j < x.length + 10) {v : UInt8} (hv : v ≠ (entry x).getD j 0) :
    first ((entry x ++ jrn ls).set j v) = none := by
  have hp := pre_len x
  have hn := no10 hx
  have hxo : x.all okb = true := by simp [fit] at hx; simpa using hx.2
  have hs8 := sumS_len x
  -- where the byte lies
  by_cases h8 : j < 8
  · -- in the sum
    have e : (entry x ++ jrn ls).set j v = (sumS x).set j v ++ ([32] ++ x ++ 10 :: jrn ls) := by
      rw [entry_eq, List.append_assoc, List.append_assoc, List.set_append_left _ _ (by omega)]; simp
    have hvs : v ≠ (sumS x).getD j 0 := by
      intro h; apply hv; rw [h]
      simp [entry, List.getD, List.getElem?_append_left, hs8, h8]
    by_cases hv10 : v = 10
    · subst hv10
      have e2 : (sumS x).set j 10 = (sumS x).take j ++ 10 :: (sumS x).drop (j + 1) := by
        rw [List.set_eq_take_append_cons_drop, if_pos (by omega)]
      rw [e, e2, List.append_assoc, List.cons_append]
      have hl : ((sumS x).take j).length = j := by simp; omega
      have hix := ix_at (p := (sumS x).take j) (r := (sumS x).drop (j + 1) ++ ([32] ++ x ++ 10 :: jrn ls)) (fun y hy => hn y (by simp [List.mem_of_mem_take hy])) (by omega)
      rw [hl] at hix
      exact first_small hix (by omega)
    · have e3 : (sumS x).set j v ++ ([32] ++ x ++ 10 :: jrn ls) = ((sumS x).set j v ++ [32] ++ x) ++ 10 :: jrn ls := by simp
      rw [e, e3]
      have hl : ((sumS x).set j v ++ [32] ++ x).length = x.length + 9 := by simp [sumS_len]; omega
      have hix := ix_at (p := (sumS x).set j v ++ [32] ++ x) (r := jrn ls) (by
        intro y hy
        rw [List.mem_append, List.mem_append] at hy
        rcases hy with (hy | hy) | hy
        · exact mem_set_ne (fun y hy => hn y (by simp [hy])) hv10 y hy
        · simp at hy; subst hy; decide
        · exact hn y (by simp [hy])) (by omega)
      rw [hl] at hix
      refine first_sum hix ?_
      have t8 : ((((sumS x).set j v ++ [32] ++ x) ++ 10 :: jrn ls).take 8) = (sumS x).set j v := by
        rw [List.append_assoc, List.append_assoc, List.take_append_of_le_length (by simp [sumS_len]), List.take_of_length_le (by simp [sumS_len])]
      have tx : ((((sumS x).set j v ++ [32] ++ x) ++ 10 :: jrn ls).take (x.length + 9)).drop 9 = x := by
        rw [List.take_append_of_le_length (by omega), List.take_of_length_le (by omega), List.drop_append_of_le_length (by simp [sumS_len]), List.drop_of_length_le (by simp [sumS_len])]
        rfl
      rw [t8, tx]
      exact set_ne_self (by omega) hvs
  by_cases h8' : j = 8
  · subst h8'
    have e : (entry x ++ jrn ls).set 8 v = (sumS x ++ [v] ++ x) ++ 10 :: jrn ls := by
      rw [entry_eq, List.append_assoc, List.append_assoc, List.set_append_right _ _ (by omega), hs8]; simp
    have hv32 : v ≠ 32 := by
      intro h; apply hv; rw [h]
      have := getD8 (x := sumS x) (y := x ++ [10]) hs8
      simpa [entry] using this.symm
    rw [e]
    have hl : (sumS x ++ [v] ++ x).length = x.length + 9 := by simp [sumS_len]; omega
    by_cases hv10 : v = 10
    · subst hv10
      have e2 : (sumS x ++ [10] ++ x) ++ 10 :: jrn ls = sumS x ++ 10 :: (x ++ 10 :: jrn ls) := by simp
      rw [e2]
      refine first_small (e := 8) ?_ (by omega)
      rw [← hs8]
      exact ix_at (fun y hy => hn y (by simp [hy])) (by omega)
    · have hix := ix_at (p := sumS x ++ [v] ++ x) (r := jrn ls) (by
        intro y hy
        rw [List.mem_append, List.mem_append] at hy
        rcases hy with (hy | hy) | hy
        · exact hn y (by simp [hy])
        · simp at hy; subst hy; exact hv10
        · exact hn y (by simp [hy])) (by omega)
      rw [hl] at hix
      rw [first_eq hix (by omega)]
      have g8 : ((sumS x ++ [v] ++ x) ++ 10 :: jrn ls).getD 8 0 = v := by
        simp [List.getD, List.getElem?_append, hs8]
      have : (v == 32) = false := by simpa using hv32
      rw [g8, this, Bool.false_and, Bool.false_and]; rfl
  by_cases h9 : j < x.length + 9
  · -- in the line
    have e : (entry x ++ jrn ls).set j v = sumS x ++ [32] ++ x.set (j - 9) v ++ 10 :: jrn ls := by
      rw [entry_eq, List.set_append_left _ _ (by omega), List.set_append_right _ _ (by simp [sumS_len]; omega)]
      simp [sumS_len]
    have hvx : v ≠ x.getD (j - 9) 0 := by
      intro h; apply hv; rw [h]
      simp only [entry, List.getD]
      rw [List.getElem?_append_left (by simp [sumS_len]; omega), List.getElem?_append_right (by simp [sumS_len]; omega)]
      simp [sumS_len]
    have hset := tot_set (l := x) (k := j - 9) (by omega) v
    have h8t : ∀ r : List UInt8, (sumS x ++ [32] ++ r).take 8 = sumS x := by
      intro r
      rw [List.append_assoc, List.take_append_of_le_length (by omega), List.take_of_length_le (by omega)]
    have h9d : ∀ r : List UInt8, (sumS x ++ [32] ++ r).drop 9 = r := by
      intro r
      rw [List.drop_append_of_le_length (by simp [sumS_len]), List.drop_of_length_le (by simp [sumS_len])]; rfl
    by_cases hv10 : v = 10
    · subst hv10
      have e2 : x.set (j - 9) 10 = x.take (j - 9) ++ 10 :: x.drop (j - 9 + 1) := by
        rw [List.set_eq_take_append_cons_drop, if_pos (by omega)]
      have e3 : sumS x ++ [32] ++ x.set (j - 9) 10 ++ 10 :: jrn ls = (sumS x ++ [32] ++ x.take (j - 9)) ++ 10 :: (x.drop (j - 9 + 1) ++ 10 :: jrn ls) := by rw [e2]; simp
      rw [e, e3]
      have hl : (sumS x ++ [32] ++ x.take (j - 9)).length = j := by simp [sumS_len]; omega
      have hix := ix_at (p := sumS x ++ [32] ++ x.take (j - 9)) (r := x.drop (j - 9 + 1) ++ 10 :: jrn ls) (by
        intro y hy
        rw [List.mem_append] at hy
        rcases hy with hy | hy
        · exact hn y (by simp at hy ⊢; rcases hy with hy | hy <;> simp [hy])
        · exact hn y (by simp [List.mem_of_mem_take hy])) (by omega)
      rw [hl] at hix
      refine first_sum hix ?_
      have tt : ((sumS x ++ [32] ++ x.take (j - 9)) ++ 10 :: (x.drop (j - 9 + 1) ++ 10 :: jrn ls)).take j = sumS x ++ [32] ++ x.take (j - 9) := by
        rw [List.take_append_of_le_length (by omega), List.take_of_length_le (by omega)]
      rw [tt, h9d, List.append_assoc, h8t]
      intro hc
      have h1 := sum_tot (by omega) (by simp; omega) hc
      have h2 : tot x = tot (x.take (j - 9)) + tot (x.drop (j - 9)) := by rw [← tot_app, List.take_append_drop]
      have h3 := tot_pos (l := x.drop (j - 9)) (by
        rw [List.all_eq_true] at hxo ⊢
        exact fun y hy => hxo y (List.mem_of_mem_drop hy))
      simp at h3; omega
    · rw [e]
      have hl : (sumS x ++ [32] ++ x.set (j - 9) v).length = x.length + 9 := by simp [sumS_len]; omega
      have hix := ix_at (p := sumS x ++ [32] ++ x.set (j - 9) v) (r := jrn ls) (by
        intro y hy
        rw [List.mem_append] at hy
        rcases hy with hy | hy
        · exact hn y (by simp at hy ⊢; rcases hy with hy | hy <;> simp [hy])
        · exact mem_set_ne (fun y hy => hn y (by simp [hy])) hv10 y hy) (by omega)
      rw [hl] at hix
      refine first_sum hix ?_
      have tt : (sumS x ++ [32] ++ x.set (j - 9) v ++ 10 :: jrn ls).take (x.length + 9) = sumS x ++ [32] ++ x.set (j - 9) v := by
        rw [List.take_append_of_le_length (by omega), List.take_of_length_le (by omega)]
      rw [tt, h9d, List.append_assoc, h8t]
      intro hc
      have h1 := sum_tot (by omega) (by simp; omega) hc
      apply hvx
      apply UInt8.toNat_inj.1
      omega
  · -- the newline
    have hj' : j = x.length + 9 := by omega
    subst hj'
    have hv10 : v ≠ 10 := by
      intro h; apply hv; rw [h]
      simp only [entry, List.getD]
      rw [List.getElem?_append_right (by simp [sumS_len]; omega)]
      have : x.length + 9 - (8 + (x.length + 1)) = 0 := by omega
      simp [sumS_len, this]
    have e : (entry x ++ jrn ls).set (x.length + 9) v = (sumS x ++ [32] ++ x) ++ v :: jrn ls := by
      rw [entry_eq, List.set_append_right _ _ (by omega), hp]; simp
    rw [e]
    cases ls with
    | nil =>
      apply first_none
      intro y hy
      have hy := List.mem_of_mem_take hy
      rw [List.mem_append] at hy
      rcases hy with hy | hy
      · exact hn y hy
      · simp [jrn] at hy; subst hy; exact hv10
    | cons z ls =>
      have hz := hls z (by simp)
      have hnz := no10 hz.1
      have e2 : (sumS x ++ [32] ++ x) ++ v :: jrn (z :: ls) = (sumS x ++ [32] ++ (x ++ v :: (sumS z ++ [32] ++ z))) ++ 10 :: jrn ls := by
        rw [jrn_cons, entry_eq]; simp
      rw [e2]
      have hl : (sumS x ++ [32] ++ (x ++ v :: (sumS z ++ [32] ++ z))).length = x.length + z.length + 19 := by simp [sumS_len]; omega
      have hix := ix_at (p := sumS x ++ [32] ++ (x ++ v :: (sumS z ++ [32] ++ z))) (r := jrn ls) (by
        intro y hy
        rw [← List.append_assoc, List.mem_append] at hy
        rcases hy with hy | hy
        · exact hn y hy
        · rw [List.mem_cons] at hy
          rcases hy with rfl | hy
          · exact hv10
          · exact hnz y hy) (by omega)
      rw [hl] at hix
      refine first_sum hix ?_
      have tt : (sumS x ++ [32] ++ (x ++ v :: (sumS z ++ [32] ++ z)) ++ 10 :: jrn ls).take (x.length + z.length + 19) = sumS x ++ [32] ++ (x ++ v :: (sumS z ++ [32] ++ z)) := by
        rw [List.take_append_of_le_length (by omega), List.take_of_length_le (by omega)]
      have h9d : ∀ r : List UInt8, (sumS x ++ [32] ++ r).drop 9 = r := by
        intro r
        rw [List.drop_append_of_le_length (by simp [sumS_len]), List.drop_of_length_le (by simp [sumS_len])]; rfl
      have h8t : ∀ r : List UInt8, (sumS x ++ [32] ++ r).take 8 = sumS x := by
        intro r
        rw [List.append_assoc, List.take_append_of_le_length (by omega), List.take_of_length_le (by omega)]
      rw [tt, h9d, List.append_assoc (sumS x ++ [32]), h8t]
      intro hc
      have h1 := sum_tot (by omega) (by simp [sumS_len]; omega) hc
      have h2 : tot (x ++ v :: (sumS z ++ [32] ++ z)) = tot x + v.toNat + tot (sumS z) + 32 + tot z := by
        rw [tot_app]
        have : tot (v :: (sumS z ++ [32] ++ z)) = v.toNat + tot (sumS z ++ [32] ++ z) := by simp [tot]
        rw [this, tot_app, tot_app]
        have : tot [32] = 32 := by decide
        omega
      omega

theorem damaged {ls : List (List UInt8)} (h : ∀ x ∈ ls, fit x = true ∧ x.length ≤ 30) (n : Nat) (v : UInt8) : ∀ i b, b ≤ n → n - b < (jrn ls).length → v ≠ (jrn ls).getD (n - b) 0 →
    ∃ k m, whole n ls i b = (i + k, b + m) ∧ k ≤ ls.length ∧ Reads ((jrn ls).set (n - b) v) (ls.take k) m := by
  induction ls with
  | nil => intro i b _ h2 _; simp [jrn] at h2
  | cons x ls ih =>
    intro i b hb hlt hne
    have hx := h x (by simp)
    have hel := entry_len x
    rw [whole]
    by_cases hn : n < b + x.length + 10
    · rw [if_pos hn]
      refine ⟨0, 0, rfl, by simp, ?_⟩
      rw [jrn_cons]
      refine .stop (first_damaged hx.1 hx.2 (fun y hy => h y (by simp [hy])) (by omega) ?_)
      intro hv; apply hne
      rw [hv, jrn_cons]
      simp [List.getD, List.getElem?_append_left, hel, show n - b < x.length + 10 by omega]
    · rw [if_neg hn]
      have hsub : n - b - (entry x).length = n - (b + x.length + 10) := by omega
      obtain ⟨k, m, h1, h2, h3⟩ := ih (fun y hy => h y (by simp [hy])) (i + 1) (b + x.length + 10) (by omega) (by
        rw [jrn_cons, List.length_append] at hlt; omega) (by
        intro hv; apply hne
        rw [hv, jrn_cons]
        simp only [List.getD]
        rw [List.getElem?_append_right (by omega), hsub])
      refine ⟨k + 1, x.length + 10 + m, by rw [h1]; congr 1 <;> omega, by simp; omega, ?_⟩
      have e : (jrn (x :: ls)).set (n - b) v = entry x ++ (jrn ls).set (n - (b + x.length + 10)) v := by
        rw [jrn_cons, List.set_append_right _ _ (by omega), hsub]
      rw [e, List.take_succ_cons]
      refine .step (first_entry hx.1) ?_
      rw [List.drop_append_of_le_length (by omega), List.drop_of_length_le (by omega)]
      simpa using h3

/-- What was read are entries. -/
theorem Reads.jrn {b : List UInt8} {ls : List (List UInt8)} {n : Nat} (h : Reads b ls n) : b.take n = jrn ls ∧ ∀ x ∈ ls, fit x = true := by
  induction h with
  | stop h => simp [Go.Proofs.jrn]
  | @step b line ls n h t ih =>
    have hf := firstR_iff.1 h
    have hlen := first_len h
    have key : b.take (line.length + 10) = entry line ∧ fit line = true := by
      unfold firstR at hf
      split at hf
      · cases hf
      · rename_i e hi
        have hlt := ix_lt hi
        rw [List.length_take] at hlt
        split at hf
        · cases hf
        · simp only [Prod.mk.injEq, Bool.and_eq_true, beq_iff_eq] at hf
          obtain ⟨h1, h2, h3⟩ := hf
          rw [h1] at h2 h3
          have : line.length + 10 = e + 1 := by rw [← h1]; simp; omega
          rw [this]; exact ⟨h3.symm, h2⟩
    refine ⟨?_, fun x hx => ?_⟩
    · rw [jrn_cons, ← key.1, ← ih.1, List.take_add]
    · rw [List.mem_cons] at hx
      rcases hx with rfl | hx
      · exact key.2
      · exact ih.2 x hx
end Go.Proofs
