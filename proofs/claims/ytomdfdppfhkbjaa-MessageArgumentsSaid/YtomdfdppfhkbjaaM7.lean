/- Messages, plainly: what holds after any script. -/
import Derived.Test.YtomdfdppfhkbjaaM5
import Derived.Test.YtomdfdppfhkbjaaQ1
set_option linter.unusedVariables false
set_option linter.unusedSimpArgs false
namespace Go.Proofs
open Go Go.Ideal
set_option maxRecDepth 8000
set_option maxHeartbeats 4000000

/-! ### Lists of commits, without their stages -/
def coreL (l : List Sent) : List Cmt := l.map fun x => ⟨x.id, x.app, x.s⟩
/-- How long the texts of the commits are that a client has. -/
def sumL (a : Int) (has : List Int) : List Cmt → Nat
  | [] => 0
  | k :: l => (if k.app = a ∧ k.id ∈ has then k.s.length else 0) + sumL a has l
/-! ### A text that is put at the end -/
/-! ### What holds of a client, of packets, of states -/
structure ClI (i : Nat) (K : List Cmt) (a : Int) (c : Client) : Prop where
  okd : OkD c.d
  hasL : c.has.length ≤ i
  refL : c.ref.length ≤ i
  dis : ∀ id ∈ c.has, id ∉ c.ref
  src : ∀ id ∈ c.has, ∃ k ∈ K, k.id = id ∧ k.app = a ∧ ∃ m ∈ c.d.m, m.id = id ∧ sub c.d.s m.f m.t = k.s
  mrk : ∀ m ∈ c.d.m, m.id ∈ c.has
  len : c.d.s.length = sumL a c.has K
structure KI (K : List Cmt) : Prop where
  ids : K.Pairwise fun x y => x.id ≠ y.id
  el : ∀ k ∈ K, 0 ≤ k.id ∧ k.id ≤ 100 ∧ (k.app = 0 ∨ k.app = 1) ∧ noteB k.s = true
def PkI (K : List Cmt) (c : List Client) (p : Packet) : Prop :=
  (p.k = 1 ∧ (⟨p.id, p.app, p.s⟩ : Cmt) ∈ K) ∨ ((p.app = 0 ∨ p.app = 1) ∧ p.s = [] ∧ ((p.k = 2 ∧ p.id ∈ (c.getD p.app.toNat default).has) ∨ (p.k = 3 ∧ p.id ∈ (c.getD p.app.toNat default).ref)))
structure MInv (i : Nat) (s : MSt) : Prop where
  k : KI (coreL s.l)
  c : s.c.length = 2
  ll : s.l.length ≤ i
  wl : s.w.length ≤ 16 * i
  cl : ∀ a : Nat, a < 2 → ClI i (coreL s.l) a (s.c.getD a default)
  st : ∀ x ∈ s.l, (x.st = 1 ∨ x.st = 2 ∨ x.st = 3) ∧ (x.st = 2 → x.id ∈ (s.c.getD x.app.toNat default).has) ∧ (x.st = 3 → x.id ∈ (s.c.getD x.app.toNat default).ref)
  pk : ∀ p ∈ s.w, PkI (coreL s.l) s.c p
theorem ClI.up {i j : Nat} {K : List Cmt} {a : Int} {c : Client} (h : ClI i K a c) (hij : i ≤ j) : ClI j K a c :=
  ⟨h.okd, Nat.le_trans h.hasL hij, Nat.le_trans h.refL hij, h.dis, h.src, h.mrk, h.len⟩
/-! ### A step -/
theorem fndE_inv {l : List Sent} {id : Int} : (fndE l id = -1 ∧ ∀ x ∈ l, x.id ≠ id) ∨ ∃ n : Nat, fndE l id = n ∧ n < l.length ∧ (l.getD n default).id = id := by
  unfold fndE
  cases h : l.findIdx? (fun x => decide (x.id = id)) with
  | none =>
    left
    rw [List.findIdx?_eq_none_iff] at h
    exact ⟨rfl, fun x hx => by simpa using h x hx⟩
  | some i =>
    right
    obtain ⟨h1, h2, _⟩ := List.findIdx?_eq_some_iff_getElem.1 h
    exact ⟨i, rfl, h1, by simpa [List.getD, h1] using h2⟩
/-- The reference hears alike, where Ids are different. -/
theorem hear_eq {l : List Sent} (h : l.Pairwise fun x y => x.id ≠ y.id) (p : Packet) : hearR l p = hearF l p := by
  have setM : ∀ st : Int, (∀ x : Sent, hrX p x = if x.id ≠ p.id ∨ x.app ≠ p.app ∨ x.st ≠ 1 then x else ⟨x.id, x.app, st, x.s⟩) → hearR l p = setF l p.app p.id st := by
    intro st hx
    unfold hearR setF
    rcases fndE_inv (l := l) (id := p.id) with ⟨h1, h2⟩ | ⟨n, h1, h2, h3⟩
    · rw [h1, if_pos (.inl (by omega))]
      conv => rhs; rw [← List.map_id l]
      refine List.map_congr_left fun x hxm => ?_
      rw [hx, if_pos (.inl (h2 x hxm))]; rfl
    · rw [h1]
      simp only [Int.toNat_natCast]
      have other : ∀ i, i < l.length → i ≠ n → (l.getD i default).id ≠ p.id := by
        intro i hi hne
        rw [← h3]
        have g : ∀ j : Nat, j < l.length → l.getD j default = l[j]! := fun j hj => by simp [List.getD, hj]
        rcases Nat.lt_or_gt_of_ne hne with hlt | hlt
        · have := List.pairwise_iff_getElem.1 h i n hi h2 hlt
          simpa [List.getD, hi, h2] using this
        · have := List.pairwise_iff_getElem.1 h n i h2 hi hlt
          simpa [List.getD, hi, h2] using Ne.symm this
      apply List.ext_getElem?
      intro i
      rw [List.getElem?_map]
      by_cases hi : i < l.length
      · have hgi : l[i]? = some (l.getD i default) := by simp [List.getD, hi]
        rw [hgi, Option.map_some, hx]
        by_cases hin : i = n
        · subst hin
          by_cases c : (l.getD i default).app ≠ p.app ∨ (l.getD i default).st ≠ 1
          · rw [if_pos (.inr c), if_pos (.inr c), hgi]
          · rw [if_neg (by rintro (g | g); exact g h3; exact c g), if_neg (by rintro (g | g); omega; exact c g), List.getElem?_set_self hi]
        · rw [if_pos (.inl (other i hi hin))]
          split
          · exact hgi.symm
          · rw [List.getElem?_set_ne (by omega)]; exact hgi.symm
      · rw [List.getElem?_eq_none (by omega)]
        split
        · rw [List.getElem?_eq_none (by omega)]; rfl
        · rw [List.getElem?_eq_none (by simp; omega)]; rfl
  unfold hearF
  by_cases k2 : p.k = 2
  · rw [if_pos k2]
    exact setM 2 fun x => by unfold hrX; rw [if_pos k2]
  by_cases k3 : p.k = 3
  · rw [if_neg k2, if_pos k3]
    exact setM 3 fun x => by unfold hrX; rw [if_neg k2, if_pos k3]
  · rw [if_neg k2, if_neg k3]
    unfold hearR
    conv => rhs; rw [← List.map_id l]
    refine List.map_congr_left fun x _ => ?_
    unfold hrX; rw [if_neg k2, if_neg k3]; simp
end Go.Proofs
