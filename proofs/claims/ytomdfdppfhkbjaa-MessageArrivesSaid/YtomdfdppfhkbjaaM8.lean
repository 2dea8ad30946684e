/- Messages, plainly: what a script keeps. -/
import Derived.Test.YtomdfdppfhkbjaaM6
import Derived.Test.YtomdfdppfhkbjaaM7
set_option linter.unusedVariables false
set_option linter.unusedSimpArgs false
namespace Go.Proofs
open Go Go.Ideal
set_option maxRecDepth 8000
set_option maxHeartbeats 4000000

theorem PkI.mono {K K' : List Cmt} {c c' : List Client} {p : Packet} (h : PkI K c p) (hK : ∀ k ∈ K, k ∈ K') (hc : ∀ a : Nat, a < 2 → (∀ x ∈ (c.getD a default).has, x ∈ (c'.getD a default).has) ∧ ∀ x ∈ (c.getD a default).ref, x ∈ (c'.getD a default).ref) : PkI K' c' p := by
  rcases h with ⟨h1, h2⟩ | ⟨h1, h2, h3⟩
  · exact .inl ⟨h1, hK _ h2⟩
  · have ha : p.app.toNat < 2 := by omega
    refine .inr ⟨h1, h2, ?_⟩
    rcases h3 with ⟨h3, h4⟩ | ⟨h3, h4⟩
    · exact .inl ⟨h3, (hc _ ha).1 _ h4⟩
    · exact .inr ⟨h3, (hc _ ha).2 _ h4⟩
theorem getD_set2 {c : List Client} (hc : c.length = 2) {a b : Nat} (ha : a < 2) (y : Client) : (c.set a y).getD b default = if b = a then y else c.getD b default := by
  simp only [List.getD]
  by_cases h : b = a
  · subst h; rw [if_pos rfl, List.getElem?_set_self (by omega)]; rfl
  · rw [if_neg h, List.getElem?_set_ne (by omega)]
theorem MInv.okM {i : Nat} {s : MSt} (h : MInv i s) (hi : i ≤ 100) : OkM s := by
  refine ⟨by have := h.ll; omega, h.c, by have := h.wl; omega, fun c hc => ?_, fun p hp => ?_⟩
  · obtain ⟨a, ha⟩ := List.getElem?_of_mem hc
    obtain ⟨ha1, ha2⟩ := List.getElem?_eq_some_iff.1 ha
    have hl := h.c
    have := h.cl a (by omega)
    rw [show s.c.getD a default = c by simp [List.getD, ha]] at this
    exact ⟨this.okd, by have := this.hasL; omega, by have := this.refL; omega⟩
  · rcases h.pk p hp with ⟨_, h2⟩ | ⟨_, h2, _⟩
    · have := note_inv (h.k.el _ h2).2.2.2
      simp only at this; omega
    · rw [h2]; simp
theorem MInv.up {i j : Nat} {s : MSt} (h : MInv i s) (hij : i ≤ j) : MInv j s :=
  ⟨h.k, h.c, Nat.le_trans h.ll hij, Nat.le_trans h.wl (by omega), fun a ha => (h.cl a ha).up hij, h.st, h.pk⟩
theorem pick_mem {s : MSt} {x : MRaw} (h : (pickF s x).2 = true) : (pickF s x).1 ∈ s.w := by
  unfold pickF at h ⊢
  split
  · rename_i hw; rw [if_pos hw] at h; cases h
  · rename_i hw
    have hpos : 0 < s.w.length := by cases h : s.w with | nil => exact absurd h hw | cons a b => simp
    have hlt : pickN s x < s.w.length := by
      unfold pickN; split
      · exact Nat.mod_lt _ hpos
      · omega
    simp [List.getD, hlt]
/-- Submitting keeps what holds. -/
theorem sub_inv {i : Nat} {s : MSt} (h : MInv i s) (hi : i < 16) (c : Cmt) (hid : 0 ≤ c.id ∧ c.id ≤ 100) (ha : c.app = 0 ∨ c.app = 1) (hn : noteB c.s = true) : MInv (i + 1) ⟨(subF s.l c).1, s.c, s.w ++ (subF s.l c).2.1⟩ := by
  have hll := h.ll
  have hwl := h.wl
  have e := subF_new (l := s.l) (c := c) ⟨by omega, by omega⟩ ha hn (by omega)
  by_cases hh : hasE s.l c.id = true
  · rw [if_pos hh] at e
    rw [e]
    have := h.up (j := i + 1) (by omega)
    simpa using this
  · rw [if_neg hh] at e
    rw [e]
    have hnew : ∀ k ∈ coreL s.l, k.id ≠ c.id := fun k hk he => hh (hasE_core.2 ⟨k, hk, he⟩)
    have ec : coreL (s.l ++ [⟨c.id, c.app, 1, c.s⟩]) = coreL s.l ++ [c] := by rw [coreL_app]; rfl
    refine ⟨?_, h.c, by simp; omega, by simp; omega, fun a ha2 => ?_, ?_, ?_⟩
    · simp only
      rw [ec]
      refine ⟨List.pairwise_append.2 ⟨h.k.ids, by simp, fun x hx y hy => ?_⟩, fun k hk => ?_⟩
      · simp only [List.mem_singleton] at hy; subst hy; exact hnew x hx
      · rcases List.mem_append.1 hk with hk | hk
        · exact h.k.el k hk
        · simp only [List.mem_singleton] at hk; subst hk; exact ⟨hid.1, hid.2, ha, hn⟩
    · have hc := h.cl a ha2
      simp only
      rw [ec]
      refine ⟨hc.okd, by have := hc.hasL; omega, by have := hc.refL; omega, hc.dis, fun id hid0 => ?_, hc.mrk, ?_⟩
      · obtain ⟨k, k1, k2⟩ := hc.src id hid0
        exact ⟨k, by simp [k1], k2⟩
      · rw [sumL_app, hc.len]
        simp only [sumL, Nat.add_zero]
        have : c.id ∉ (s.c.getD a default).has := fun g => by
          obtain ⟨k, k1, k2, _⟩ := hc.src _ g
          exact hnew k k1 k2
        rw [if_neg (fun g => this g.2)]; rfl
    · intro x hx
      rcases List.mem_append.1 hx with hx | hx
      · exact h.st x hx
      · simp only [List.mem_singleton] at hx; subst hx
        exact ⟨.inl rfl, fun g => by simp at g, fun g => by simp at g⟩
    · intro p hp
      simp only
      rw [ec]
      rcases List.mem_append.1 hp with hp | hp
      · exact (h.pk p hp).mono (fun k hk => by simp [hk]) (fun a _ => ⟨fun _ g => g, fun _ g => g⟩)
      · simp only [List.mem_singleton] at hp; subst hp
        exact .inl ⟨rfl, by simp⟩
theorem newF_ok (x : MRaw) : (0 ≤ (newF x).id ∧ (newF x).id ≤ 11) ∧ ((newF x).app = 0 ∨ (newF x).app = 1) ∧ noteB (newF x).s = true := by
  refine ⟨?_, ?_, (noteT_ok _).1⟩
  · show 0 ≤ (x.i.toNat : Int) % 12 ∧ (x.i.toNat : Int) % 12 ≤ 11; omega
  · show (x.app.toNat : Int) % 2 = 0 ∨ (x.app.toNat : Int) % 2 = 1; omega
/-- A Send arrives at its client. -/
theorem arr_inv {i : Nat} {s : MSt} (h : MInv i s) {p : Packet} {a : Nat} (ha : a < 2) (hpa : p.app = a) (hp : p.k = 1) (hm : (⟨p.id, p.app, p.s⟩ : Cmt) ∈ coreL s.l) :
    MInv (i + 1) ⟨s.l, s.c.set a (recvF (s.c.getD a default) a p).1, s.w ++ (recvF (s.c.getD a default) a p).2⟩ := by
  obtain ⟨r1, r2, r3, r4⟩ := recv_inv (h.cl a ha) h.k hp hpa hm
  have hl := h.c
  have hall : ∀ b : Nat, b < 2 → (∀ x ∈ (s.c.getD b default).has, x ∈ ((s.c.set a (recvF (s.c.getD a default) a p).1).getD b default).has) ∧ ∀ x ∈ (s.c.getD b default).ref, x ∈ ((s.c.set a (recvF (s.c.getD a default) a p).1).getD b default).ref := by
    intro b hb
    rw [getD_set2 hl ha]
    by_cases e : b = a
    · subst e; rw [if_pos rfl]; exact ⟨r2, r3⟩
    · rw [if_neg e]; exact ⟨fun _ g => g, fun _ g => g⟩
  have hwl := h.wl
  refine ⟨h.k, by simpa using hl, by have := h.ll; show s.l.length ≤ _; omega, ?_, fun b hb => ?_, fun x hx => ?_, fun q hq => ?_⟩
  · simp only [List.length_append]
    rcases r4 with ⟨r4, _⟩ | ⟨r4, _⟩ <;> rw [r4] <;> simp <;> omega
  · simp only
    rw [getD_set2 hl ha]
    by_cases e : b = a
    · subst e; rw [if_pos rfl]; exact r1
    · rw [if_neg e]; exact (h.cl b hb).up (by omega)
  · obtain ⟨x1, x2, x3⟩ := h.st x hx
    have hk := h.k.el ⟨x.id, x.app, x.s⟩ (mem_core.2 ⟨x, hx, rfl⟩)
    have hxa : x.app.toNat < 2 := by rcases hk.2.2.1 with g | g <;> simp only at g <;> omega
    exact ⟨x1, fun g => (hall _ hxa).1 _ (x2 g), fun g => (hall _ hxa).2 _ (x3 g)⟩
  · rcases List.mem_append.1 hq with hq | hq
    · exact (h.pk q hq).mono (fun _ g => g) hall
    · rcases r4 with ⟨r4, r5⟩ | ⟨r4, r5, _⟩
      · rw [r4] at hq
        simp only [List.mem_singleton] at hq; subst hq
        refine .inr ⟨by simp only [ackP]; omega, rfl, .inl ⟨rfl, ?_⟩⟩
        simp only [ackP, Int.toNat_natCast]
        rw [getD_set2 hl ha, if_pos rfl]; exact r5
      · rw [r4] at hq
        simp only [List.mem_singleton] at hq; subst hq
        refine .inr ⟨by simp only [rejP]; omega, rfl, .inr ⟨rfl, ?_⟩⟩
        simp only [rejP, Int.toNat_natCast]
        rw [getD_set2 hl ha, if_pos rfl]; exact r5
/-- An answer arrives at the engine. -/
theorem hear_inv {i : Nat} {s : MSt} (h : MInv i s) {p : Packet} (hp : p ∈ s.w) (hk : p.k ≠ 1) : MInv i ⟨hearF s.l p, s.c, s.w⟩ ∧ coreL (hearF s.l p) = coreL s.l := by
  have hcase := h.pk p hp
  rcases hcase with ⟨h1, _⟩ | ⟨h1, _, h3⟩
  · exact absurd h1 hk
  have setI : ∀ st : Int, (st = 2 ∧ p.id ∈ (s.c.getD p.app.toNat default).has ∨ st = 3 ∧ p.id ∈ (s.c.getD p.app.toNat default).ref) → MInv i ⟨setF s.l p.app p.id st, s.c, s.w⟩ ∧ coreL (setF s.l p.app p.id st) = coreL s.l := by
    intro st hst
    unfold setF
    rcases fndE_inv (l := s.l) (id := p.id) with ⟨g1, g2⟩ | ⟨n, g1, g2, g3⟩
    · rw [g1, if_pos (.inl (by omega))]; exact ⟨h, rfl⟩
    · rw [g1]
      simp only [Int.toNat_natCast]
      split
      · exact ⟨h, rfl⟩
      · rename_i c
        simp only [not_or, Decidable.not_not] at c
        obtain ⟨_, c2, c3⟩ := c
        have ec := core_set g2 st
        refine ⟨⟨by simp only; rw [ec]; exact h.k, h.c, by simpa using h.ll, h.wl, fun a ha => by simp only; rw [ec]; exact h.cl a ha, fun x hx => ?_, fun q hq => by simp only; rw [ec]; exact h.pk q hq⟩, ec⟩
        rcases List.mem_or_eq_of_mem_set hx with hx | rfl
        · exact h.st x hx
        · simp only
          rw [g3, c2]
          rcases hst with ⟨rfl, q⟩ | ⟨rfl, q⟩
          · exact ⟨.inr (.inl rfl), fun _ => q, fun g => by simp at g⟩
          · exact ⟨.inr (.inr rfl), fun g => by simp at g, fun _ => q⟩
  unfold hearF
  rcases h3 with ⟨q1, q2⟩ | ⟨q1, q2⟩
  · rw [if_pos q1]; exact setI 2 (.inl ⟨rfl, q2⟩)
  · rw [if_neg (by omega), if_pos q1]; exact setI 3 (.inr ⟨rfl, q2⟩)
theorem step_inv {i : Nat} {s : MSt} (x : MRaw) (h : MInv i s) (hi : i < 16) : MInv (i + 1) (stepG hearF s x) := by
  obtain ⟨n1, n2, n3⟩ := newF_ok x
  unfold stepG
  split
  · exact sub_inv h hi (newF x) ⟨n1.1, by omega⟩ n2 n3
  · split
    · have ha := agnF_len s.l
      have hll := h.ll
      have hwl := h.wl
      refine ⟨h.k, h.c, by show s.l.length ≤ _; omega, by simp; omega, fun a ha => (h.cl a ha).up (by omega), h.st, fun p hp => ?_⟩
      rcases List.mem_append.1 hp with hp | hp
      · exact h.pk p hp
      · unfold agnF at hp
        obtain ⟨y, hy, rfl⟩ := List.mem_map.1 hp
        exact .inl ⟨rfl, mem_core.2 ⟨y, (List.mem_filter.1 hy).1, rfl⟩⟩
    · split
      · obtain ⟨a, hae, hal⟩ : ∃ a : Nat, x.app.toNat % 2 = a ∧ a < 2 := ⟨_, rfl, by omega⟩
        rw [hae]
        obtain ⟨r1, r2, r3, r4⟩ := refu_inv ((x.i.toNat : Int) % 12) (h.cl a hal)
        have hl := h.c
        have hall : ∀ b : Nat, b < 2 → (∀ y ∈ (s.c.getD b default).has, y ∈ ((s.c.set a (refuF (s.c.getD a default) ((x.i.toNat : Int) % 12))).getD b default).has) ∧ ∀ y ∈ (s.c.getD b default).ref, y ∈ ((s.c.set a (refuF (s.c.getD a default) ((x.i.toNat : Int) % 12))).getD b default).ref := by
          intro b hb
          rw [getD_set2 hl hal]
          by_cases e : b = a
          · subst e; rw [if_pos rfl, r2]; exact ⟨fun _ g => g, r4⟩
          · rw [if_neg e]; exact ⟨fun _ g => g, fun _ g => g⟩
        refine ⟨h.k, by simpa using hl, by have := h.ll; show s.l.length ≤ _; omega, by have := h.wl; show s.w.length ≤ _; omega, fun b hb => ?_, fun y hy => ?_, fun q hq => (h.pk q hq).mono (fun _ g => g) hall⟩
        · simp only
          rw [getD_set2 hl hal]
          by_cases e : b = a
          · subst e; rw [if_pos rfl]; exact r1
          · rw [if_neg e]; exact (h.cl b hb).up (by omega)
        · obtain ⟨x1, x2, x3⟩ := h.st y hy
          have hk := h.k.el ⟨y.id, y.app, y.s⟩ (mem_core.2 ⟨y, hy, rfl⟩)
          have hxa : y.app.toNat < 2 := by rcases hk.2.2.1 with g | g <;> simp only at g <;> omega
          exact ⟨x1, fun g => (hall _ hxa).1 _ (x2 g), fun g => (hall _ hxa).2 _ (x3 g)⟩
      · split
        · rename_i hc
          obtain ⟨c1, c2, c3, c4⟩ := hc
          obtain ⟨a, hae⟩ : ∃ a : Nat, (pickF s x).1.app = a := ⟨(pickF s x).1.app.toNat, by omega⟩
          have hm : (⟨(pickF s x).1.id, (pickF s x).1.app, (pickF s x).1.s⟩ : Cmt) ∈ coreL s.l := by
            rcases h.pk _ (pick_mem c1) with ⟨_, g⟩ | ⟨_, _, g⟩
            · exact g
            · omega
          have := arr_inv h (a := a) (by omega) hae c2 hm
          rw [hae]
          simp only [Int.toNat_natCast]
          exact this
        · split
          · rename_i hc hp
            have hk1 : (pickF s x).1.k ≠ 1 := by
              intro g
              rcases h.pk _ (pick_mem hp) with ⟨_, m⟩ | ⟨_, _, m⟩
              · have := (h.k.el _ m).2.2.1
                simp only at this
                exact hc ⟨hp, g, by omega, by omega⟩
              · omega
            exact (hear_inv h (pick_mem hp) hk1).1.up (by omega)
          · exact h.up (by omega)
theorem next_eq {i : Nat} {s : MSt} (x : MRaw) (h : MInv i s) : stepG hearR s x = stepG hearF s x := by
  unfold stepG
  rw [hear_eq (core_ids h.k)]
theorem begin_inv : MInv 0 beginF := by
  refine ⟨⟨List.Pairwise.nil, by simp [coreL, beginF]⟩, rfl, by simp [beginF], by simp [beginF], fun a ha => ?_, by simp [beginF], by simp [beginF]⟩
  have : beginF.c.getD a default = noClient := by
    match a, ha with
    | 0, _ => rfl
    | 1, _ => rfl
  rw [this]
  exact ⟨noDoc_ok, by simp [noClient], by simp [noClient], by simp [noClient], by simp [noClient], by simp [noClient, noDoc], rfl⟩
/-- The state after some actions. -/
def runM (l : List MRaw) : Nat → MSt
  | 0 => beginF
  | i + 1 => stepG hearF (runM l i) (l.getD i default)
theorem runM_inv (l : List MRaw) : ∀ i, i ≤ 16 → MInv i (runM l i)
  | 0, _ => begin_inv
  | i + 1, hi => step_inv _ (runM_inv l i (by omega)) (by omega)
end Go.Proofs
