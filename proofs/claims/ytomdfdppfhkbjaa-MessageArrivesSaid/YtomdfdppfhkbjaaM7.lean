/- Messages, plainly: what holds after any script. -/
import Derived.Test.YtomdfdppfhkbjaaM5
import Derived.Test.YtomdfdppfhkbjaaQ1
set_option linter.unusedVariables false
set_option linter.unusedSimpArgs false
namespace Go.Proofs
open Go Go.Ideal
set_option maxRecDepth 8000
set_option maxHeartbeats 4000000

theorem mem_withL {l : List Int} {id x : Int} : x ∈ withL l id ↔ x = id ∨ x ∈ l := by
  unfold withL
  have := List.takeWhile_append_dropWhile (p := fun x => decide (x < id)) (l := l)
  constructor
  · intro h
    rcases List.mem_append.1 h with h | h
    · exact .inr ((List.takeWhile_sublist _).mem h)
    · rcases List.mem_cons.1 h with h | h
      · exact .inl h
      · exact .inr ((List.dropWhile_sublist _).mem h)
  · rintro (h | h)
    · exact List.mem_append.2 (.inr (by simp [h]))
    · rw [← this] at h
      rcases List.mem_append.1 h with h | h
      · exact List.mem_append.2 (.inl h)
      · exact List.mem_append.2 (.inr (by simp [h]))
theorem hasN_mem {l : List Int} {id : Int} : hasN l id = true ↔ id ∈ l := by simp [hasN]

/-! ### Lists of commits, without their stages -/
def coreL (l : List Sent) : List Cmt := l.map fun x => ⟨x.id, x.app, x.s⟩
theorem mem_core {l : List Sent} {k : Cmt} : k ∈ coreL l ↔ ∃ x ∈ l, k = ⟨x.id, x.app, x.s⟩ := by
  simp only [coreL, List.mem_map]
  constructor
  · rintro ⟨x, h, rfl⟩; exact ⟨x, h, rfl⟩
  · rintro ⟨x, h, rfl⟩; exact ⟨x, h, rfl⟩
theorem coreL_app (l m : List Sent) : coreL (l ++ m) = coreL l ++ coreL m := by simp [coreL]
theorem core_set {l : List Sent} {n : Nat} (h : n < l.length) (st : Int) : coreL (l.set n ⟨(l.getD n default).id, (l.getD n default).app, st, (l.getD n default).s⟩) = coreL l := by
  simp only [coreL, List.map_set]
  apply List.ext_getElem?
  intro i
  rw [List.getElem?_set]
  split
  · rename_i e; subst e
    split
    · rw [List.getElem?_map, List.getElem?_eq_getElem h]
      simp [List.getD, h]
    · rename_i e; simp at e; omega
  · rfl
/-- How long the texts of the commits are that a client has. -/
def sumL (a : Int) (has : List Int) : List Cmt → Nat
  | [] => 0
  | k :: l => (if k.app = a ∧ k.id ∈ has then k.s.length else 0) + sumL a has l
theorem sumL_app (a : Int) (has : List Int) (l m : List Cmt) : sumL a has (l ++ m) = sumL a has l + sumL a has m := by
  induction l with
  | nil => simp [sumL]
  | cons k l ih => simp only [List.cons_append, sumL, ih]; omega
theorem sumL_congr {a : Int} {has has' : List Int} : ∀ {l : List Cmt}, (∀ k ∈ l, k.app = a → (k.id ∈ has ↔ k.id ∈ has')) → sumL a has l = sumL a has' l
  | [], _ => rfl
  | k :: l, h => by
    simp only [sumL]
    rw [sumL_congr (l := l) fun x hx => h x (by simp [hx])]
    congr 1
    by_cases g : k.app = a
    · have := h k (by simp) g
      simp only [g, true_and, this]
    · simp [g]
theorem sumL_add {a : Int} {has : List Int} {k0 : Cmt} : ∀ {l : List Cmt}, l.Pairwise (fun x y => x.id ≠ y.id) → k0 ∈ l → k0.app = a → k0.id ∉ has → sumL a (withL has k0.id) l = sumL a has l + k0.s.length
  | k :: l, hp, hm, ha, hn => by
    have hr : ∀ x ∈ l, k.id ≠ x.id := fun x hx => List.rel_of_pairwise_cons hp hx
    simp only [sumL]
    rcases List.mem_cons.1 hm with h0 | hm
    · rw [h0] at ha hn ⊢
      have e : sumL a (withL has k.id) l = sumL a has l := sumL_congr fun x hx _ => by
        rw [mem_withL]
        constructor
        · rintro (h | h)
          · exact absurd h.symm (hr x hx)
          · exact h
        · exact .inr
      rw [e, if_pos ⟨ha, mem_withL.2 (.inl rfl)⟩, if_neg (fun h => hn h.2)]; omega
    · have e := sumL_add (List.Pairwise.of_cons hp) hm ha hn
      rw [e]
      have : (k.app = a ∧ k.id ∈ withL has k0.id) ↔ (k.app = a ∧ k.id ∈ has) := by
        rw [mem_withL]
        constructor
        · rintro ⟨h1, h2 | h2⟩
          · exact absurd h2 (hr k0 hm)
          · exact ⟨h1, h2⟩
        · rintro ⟨h1, h2⟩; exact ⟨h1, .inr h2⟩
      simp only [this]; omega

/-! ### A text that is put at the end -/
theorem note_inv {s : List UInt8} (h : noteB s = true) : 1 ≤ s.length ∧ s.length ≤ 40 ∧ plainB s = true := by
  unfold noteB at h
  simp only [Bool.and_eq_true, Bool.not_eq_true', Bool.or_eq_false_iff, decide_eq_false_iff_not] at h
  exact ⟨by omega, by omega, h.2⟩
theorem put_end {d : Doc} {id : Int} {t : List UInt8} (hd : OkD d) (hid : 0 ≤ id) (hno : hasId d.m id = false) (ht : noteB t = true) :
    ((putF d id d.s.length t).2 = 0 ∧ OkD (putF d id d.s.length t).1 ∧ (putF d id d.s.length t).1.s = d.s ++ t ∧ ∀ m, m ∈ (putF d id d.s.length t).1.m ↔ m = ⟨id, d.s.length, d.s.length + t.length, true⟩ ∨ m ∈ d.m) ∨
    ((putF d id d.s.length t).2 ≠ 0 ∧ (d.s.length + t.length > 400 ∨ d.m.length ≥ 100)) := by
  obtain ⟨h1, h2, h3⟩ := note_inv ht
  have hp : possB (putE (d.s.length : Int) t) d.s.length = true := by
    simp only [possB, putE]
    rw [if_pos trivial, h3]
    simp only [Bool.and_eq_true, decide_eq_true_eq]
    exact ⟨⟨⟨⟨decide_eq_true (by omega), decide_eq_true (by omega)⟩, decide_eq_true (by omega)⟩, decide_eq_true (by omega)⟩, trivial⟩
  by_cases hb : (d.s.length : Int) + t.length > 400 ∨ (d.m.length : Int) ≥ 100
  · right
    refine ⟨?_, by omega⟩
    unfold putF
    rw [if_neg (by rw [hp, hno]; simp; omega), if_pos hb]
    simp
  · left
    have e : putF d id (d.s.length : Int) t = (⟨chg d.s (putE (d.s.length : Int) t), insL (carL d.m (putE (d.s.length : Int) t)) (idx d.m id) ⟨id, (d.s.length : Int), (d.s.length : Int) + t.length, true⟩⟩, 0) := by
      unfold putF
      rw [if_neg (by rw [hp, hno]; simp; omega), if_neg hb]
    have h0 : (putF d id (d.s.length : Int) t).2 = 0 := by rw [e]
    have hok := (putF_ok hd h0).1
    have ec : chg d.s (putE (d.s.length : Int) t) = d.s ++ t := by
      have := chg_ins (s := d.s) (x := t) (a := d.s.length) (n := 0) (t := 0)
      unfold putE
      rw [this]; simp
    have el : carL d.m (putE (d.s.length : Int) t) = d.m := by
      rw [carL_ins rfl]
      conv => rhs; rw [← List.map_id d.m]
      refine List.map_congr_left fun m hm => ?_
      obtain ⟨_, _, _, g⟩ := hd.mks m hm
      show insM (d.s.length : Int) t.length m = m
      unfold insM; rw [if_pos g]
    refine ⟨h0, hok, by rw [e]; exact ec, fun m => ?_⟩
    rw [e]
    simp only
    rw [mem_insL, el]
theorem sub_pre {s t : List UInt8} {f u : Int} (h2 : u ≤ s.length) : sub (s ++ t) f u = sub s f u := by
  unfold sub
  rw [List.take_append_of_le_length (by omega)]
theorem sub_end (s t : List UInt8) : sub (s ++ t) (s.length : Int) ((s.length : Int) + t.length) = t := by
  unfold sub
  rw [show ((s.length : Int) + (t.length : Int)).toNat = s.length + t.length by omega, Int.toNat_natCast, ← List.length_append, List.take_length, List.drop_left]

/-! ### What holds of a client, of packets, of states -/
structure ClI (i : Nat) (K : List Cmt) (a : Int) (c : Client) : Prop where
  okd : OkD c.d
  hasL : c.has.length ≤ i
  refL : c.ref.length ≤ i
  dis : ∀ id ∈ c.has, id ∉ c.ref
  src : ∀ id ∈ c.has, ∃ k ∈ K, k.id = id ∧ k.app = a ∧ ∃ m ∈ c.d.m, m.id = id ∧ sub c.d.s m.f m.t = k.s
  mrk : ∀ m ∈ c.d.m, m.id ∈ c.has
  len : c.d.s.length = sumL a c.has K
structure KI (K : List Cmt) : Prop where
  ids : K.Pairwise fun x y => x.id ≠ y.id
  el : ∀ k ∈ K, 0 ≤ k.id ∧ k.id ≤ 100 ∧ (k.app = 0 ∨ k.app = 1) ∧ noteB k.s = true
def PkI (K : List Cmt) (c : List Client) (p : Packet) : Prop :=
  (p.k = 1 ∧ (⟨p.id, p.app, p.s⟩ : Cmt) ∈ K) ∨ ((p.app = 0 ∨ p.app = 1) ∧ p.s = [] ∧ ((p.k = 2 ∧ p.id ∈ (c.getD p.app.toNat default).has) ∨ (p.k = 3 ∧ p.id ∈ (c.getD p.app.toNat default).ref)))
structure MInv (i : Nat) (s : MSt) : Prop where
  k : KI (coreL s.l)
  c : s.c.length = 2
  ll : s.l.length ≤ i
  wl : s.w.length ≤ 16 * i
  cl : ∀ a : Nat, a < 2 → ClI i (coreL s.l) a (s.c.getD a default)
  st : ∀ x ∈ s.l, (x.st = 1 ∨ x.st = 2 ∨ x.st = 3) ∧ (x.st = 2 → x.id ∈ (s.c.getD x.app.toNat default).has) ∧ (x.st = 3 → x.id ∈ (s.c.getD x.app.toNat default).ref)
  pk : ∀ p ∈ s.w, PkI (coreL s.l) s.c p
theorem ClI.up {i j : Nat} {K : List Cmt} {a : Int} {c : Client} (h : ClI i K a c) (hij : i ≤ j) : ClI j K a c :=
  ⟨h.okd, Nat.le_trans h.hasL hij, Nat.le_trans h.refL hij, h.dis, h.src, h.mrk, h.len⟩
/-- A Send that arrives. -/
theorem recv_inv {i : Nat} {K : List Cmt} {a : Int} {c : Client} {p : Packet} (h : ClI i K a c) (hK : KI K) (hk : p.k = 1) (ha : p.app = a) (hm : (⟨p.id, p.app, p.s⟩ : Cmt) ∈ K) :
    ClI (i + 1) K a (recvF c a p).1 ∧ (∀ id ∈ c.has, id ∈ (recvF c a p).1.has) ∧ (∀ id ∈ c.ref, id ∈ (recvF c a p).1.ref) ∧
      (((recvF c a p).2 = [ackP a p.id] ∧ p.id ∈ (recvF c a p).1.has) ∨ ((recvF c a p).2 = [rejP a p.id] ∧ p.id ∈ (recvF c a p).1.ref ∧ (p.id ∈ c.ref ∨ (c.d.s.length + p.s.length > 400 ∨ c.d.m.length ≥ 100)))) := by
  obtain ⟨e1, e2, e3, e4⟩ := hK.el _ hm
  simp only at e1 e2 e3 e4
  have hsub : subB a p = true := by
    unfold subB idB
    rw [e4, hk, ha]
    simp
    omega
  have hr : recvF c a p = ((decF c a p.id p.s).1, [(decF c a p.id p.s).2]) := by unfold recvF; rw [if_pos hsub, ha]
  rw [hr]
  by_cases h1 : hasN c.has p.id = true
  · have e : decF c a p.id p.s = (c, ackP a p.id) := by unfold decF; rw [if_pos h1]
    rw [e]
    exact ⟨h.up (by omega), fun _ h => h, fun _ h => h, .inl ⟨rfl, hasN_mem.1 h1⟩⟩
  have n1 : p.id ∉ c.has := fun g => h1 (hasN_mem.2 g)
  by_cases h2 : hasN c.ref p.id = true
  · have e : decF c a p.id p.s = (c, rejP a p.id) := by unfold decF; rw [if_neg h1, if_pos h2]
    rw [e]
    exact ⟨h.up (by omega), fun _ h => h, fun _ h => h, .inr ⟨rfl, hasN_mem.1 h2, .inl (hasN_mem.1 h2)⟩⟩
  have n2 : p.id ∉ c.ref := fun g => h2 (hasN_mem.2 g)
  have hno : hasId c.d.m p.id = false := by
    cases hh : hasId c.d.m p.id with
    | false => rfl
    | true =>
      obtain ⟨m, hm, he⟩ := hasId_mem.1 hh
      exact absurd (by rw [← he]; exact h.mrk m hm) n1
  rcases put_end h.okd e1 hno e4 with ⟨z, o1, o2, o3⟩ | ⟨z, o1⟩
  · have e : decF c a p.id p.s = (⟨(putF c.d p.id c.d.s.length p.s).1, withL c.has p.id, c.ref⟩, ackP a p.id) := by unfold decF; rw [if_neg h1, if_neg h2, if_neg (by omega)]
    rw [e]
    generalize putF c.d p.id c.d.s.length p.s = P at *
    refine ⟨⟨o1, by show (withL _ _).length ≤ _; rw [withL_len]; have := h.hasL; omega, by have := h.refL; show c.ref.length ≤ _; omega, ?_, ?_, ?_, ?_⟩, fun id g => mem_withL.2 (.inr g), fun _ g => g, .inl ⟨rfl, mem_withL.2 (.inl rfl)⟩⟩
    · intro id hid
      rcases mem_withL.1 hid with rfl | g
      · exact n2
      · exact h.dis id g
    · intro id hid
      rcases mem_withL.1 hid with rfl | g
      · refine ⟨_, hm, rfl, ha, _, (o3 _).2 (.inl rfl), rfl, ?_⟩
        simp only
        rw [o2]; exact sub_end _ _
      · obtain ⟨k, k1, k2, k3, m, m1, m2, m3⟩ := h.src id g
        refine ⟨k, k1, k2, k3, m, (o3 _).2 (.inr m1), m2, ?_⟩
        simp only
        rw [o2, sub_pre (h.okd.mks m m1).2.2.2]; exact m3
    · intro m hmm
      rcases (o3 _).1 hmm with rfl | g
      · exact mem_withL.2 (.inl rfl)
      · exact mem_withL.2 (.inr (h.mrk m g))
    · simp only
      rw [o2, List.length_append, h.len, sumL_add hK.ids hm ha n1]
  · have e : decF c a p.id p.s = (⟨c.d, c.has, withL c.ref p.id⟩, rejP a p.id) := by unfold decF; rw [if_neg h1, if_neg h2, if_pos z]
    rw [e]
    refine ⟨⟨h.okd, by have := h.hasL; show c.has.length ≤ _; omega, by show (withL _ _).length ≤ _; rw [withL_len]; have := h.refL; omega, ?_, h.src, h.mrk, h.len⟩, fun _ g => g, fun id g => mem_withL.2 (.inr g), .inr ⟨rfl, mem_withL.2 (.inl rfl), .inr o1⟩⟩
    intro id hid g
    rcases mem_withL.1 g with rfl | g
    · exact n1 hid
    · exact h.dis id hid g
theorem refu_inv {i : Nat} {K : List Cmt} {a : Int} {c : Client} (id : Int) (h : ClI i K a c) : ClI (i + 1) K a (refuF c id) ∧ (refuF c id).has = c.has ∧ (refuF c id).d = c.d ∧ ∀ x ∈ c.ref, x ∈ (refuF c id).ref := by
  unfold refuF
  split
  · exact ⟨h.up (by omega), rfl, rfl, fun _ g => g⟩
  · rename_i hn
    refine ⟨⟨h.okd, by have := h.hasL; show c.has.length ≤ _; omega, by show (withL _ _).length ≤ _; rw [withL_len]; have := h.refL; omega, ?_, h.src, h.mrk, h.len⟩, rfl, rfl, fun x g => mem_withL.2 (.inr g)⟩
    intro x hx g
    rcases mem_withL.1 g with rfl | g
    · exact hn (.inl (hasN_mem.2 hx))
    · exact h.dis x hx g

/-! ### A step -/
theorem core_ids {l : List Sent} (h : KI (coreL l)) : l.Pairwise fun x y => x.id ≠ y.id := by
  have h1 := h.ids
  unfold coreL at h1
  rw [List.pairwise_map] at h1
  exact h1
theorem fndE_inv {l : List Sent} {id : Int} : (fndE l id = -1 ∧ ∀ x ∈ l, x.id ≠ id) ∨ ∃ n : Nat, fndE l id = n ∧ n < l.length ∧ (l.getD n default).id = id := by
  unfold fndE
  cases h : l.findIdx? (fun x => decide (x.id = id)) with
  | none =>
    left
    rw [List.findIdx?_eq_none_iff] at h
    exact ⟨rfl, fun x hx => by simpa using h x hx⟩
  | some i =>
    right
    obtain ⟨h1, h2, _⟩ := List.findIdx?_eq_some_iff_getElem.1 h
    exact ⟨i, rfl, h1, by simpa [List.getD, h1] using h2⟩
/-- The reference hears alike, where Ids are different. -/
theorem hear_eq {l : List Sent} (h : l.Pairwise fun x y => x.id ≠ y.id) (p : Packet) : hearR l p = hearF l p := by
  have setM : ∀ st : Int, (∀ x : Sent, hrX p x = if x.id ≠ p.id ∨ x.app ≠ p.app ∨ x.st ≠ 1 then x else ⟨x.id, x.app, st, x.s⟩) → hearR l p = setF l p.app p.id st := by
    intro st hx
    unfold hearR setF
    rcases fndE_inv (l := l) (id := p.id) with ⟨h1, h2⟩ | ⟨n, h1, h2, h3⟩
    · rw [h1, if_pos (.inl (by omega))]
      conv => rhs; rw [← List.map_id l]
      refine List.map_congr_left fun x hxm => ?_
      rw [hx, if_pos (.inl (h2 x hxm))]; rfl
    · rw [h1]
      simp only [Int.toNat_natCast]
      have other : ∀ i, i < l.length → i ≠ n → (l.getD i default).id ≠ p.id := by
        intro i hi hne
        rw [← h3]
        have g : ∀ j : Nat, j < l.length → l.getD j default = l[j]! := fun j hj => by simp [List.getD, hj]
        rcases Nat.lt_or_gt_of_ne hne with hlt | hlt
        · have := List.pairwise_iff_getElem.1 h i n hi h2 hlt
          simpa [List.getD, hi, h2] using this
        · have := List.pairwise_iff_getElem.1 h n i h2 hi hlt
          simpa [List.getD, hi, h2] using Ne.symm this
      apply List.ext_getElem?
      intro i
      rw [List.getElem?_map]
      by_cases hi : i < l.length
      · have hgi : l[i]? = some (l.getD i default) := by simp [List.getD, hi]
        rw [hgi, Option.map_some, hx]
        by_cases hin : i = n
        · subst hin
          by_cases c : (l.getD i default).app ≠ p.app ∨ (l.getD i default).st ≠ 1
          · rw [if_pos (.inr c), if_pos (.inr c), hgi]
          · rw [if_neg (by rintro (g | g); exact g h3; exact c g), if_neg (by rintro (g | g); omega; exact c g), List.getElem?_set_self hi]
        · rw [if_pos (.inl (other i hi hin))]
          split
          · exact hgi.symm
          · rw [List.getElem?_set_ne (by omega)]; exact hgi.symm
      · rw [List.getElem?_eq_none (by omega)]
        split
        · rw [List.getElem?_eq_none (by omega)]; rfl
        · rw [List.getElem?_eq_none (by simp; omega)]; rfl
  unfold hearF
  by_cases k2 : p.k = 2
  · rw [if_pos k2]
    exact setM 2 fun x => by unfold hrX; rw [if_pos k2]
  by_cases k3 : p.k = 3
  · rw [if_neg k2, if_pos k3]
    exact setM 3 fun x => by unfold hrX; rw [if_neg k2, if_pos k3]
  · rw [if_neg k2, if_neg k3]
    unfold hearR
    conv => rhs; rw [← List.map_id l]
    refine List.map_congr_left fun x _ => ?_
    unfold hrX; rw [if_neg k2, if_neg k3]; simp
theorem subF_new {l : List Sent} {c : Cmt} (hid : 0 ≤ c.id ∧ c.id ≤ 1000000) (ha : c.app = 0 ∨ c.app = 1) (hn : noteB c.s = true) (hl : l.length < 100) :
    subF l c = if hasE l c.id = true then (l, [], 300) else (l ++ [⟨c.id, c.app, 1, c.s⟩], [⟨1, c.app, c.id, c.s⟩], 0) := by
  unfold subF
  have h1 : idB c.id = true := by unfold idB; simp; omega
  rw [if_neg (by rw [h1, hn]; simp; omega)]
  by_cases h : hasE l c.id = true
  · rw [if_pos (.inl h), if_pos h]
  · rw [if_neg (by rintro (g | g); exact h g; omega), if_neg h]
theorem hasE_core {l : List Sent} {id : Int} : hasE l id = true ↔ ∃ k ∈ coreL l, k.id = id := by
  unfold hasE
  rw [List.any_eq_true]
  constructor
  · rintro ⟨x, h1, h2⟩; exact ⟨_, mem_core.2 ⟨x, h1, rfl⟩, by simpa using h2⟩
  · rintro ⟨k, h1, h2⟩
    obtain ⟨x, hx, rfl⟩ := mem_core.1 h1
    exact ⟨x, hx, by simpa using h2⟩
end Go.Proofs
