/- Messages: what was refused is rejected; what arrived before stays. -/
import Derived.Test.YtomdfdppfhkbjaaMB
set_option linter.unusedVariables false
set_option linter.unusedSimpArgs false
namespace Go.Proofs
open Go Go.Ideal
set_option maxRecDepth 8000
set_option maxHeartbeats 4000000

theorem srt_lenM {l : List Mark} {lo hi : Int} (hs : l.Pairwise fun a b => a.id < b.id) (hb : ∀ m ∈ l, lo ≤ m.id ∧ m.id < hi) (h : lo ≤ hi) : (l.length : Int) ≤ hi - lo := by
  induction l generalizing lo with
  | nil => simp; omega
  | cons a l ih =>
    obtain ⟨h1, h2⟩ := hb a (by simp)
    have := ih (lo := a.id + 1) (List.Pairwise.of_cons hs) (fun m hm => by
      have := List.rel_of_pairwise_cons hs hm
      exact ⟨by omega, (hb m (by simp [hm])).2⟩) (by omega)
    simp only [List.length_cons]; omega
structure Small (s : MSt) : Prop where
  k : ∀ k ∈ coreL s.l, k.id ≤ 11
  r : ∀ a : Nat, a < 2 → ∀ id ∈ (s.c.getD a default).ref, id ≤ 11
theorem recv_ref {c : Client} {a : Int} {p : Packet} : ∀ id ∈ (recvF c a p).1.ref, id ∈ c.ref ∨ (p.k = 1 ∧ p.app = a ∧ id = p.id) := by
  intro id hid
  unfold recvF at hid
  split at hid
  · rename_i hs
    unfold subB at hs
    simp only [Bool.and_eq_true, decide_eq_true_eq] at hs
    unfold decF at hid
    split at hid
    · exact .inl hid
    · split at hid
      · exact .inl hid
      · split at hid
        · rcases mem_withL.1 hid with g | g
          · exact .inr ⟨hs.1, hs.2.1, g⟩
          · exact .inl g
        · exact .inl hid
  · exact .inl hid
theorem small_step {i : Nat} {s : MSt} (x : MRaw) (h : MInv i s) (hi : i < 16) (hs : Small s) : Small (stepG hearF s x) := by
  obtain ⟨n1, n2, n3⟩ := newF_ok x
  have hll := h.ll
  have hc2 := h.c
  unfold stepG
  split
  · have e := subF_new (l := s.l) (c := newF x) ⟨by omega, by omega⟩ n2 n3 (by omega)
    rw [e]
    split
    · exact ⟨hs.k, hs.r⟩
    · refine ⟨fun k hk => ?_, hs.r⟩
      simp only at hk
      rw [coreL_app] at hk
      rcases List.mem_append.1 hk with hk | hk
      · exact hs.k k hk
      · simp [coreL] at hk; subst hk; exact n1.2
  · split
    · exact ⟨hs.k, hs.r⟩
    · split
      · refine ⟨hs.k, fun b hb id hid => ?_⟩
        simp only at hid
        rw [getD_set2 hc2 (by omega)] at hid
        split at hid
        · unfold refuF at hid
          split at hid
          · exact hs.r _ (by omega) id hid
          · rcases mem_withL.1 hid with g | g
            · omega
            · exact hs.r _ (by omega) id g
        · exact hs.r b hb id hid
      · split
        · rename_i hc
          obtain ⟨c1, c2, c3, c4⟩ := hc
          have hm : (⟨(pickF s x).1.id, (pickF s x).1.app, (pickF s x).1.s⟩ : Cmt) ∈ coreL s.l := by
            rcases h.pk _ (pick_mem c1) with ⟨_, g⟩ | ⟨_, _, g⟩
            · exact g
            · omega
          have hid11 := hs.k _ hm
          simp only at hid11
          refine ⟨hs.k, fun b hb id hid => ?_⟩
          simp only at hid
          rw [getD_set2 hc2 (by omega)] at hid
          split at hid
          · rcases recv_ref id hid with g | ⟨_, _, g⟩
            · exact hs.r _ (by omega) id g
            · omega
          · exact hs.r b hb id hid
        · split
          · rename_i hc hp
            have hk1 : (pickF s x).1.k ≠ 1 := by
              intro g
              rcases h.pk _ (pick_mem hp) with ⟨_, m⟩ | ⟨_, _, m⟩
              · have := (h.k.el _ m).2.2.1
                simp only at this
                exact hc ⟨hp, g, by omega, by omega⟩
              · omega
            refine ⟨?_, hs.r⟩
            simp only
            rw [(hear_inv h (pick_mem hp) hk1).2]; exact hs.k
          · exact hs
theorem small_run (l : List MRaw) : ∀ i, i ≤ 16 → Small (runM l i)
  | 0, _ => by
    refine ⟨by simp [coreL, runM, beginF], fun a ha id hid => ?_⟩
    have : (runM l 0).c.getD a default = noClient := by
      match a, ha with
      | 0, _ => rfl
      | 1, _ => rfl
    rw [this] at hid
    simp [noClient] at hid
  | i + 1, hi => small_step _ (runM_inv l i (by omega)) (by omega) (small_run l i (by omega))
/-- A client before a commit with a new Id. -/
theorem fresh_at {i : Nat} {s : MSt} (h : MInv i s) (hs : Small s) {a : Nat} (ha : a < 2) : (100 : Int) ∉ (s.c.getD a default).has ∧ (100 : Int) ∉ (s.c.getD a default).ref ∧ hasId (s.c.getD a default).d.m 100 = false ∧ (s.c.getD a default).d.m.length ≤ 12 := by
  have hc := h.cl a ha
  have hin : ∀ id ∈ (s.c.getD a default).has, 0 ≤ id ∧ id ≤ 11 := by
    intro id g
    obtain ⟨k, k1, k2, _⟩ := hc.src id g
    have := hs.k k k1
    have := (h.k.el k k1).1
    omega
  refine ⟨fun g => by have := hin _ g; omega, fun g => by have := hs.r a ha _ g; omega, ?_, ?_⟩
  · cases hh : hasId (s.c.getD a default).d.m 100 with
    | false => rfl
    | true =>
      obtain ⟨m, m1, m2⟩ := hasId_mem.1 hh
      have := hin _ (hc.mrk m m1); omega
  · have := srt_lenM (lo := 0) (hi := 12) hc.okd.srt (fun m hm => by have := hin _ (hc.mrk m hm); omega) (by omega)
    omega
theorem cnt_of {d : Doc} (hd : OkD d) (id : Int) : (hasId d.m id = true → cntM d id = 1) ∧ (hasId d.m id = false → cntM d id = 0) := by
  unfold cntM
  rw [cnt_eq hd.srt]
  exact ⟨fun g => by rw [if_pos g], fun g => by rw [if_neg (by rw [g]; decide)]⟩
/-- What a client does with a new commit. -/
theorem recv_new {c : Client} {a : Nat} {t : List UInt8} (hd : OkD c.d) (hn : noteB t = true) (h1 : (100 : Int) ∉ c.has) (h2 : (100 : Int) ∉ c.ref) (h3 : hasId c.d.m 100 = false) (h4 : c.d.m.length < 100) :
    (c.d.s.length + t.length ≤ 400 ∧ ∃ d', recvF c a ⟨1, a, 100, t⟩ = (⟨d', withL c.has 100, c.ref⟩, [ackP a 100]) ∧ OkD d' ∧ d'.s.length = c.d.s.length + t.length ∧ cntM d' 100 = 1) ∨
    (c.d.s.length + t.length > 400 ∧ recvF c a ⟨1, a, 100, t⟩ = (⟨c.d, c.has, withL c.ref 100⟩, [rejP a 100]) ∧ cntM c.d 100 = 0) := by
  have hsub : subB (a : Int) ⟨1, a, 100, t⟩ = true := by unfold subB idB; simp [hn]
  have hr : recvF c a ⟨1, a, 100, t⟩ = ((decF c a 100 t).1, [(decF c a 100 t).2]) := by unfold recvF; rw [if_pos hsub]
  have n1 : ¬ hasN c.has 100 = true := fun g => h1 (hasN_mem.1 g)
  have n2 : ¬ hasN c.ref 100 = true := fun g => h2 (hasN_mem.1 g)
  rcases put_end hd (id := 100) (by omega) h3 hn with ⟨z, o1, o2, o3⟩ | ⟨z, o1⟩
  · left
    have e : decF c a 100 t = (⟨(putF c.d 100 c.d.s.length t).1, withL c.has 100, c.ref⟩, ackP a 100) := by unfold decF; rw [if_neg n1, if_neg n2, if_neg (by omega)]
    rw [hr, e]
    have hl := o1.len
    have hlen : (putF c.d 100 c.d.s.length t).1.s.length = c.d.s.length + t.length := by rw [o2, List.length_append]
    exact ⟨by omega, _, rfl, o1, hlen, (cnt_of o1 100).1 (hasId_mem.2 ⟨_, (o3 _).2 (.inl rfl), rfl⟩)⟩
  · right
    have e : decF c a 100 t = (⟨c.d, c.has, withL c.ref 100⟩, rejP a 100) := by unfold decF; rw [if_neg n1, if_neg n2, if_pos z]
    rw [hr, e]
    exact ⟨by omega, rfl, (cnt_of hd 100).2 h3⟩
end Go.Proofs
