/- Owned memory that nobody writes to any more becomes data; an empty row becomes owned memory. -/
import Derived.Test.YthmeobfdmeepbaaCoreI
set_option linter.unusedVariables false
set_option linter.unusedSimpArgs false
namespace Go.Ideal
open Go.RowKit

def frz0 (k sz : Nat) (xs : List AV) : AV → AV
  | .osl k' off len => if k' = k then (if off + len ≤ xs.length then .sl false sz ((xs.drop off).take len) else .junk) else .osl k' off len
  | .op k' i j => if k' = k then (if i < xs.length then .cp ((xs.getD i .junk).cells.drop j) else .junk) else .op k' i j
  | x => x
def frz1 (k sz : Nat) (xs : List AV) : AV → AV
  | .fn f caps => .fn f (caps.map (frz0 k sz xs))
  | .tup ys => .tup (ys.map (frz0 k sz xs))
  | x => frz0 k sz xs x
def frz2 (k sz : Nat) (xs : List AV) : AV → AV
  | .opt b x => .opt b (frz1 k sz xs x)
  | x => frz1 k sz xs x
def St.frz (σ : St) (k : Nat) : St :=
  match look σ.h k with
  | none => σ
  | some o => ⟨σ.s.map (frz2 k o.sz o.xs), drop σ.h k⟩

section
variable {ok ok' : Nat → Prop} {φ φ' : Names} {w w' : World} {v u : Value} {P : Program} {c : Ctx} {σ : St} {a : Act} {y : AV}

theorem ObjAt.row {g sz N : Nat} {e : TypeId} {xs : List AV} (h : ObjAt ok w g sz N e xs) : ∃ vs : List Value, Pts (DRep ok w) vs (flat xs) ∧ (∀ v ∈ vs, v.oneCell' = true) ∧
    ∀ (j : Nat) v, vs[j]? = some v → w.cell? ⟨g, j, none⟩ = some v := by
  obtain ⟨cur, fz, h1, hz, h2, h3, h4, h5, h6⟩ := h
  refine ⟨_, h6, h5, fun j v hv => ?_⟩
  rw [cell_of_row w g j cur e fz h1]
  rw [List.getElem?_take] at hv
  split at hv
  · simpa using hv
  · cases hv

theorem ObjAt.part {g sz N : Nat} {e : TypeId} {xs : List AV} (h : ObjAt ok w g sz N e xs) {off len cap : Nat} (hl : off + len ≤ xs.length) (hc : len ≤ cap) (hg : ok g) :
    DRep ok w (.slice (some ⟨g, off * sz, none⟩) len cap) (.sl false sz ((xs.drop off).take len)) := by
  obtain ⟨vs, hp, h1, hm⟩ := h.row
  obtain ⟨cur, fz, _, _, _, _, hsz, _⟩ := h
  have hlen : ((xs.drop off).take len).length = len := by simp; omega
  by_cases h0 : len = 0
  · subst h0
    simpa using DRep.slNil (ok := ok) (w := w) false sz (some ⟨g, off * sz, none⟩) cap (by simp)
  · have hf : flat ((xs.drop off).take len) = ((flat xs).drop (off * sz)).take (len * sz) := by
      rw [flat_drop hsz, flat_take (fun x hx => hsz x (List.mem_of_mem_drop hx))]
    have hp' := (hp.drop (off * sz)).take (len * sz)
    rw [← hf] at hp'
    have hvl : vs.length = xs.length * sz := by rw [hp.1, flat_len hsz]
    have := DRep.sl (ok := ok) (w := w) false g (off * sz) cap sz ((xs.drop off).take len) ((vs.drop (off * sz)).take (len * sz)) hg (by intro e; rw [e] at hlen; simp at hlen; omega)
      (by omega) (by simp) (fun x hx => hsz x (List.mem_of_mem_drop (List.mem_of_mem_take hx))) hp'.1 (fun v hv => h1 v (List.mem_of_mem_drop (List.mem_of_mem_take hv)))
      (fun j v hv => by
        rw [List.getElem?_take] at hv
        split at hv
        · rw [List.getElem?_drop] at hv; exact hm _ v hv
        · cases hv) hp'.2
    rwa [hlen] at this

theorem ObjAt.ptr {g sz N : Nat} {e : TypeId} {xs : List AV} (h : ObjAt ok w g sz N e xs) {i j : Nat} (hi : i < xs.length) (hg : ok g) :
    DRep ok w (.pointer (some ⟨g, i * sz + j, none⟩)) (.cp ((xs.getD i .junk).cells.drop j)) := by
  obtain ⟨vs, hp, h1, hm⟩ := h.row
  obtain ⟨cur, fz, _, _, _, _, hsz, _⟩ := h
  have hget : xs.getD i .junk ∈ xs := by simp [List.getD, hi]
  have hf : (xs.getD i .junk).cells = ((flat xs).drop (i * sz)).take sz := by
    have e : xs.drop i = xs.getD i .junk :: xs.drop (i + 1) := by rw [List.drop_eq_getElem_cons hi]; simp [List.getD, hi]
    rw [flat_drop hsz, e, flat_cons, List.take_left' (hsz _ hget)]
  have hp' := ((hp.drop (i * sz)).take sz).drop j
  rw [← hf] at hp'
  refine .cp g _ _ (((vs.drop (i * sz)).take sz).drop j) hg hp'.1 (fun v hv => h1 v (List.mem_of_mem_drop (List.mem_of_mem_take (List.mem_of_mem_drop hv)))) (fun n v hv => ?_) hp'.2
  rw [List.getElem?_drop, List.getElem?_take] at hv
  split at hv
  · rw [List.getElem?_drop] at hv
    have := hm _ v hv
    rwa [← Nat.add_assoc] at this
  · cases hv

theorem frz0_sound {k : Nat} {o : HO} {x : AV} {B : Nat} (hh : HeapOK ok φ σ.h w B) (hk : look σ.h k = some o) (hsub : ∀ b, ok b → ok' b) (hg : ∀ g sz N, φ k = some (g, sz, N) → ok' g) (h : R0 ok φ w v x) : R0 ok' φ w v (frz0 k o.sz o.xs x) := by
  cases x <;> first | exact h.mono hsub (fun _ _ => rfl) (fun _ _ => rfl) | skip
  case osl k' off len =>
    simp only [frz0]
    by_cases e : k' = k
    · subst e
      simp only [if_true]
      by_cases hl : off + len ≤ o.xs.length
      · rw [if_pos hl]
        rcases h with ⟨a, rfl, rfl⟩ | ⟨g, sz, N, cap, h1, rfl, h3, h4⟩
        · refine R0.of_data ?_
          simpa using DRep.slNil (ok := ok') (w := w) false o.sz a 0 (by simp)
        · rcases hh.at_ k' o hk with ⟨h5, _⟩ | ⟨g', N', h5, h6, h7, h8⟩
          · rw [h5] at h1; cases h1
          · rw [h5] at h1; cases h1
            exact (h8.mono hsub (fun _ _ => rfl) rfl).part hl h3 (hg _ _ _ h5)
      · rw [if_neg hl]; trivial
    · simp only [e, if_false]
      exact h.mono hsub (fun _ _ => rfl) (fun _ _ => rfl)
  case op k' i j =>
    simp only [frz0]
    by_cases e : k' = k
    · subst e
      simp only [if_true]
      by_cases hl : i < o.xs.length
      · rw [if_pos hl]
        obtain ⟨g, sz, N, h1, rfl⟩ := h
        rcases hh.at_ k' o hk with ⟨h5, _⟩ | ⟨g', N', h5, h6, h7, h8⟩
        · rw [h5] at h1; cases h1
        · rw [h5] at h1; cases h1
          exact (h8.mono hsub (fun _ _ => rfl) rfl).ptr hl (hg _ _ _ h5)
      · rw [if_neg hl]; trivial
    · simp only [e, if_false]
      exact h.mono hsub (fun _ _ => rfl) (fun _ _ => rfl)

theorem frz1_sound {k : Nat} {o : HO} {x : AV} {B : Nat} (hh : HeapOK ok φ σ.h w B) (hk : look σ.h k = some o) (hsub : ∀ b, ok b → ok' b) (hg : ∀ g sz N, φ k = some (g, sz, N) → ok' g) (h : R1 ok φ w v x) : R1 ok' φ w v (frz1 k o.sz o.xs x) := by
  by_cases hx : (∃ f caps, x = .fn f caps) ∨ (∃ xs, x = .tup xs)
  rotate_left
  · have e : R1 ok φ w v x = R0 ok φ w v x := by
      cases x <;> first | rfl | (exfalso; simp at hx)
    have e2 : frz1 k o.sz o.xs x = frz0 k o.sz o.xs x := by cases x <;> first | rfl | (exfalso; simp at hx)
    rw [e] at h
    rw [e2]
    exact R1.of_R0 (frz0_sound hh hk hsub hg h)
  rcases hx with ⟨f, caps, rfl⟩ | ⟨caps, rfl⟩
  all_goals
    obtain ⟨vs, rfl, hp⟩ := h
    refine ⟨vs, rfl, by simp [hp.1], fun i v x h1 h2 => ?_⟩
    rw [List.getElem?_map] at h2
    cases hx : caps[i]? with
    | none => simp [hx] at h2
    | some y =>
      simp [hx] at h2; subst h2
      exact frz0_sound hh hk hsub hg (hp.2 i v y h1 hx)

theorem frz2_sound {k : Nat} {o : HO} {x : AV} {B : Nat} (hh : HeapOK ok φ σ.h w B) (hk : look σ.h k = some o) (hsub : ∀ b, ok b → ok' b) (hg : ∀ g sz N, φ k = some (g, sz, N) → ok' g) (h : R2 ok φ w v x) : R2 ok' φ w v (frz2 k o.sz o.xs x) := by
  by_cases hx : ∃ b y, x = .opt b y
  · obtain ⟨b, y, rfl⟩ := hx
    exact ⟨fun hb => frz1_sound hh hk hsub hg (h.1 hb), h.2⟩
  · have e : R2 ok φ w v x = R1 ok φ w v x := by cases x <;> first | rfl | (exfalso; simp at hx)
    have e2 : frz2 k o.sz o.xs x = frz1 k o.sz o.xs x := by cases x <;> first | rfl | (exfalso; simp at hx)
    rw [e] at h; rw [e2]
    exact R2.of_R1 (frz1_sound hh hk hsub hg h)

theorem Pts.map {R R' : Value → AV → Prop} {vs : List Value} {xs : List AV} {f : AV → AV} (h : Pts R vs xs) (hf : ∀ v x, R v x → R' v (f x)) : Pts R' vs (xs.map f) := by
  refine ⟨by simp [h.1], fun i v x h1 h2 => ?_⟩
  rw [List.getElem?_map] at h2
  cases hx : xs[i]? with
  | none => simp [hx] at h2
  | some y => simp [hx] at h2; subst h2; exact hf _ _ (h.2 i v y h1 hx)

theorem look_drop_some {H : List (Nat × HO)} {k k' : Nat} {o : HO} (h : look (drop H k) k' = some o) : k' ≠ k ∧ look H k' = some o := by
  by_cases e : k' = k
  · subst e; rw [look_drop_self] at h; cases h
  · rw [look_drop_ne _ e] at h; exact ⟨e, h⟩

theorem HeapOK.drop {H : List (Nat × HO)} {B : Nat} (h : HeapOK ok φ H w B) (k : Nat) : HeapOK ok φ (drop H k) w B :=
  ⟨fun j o hj => h.at_ j o (look_drop_some hj).2, fun j j' o o' g sz N sz' N' h1 h2 => h.inj j j' o o' g sz N sz' N' (look_drop_some h1).2 (look_drop_some h2).2⟩

theorem Le.frz (k : Nat) : Le c σ (σ.frz k) := by
  rintro a w ⟨ok, φ, h⟩
  unfold St.frz
  split
  · exact ⟨ok, φ, h⟩
  · rename_i o hk
    rcases h.heap.at_ k o hk with ⟨h5, h6⟩ | ⟨g, N, h5, h6, h7, h8⟩
    · refine ⟨ok, φ, h.defers, h.slots.map fun v x hx => frz2_sound h.heap hk (fun _ h => h) (fun g sz N e => by rw [h5] at e; cases e) hx, h.heap.drop k, h.okLt, h.okOr, h.ok0, h.below⟩
    · refine ⟨fun b => ok b ∨ b = g, φ, h.defers, h.slots.map fun v x hx => frz2_sound h.heap hk (fun _ h => .inl h) (fun g' sz N e => by rw [h5] at e; cases e; exact .inr rfl) hx, ?_, ?_, ?_, fun b hb => .inl (h.ok0 b hb), h.below⟩
      · refine (h.heap.drop k).mono (fun _ h => .inl h) (fun _ _ => rfl) fun k' o' g' sz N' ho hφ => ⟨rfl, fun hh => ?_⟩
        obtain ⟨hne, ho⟩ := look_drop_some ho
        rcases hh with hh | hh
        · exact (h.heap.lt ho hφ).2.2 hh
        · subst hh; exact hne (h.heap.inj k' k o' o _ _ _ _ _ ho hk hφ h5)
      · rintro b (hb | rfl)
        · exact h.okLt b hb
        · exact (h.heap.lt hk h5).1
      · rintro b (hb | rfl)
        · exact h.okOr b hb
        · exact .inr (h.heap.lt hk h5).2.1

/-- A name that no slot has any more. -/
def St.free (σ : St) (k : Nat) : St := ⟨σ.s.map (AV.kill k), drop σ.h k⟩
theorem Le.free (k : Nat) : Le c σ (σ.free k) := by
  rintro a w ⟨ok, φ, h⟩
  exact ⟨ok, φ, h.defers, h.slots.map fun v x hx => kill_R2 hx (fun _ h => h) (fun _ _ => rfl) (fun _ _ => rfl), h.heap.drop k, h.okLt, h.okOr, h.ok0, h.below⟩

/-- An empty row without room becomes owned memory of the name k. -/
def St.own (σ : St) (i k sz : Nat) (e : TypeId) : St :=
  match σ.look1 i with
  | .sl true _ [] => ⟨(σ.s.map (AV.kill k)).set i (.osl k 0 0), put σ.h k ⟨sz, e, []⟩⟩
  | _ => σ
theorem Le.own (i k sz : Nat) (e : TypeId) : Le c σ (σ.own i k sz e) := by
  rintro a w ⟨ok, φ, h⟩
  unfold St.own
  split
  · rename_i sz' hi
    have hlt : i < σ.s.length := by
      by_cases h' : i < σ.s.length
      · exact h'
      · simp [St.look1, List.getD, h'] at hi
    obtain ⟨v, hv, hr⟩ := h.slots.get (i := i) (x := σ.look1 i) (getD_some hlt)
    rw [hi] at hr
    have hs : ∃ a, v = .slice a 0 0 := by
      have hr : DRep ok w v (.sl true sz' []) := hr
      cases hr with
      | slNil _ _ a cap hc => exact ⟨a, by rw [hc rfl]⟩
      | sl _ b o cap _ _ vs hb hne => exact absurd rfl hne
    obtain ⟨ad, rfl⟩ := hs
    let φ' : Names := fun j => if j = k then none else φ j
    have hne : ∀ j, j ≠ k → φ' j = φ j := fun j hj => by simp [φ', hj]
    refine ⟨ok, φ', h.defers, ?_, ?_, h.okLt, h.okOr, h.ok0, h.below⟩
    · have h1 := h.slots.map (R' := R2 ok φ' w) fun v x hx => kill_R2 (k := k) hx (fun _ h => h) (fun _ _ => rfl) hne
      have h2 := h1.set (i := i) (v := .slice ad 0 0) (x := .osl k 0 0) (.inl ⟨ad, rfl, rfl⟩)
      have e : a.tmps.toList.set i (.slice ad 0 0) = a.tmps.toList := by
        apply List.ext_getElem?
        intro j
        rw [List.getElem?_set]
        split
        · rename_i e; subst e
          have := (List.getElem?_eq_some_iff.1 hv).1
          rw [if_pos this, hv]
        · rfl
      rwa [e] at h2
    · refine ⟨fun j o hj => ?_, fun j j' o o' g sz N sz' N' h1 h2 h3 h4 => ?_⟩
      · by_cases e : j = k
        · subst e
          rw [look_put_self] at hj; cases hj
          exact .inl ⟨by simp [φ'], rfl⟩
        · rw [look_put_ne _ _ e] at hj
          rw [hne j e]; exact h.heap.at_ j o hj
      · by_cases e : j = k
        · simp [φ', e] at h3
        · by_cases e' : j' = k
          · simp [φ', e'] at h4
          · rw [look_put_ne _ _ e] at h1
            rw [look_put_ne _ _ e'] at h2
            rw [hne j e] at h3; rw [hne j' e'] at h4
            exact h.heap.inj j j' o o' g sz N sz' N' h1 h2 h3 h4
  · exact ⟨ok, φ, h⟩

/-- The names that an operand has. -/
def AV.nm0 : AV → List Nat
  | .osl k _ _ => [k]
  | .op k _ _ => [k]
  | _ => []
def AV.nm : AV → List Nat
  | .fn _ caps => caps.flatMap AV.nm0
  | .tup xs => xs.flatMap AV.nm0
  | x => x.nm0
def St.frzs (σ : St) : List Nat → St
  | [] => σ
  | k :: ks => (σ.frz k).frzs ks
theorem Le.frzs : ∀ (ks : List Nat) (σ : St), Le c σ (σ.frzs ks)
  | [], _ => Le.refl
  | k :: ks, σ => (Le.frz k).trans (Le.frzs ks _)
def St.frzO (σ : St) (xs : List Operand) : St := σ.frzs (xs.flatMap fun x => (σ.get true x).2.nm)
theorem Le.frzO (xs : List Operand) : Le c σ (σ.frzO xs) := Le.frzs _ _
theorem TL.weaken {ops : Array Oper} {N : St → Prop} {E : Nat → St → Prop} {R : St → Prop} {rest : List Oper} {σ' : St} (h : Le c σ σ') (t : TL c ops N E R rest σ') : TL c ops N E R rest σ := fun a w ha => t a w (h a w ha)

end
end Go.Ideal
