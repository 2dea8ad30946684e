/- Owned memory that nobody writes to any more becomes data; an empty row becomes owned memory. -/
import Derived.Test.YtdhkkdhooobdhaaGreatDoorCoreI
set_option linter.unusedVariables false
set_option linter.unusedSimpArgs false
namespace Go.Ideal
open Go.RowKit

def frz0 (k sz : Nat) (xs : List AV) : AV → AV
  | .osl k' off len => if k' = k then (if off + len ≤ xs.length then .sl false sz ((xs.drop off).take len) else .junk) else .osl k' off len
  | .op k' i j => if k' = k then (if i < xs.length then .cp ((xs.getD i .junk).cells.drop j) else .junk) else .op k' i j
  | x => x
/-- A struct: data, or with names. -/
def mkBig (cs : List AV) : AV := bif cs.all AV.data0 then .agg cs else .big cs
theorem R1.mkBig {ok : Nat → Prop} {φ : Names} {w : World} {vs : List Value} {cs : List AV} (h1 : ∀ u ∈ vs, u.oneCell' = true) (h : Pts (R0 ok φ w) vs cs) : R1 ok φ w (.agg vs.toArray) (Ideal.mkBig cs) := by
  unfold Ideal.mkBig
  cases hd : cs.all AV.data0 with
  | true =>
    exact R1.of_data (.agg vs cs h.1 h1 fun i v x h2 h3 => (h.2 i v x h2 h3).data (List.all_eq_true.1 hd x (List.mem_of_getElem? h3)))
  | false => exact ⟨vs, rfl, h1, h⟩
def frz1 (k sz : Nat) (xs : List AV) : AV → AV
  | .fn f caps => .fn f (caps.map (frz0 k sz xs))
  | .tup ys => .tup (ys.map (frz0 k sz xs))
  | .big ys => mkBig (ys.map (frz0 k sz xs))
  | x => frz0 k sz xs x
def frz2 (k sz : Nat) (xs : List AV) : AV → AV
  | .opt b x => .opt b (frz1 k sz xs x)
  | x => frz1 k sz xs x
def frzE (k sz : Nat) (xs : List AV) : AV → AV
  | .agg cs => .agg (cs.map (frz0 k sz xs))
  | x => frz0 k sz xs x
def frzB (k sz : Nat) (xs : List AV) : HO → HO
  | ⟨s, e, true, ys⟩ => ⟨s, e, true, ys.map (frzE k sz xs)⟩
  | ⟨s, e, false, ys⟩ => ⟨s, e, false, ys⟩
def frzH (k sz : Nat) (xs : List AV) : List (Nat × HO) → List (Nat × HO)
  | [] => []
  | (j, o) :: H => (j, frzB k sz xs o) :: frzH k sz xs H
theorem look_frzH (k sz : Nat) (xs : List AV) (H : List (Nat × HO)) (j : Nat) : look (frzH k sz xs H) j = (look H j).map (frzB k sz xs) := by
  induction H with
  | nil => rfl
  | cons p t ih =>
    obtain ⟨i, o⟩ := p
    simp only [frzH, look]
    split <;> simp_all
theorem frz0_cells1 (k sz : Nat) (xs : List AV) (x : AV) (h : ∀ cs, x ≠ .agg cs) : (frz0 k sz xs x).cells = [frz0 k sz xs x] := by
  cases x <;> first | rfl | exact absurd rfl (h _) | skip
  case osl k' off len =>
    simp only [frz0]
    split
    · split <;> rfl
    · rfl
  case op k' i j =>
    simp only [frz0]
    split
    · split <;> rfl
    · rfl
theorem frzE_cells (k sz : Nat) (xs : List AV) (x : AV) : (frzE k sz xs x).cells = x.cells.map (frz0 k sz xs) := by
  by_cases h : ∃ cs, x = .agg cs
  · obtain ⟨cs, rfl⟩ := h; rfl
  · have h1 : ∀ cs, x ≠ .agg cs := fun cs e => h ⟨cs, e⟩
    have e1 : frzE k sz xs x = frz0 k sz xs x := by cases x <;> first | rfl | exact absurd rfl (h1 _)
    have e2 : x.cells = [x] := by cases x <;> first | rfl | exact absurd rfl (h1 _)
    rw [e1, frz0_cells1 k sz xs x h1, e2]; rfl
theorem flat_frzE (k sz : Nat) (xs ys : List AV) : flat (ys.map (frzE k sz xs)) = (flat ys).map (frz0 k sz xs) := by
  induction ys with
  | nil => rfl
  | cons x ys ih =>
    simp only [flat, List.map_cons, List.flatMap_cons, List.map_append] at ih ⊢
    rw [ih, frzE_cells]
theorem frzB_sz (k sz : Nat) (xs : List AV) (o : HO) : (frzB k sz xs o).sz = o.sz := by obtain ⟨s, e, b, ys⟩ := o; cases b <;> rfl
theorem frzB_nil (k sz : Nat) (xs : List AV) (o : HO) (h : o.xs = []) : (frzB k sz xs o).xs = [] := by
  obtain ⟨s, e, b, ys⟩ := o
  simp only at h
  subst h
  cases b <;> rfl
def St.frz (σ : St) (k : Nat) : St :=
  match look σ.h k with
  | none => σ
  | some o => if (o.bx && !(flat o.xs).all AV.data0) = true then σ else ⟨σ.s.map (frz2 k o.sz o.xs), frzH k o.sz o.xs (drop σ.h k)⟩

section
variable {ok ok' : Nat → Prop} {φ φ' : Names} {w w' : World} {v u : Value} {P : Program} {c : Ctx} {σ : St} {a : Act} {y : AV}

theorem ObjAt.row {g sz N : Nat} {e : TypeId} {bx : Bool} {xs : List AV} (h : ObjAt ok φ w g sz N e bx xs) (hd : bx = true → (flat xs).all AV.data0 = true) : ∃ vs : List Value, Pts (DRep ok w) vs (flat xs) ∧ (∀ v ∈ vs, v.oneCell' = true) ∧
    ∀ (j : Nat) v, vs[j]? = some v → w.cell? ⟨g, j, none⟩ = some v := by
  obtain ⟨cur, fz, h1, hz, h2, h3, h4, h5, h6⟩ := h
  have h6' : Pts (DRep ok w) (cur.toList.take (flat xs).length) (flat xs) := by
    cases bx with
    | false => exact h6
    | true => exact ⟨h6.1, fun i v x a1 a2 => R0.data (h6.2 i v x a1 a2) (List.all_eq_true.1 (hd rfl) x (List.mem_of_getElem? a2))⟩
  refine ⟨_, h6', h5, fun j v hv => ?_⟩
  rw [cell_of_row w g j cur e fz h1]
  rw [List.getElem?_take] at hv
  split at hv
  · simpa using hv
  · cases hv

theorem ObjAt.part {g sz N : Nat} {e : TypeId} {bx : Bool} {xs : List AV} (h : ObjAt ok φ w g sz N e bx xs) (hd : bx = true → (flat xs).all AV.data0 = true) {off len cap : Nat} (hl : off + len ≤ xs.length) (hc : len ≤ cap) (hg : ok g) :
    DRep ok w (.slice (some ⟨g, off * sz, none⟩) len cap) (.sl false sz ((xs.drop off).take len)) := by
  obtain ⟨vs, hp, h1, hm⟩ := h.row hd
  obtain ⟨cur, fz, _, _, _, _, hsz, _⟩ := h
  have hlen : ((xs.drop off).take len).length = len := by simp; omega
  by_cases h0 : len = 0
  · subst h0
    simpa using DRep.slNil (ok := ok) (w := w) false sz (some ⟨g, off * sz, none⟩) cap (by simp)
  · have hf : flat ((xs.drop off).take len) = ((flat xs).drop (off * sz)).take (len * sz) := by
      rw [flat_drop hsz, flat_take (fun x hx => hsz x (List.mem_of_mem_drop hx))]
    have hp' := (hp.drop (off * sz)).take (len * sz)
    rw [← hf] at hp'
    have hvl : vs.length = xs.length * sz := by rw [hp.1, flat_len hsz]
    have := DRep.sl (ok := ok) (w := w) false g (off * sz) cap sz ((xs.drop off).take len) ((vs.drop (off * sz)).take (len * sz)) hg (by intro e; rw [e] at hlen; simp at hlen; omega)
      (by omega) (by simp) (fun x hx => hsz x (List.mem_of_mem_drop (List.mem_of_mem_take hx))) hp'.1 (fun v hv => h1 v (List.mem_of_mem_drop (List.mem_of_mem_take hv)))
      (fun j v hv => by
        rw [List.getElem?_take] at hv
        split at hv
        · rw [List.getElem?_drop] at hv; exact hm _ v hv
        · cases hv) hp'.2
    rwa [hlen] at this

theorem ObjAt.ptr {g sz N : Nat} {e : TypeId} {bx : Bool} {xs : List AV} (h : ObjAt ok φ w g sz N e bx xs) (hd : bx = true → (flat xs).all AV.data0 = true) {i j : Nat} (hi : i < xs.length) (hg : ok g) :
    DRep ok w (.pointer (some ⟨g, i * sz + j, none⟩)) (.cp ((xs.getD i .junk).cells.drop j)) := by
  obtain ⟨vs, hp, h1, hm⟩ := h.row hd
  obtain ⟨cur, fz, _, _, _, _, hsz, _⟩ := h
  have hget : xs.getD i .junk ∈ xs := by simp [List.getD, hi]
  have hf : (xs.getD i .junk).cells = ((flat xs).drop (i * sz)).take sz := by
    have e : xs.drop i = xs.getD i .junk :: xs.drop (i + 1) := by rw [List.drop_eq_getElem_cons hi]; simp [List.getD, hi]
    rw [flat_drop hsz, e, flat_cons, List.take_left' (hsz _ hget)]
  have hp' := ((hp.drop (i * sz)).take sz).drop j
  rw [← hf] at hp'
  refine .cp g _ _ (((vs.drop (i * sz)).take sz).drop j) hg hp'.1 (fun v hv => h1 v (List.mem_of_mem_drop (List.mem_of_mem_take (List.mem_of_mem_drop hv)))) (fun n v hv => ?_) hp'.2
  rw [List.getElem?_drop, List.getElem?_take] at hv
  split at hv
  · rw [List.getElem?_drop] at hv
    have := hm _ v hv
    rwa [← Nat.add_assoc] at this
  · cases hv

theorem frz0_sound {k : Nat} {o : HO} {x : AV} {B : Nat → Prop} (hh : HeapOK ok φ σ.h w B) (hk : look σ.h k = some o) (hd : o.bx = true → (flat o.xs).all AV.data0 = true) (hsub : ∀ b, ok b → ok' b) (hg : ∀ g sz N, φ k = some (g, sz, N) → ok' g) (h : R0 ok φ w v x) : R0 ok' φ w v (frz0 k o.sz o.xs x) := by
  cases x <;> first | exact h.mono hsub (fun _ _ => rfl) (fun _ _ => rfl) | skip
  case osl k' off len =>
    simp only [frz0]
    by_cases e : k' = k
    · subst e
      simp only [if_true]
      by_cases hl : off + len ≤ o.xs.length
      · rw [if_pos hl]
        rcases h with ⟨a, rfl, rfl⟩ | ⟨g, sz, N, cap, h1, rfl, h3, h4⟩
        · refine R0.of_data ?_
          simpa using DRep.slNil (ok := ok') (w := w) false o.sz a 0 (by simp)
        · rcases hh.at_ k' o hk with ⟨h5, _⟩ | ⟨g', N', h5, h6, h7, h8⟩
          · rw [h5] at h1; cases h1
          · rw [h5] at h1; cases h1
            exact (h8.mono hsub (fun _ _ => rfl) rfl).part hd hl h3 (hg _ _ _ h5)
      · rw [if_neg hl]; trivial
    · simp only [e, if_false]
      exact h.mono hsub (fun _ _ => rfl) (fun _ _ => rfl)
  case op k' i j =>
    simp only [frz0]
    by_cases e : k' = k
    · subst e
      simp only [if_true]
      by_cases hl : i < o.xs.length
      · rw [if_pos hl]
        obtain ⟨g, sz, N, h1, rfl⟩ := h
        rcases hh.at_ k' o hk with ⟨h5, _⟩ | ⟨g', N', h5, h6, h7, h8⟩
        · rw [h5] at h1; cases h1
        · rw [h5] at h1; cases h1
          exact (h8.mono hsub (fun _ _ => rfl) rfl).ptr hd hl (hg _ _ _ h5)
      · rw [if_neg hl]; trivial
    · simp only [e, if_false]
      exact h.mono hsub (fun _ _ => rfl) (fun _ _ => rfl)

theorem frz1_sound {k : Nat} {o : HO} {x : AV} {B : Nat → Prop} (hh : HeapOK ok φ σ.h w B) (hk : look σ.h k = some o) (hd : o.bx = true → (flat o.xs).all AV.data0 = true) (hsub : ∀ b, ok b → ok' b) (hg : ∀ g sz N, φ k = some (g, sz, N) → ok' g) (h : R1 ok φ w v x) : R1 ok' φ w v (frz1 k o.sz o.xs x) := by
  by_cases hbg : ∃ ys, x = .big ys
  · obtain ⟨ys, rfl⟩ := hbg
    obtain ⟨vs, rfl, h1, hp⟩ := h
    refine R1.mkBig h1 ⟨by simp [hp.1], fun i v x h1 h2 => ?_⟩
    rw [List.getElem?_map] at h2
    cases hx : ys[i]? with
    | none => simp [hx] at h2
    | some y =>
      simp [hx] at h2; subst h2
      exact frz0_sound hh hk hd hsub hg (hp.2 i v y h1 hx)
  by_cases hx : (∃ f caps, x = .fn f caps) ∨ (∃ xs, x = .tup xs)
  rotate_left
  · have e : R1 ok φ w v x = R0 ok φ w v x := by
      cases x <;> first | rfl | (exfalso; simp at hbg; done) | (exfalso; simp at hx; done)
    have e2 : frz1 k o.sz o.xs x = frz0 k o.sz o.xs x := by cases x <;> first | rfl | (exfalso; simp at hbg; done) | (exfalso; simp at hx; done)
    rw [e] at h
    rw [e2]
    exact R1.of_R0 (frz0_sound hh hk hd hsub hg h)
  rcases hx with ⟨f, caps, rfl⟩ | ⟨caps, rfl⟩
  all_goals
    obtain ⟨vs, rfl, hp⟩ := h
    refine ⟨vs, rfl, by simp [hp.1], fun i v x h1 h2 => ?_⟩
    rw [List.getElem?_map] at h2
    cases hx : caps[i]? with
    | none => simp [hx] at h2
    | some y =>
      simp [hx] at h2; subst h2
      exact frz0_sound hh hk hd hsub hg (hp.2 i v y h1 hx)

theorem frz2_sound {k : Nat} {o : HO} {x : AV} {B : Nat → Prop} (hh : HeapOK ok φ σ.h w B) (hk : look σ.h k = some o) (hd : o.bx = true → (flat o.xs).all AV.data0 = true) (hsub : ∀ b, ok b → ok' b) (hg : ∀ g sz N, φ k = some (g, sz, N) → ok' g) (h : R2 ok φ w v x) : R2 ok' φ w v (frz2 k o.sz o.xs x) := by
  by_cases hx : ∃ b y, x = .opt b y
  · obtain ⟨b, y, rfl⟩ := hx
    exact ⟨fun hb => frz1_sound hh hk hd hsub hg (h.1 hb), h.2⟩
  · have e : R2 ok φ w v x = R1 ok φ w v x := by cases x <;> first | rfl | (exfalso; simp at hx)
    have e2 : frz2 k o.sz o.xs x = frz1 k o.sz o.xs x := by cases x <;> first | rfl | (exfalso; simp at hx)
    rw [e] at h; rw [e2]
    exact R2.of_R1 (frz1_sound hh hk hd hsub hg h)

theorem Pts.map {R R' : Value → AV → Prop} {vs : List Value} {xs : List AV} {f : AV → AV} (h : Pts R vs xs) (hf : ∀ v x, R v x → R' v (f x)) : Pts R' vs (xs.map f) := by
  refine ⟨by simp [h.1], fun i v x h1 h2 => ?_⟩
  rw [List.getElem?_map] at h2
  cases hx : xs[i]? with
  | none => simp [hx] at h2
  | some y => simp [hx] at h2; subst h2; exact hf _ _ (h.2 i v y h1 hx)

theorem look_drop_some {H : List (Nat × HO)} {k k' : Nat} {o : HO} (h : look (drop H k) k' = some o) : k' ≠ k ∧ look H k' = some o := by
  by_cases e : k' = k
  · subst e; rw [look_drop_self] at h; cases h
  · rw [look_drop_ne _ e] at h; exact ⟨e, h⟩

theorem HeapOK.drop {H : List (Nat × HO)} {B : Nat → Prop} (h : HeapOK ok φ H w B) (k : Nat) : HeapOK ok φ (drop H k) w B :=
  ⟨fun j o hj => h.at_ j o (look_drop_some hj).2, fun j j' o o' g sz N sz' N' h1 h2 => h.inj j j' o o' g sz N sz' N' (look_drop_some h1).2 (look_drop_some h2).2⟩

/-- The other objects, where the object k becomes data. -/
theorem HeapOK.frz {k : Nat} {o : HO} {B : Nat → Prop} (hh : HeapOK ok φ σ.h w B) (hk : look σ.h k = some o) (hd : o.bx = true → (flat o.xs).all AV.data0 = true) (hsub : ∀ b, ok b → ok' b) (hg : ∀ g sz N, φ k = some (g, sz, N) → ok' g)
    (hn : ∀ k' o' g sz N, k' ≠ k → look σ.h k' = some o' → φ k' = some (g, sz, N) → ¬ ok' g) : HeapOK ok' φ (frzH k o.sz o.xs (Ideal.drop σ.h k)) w B := by
  have hl : ∀ j p, look (frzH k o.sz o.xs (Ideal.drop σ.h k)) j = some p → ∃ p0, j ≠ k ∧ look σ.h j = some p0 ∧ p = frzB k o.sz o.xs p0 := by
    intro j p hj
    rw [look_frzH] at hj
    cases h0 : look (Ideal.drop σ.h k) j with
    | none => simp [h0] at hj
    | some p0 =>
      simp [h0] at hj
      have := look_drop_some h0
      exact ⟨p0, this.1, this.2, hj.symm⟩
  refine ⟨fun j p hj => ?_, fun j j' p p' g sz N sz' N' h1 h2 h3 h4 => ?_⟩
  · obtain ⟨p0, e, h0, rfl⟩ := hl j p hj
    rcases hh.at_ j p0 h0 with ⟨h1, h2⟩ | ⟨g, N, h1, h2, h3, h4⟩
    · exact .inl ⟨h1, frzB_nil _ _ _ p0 h2⟩
    · refine .inr ⟨g, N, by rw [frzB_sz]; exact h1, h2, hn j p0 g _ N e h0 h1, ?_⟩
      have h4 := h4.mono (ok' := ok') hsub (fun _ _ => rfl) rfl
      obtain ⟨s, et, b, ys⟩ := p0
      cases b with
      | false => exact h4
      | true =>
        obtain ⟨cur, fz, a1, a2, a3, a4, a5, a6, a7⟩ := h4
        simp only [frzB]
        refine ⟨cur, fz, a1, a2, a3, by rw [flat_frzE, List.length_map]; exact a4, ?_, by rw [flat_frzE, List.length_map]; exact a6, ?_⟩
        · intro y hy
          obtain ⟨x, hx, rfl⟩ := List.mem_map.1 hy
          rw [frzE_cells, List.length_map]; exact a5 x hx
        · rw [flat_frzE, List.length_map]
          rcases hh.at_ j _ h0 with ⟨h1', _⟩ | ⟨g', N', h1', _, _, b4⟩
          · rw [h1] at h1'; cases h1'
          rw [h1] at h1'; cases h1'
          obtain ⟨cur', fz', b1, b2, b3, b4, b5, b6, b7⟩ := b4
          rw [a1] at b1; cases b1
          exact Pts.map b7 fun v x hx => frz0_sound hh hk hd hsub hg hx
  · obtain ⟨q, e, h5, rfl⟩ := hl j p h1
    obtain ⟨q', e', h6, rfl⟩ := hl j' p' h2
    exact hh.inj j j' q q' g sz N sz' N' h5 h6 h3 h4

theorem Le.frz (k : Nat) : Le c σ (σ.frz k) := by
  rintro a w ⟨ok, φ, h⟩
  unfold St.frz
  split
  · exact ⟨ok, φ, h⟩
  · rename_i o hk
    split
    · exact ⟨ok, φ, h⟩
    rename_i hcond
    have hd : o.bx = true → (flat o.xs).all AV.data0 = true := by
      intro hb; rw [hb] at hcond; simpa using hcond
    rcases h.heap.at_ k o hk with ⟨h5, h6⟩ | ⟨g, N, h5, h6, h7, h8⟩
    · refine ⟨ok, φ, h.defers, h.slots.map fun v x hx => frz2_sound h.heap hk hd (fun _ h => h) (fun g sz N e => by rw [h5] at e; cases e) hx, h.heap.frz hk hd (fun _ h => h) (fun g sz N e => by rw [h5] at e; cases e) (fun k' o' g sz N _ ho hφ => (h.heap.lt ho hφ).2.2), h.okLt, h.okOr, h.ok0, h.below⟩
    · refine ⟨fun b => ok b ∨ b = g, φ, h.defers, h.slots.map fun v x hx => frz2_sound h.heap hk hd (fun _ h => .inl h) (fun g' sz N e => by rw [h5] at e; cases e; exact .inr rfl) hx,
        h.heap.frz hk hd (fun _ h => .inl h) (fun g' sz N e => by rw [h5] at e; cases e; exact .inr rfl) (fun k' o' g' sz N' hne ho hφ hh => ?_), ?_, ?_, fun b hb => .inl (h.ok0 b hb), h.below⟩
      · rcases hh with hh | hh
        · exact (h.heap.lt ho hφ).2.2 hh
        · subst hh; exact hne (h.heap.inj k' k o' o _ _ _ _ _ ho hk hφ h5)
      · rintro b (hb | rfl)
        · exact h.okLt b hb
        · exact (h.heap.lt hk h5).1
      · rintro b (hb | rfl)
        · exact h.okOr b hb
        · exact .inr (h.heap.lt hk h5).2.1

/-- Memory that stays as it is: data, and the objects of some names. -/
def PB (Kp : List Nat) (ok : Nat → Prop) (φ : Names) (H : List (Nat × HO)) (b : Nat) : Prop := ok b ∨ ∃ k ∈ Kp, (look H k).isSome = true ∧ ∃ sz N, φ k = some (b, sz, N)
def LeK (c : Ctx) (σ σ' : St) : Prop := ∀ a w ok φ, Holds1 c ok φ σ a w → ∃ ok', Holds1 c ok' φ σ' a w ∧ ∀ Kp b, PB Kp ok φ σ.h b → PB Kp ok' φ σ'.h b
theorem LeK.refl : LeK c σ σ := fun a w ok φ h => ⟨ok, h, fun _ _ h => h⟩
theorem LeK.trans {σ1 σ2 σ3 : St} (h : LeK c σ1 σ2) (h' : LeK c σ2 σ3) : LeK c σ1 σ3 := fun a w ok φ x => by
  obtain ⟨ok', h1, h2⟩ := h a w ok φ x
  obtain ⟨ok'', h3, h4⟩ := h' a w ok' φ h1
  exact ⟨ok'', h3, fun Kp b hb => h4 Kp b (h2 Kp b hb)⟩
theorem LeK.frz (k : Nat) : LeK c σ (σ.frz k) := by
  rintro a w ok φ h
  unfold St.frz
  split
  · exact ⟨ok, h, fun _ _ h => h⟩
  · rename_i o hk
    split
    · exact ⟨ok, h, fun _ _ h => h⟩
    rename_i hcond
    have hd : o.bx = true → (flat o.xs).all AV.data0 = true := by
      intro hb; rw [hb] at hcond; simpa using hcond
    have hlk : ∀ j, j ≠ k → (look σ.h j).isSome = true → (look (frzH k o.sz o.xs (Ideal.drop σ.h k)) j).isSome = true := by
      intro j hj h1
      rw [look_frzH, look_drop_ne _ hj]; simpa using h1
    rcases h.heap.at_ k o hk with ⟨h5, h6⟩ | ⟨g, N, h5, h6, h7, h8⟩
    · refine ⟨ok, ⟨h.defers, h.slots.map fun v x hx => frz2_sound h.heap hk hd (fun _ h => h) (fun g sz N e => by rw [h5] at e; cases e) hx, h.heap.frz hk hd (fun _ h => h) (fun g sz N e => by rw [h5] at e; cases e) (fun k' o' g sz N _ ho hφ => (h.heap.lt ho hφ).2.2), h.okLt, h.okOr, h.ok0, h.below⟩, ?_⟩
      rintro Kp b (hb | ⟨j, hj, h1, sz, N, h2⟩)
      · exact .inl hb
      · by_cases e : j = k
        · subst e; rw [h5] at h2; cases h2
        · exact .inr ⟨j, hj, hlk j e h1, sz, N, h2⟩
    · refine ⟨fun b => ok b ∨ b = g, ⟨h.defers, h.slots.map fun v x hx => frz2_sound h.heap hk hd (fun _ h => .inl h) (fun g' sz N e => by rw [h5] at e; cases e; exact .inr rfl) hx,
        h.heap.frz hk hd (fun _ h => .inl h) (fun g' sz N e => by rw [h5] at e; cases e; exact .inr rfl) (fun k' o' g' sz N' hne ho hφ hh => ?_), ?_, ?_, fun b hb => .inl (h.ok0 b hb), h.below⟩, ?_⟩
      · rcases hh with hh | hh
        · exact (h.heap.lt ho hφ).2.2 hh
        · subst hh; exact hne (h.heap.inj k' k o' o _ _ _ _ _ ho hk hφ h5)
      · rintro b (hb | rfl)
        · exact h.okLt b hb
        · exact (h.heap.lt hk h5).1
      · rintro b (hb | rfl)
        · exact h.okOr b hb
        · exact .inr (h.heap.lt hk h5).2.1
      · rintro Kp b (hb | ⟨j, hj, h1, sz, N', h2⟩)
        · exact .inl (.inl hb)
        · by_cases e : j = k
          · subst e; rw [h5] at h2; cases h2; exact .inl (.inr rfl)
          · exact .inr ⟨j, hj, hlk j e h1, sz, N', h2⟩

/-- A name that no slot has any more. -/
def St.free (σ : St) (k : Nat) : St := ⟨σ.s.map (AV.kill k), drop σ.h k⟩
theorem Le.free (k : Nat) : Le c σ (σ.free k) := by
  rintro a w ⟨ok, φ, h⟩
  exact ⟨ok, φ, h.defers, h.slots.map fun v x hx => kill_R2 hx (fun _ h => h) (fun _ _ => rfl) (fun _ _ => rfl), h.heap.drop k, h.okLt, h.okOr, h.ok0, h.below⟩

theorem HeapOK.newNone {H : List (Nat × HO)} {B : Nat → Prop} {k sz : Nat} {e : TypeId} {bx : Bool} (h : HeapOK ok φ H w B) (hne : ∀ j, j ≠ k → φ' j = φ j) (hk : φ' k = none) : HeapOK ok φ' (put (killH k H) k ⟨sz, e, bx, []⟩) w B := by
  have hK := h.killed (k := k) hne
  have hlk : ∀ j, j ≠ k → look (put (killH k H) k ⟨sz, e, bx, []⟩) j = look (killH k (Ideal.drop H k)) j := fun j hj => by rw [look_put_ne _ _ hj, look_killH, look_killH, look_drop_ne _ hj]
  refine ⟨fun j o hj => ?_, fun j j' o o' g sz N sz' N' h1 h2 h3 h4 => ?_⟩
  · by_cases e : j = k
    · subst e
      rw [look_put_self] at hj; cases hj
      exact .inl ⟨hk, rfl⟩
    · rw [hlk j e] at hj; exact hK.at_ j o hj
  · by_cases e : j = k
    · subst e; rw [hk] at h3; cases h3
    · by_cases e' : j' = k
      · subst e'; rw [hk] at h4; cases h4
      · rw [hlk j e] at h1; rw [hlk j' e'] at h2
        exact hK.inj j j' o o' g sz N sz' N' h1 h2 h3 h4

/-- An empty row without room becomes owned memory of the name k. -/
def St.own (σ : St) (i k sz : Nat) (e : TypeId) : St :=
  match σ.look1 i with
  | .sl true _ [] => ⟨(σ.s.map (AV.kill k)).set i (.osl k 0 0), put (killH k σ.h) k ⟨sz, e, false, []⟩⟩
  | _ => σ
theorem Le.own (i k sz : Nat) (e : TypeId) : Le c σ (σ.own i k sz e) := by
  rintro a w ⟨ok, φ, h⟩
  unfold St.own
  split
  · rename_i sz' hi
    have hlt : i < σ.s.length := by
      by_cases h' : i < σ.s.length
      · exact h'
      · simp [St.look1, List.getD, h'] at hi
    obtain ⟨v, hv, hr⟩ := h.slots.get (i := i) (x := σ.look1 i) (getD_some hlt)
    rw [hi] at hr
    have hs : ∃ a, v = .slice a 0 0 := by
      have hr : DRep ok w v (.sl true sz' []) := hr
      cases hr with
      | slNil _ _ a cap hc => exact ⟨a, by rw [hc rfl]⟩
      | sl _ b o cap _ _ vs hb hne => exact absurd rfl hne
    obtain ⟨ad, rfl⟩ := hs
    let φ' : Names := fun j => if j = k then none else φ j
    have hne : ∀ j, j ≠ k → φ' j = φ j := fun j hj => by simp [φ', hj]
    refine ⟨ok, φ', h.defers, ?_, ?_, h.okLt, h.okOr, h.ok0, h.below⟩
    · have h1 := h.slots.map (R' := R2 ok φ' w) fun v x hx => kill_R2 (k := k) hx (fun _ h => h) (fun _ _ => rfl) hne
      have h2 := h1.set (i := i) (v := .slice ad 0 0) (x := .osl k 0 0) (.inl ⟨ad, rfl, rfl⟩)
      have e : a.tmps.toList.set i (.slice ad 0 0) = a.tmps.toList := by
        apply List.ext_getElem?
        intro j
        rw [List.getElem?_set]
        split
        · rename_i e; subst e
          have := (List.getElem?_eq_some_iff.1 hv).1
          rw [if_pos this, hv]
        · rfl
      rwa [e] at h2
    · exact HeapOK.newNone h.heap hne (by simp [φ'])
  · exact ⟨ok, φ, h⟩

/-- The names that an operand has. -/
def AV.nm0 : AV → List Nat
  | .osl k _ _ => [k]
  | .op k _ _ => [k]
  | _ => []
def AV.nm : AV → List Nat
  | .fn _ caps => caps.flatMap AV.nm0
  | .tup xs => xs.flatMap AV.nm0
  | .big xs => xs.flatMap AV.nm0
  | x => x.nm0
def St.frzs (σ : St) : List Nat → St
  | [] => σ
  | k :: ks => (σ.frz k).frzs ks
theorem Le.frzs : ∀ (ks : List Nat) (σ : St), Le c σ (σ.frzs ks)
  | [], _ => Le.refl
  | k :: ks, σ => (Le.frz k).trans (Le.frzs ks _)
/-- The names in a box, and those behind them. -/
def innO : Option HO → List Nat
  | some ⟨_, _, true, xs⟩ => (flat xs).flatMap AV.nm0
  | _ => []
def inn (H : List (Nat × HO)) : List Nat → List Nat
  | [] => []
  | k :: ks => innO (look H k) ++ inn H ks
def deep (H : List (Nat × HO)) (ks : List Nat) : List Nat := inn H (inn H ks) ++ (inn H ks ++ ks)
def St.frzK (σ : St) (ks : List Nat) : St := σ.frzs (deep σ.h ks)
theorem Le.frzK (ks : List Nat) : Le c σ (σ.frzK ks) := Le.frzs _ _
theorem LeK.frzs : ∀ (ks : List Nat) (σ : St), LeK c σ (σ.frzs ks)
  | [], _ => LeK.refl
  | k :: ks, σ => (LeK.frz k).trans (LeK.frzs ks _)
theorem LeK.frzK (ks : List Nat) : LeK c σ (σ.frzK ks) := LeK.frzs _ _
def St.nms (σ : St) : List Operand → List Nat
  | [] => []
  | x :: xs => (σ.get true x).2.nm ++ σ.nms xs
def St.frzO (σ : St) (xs : List Operand) : St := σ.frzK (σ.nms xs)
theorem Le.frzO (xs : List Operand) : Le c σ (σ.frzO xs) := Le.frzs _ _
theorem TL.weaken {ops : Array Oper} {N : St → Prop} {E : Nat → St → Prop} {R : St → Prop} {rest : List Oper} {σ' : St} (h : Le c σ σ') (t : TL c ops N E R rest σ') : TL c ops N E R rest σ := fun a w ha => t a w (h a w ha)

end
end Go.Ideal
