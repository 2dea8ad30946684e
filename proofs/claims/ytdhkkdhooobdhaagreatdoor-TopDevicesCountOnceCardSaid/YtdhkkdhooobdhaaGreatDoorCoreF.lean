/- The operations without effect do what CoreC says: addresses, slices of slices, loads, conversions. -/
import Derived.Test.YtdhkkdhooobdhaaGreatDoorCoreE
set_option linter.unusedVariables false
set_option linter.unusedSimpArgs false
namespace Go.Ideal
open Go.RowKit

section
variable {ok : Nat → Prop} {φ : Names} {w : World} {v u : Value} {P : Program}

theorem szIs.run {e : TypeId} {n : Nat} (h : szIs P e n) (w : World) : (sizeOf e).run P w = .ok n w := by
  unfold szIs at h
  cases hi : P.info? e with
  | none => simp [hi] at h
  | some i =>
    rw [run_sizeOf w hi]
    simp [hi] at h
    simp [Program.cellsOf, hi, h]
theorem szIs.cellsOf {e : TypeId} {n : Nat} (h : szIs P e n) : P.cellsOf e = n := by
  unfold szIs at h
  cases hi : P.info? e with
  | none => simp [hi] at h
  | some i => simp [hi] at h; simp [Program.cellsOf, hi, h]

theorem flat_cons (x : AV) (xs : List AV) : flat (x :: xs) = x.cells ++ flat xs := by simp [flat]
theorem flat_append (xs ys : List AV) : flat (xs ++ ys) = flat xs ++ flat ys := by simp [flat]
theorem flat_len {sz : Nat} {xs : List AV} (h : ∀ x ∈ xs, x.cells.length = sz) : (flat xs).length = xs.length * sz := by
  induction xs with
  | nil => simp [flat]
  | cons x xs ih =>
    rw [flat_cons, List.length_append, ih (fun y hy => h y (by simp [hy])), h x (by simp)]
    simp [Nat.add_mul]; omega
theorem flat_drop {sz : Nat} {xs : List AV} (h : ∀ x ∈ xs, x.cells.length = sz) (i : Nat) : (flat xs).drop (i * sz) = flat (xs.drop i) := by
  induction xs generalizing i with
  | nil => simp [flat]
  | cons x xs ih =>
    cases i with
    | zero => simp
    | succ i =>
      rw [flat_cons, List.drop_succ_cons, ← ih (fun y hy => h y (by simp [hy])) i, Nat.succ_mul, Nat.add_comm, List.drop_append,
        List.drop_eq_nil_of_le (by rw [h x (by simp)]; omega)]
      simp [h x (by simp)]
theorem flat_take {sz : Nat} {xs : List AV} (h : ∀ x ∈ xs, x.cells.length = sz) (i : Nat) : (flat xs).take (i * sz) = flat (xs.take i) := by
  induction xs generalizing i with
  | nil => simp [flat]
  | cons x xs ih =>
    cases i with
    | zero => simp [flat]
    | succ i =>
      rw [flat_cons, List.take_succ_cons, flat_cons, ← ih (fun y hy => h y (by simp [hy])) i, Nat.succ_mul, Nat.add_comm, List.take_append,
        List.take_of_length_le (by rw [h x (by simp)]; omega)]
      simp [h x (by simp)]

/-- The cells of a part of it. -/
theorem flat_get {sz : Nat} {xs : List AV} (h : ∀ x ∈ xs, x.cells.length = sz) {i j : Nat} {c : AV} (hi : i < xs.length) (hc : (xs.getD i .junk).cells[j]? = some c) :
    (flat xs)[i * sz + j]? = some c := by
  have e : xs.drop i = xs.getD i .junk :: xs.drop (i + 1) := by
    rw [List.drop_eq_getElem_cons hi]; simp [List.getD, hi]
  have h2 : ((flat xs).drop (i * sz))[j]? = some c := by
    rw [flat_drop h, e, flat_cons]
    have hj := (List.getElem?_eq_some_iff.1 hc).1
    rw [List.getElem?_append_left hj]; exact hc
  simpa using h2

theorem evIndexAddr_sound {H : List (Nat × HO)} {B : Nat → Prop} {x i : AV} {t : TypeId} (hH : HeapOK ok φ H w B) (hx : R1 ok φ w v x) (hi : R1 ok φ w u i) (h : (evIndexAddr P H t x i).1) :
    ∃ r, (∀ w', (Instr.indexAt t v u).run P w' = .ok r w') ∧ R1 ok φ w r (evIndexAddr P H t x i).2 := by
  unfold evIndexAddr at h ⊢
  split at h
  · rename_i k n ex sz xs e hu
    obtain ⟨hs, h0, h1⟩ := h
    rw [hi.int_inv]
    have hd := hx.sl_inv
    cases hd with
    | slNil _ _ a cap _ => simp at h1; omega
    | sl _ b o cap _ _ vs hb hne hcap hex hsz hl h1' hm hh =>
      have hn : n.toNat < xs.length := by omega
      refine ⟨.pointer (some ⟨b, o + n.toNat * sz, none⟩), fun w' => ?_, ?_⟩
      · have h1'' : n < (xs.length : Int) := h1
        simp [Instr.indexAt, asIntOf, run_underlying hu, h0, h1'', hs.run, Addr.add]
      · have hmem : xs.getD n.toNat .junk ∈ xs := by simp [List.getD, hn]
        have hlen := hsz _ hmem
        have hlen2 : (xs.getD n.toNat .junk).cells.length = sz := hlen
        have hfl : (flat xs).length = xs.length * sz := flat_len hsz
        have hle : n.toNat * sz + sz ≤ xs.length * sz := by
          have : (n.toNat + 1) * sz ≤ xs.length * sz := Nat.mul_le_mul_right _ hn
          rw [Nat.add_mul] at this; omega
        refine R1.of_data (.cp b (o + n.toNat * sz) _ ((vs.drop (n.toNat * sz)).take sz) hb ?_ ?_ ?_ ?_)
        · rw [hlen2]; simp; omega
        · intro v hv; exact h1' v (List.mem_of_mem_drop (List.mem_of_mem_take hv))
        · intro j v hv
          rw [List.getElem?_take] at hv
          split at hv
          · rw [List.getElem?_drop] at hv
            have := hm _ v hv
            rw [Nat.add_assoc]; exact this
          · cases hv
        · intro j v c hv hc
          rw [List.getElem?_take] at hv
          split at hv
          · rw [List.getElem?_drop] at hv
            exact hh _ v c hv (flat_get hsz hn hc)
          · cases hv
  · rename_i k n k' off len e hu
    split at h
    · rename_i o ho
      obtain ⟨hs, h0, h1⟩ := h
      rw [hi.int_inv]
      rcases hx with ⟨a, rfl, hz⟩ | ⟨g, sz, N, cap, hg, rfl, hlc, hN⟩
      · omega
      · simp only [ho]
        have hsz : sz = o.sz := by
          rcases hH.at_ k' o ho with ⟨h2, _⟩ | ⟨g', N', h2, _⟩
          · rw [hg] at h2; cases h2
          · rw [hg] at h2; cases h2; rfl
        subst hsz
        refine ⟨.pointer (some ⟨g, (off + n.toNat) * o.sz + 0, none⟩), fun w' => ?_, ⟨g, o.sz, N, hg, rfl⟩⟩
        simp [Instr.indexAt, asIntOf, run_underlying hu, h0, h1, hs.run, Addr.add, Nat.add_mul]
    · exact h.elim
  · exact h.elim

def OptR (R : Value → AV → Prop) : Option Value → Option AV → Prop
  | none, none => True
  | some v, some x => R v x
  | _, _ => False

theorem evNat_inv {x : AV} (h : R1 ok φ w v x) (h0 : (evNat x).1) : ∃ k n, v = .int k n ∧ 0 ≤ n ∧ (evNat x).2 = n.toNat := by
  unfold evNat at h0 ⊢
  split at h0
  · rename_i k n; exact ⟨k, n, h.int_inv, h0, rfl⟩
  · exact h0.elim

theorem bound_run {x : AV} (h : R1 ok φ w v x) (h0 : (evNat x).1) {y : Nat} (hy : (evNat x).2 ≤ y) (code : BoundsCode) (w' : World) :
    (Instr.sliceBound v y code).run P w' = .ok (evNat x).2 w' := by
  obtain ⟨k, n, rfl, h1, h2⟩ := evNat_inv h h0
  rw [h2] at hy ⊢
  exact run_sliceBound w' k n y code h1 (by omega)

theorem bounds_run {len cap : Nat} (hlc : len ≤ cap) {lo hi mx : Option AV} {lov hiv mxv : Option Value} (isSlice : Bool)
    (h1 : OptR (R1 ok φ w) lov lo) (h2 : OptR (R1 ok φ w) hiv hi) (h3 : OptR (R1 ok φ w) mxv mx) (h : (evBounds len lo hi mx).1) (w' : World) :
    (Instr.sliceBounds isSlice len cap lov hiv mxv).run P w' = .ok ((evBounds len lo hi mx).2.1, (evBounds len lo hi mx).2.2, if mx.isSome then (evBounds len lo hi mx).2.2 else cap) w' := by
  cases lo with
  | none => cases lov with
    | some _ => exact h1.elim
    | none => cases hi with
      | none => cases hiv with
        | some _ => exact h2.elim
        | none => cases mx with
          | none => cases mxv with
            | some _ => exact h3.elim
            | none => simp [evBounds, Instr.sliceBounds]
          | some m => simp [evBounds] at h
      | some hx => cases hiv with
        | none => exact h2.elim
        | some hv => cases mx with
          | none => cases mxv with
            | some _ => exact h3.elim
            | none =>
              simp only [evBounds] at h ⊢
              obtain ⟨-, a1, -, a2, a3⟩ := h
              have e := fun code => bound_run (P := P) h2 a1 (y := cap) (by omega) code w'
              cases isSlice <;> simp [Instr.sliceBounds, e]
          | some m => cases mxv with
            | none => exact h3.elim
            | some mv =>
              simp only [evBounds] at h ⊢
              obtain ⟨-, a1, ⟨-, b1, b2⟩, a2, a3⟩ := h
              have e := fun code => bound_run (P := P) h3 b1 (y := cap) (by omega) code w'
              have e2 := fun code => bound_run (P := P) h2 a1 (y := (evNat hx).2) (Nat.le_refl _) code w'
              cases isSlice <;> simp [Instr.sliceBounds, e, e2, b2]
  | some lx => cases lov with
    | none => exact h1.elim
    | some lv => cases hi with
      | none => cases hiv with
        | some _ => exact h2.elim
        | none => cases mx with
          | none => cases mxv with
            | some _ => exact h3.elim
            | none =>
              simp only [evBounds] at h ⊢
              obtain ⟨a0, a1, -, a2, a3⟩ := h
              have e := fun code => bound_run (P := P) h1 a0 (y := len) (by omega) code w'
              cases isSlice <;> simp [Instr.sliceBounds, e]
          | some m => simp [evBounds] at h
      | some hx => cases hiv with
        | none => exact h2.elim
        | some hv => cases mx with
          | none => cases mxv with
            | some _ => exact h3.elim
            | none =>
              simp only [evBounds] at h ⊢
              obtain ⟨a0, a1, -, a2, a3⟩ := h
              have e := fun code => bound_run (P := P) h2 a1 (y := cap) (by omega) code w'
              have e3 := fun code => bound_run (P := P) h1 a0 (y := (evNat hx).2) (by omega) code w'
              cases isSlice <;> simp [Instr.sliceBounds, e, e3]
          | some m => cases mxv with
            | none => exact h3.elim
            | some mv =>
              simp only [evBounds] at h ⊢
              obtain ⟨a0, a1, ⟨-, b1, b2⟩, a2, a3⟩ := h
              have e := fun code => bound_run (P := P) h3 b1 (y := cap) (by omega) code w'
              have e2 := fun code => bound_run (P := P) h2 a1 (y := (evNat hx).2) (Nat.le_refl _) code w'
              have e3 := fun code => bound_run (P := P) h1 a0 (y := (evNat hx).2) (by omega) code w'
              cases isSlice <;> simp [Instr.sliceBounds, e, e2, e3, b2]

theorem evBounds_le {len : Nat} {lo hi mx : Option AV} (h : (evBounds len lo hi mx).1) : (evBounds len lo hi mx).2.1 ≤ (evBounds len lo hi mx).2.2 ∧ (evBounds len lo hi mx).2.2 ≤ len :=
  ⟨h.2.2.2.1, h.2.2.2.2⟩

theorem elem_of {t e : TypeId} (h : P.underlying t = some (.slice e)) : P.elem t = e := by simp [Program.elem, h]

theorem sub_sl {ex ex' : Bool} {b o cap sz : Nat} {xs : List AV} {l h cap' : Nat} (hd : DRep ok w (.slice (some ⟨b, o, none⟩) xs.length cap) (.sl ex sz xs)) (hl : l ≤ h) (hh : h ≤ xs.length)
    (hc : h - l ≤ cap') (he : ex' = true → cap' = h - l) : DRep ok w (.slice (some ⟨b, o + l * sz, none⟩) (h - l) cap') (.sl ex' sz ((xs.take h).drop l)) := by
  have hlen : ((xs.take h).drop l).length = h - l := by simp; omega
  by_cases h0 : h - l = 0
  · have e : (xs.take h).drop l = [] := List.eq_nil_of_length_eq_zero (by omega)
    rw [e, h0]; exact .slNil _ _ _ _ (fun e => by have := he e; omega)
  · generalize hn : xs.length = n at hd
    cases hd with
    | slNil => simp at hh; omega
    | sl _ _ _ _ _ _ vs hb hne hcap hex hsz hlv h1 hm hx =>
      have hsz' : ∀ x ∈ (xs.take h).drop l, x.cells.length = sz := fun x hx => hsz x (List.mem_of_mem_take (List.mem_of_mem_drop hx))
      have hfl := flat_len hsz
      have hle : h * sz ≤ xs.length * sz := Nat.mul_le_mul_right _ (by omega)
      have hfe : flat ((xs.take h).drop l) = ((flat xs).take (h * sz)).drop (l * sz) := by
        rw [flat_take hsz, flat_drop (fun x hx => hsz x (List.mem_of_mem_take hx))]
      rw [← hlen]
      refine .sl _ b _ _ sz _ ((vs.take (h * sz)).drop (l * sz)) hb (fun e => by simp [e] at hlen; omega) (by omega) (fun e => by rw [hlen]; exact he e) hsz' ?_ ?_ ?_ ?_
      · rw [hfe]; simp [hlv]
      · intro v hv; exact h1 v (List.mem_of_mem_take (List.mem_of_mem_drop hv))
      · intro j v hv
        rw [List.getElem?_drop, List.getElem?_take] at hv
        split at hv
        · have := hm _ v hv; rw [Nat.add_assoc]; exact this
        · cases hv
      · intro j v c hv hc
        rw [hfe, List.getElem?_drop, List.getElem?_take] at hc
        rw [List.getElem?_drop, List.getElem?_take] at hv
        split at hv
        · rename_i hlt; rw [if_pos hlt] at hc; exact hx _ v c hv hc
        · cases hv

theorem getD_some {l : List AV} {j : Nat} (hj : j < l.length) : l[j]? = some (l.getD j .junk) := by simp [List.getD, hj]
theorem addr_add (b o j : Nat) : (⟨b, o, none⟩ : Addr).add j = ⟨b, o + j, none⟩ := by
  by_cases h : j = 0 <;> simp [Addr.add, h]
theorem DRep.sl_cases {ex : Bool} {sz : Nat} {xs : List AV} (h : DRep ok w v (.sl ex sz xs)) :
    (xs = [] ∧ ∃ a cap, v = .slice a 0 cap ∧ (ex = true → cap = 0)) ∨
    (∃ b o cap, v = .slice (some ⟨b, o, none⟩) xs.length cap ∧ xs.length ≤ cap ∧ (ex = true → cap = xs.length)) := by
  cases h with
  | slNil _ _ a cap hc => exact .inl ⟨rfl, a, cap, rfl, hc⟩
  | sl _ b o cap _ _ vs hb hne hcap hex => exact .inr ⟨b, o, cap, rfl, hcap, hex⟩

theorem evSlice_sound {H : List (Nat × HO)} {B : Nat → Prop} {x : AV} {lo hi mx : Option AV} {lov hiv mxv : Option Value} {t : TypeId} (hH : HeapOK ok φ H w B) (hx : R1 ok φ w v x)
    (h1 : OptR (R1 ok φ w) lov lo) (h2 : OptR (R1 ok φ w) hiv hi) (h3 : OptR (R1 ok φ w) mxv mx) (h : (evSlice P H t x lo hi mx).1) :
    ∃ r, (∀ w', (Instr.sliceAt t v lov hiv mxv).run P w' = .ok r w') ∧ R1 ok φ w r (evSlice P H t x lo hi mx).2 := by
  unfold evSlice at h ⊢
  split at h
  · rename_i s hu
    obtain ⟨hb, hmx⟩ := h
    rw [hx.str_inv]
    cases mx with
    | some _ => simp at hmx
    | none => cases mxv with
      | some _ => exact h3.elim
      | none =>
        have hle := evBounds_le hb
        refine ⟨_, fun w' => ?_, R1.str _⟩
        rw [run_sliceAt_string w' t _ _ _ _ hu]
        have e := bounds_run (P := P) (cap := s.length) (Nat.le_refl _) false h1 h2 (mx := none) (mxv := none) trivial hb w'
        simp only [Instr.slice, Sem.run_bind, run_underlying hu, Result.andThen, size_mk, e]
        have ee : (ByteArray.mk s.toArray).extract (evBounds s.length lo hi none).2.1 (evBounds s.length lo hi none).2.2 = ByteArray.mk (((s.take (evBounds s.length lo hi none).2.2).drop (evBounds s.length lo hi none).2.1)).toArray := by
          apply ByteArray.ext
          rw [ByteArray.data_extract]
          simp [List.extract_eq_take_drop, List.drop_take]
        simp [e, ee, Result.andThen]
  · rename_i ex sz xs e hu
    obtain ⟨hs, hb⟩ := h
    have hle := evBounds_le hb
    obtain ⟨a, cap, rfl, hlc⟩ := hx.sl_inv.sl_len
    have e1 := fun w' => bounds_run (P := P) hlc true h1 h2 h3 hb w'
    refine ⟨sliced a (evBounds xs.length lo hi mx).2.1 (evBounds xs.length lo hi mx).2.2 (if mx.isSome then (evBounds xs.length lo hi mx).2.2 else cap) sz, fun w' => ?_, ?_⟩
    · have hu' : P.underlying t = some (.slice (P.elem t)) := by rw [elem_of hu]; exact hu
      rw [run_sliceAt_slice w' t _ _ _ _ hu', run_slice_any w' t a _ _ hu', e1, elem_of hu]
      simp [Result.andThen, hs.run]
    · have hd := hx.sl_inv
      refine R1.of_data ?_
      unfold sliced
      generalize hb' : evBounds xs.length lo hi mx = bb at *
      show DRep ok w _ (.sl (mx.isSome || (ex && hi.isNone)) sz ((xs.take bb.2.2).drop bb.2.1))
      rcases hd.sl_cases with ⟨rfl, a', cap', hv, hc⟩ | ⟨b, o, cap', hv, hcap, hex⟩
      · simp only [Value.slice.injEq] at hv
        obtain ⟨rfl, -, rfl⟩ := hv
        have e0 : bb.2.2 = 0 := by have := hle.2; simp at this; exact this
        have e1 : bb.2.1 = 0 := by omega
        simp only [e0, e1, List.take_nil, List.drop_nil, Nat.sub_self]
        refine .slNil _ _ _ _ fun hh => ?_
        cases mx with
        | some _ => simp
        | none => simp at hh; simp [hc hh.1]
      · simp only [Value.slice.injEq] at hv
        obtain ⟨rfl, -, rfl⟩ := hv
        have hd2 := hd
        have hbl : bb.2.2 ≤ xs.length := hle.2
        by_cases hml : (if mx.isSome = true then bb.2.2 else cap) = bb.2.1
        · rw [if_pos hml]
          have e3 : bb.2.2 - bb.2.1 = 0 := by
            cases mx with
            | some _ => simp at hml; omega
            | none => simp at hml; omega
          have e4 : (xs.take bb.2.2).drop bb.2.1 = [] := List.eq_nil_of_length_eq_zero (by simp; omega)
          rw [e3, e4]
          exact .slNil _ _ _ _ fun _ => by omega
        · rw [if_neg hml, Option.map_some, addr_add]
          refine sub_sl hd2 hle.1 hle.2 ?_ ?_
          · cases mx with
            | some _ => simp
            | none => simp; omega
          · intro hh
            cases mx with
            | some _ => simp
            | none =>
              simp at hh
              have hc := hex hh.1
              have e5 : bb.2.2 = xs.length := by
                have h7 : hi = none := by cases hi <;> simp at hh ⊢
                subst h7; rw [← hb']; rfl
              simp [hc, e5]
  · rename_i k off len e hu
    split at h
    · rename_i o ho
      obtain ⟨hs, hb, hmx⟩ := h
      have hle := evBounds_le hb
      cases mx with
      | some _ => simp at hmx
      | none => cases mxv with
        | some _ => exact h3.elim
        | none =>
          simp only [ho]
          have hu' : P.underlying t = some (.slice (P.elem t)) := by rw [elem_of hu]; exact hu
          rcases hx with ⟨a, rfl, hz⟩ | ⟨g, sz, N, cap, hg, rfl, hlc, hN⟩
          · subst hz
            have e1 := fun w' => bounds_run (P := P) (Nat.le_refl 0) true h1 h2 (mx := none) (mxv := none) trivial hb w'
            refine ⟨sliced a (evBounds 0 lo hi none).2.1 (evBounds 0 lo hi none).2.2 0 o.sz, fun w' => ?_, .inl ⟨a, ?_, by omega⟩⟩
            · rw [run_sliceAt_slice w' t _ _ _ _ hu', run_slice_any w' t a _ _ hu', e1, elem_of hu]
              simp [Result.andThen, hs.run]
            · have e0 : (evBounds 0 lo hi none).2.2 = 0 := by have := hle.2; omega
              have e2 : (evBounds 0 lo hi none).2.1 = 0 := by omega
              simp [sliced, e0, e2]
          · have hsz : sz = o.sz := by
              rcases hH.at_ k o ho with ⟨h2, _⟩ | ⟨g', N', h2, _⟩
              · rw [hg] at h2; cases h2
              · rw [hg] at h2; cases h2; rfl
            subst hsz
            have e1 := fun w' => bounds_run (P := P) hlc true h1 h2 (mx := none) (mxv := none) trivial hb w'
            refine ⟨sliced (some ⟨g, off * o.sz, none⟩) (evBounds len lo hi none).2.1 (evBounds len lo hi none).2.2 cap o.sz, fun w' => ?_, ?_⟩
            · rw [run_sliceAt_slice w' t _ _ _ _ hu', run_slice_any w' t _ _ _ hu', e1, elem_of hu]
              simp [Result.andThen, hs.run]
            · generalize evBounds len lo hi none = bb at *
              unfold sliced
              by_cases hml : cap = bb.2.1
              · rw [if_pos hml]
                exact .inl ⟨_, by rw [show bb.2.2 - bb.2.1 = 0 by omega, show cap - bb.2.1 = 0 by omega], by omega⟩
              · rw [if_neg hml]
                refine .inr ⟨g, o.sz, N, cap - bb.2.1, hg, by simp [Addr.add, Nat.add_mul], by omega, ?_, by have := hN.2; omega⟩
                have : off + bb.2.1 + (cap - bb.2.1) = off + cap := by omega
                rw [this]; exact hN.1
    · exact h.elim
  · exact h.elim

theorem run_isAgg {t : TypeId} (h : (P.underlying t).isSome = true) (w : World) : (isAgg t).run P w = .ok (aggT P t) w := by
  cases hu : P.underlying t with
  | none => simp [hu] at h
  | some d => cases d <;> simp [isAgg, aggT, run_underlying hu, hu]

theorem run_loadVar_agg {t : TypeId} {a : Addr} (hu : (P.underlying t).isSome = true) {n : Nat} (hs : szIs P t n) (ha : aggT P t = true) (cs : List Value) (hn : cs.length = n)
    (h : ∀ j v, cs[j]? = some v → w.cell? (a.add j) = some v) : (loadVar t a).run P w = .ok (.agg cs.toArray) w := by
  have e := run_loadCells_list (P := P) w a cs h
  rw [hn] at e
  simp [loadVar, run_isAgg hu, ha, hs.run, e]
theorem run_loadVar_one {t : TypeId} {a : Addr} (hu : (P.underlying t).isSome = true) (ha : aggT P t = false) {v : Value} (h : w.cell? a = some v) : (loadVar t a).run P w = .ok v w := by
  simp [loadVar, run_isAgg hu, ha, run_load, h]

theorem evSliceX_sound {H : List (Nat × HO)} {B : Nat → Prop} {x : AV} {lo hi mx : Option AV} {lov hiv mxv : Option Value} {t : TypeId} (hH : HeapOK ok φ H w B) (hx : R1 ok φ w v x)
    (h1 : OptR (R1 ok φ w) lov lo) (h2 : OptR (R1 ok φ w) hiv hi) (h3 : OptR (R1 ok φ w) mxv mx) (h : (evSliceX P H t x lo hi mx).1) :
    ∃ r, (∀ w', (Instr.sliceAt t v lov hiv mxv).run P w' = .ok r w') ∧ R1 ok φ w r (evSliceX P H t x lo hi mx).2 := by
  by_cases hk : ∃ cap sz xs, x = .slk cap sz xs
  rotate_left
  · have e : evSliceX P H t x lo hi mx = evSlice P H t x lo hi mx := by cases x <;> first | rfl | exact absurd ⟨_, _, _, rfl⟩ hk
    rw [e] at h ⊢
    exact evSlice_sound hH hx h1 h2 h3 h
  obtain ⟨cap, sz, xs, rfl⟩ := hk
  have hx : DRep ok w v (.slk cap sz xs) := hx
  have hv : ∃ a n, v = .slice a n cap ∧ DRep ok w v (.sl false sz xs) := by
    cases hx with
    | slk _ _ n _ a h => exact ⟨a, n, rfl, h⟩
  obtain ⟨a, n, rfl, hd⟩ := hv
  cases hi with
  | none => exact evSlice_sound hH (R1.of_data hd) h1 h2 h3 h
  | some hx' =>
    simp only [evSliceX] at h ⊢
    obtain ⟨hs, hlo, hmx⟩ := h
    have e1 : lo = none := by cases lo <;> simp at hlo ⊢
    have e2 : mx = none := by cases mx <;> simp at hmx ⊢
    subst e1 e2
    have e3 : lov = none := by cases lov with
      | none => rfl
      | some _ => exact h1.elim
    have e4 : mxv = none := by cases mxv with
      | none => rfl
      | some _ => exact h3.elim
    subst e3 e4
    obtain ⟨r, hr, hrep⟩ := evSlice_sound (P := P) (t := t) hH (R1.of_data hd) (lo := none) (lov := none) (mx := none) (mxv := none) trivial h2 trivial hs
    obtain ⟨a', cap', hve, hlc⟩ := hd.sl_len
    cases hve
    cases hu : P.underlying t with
    | none => simp [evSlice, hu, no] at hs
    | some td =>
      cases td <;> first | (simp [evSlice, hu, no] at hs; done) | skip
      rename_i e
      simp only [evSlice, hu] at hs hrep
      obtain ⟨hz, hb⟩ := hs
      have e1 := fun w' => bounds_run (P := P) hlc true (lov := none) (lo := none) (mxv := none) (mx := none) trivial h2 trivial hb w'
      have hu' : P.underlying t = some (.slice (P.elem t)) := by rw [elem_of hu]; exact hu
      have e2 : (Instr.sliceAt t (.slice a xs.length cap) none hiv none).run P w = .ok (sliced a 0 (evNat hx').2 cap sz) w := by
        rw [run_sliceAt_slice w t _ _ _ _ hu', run_slice_any w t a _ _ hu', e1, elem_of hu]
        simp [Result.andThen, hz.run, evBounds]
      rw [hr w] at e2
      have e3 : r = sliced a 0 (evNat hx').2 cap sz := by injection e2
      refine ⟨r, hr, R1.of_data ?_⟩
      subst e3
      have hrep : DRep ok w (sliced a 0 (evNat hx').2 cap sz) (.sl false sz ((xs.take (evNat hx').2).drop 0)) := by
        have := R1.sl_inv hrep
        simpa [evBounds] using this
      rw [List.drop_zero] at hrep
      exact .slk cap sz _ _ _ hrep

theorem evLoad_stable {H : List (Nat × HO)} {B : Nat → Prop} {x : AV} {t : TypeId} (hH : HeapOK ok φ H w B) (hx : R1 ok φ w v x) (hu : (P.underlying t).isSome = true) (hs : szIs P t (P.cellsOf t)) (h : (evLoad P H t x).1) :
    ∃ r b, (ok b ∨ ∃ k i j sz N, x = .op k i j ∧ φ k = some (b, sz, N)) ∧ (∀ w', w'.heap[b]? = w.heap[b]? → (Instr.loadAt t v).run P w' = .ok r w') ∧ R1 ok φ w r (evLoad P H t x).2 := by
  unfold evLoad at h ⊢
  split at h
  · rename_i cs
    have hd := hx.cp_inv
    cases hd with
    | cp b o _ vs hb hl h1 hm hh =>
      by_cases ha : aggT P t = true
      · simp only [ha, if_true] at h ⊢
        refine ⟨.agg ((vs.take (P.cellsOf t)).toArray), b, .inl hb, fun w' hw' => ?_, R1.of_data (.agg _ _ ?_ ?_ ?_)⟩
        · simp only [Instr.loadAt, Instr.sureAddr, pure_bind]
          refine run_loadVar_agg hu hs ha _ (by simp; omega) fun j v hv => ?_
          rw [List.getElem?_take] at hv
          split at hv
          · rw [addr_add, World.cell?_of_block (a := ⟨b, o + j, none⟩) hw']; exact hm j v hv
          · cases hv
        · simp [hl]
        · intro v hv; exact h1 v (List.mem_of_mem_take hv)
        · intro j v c hv hc
          rw [List.getElem?_take] at hv hc
          split at hv
          · rename_i hlt; rw [if_pos hlt] at hc; exact hh j v c hv hc
          · cases hv
      · simp only [ha] at h ⊢
        have hne : cs ≠ [] := h
        obtain ⟨c, cs', rfl⟩ := List.exists_cons_of_ne_nil hne
        cases vs with
        | nil => simp at hl
        | cons u vs =>
          refine ⟨u, b, .inl hb, fun w' hw' => ?_, R1.of_data (hh 0 u c rfl rfl)⟩
          simp only [Instr.loadAt, Instr.sureAddr, pure_bind]
          exact run_loadVar_one hu (by simpa using ha) (by rw [World.cell?_of_block (a := ⟨b, o, none⟩) hw']; exact hm 0 u rfl)
  · rename_i k i j
    split at h
    · exact h.elim
    · rename_i o ho
      obtain ⟨g, sz, N, hg, rfl⟩ := hx
      rcases hH.at_ k o ho with ⟨h2, _⟩ | ⟨g', N', h2, hB, hnok, cur, fz, hcur, hfz, hsz, hlen, hcs, h1, hp⟩
      · rw [hg] at h2; cases h2
      · rw [hg] at h2; cases h2
        have hcell : ∀ (q : Nat) (c : AV), i < o.xs.length → (o.xs.getD i .junk).cells[q]? = some c → ∃ v, w.cell? ⟨g, i * o.sz + q, none⟩ = some v ∧ v.oneCell' = true ∧ R0 ok φ w v c := by
          intro q c hi hc
          obtain ⟨v, hv, hr⟩ := hp.get (flat_get hcs hi hc)
          refine ⟨v, ?_, h1 v (List.mem_of_getElem? hv), RC.r0 hr⟩
          rw [List.getElem?_take] at hv
          split at hv
          · simp [World.cell?, hcur]
            simpa using hv
          · cases hv
        by_cases ha : aggT P t = true
        · simp only [ha, if_true] at h ⊢
          obtain ⟨hi, hj, hdat⟩ := h
          generalize hcells : (o.xs.getD i .junk).cells = cs at *
          have hex : ∀ q, q < P.cellsOf t → ∃ v, w.cell? ⟨g, i * o.sz + (j + q), none⟩ = some v ∧ v.oneCell' = true ∧ DRep ok w v (cs.getD (j + q) .junk) := by
            intro q hq
            obtain ⟨v, a1, a2, a3⟩ := hcell (j + q) (cs.getD (j + q) .junk) hi (by simp [List.getD, show j + q < cs.length by omega])
            refine ⟨v, a1, a2, a3.data (List.all_eq_true.1 hdat _ ?_)⟩
            refine List.mem_of_getElem? (i := q) ?_
            rw [List.getElem?_take, if_pos hq, List.getElem?_drop]
            exact getD_some (by omega)
          have : ∃ vs : List Value, vs.length = P.cellsOf t ∧ ∀ q v, vs[q]? = some v → w.cell? ⟨g, i * o.sz + (j + q), none⟩ = some v ∧ v.oneCell' = true ∧ DRep ok w v (cs.getD (j + q) .junk) := by
            clear hj hs hdat
            generalize P.cellsOf t = n at *
            induction n with
            | zero => exact ⟨[], rfl, by simp⟩
            | succ n ih =>
              obtain ⟨vs, hv1, hv2⟩ := ih (fun q hq => hex q (by omega))
              obtain ⟨v, hv⟩ := hex n (by omega)
              refine ⟨vs ++ [v], by simp [hv1], fun q u hu => ?_⟩
              by_cases hq : q < vs.length
              · rw [List.getElem?_append_left hq] at hu; exact hv2 q u hu
              · rw [List.getElem?_append_right (by omega)] at hu
                have : q = n := by
                  have := (List.getElem?_eq_some_iff.1 hu).1
                  simp at this; omega
                subst this
                simp [hv1] at hu; subst hu; exact hv
          obtain ⟨vs, hv1, hv2⟩ := this
          refine ⟨.agg vs.toArray, g, .inr ⟨k, i, j, _, _, rfl, hg⟩, fun w' hw' => ?_, R1.of_data (.agg _ _ ?_ ?_ ?_)⟩
          · simp only [Instr.loadAt, Instr.sureAddr, pure_bind]
            refine run_loadVar_agg hu hs ha _ hv1 fun q v hv => ?_
            have := (hv2 q v hv).1
            rw [addr_add, Nat.add_assoc, World.cell?_of_block (a := ⟨g, i * o.sz + (j + q), none⟩) hw']; exact this
          · simp; omega
          · intro v hv
            obtain ⟨q, hq⟩ := List.getElem?_of_mem hv
            exact (hv2 q v hq).2.1
          · intro q v c hv hc
            rw [List.getElem?_take] at hc
            split at hc
            · rw [List.getElem?_drop] at hc
              have := (hv2 q v hv).2.2
              simpa [List.getD, hc] using this
            · cases hc
        · simp only [ha] at h ⊢
          obtain ⟨hi, hj⟩ := h
          obtain ⟨v, hv, -, hr⟩ := hcell j ((o.xs.getD i .junk).cells.getD j .junk) hi (getD_some hj)
          refine ⟨v, g, .inr ⟨k, i, j, _, _, rfl, hg⟩, fun w' hw' => ?_, R1.of_R0 hr⟩
          simp only [Instr.loadAt, Instr.sureAddr, pure_bind]
          exact run_loadVar_one hu (by simpa using ha) (by rw [World.cell?_of_block (a := ⟨g, i * o.sz + j, none⟩) hw']; exact hv)
  · exact h.elim
theorem evLoad_sound {H : List (Nat × HO)} {B : Nat → Prop} {x : AV} {t : TypeId} (hH : HeapOK ok φ H w B) (hx : R1 ok φ w v x) (hu : (P.underlying t).isSome = true) (hs : szIs P t (P.cellsOf t)) (h : (evLoad P H t x).1) :
    ∃ r, (Instr.loadAt t v).run P w = .ok r w ∧ R1 ok φ w r (evLoad P H t x).2 := by
  obtain ⟨r, b, _, h1, h2⟩ := evLoad_stable hH hx hu hs h
  exact ⟨r, h1 w rfl, h2⟩
theorem part_run {ty : TypeId} {vs : List Value} {off : Nat} (hu : (P.underlying ty).isSome = true) (w' : World) :
    (aggT P ty = true → szIs P ty (P.cellsOf ty) → (part ty vs.toArray off).run P w' = .ok (.agg ((vs.drop off).take (P.cellsOf ty)).toArray) w') ∧
    (aggT P ty = false → ∀ z, vs[off]? = some z → (part ty vs.toArray off).run P w' = .ok z w') := by
  refine ⟨fun ha hs => ?_, fun ha z hz => ?_⟩
  · have e : vs.toArray.extract off (off + P.cellsOf ty) = ((vs.drop off).take (P.cellsOf ty)).toArray := by
      apply Array.toList_inj.1
      simp [List.extract_eq_take_drop]
    simp [part, run_isAgg hu, ha, hs.run, e]
  · simp [part, run_isAgg hu, ha, hz]

theorem evIndex_sound {x i : AV} {t : TypeId} (hx : R1 ok φ w v x) (hi : R1 ok φ w u i) (h : (evIndex P t x i).1) :
    ∃ r, (∀ w', (Instr.index t v u).run P w' = .ok r w') ∧ R1 ok φ w r (evIndex P t x i).2 := by
  unfold evIndex at h ⊢
  split at h
  · rename_i k n s hu
    rw [hx.str_inv, hi.int_inv]
    simp only [hu]
    refine ⟨_, fun w' => ?_, R1.int ..⟩
    have h1 : n.toNat < s.length := by omega
    have h2 : (ByteArray.mk s.toArray)[n.toNat]? = some (s.getD n.toNat 0) := by
      have hh : n.toNat < (ByteArray.mk s.toArray).size := by rw [size_mk]; exact h1
      rw [getElem?_pos (ByteArray.mk s.toArray) n.toNat hh]
      simp [List.getD, h1, ByteArray.getElem_eq_getElem_data]
    simp [Instr.index, asIntOf, run_underlying hu, h.1, h2]
  · rename_i k n cs len e hu
    obtain ⟨hun, hs, h0, hl, hc⟩ := h
    rw [hi.int_inv]
    have hx : DRep ok w v (.agg cs) := hx
    have hv : ∃ vs : List Value, v = .agg vs.toArray ∧ Pts (DRep ok w) vs cs ∧ ∀ v ∈ vs, v.oneCell' = true := by
      cases hx with
      | agg vs _ hl h1 hh => exact ⟨vs, rfl, ⟨hl, hh⟩, h1⟩
    obtain ⟨vs, rfl, hp, h1⟩ := hv
    by_cases ha : aggT P e = true
    · simp only [ha, if_true] at hc ⊢
      refine ⟨_, fun w' => ?_, R1.of_data (.agg _ _ ((hp.drop (n.toNat * P.cellsOf e)).take (P.cellsOf e)).1 (fun v hv => h1 v (List.mem_of_mem_drop (List.mem_of_mem_take hv))) ((hp.drop (n.toNat * P.cellsOf e)).take (P.cellsOf e)).2)⟩
      simp [Instr.index, asIntOf, run_underlying hu, h0, hl, hs.run, (part_run hun w').1 ha hs]
    · simp only [ha] at hc ⊢
      obtain ⟨z, hz, hr⟩ := hp.get (i := n.toNat * P.cellsOf e) (x := cs.getD (n.toNat * P.cellsOf e) .junk) (getD_some hc)
      refine ⟨z, fun w' => ?_, R1.of_data hr⟩
      simp [Instr.index, asIntOf, run_underlying hu, h0, hl, hs.run, (part_run hun w').2 (by simpa using ha) z hz]
  · exact h.elim
end
end Go.Ideal
