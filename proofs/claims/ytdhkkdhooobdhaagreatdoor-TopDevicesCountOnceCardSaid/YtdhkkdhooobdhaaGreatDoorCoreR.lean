/- What a row's arguments hold, as abstract data. -/
import Derived.Test.YtdhkkdhooobdhaaGreatDoorCoreP
import Derived.ProofKit
import Derived.ChangeArms
import Derived.Below
import Derived.ChangeSame
import Derived.OpenShut
set_option linter.unusedVariables false
set_option linter.unusedSimpArgs false
namespace Go.Ideal
open Go.RowKit Go.WideShapes Go.ChangeShapes

def oldW (w : World) (b : Nat) : Prop := b < w.heap.size

section
variable {H : Type} {enc : TypeId × Value → H} {P : Program} {w : World} {base : Nat} {spare : Nat → Bool} {held : Bool}

/-- Some cells hold an element. -/
structure Cells (w : World) (cs : List Value) (x : AV) : Prop where
  len : cs.length = x.cells.length
  one : ∀ v ∈ cs, v.oneCell' = true
  rep : Pts (DRep (oldW w) w) cs x.cells

theorem lt_of_cell {a : Addr} {v : Value} (h : w.cell? a = some v) : a.block < w.heap.size ∧ a.spot = none := by
  unfold World.cell? at h
  split at h
  · rename_i hb
    refine ⟨(Array.getElem?_eq_some_iff.1 hb).1, ?_⟩
    split at h
    · cases h
    · rename_i hs; simpa using hs
  · cases h

theorem add_none (b o i : Nat) : (⟨b, o, none⟩ : Addr).add i = ⟨b, o + i, none⟩ := by
  unfold Addr.add; split <;> simp_all

theorem row_cells {b o sz : Nat} {f : Nat → List Value} : ∀ n : Nat, (∀ i, i < n → (f i).length = sz ∧ ∀ (k : Nat) v, (f i)[k]? = some v → w.cell? ⟨b, o + i * sz + k, none⟩ = some v) →
    ((List.range n).flatMap f).length = n * sz ∧ ∀ (j : Nat) v, ((List.range n).flatMap f)[j]? = some v → w.cell? ⟨b, o + j, none⟩ = some v
  | 0, _ => by simp
  | n + 1, h => by
    obtain ⟨h1, h2⟩ := row_cells n fun i hi => h i (by omega)
    obtain ⟨h3, h4⟩ := h n (by omega)
    rw [List.range_succ, List.flatMap_append, List.flatMap_singleton]
    refine ⟨by rw [List.length_append, h1, h3, Nat.add_mul, Nat.one_mul], fun j v hj => ?_⟩
    rw [List.getElem?_append] at hj
    split at hj
    · exact h2 j v hj
    · rename_i hlt
      have := h4 _ v hj
      rw [h1] at this hlt
      rw [show o + n * sz + (j - n * sz) = o + j by omega] at this
      exact this

theorem rd_slice {t e : TypeId} {fuel : Nat} {v : Value} {y : DataW H × List MemPlace} {Q : AV → Prop} (ht : P.underlying t = some (.slice e)) (h0 : 0 < P.cellsOf e)
    (hel : ∀ fuel cs y, cs.length = P.cellsOf e → DataW.trod enc P w base spare held fuel e cs = some y → ∃ x, Q x ∧ Cells w cs x)
    (h : DataW.trod enc P w base spare held fuel t [v] = some y) : ∃ xs : List AV, (∀ x ∈ xs, Q x) ∧ xs.length ≤ maxLen ∧ DRep (oldW w) w v (.sl false (P.cellsOf e) xs) := by
  rcases DataW.trod_slice ht h with ⟨h1, _⟩ | ⟨a, len, cap, elems, rest, n, _, h1, _, hb, hl, hm, hlen, hel', _⟩
  · cases h1
    exact ⟨[], by simp, by simp, .slNil false _ none 0 (by simp)⟩
  · cases h1
    by_cases hl0 : len = 0
    · subst hl0
      exact ⟨[], by simp, by simp, .slNil false _ _ _ (by simp)⟩
    have each : ∀ i : Nat, ∃ p : AV × List Value, i < len → Q p.1 ∧ Cells w p.2 p.1 ∧ w.cells? base (a.add (i * P.cellsOf e)) (P.cellsOf e) = some p.2 := by
      intro i
      by_cases hi : i < len
      · have := hel' i hi
        rw [List.getElem?_eq_getElem (by omega), Option.bind_eq_some_iff] at this
        obtain ⟨cs, hcs, hy⟩ := this
        obtain ⟨x, hq, hx⟩ := hel _ _ _ (World.cells?_some hcs).2.1 hy
        exact ⟨(x, cs), fun _ => ⟨hq, hx, hcs⟩⟩
      · exact ⟨(.junk, []), fun h => absurd h hi⟩
    obtain ⟨f, hf⟩ := Classical.axiomOfChoice each
    have hcl : ∀ i, i < len → (f i).2.length = P.cellsOf e ∧ (f i).1.cells.length = P.cellsOf e := by
      intro i hi
      have := (World.cells?_some (hf i hi).2.2).2.1
      exact ⟨this, (hf i hi).2.1.len ▸ this⟩
    have h00 := (World.cells?_some (hf 0 (by omega)).2.2).2.2 0 h0
    rw [List.getElem?_eq_getElem (by rw [(hcl 0 (by omega)).1]; exact h0)] at h00
    obtain ⟨hblk, hspot⟩ := lt_of_cell h00
    have ha : a = ⟨a.block, a.off, none⟩ := by
      obtain ⟨b, o, s⟩ := a
      have : s = none := by
        simp only [Nat.zero_mul] at hspot
        unfold Addr.add at hspot
        simpa using hspot
      rw [this]
    rw [ha]
    have hblk' : a.block < w.heap.size := by
      rw [block_add, block_add] at hblk; exact hblk
    have hrow := row_cells (w := w) (b := a.block) (o := a.off) (sz := P.cellsOf e) (f := fun i => (f i).2) len fun i hi => by
      refine ⟨(hcl i hi).1, fun k v hk => ?_⟩
      have hkl : k < P.cellsOf e := by rw [← (hcl i hi).1]; exact (List.getElem?_eq_some_iff.1 hk).1
      have := (World.cells?_some (hf i hi).2.2).2.2 k hkl
      rw [hk, ha, add_none, add_none] at this
      exact this
    have hflat : ∀ n, n ≤ len → Pts (DRep (oldW w) w) ((List.range n).flatMap fun i => (f i).2) (flat ((List.range n).map fun i => (f i).1)) ∧ ∀ v ∈ (List.range n).flatMap (fun i => (f i).2), v.oneCell' = true := by
      intro n
      induction n with
      | zero => intro _; exact ⟨by simpa [flat] using Pts.nil, by simp⟩
      | succ n ih =>
        intro hn
        obtain ⟨h1, h2⟩ := ih (by omega)
        rw [List.range_succ, List.flatMap_append, List.map_append, List.flatMap_singleton, List.map_singleton]
        have hfl : ∀ (xs : List AV) (x : AV), flat (xs ++ [x]) = flat xs ++ x.cells := by intro xs x; simp [flat]
        rw [hfl]
        refine ⟨h1.append (hf n (by omega)).2.1.rep, fun v hv => ?_⟩
        rw [List.mem_append] at hv
        exact hv.elim (h2 v) ((hf n (by omega)).2.1.one v)
    obtain ⟨hp, ho⟩ := hflat len (Nat.le_refl _)
    refine ⟨(List.range len).map fun i => (f i).1, ?_, by simp; omega, ?_⟩
    · intro x hx
      obtain ⟨i, hi, rfl⟩ := List.mem_map.1 hx
      exact (hf i (by simpa using hi)).1
    · have hln : ((List.range len).map fun i => (f i).1).length = len := by simp
      have := DRep.sl (ok := oldW w) (w := w) false a.block a.off cap (P.cellsOf e) ((List.range len).map fun i => (f i).1) _ hblk' (by intro e; rw [e] at hln; simp at hln; omega) (by omega) (by simp)
        (fun x hx => by obtain ⟨i, hi, rfl⟩ := List.mem_map.1 hx; exact (hcl i (by simpa using hi)).2) hp.1 ho hrow.2 hp.2
      rwa [hln] at this

theorem rd_u8 {e : TypeId} (he : P.underlying e = some (.int .u8)) {fuel : Nat} {cs : List Value} {y : DataW H × List MemPlace} (h : DataW.trod enc P w base spare held fuel e cs = some y) :
    ∃ b : UInt8, cs = [.int .u8 b.toNat] := by
  obtain ⟨n, rfl, _, hw⟩ := DataW.trod_int he h
  refine ⟨UInt8.ofNat n.toNat, ?_⟩
  simp [Lit.wf, IntKind.min, IntKind.max, IntKind.signed, IntKind.bits] at hw
  simp
  omega

theorem trodAll_stays (hl : laidOutB P = true) {W W' : World} {sp' : Nat → Bool} : ∀ {ts : List TypeId} {vs : List Value} {ds : List (DataW H)} {ps : List MemPlace}, (∀ t ∈ ts, P.readableRec t = true ∧ t < P.types.size) →
    DataW.TrodAll enc P W 0 (fun _ => true) true ts vs ds ps → (∀ p ∈ ps, W.sameAt W' p) → (∀ p ∈ ps, sp' p.block = true) → DataW.TrodAll enc P W' 0 sp' true ts vs ds ps
  | [], [], [], _, _, h, _, _ => h
  | [], _ :: _, _, _, _, h, _, _ => h.elim
  | [], [], _ :: _, _, _, h, _, _ => h.elim
  | _ :: _, [], _, _, _, h, _, _ => h.elim
  | _ :: _, _ :: _, [], _, _, h, _, _ => h.elim
  | t :: ts, v :: vs, d :: ds, ps, hr, ⟨p, q, h1, h2, e⟩, hs, hsp => by
    subst e
    exact ⟨p, q, WideElems.Trod_stays hl (hr t (by simp)).1 (hr t (by simp)).2 h1 (fun x hx => hs x (by simp [hx])) (fun x hx => hsp x (by simp [hx])),
      trodAll_stays hl (fun t ht => hr t (by simp [ht])) h2 (fun x hx => hs x (by simp [hx])) (fun x hx => hsp x (by simp [hx])), rfl⟩

theorem law_post {fn : Func} {s : ChangeSpec} {W W' : World} {args : Array Value} {ds gs : List (DataW H)} {before : List MemPlace} {tb : TypeId} (hl : laidOutB P = true) (hr : ∀ t ∈ fn.params.toList, P.readableRec t = true ∧ t < P.types.size)
    (hvars : s.vars = []) (hres : fn.resultTypes = #[tb]) (htb : P.underlying tb = some .bool) (hfn : (s.fn H (ds ++ gs)) = { results := [.lit (.bool true)], args := ds })
    (hW : DataW.Whole enc P fn.params.toList s.vars false W args.toList ds gs before) (hb : Below W.heap.size W W') : s.post enc P fn false true false false W args (.bool true) W' := by
  have hW0 := hW
  obtain ⟨p, q, hA, hV, rfl, _, _⟩ := hW
  rw [hvars] at hV
  obtain ⟨rfl, rfl⟩ := trodVars_none hV
  rw [List.append_nil] at hW0
  have hlt : ∀ x ∈ p, x.block < W.heap.size := fun x hx => hW0.lt x hx
  refine ⟨ds, [], p, [], p, [], hW0, ?_, ?_, ?_, World.keptBut_mono (fun x hx => ⟨hx, .inr (.inl hx)⟩) (hb.frame (· ∈ p)), fun h => by cases h⟩
  · rw [hfn, hres]
    refine ⟨[], [], ⟨1, ?_⟩, rfl, rfl⟩
    simp [DataW.trod, Value.cells, htb]
  · rw [hfn]
    exact trodAll_stays hl hr hA (fun x hx => hb.same (hlt x hx)) (fun x hx => by simpa using hlt x hx)
  · rw [hvars, hfn]; rfl

/-! Arguments -/
theorem wf_u8 {n : Int} (h : (Lit.int .u8 n).wf = true) : 0 ≤ n ∧ n < 256 := by
  simp [Lit.wf, IntKind.min, IntKind.max, IntKind.signed, IntKind.bits] at h; omega
end
end Go.Ideal
