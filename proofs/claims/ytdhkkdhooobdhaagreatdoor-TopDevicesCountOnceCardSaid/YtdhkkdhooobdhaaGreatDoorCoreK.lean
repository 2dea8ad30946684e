/- Steps with effects: new rows, appending, storing. -/
import Derived.Test.YtdhkkdhooobdhaaGreatDoorCoreJ
import Derived.Great.BuildSlice
set_option linter.unusedVariables false
set_option linter.unusedSimpArgs false
namespace Go.Ideal
open Go.RowKit

def upd : List (Nat × HO) → Nat → HO → List (Nat × HO)
  | [], _, _ => []
  | (k', o') :: t, k, o => if k' = k then (k', o) :: upd t k o else (k', o') :: upd t k o
theorem look_upd_self {h : List (Nat × HO)} {k : Nat} {o o' : HO} (hk : look h k = some o') : look (upd h k o) k = some o := by
  induction h with
  | nil => cases hk
  | cons p t ih =>
    obtain ⟨j, q⟩ := p
    simp only [upd, look] at hk ⊢
    by_cases e : j = k
    · simp [e, look]
    · simp only [e, if_false] at hk ⊢; simp [look, e, ih hk]
theorem look_upd_ne (h : List (Nat × HO)) {k k' : Nat} (o : HO) (hn : k' ≠ k) : look (upd h k o) k' = look h k' := by
  induction h with
  | nil => rfl
  | cons p t ih =>
    obtain ⟨j, q⟩ := p
    simp only [upd, look]
    by_cases e : j = k
    · subst e; simp [look, Ne.symm hn, ih]
    · simp [e, look, ih]

/-- What is asked of an element's type. -/
def apOK (P : Program) (e : TypeId) (sz : Nat) : Prop := ∃ i z, P.info? e = some i ∧ i.zero = some z ∧ i.size = sz ∧ z.cells.size = sz ∧ i.bytes ≤ 1024 ∧ 0 < sz
theorem apOK.szIs {P : Program} {e : TypeId} {sz : Nat} (h : apOK P e sz) : szIs P e sz := by
  obtain ⟨i, z, h1, h2, h3, _⟩ := h
  simp [Ideal.szIs, h1, h3]

section
variable {ok ok' : Nat → Prop} {φ φ' : Names} {w w' : World} {v u : Value} {P : Program} {c : Ctx} {σ : St} {a : Act} {y : AV}

theorem store_cells (g o : Nat) (t : TypeId) (fz : Nat × Nat) : ∀ (vs : List Value) (i : Nat) (cur : Array Value) (w : World), w.heap[g]? = some (.cells cur t fz) → noFz fz cur.size → o + i + vs.length ≤ cur.size → (∀ v ∈ vs, v.oneCell' = true) →
    (storeCells ⟨g, o, none⟩ vs i).run P w = .ok () (w.setRow g (cur.toList.take (o + i) ++ vs ++ cur.toList.drop (o + i + vs.length)).toArray)
  | [], i, cur, w, hg, _, _, _ => by
    simp only [storeCells, List.append_nil, List.length_nil, Nat.add_zero, List.take_append_drop, Array.toArray_toList]
    rw [setRow_self w g cur t fz hg]
    rfl
  | v :: rest, i, cur, w, hg, hz, hl, h1 => by
    have hi : o + i < cur.size := by simp at hl; omega
    have hadd : (⟨g, o, none⟩ : Addr).add i = ⟨g, o + i, none⟩ := addr_add g o i
    have hcell : w.cell? ⟨g, o + i, none⟩ = some cur[o + i] := by simp [World.cell?, hg, hi]
    have hfro : w.frozen? ⟨g, o + i, none⟩ = false := by
      obtain ⟨lo, hi'⟩ := fz
      simp only [World.frozen?, hg]
      unfold noFz at hz
      simp at hz ⊢
      omega
    have hst : (store ((⟨g, o, none⟩ : Addr).add i) v).run P w = .ok () (w.setRow g (cur.setIfInBounds (o + i) v)) := by
      rw [hadd, run_store P w _ v _ (h1 v (by simp)), hcell]
      simp [hfro, setCell_eq_setRow w g (o + i) cur t fz v hg]
    have ih := store_cells g o t fz rest (i + 1) (cur.setIfInBounds (o + i) v) (w.setRow g (cur.setIfInBounds (o + i) v)) (setRow_heap w g cur _ t _ hg) (by simpa using hz) (by simp at hl ⊢; omega) (fun x hx => h1 x (by simp [hx]))
    simp only [storeCells, Sem.run_bind, hst, Result.andThen_ok, ih, setRow_setRow]
    congr 3
    have e := list_seg_step cur.toList (o + i) v rest (by simp at hl ⊢; omega)
    simpa [Array.toList_setIfInBounds, Nat.add_assoc] using e

/-- What is appended. -/
structure Src (P : Program) (w : World) (sz : Nat) (v : Value) (m : Nat) (news : List Value) : Prop where
  len : ∀ w', (Builtin.lenOf v).run P w' = .ok m w'
  cells : news.length = m * sz
  one : ∀ u ∈ news, u.oneCell' = true
  read : ∀ w', w'.heap = w.heap → (Builtin.firstCells sz m v).run P w' = .ok news.toArray w'

theorem cell_heap {w w' : World} (h : w'.heap = w.heap) (a : Addr) : w'.cell? a = w.cell? a := by simp [World.cell?, h]

theorem Src.of_sl {ex : Bool} {sz : Nat} {xs : List AV} (h : DRep ok w v (.sl ex sz xs)) : ∃ vs : List Value, Src P w sz v xs.length vs ∧ Pts (DRep ok w) vs (flat xs) ∧ (xs ≠ [] → ∀ x ∈ xs, x.cells.length = sz) := by
  cases h with
  | slNil _ _ a cap hc =>
    refine ⟨[], ⟨fun w' => by simp [Builtin.lenOf], by simp, by simp, fun w' _ => ?_⟩, by simpa [flat] using Pts.nil, by simp⟩
    cases a with
    | none => simp [Builtin.firstCells]
    | some a => simp [Builtin.firstCells, loadCells, loadCellsFrom]
  | sl _ b o cap _ _ vs hb hne hcap hex hsz hl h1 hm h =>
    refine ⟨vs, ⟨fun w' => by simp [Builtin.lenOf], by rw [hl, flat_len hsz], h1, fun w' hw => ?_⟩, ⟨hl, h⟩, fun _ => hsz⟩
    exact run_firstCells_some (P := P) w' sz xs.length _ _ _ vs (by rw [hl, flat_len hsz]) fun j v hj => by
      rw [addr_add, cell_heap hw]; exact hm j v hj

theorem Src.of_str (s : List UInt8) : Src P w 1 (.string ⟨s.toArray⟩) s.length (s.map fun b => .int .u8 b.toNat) ∧ Pts (DRep ok w) (s.map fun b => Value.int .u8 b.toNat) (flat (s.map fun b => AV.int .u8 b.toNat)) := by
  have hf : ∀ s : List UInt8, flat (s.map fun b => AV.int .u8 b.toNat) = s.map fun b => AV.int .u8 b.toNat := by
    intro s; induction s with
    | nil => rfl
    | cons b s ih => rw [List.map_cons, flat_cons, ih]; rfl
  refine ⟨⟨fun w' => ?_, by simp, ?_, fun w' _ => ?_⟩, ?_⟩
  · simp [Builtin.lenOf, size_mk]
  · intro u hu
    obtain ⟨b, _, rfl⟩ := List.mem_map.1 hu
    rfl
  · simp only [Builtin.firstCells, Sem.run_pure]
    congr 1
    have : (ByteArray.mk s.toArray).extract 0 s.length = ⟨s.toArray⟩ := by
      have := size_mk s
      rw [← this]; exact ByteArray.extract_zero_size
    rw [this]
    simp
  · rw [hf]
    refine ⟨by simp, fun i v x h1 h2 => ?_⟩
    rw [List.getElem?_map] at h1 h2
    cases hb : s[i]? with
    | none => simp [hb] at h1
    | some b => simp [hb] at h1 h2; subst h1 h2; exact .int ..

section
variable {t ut ty e : TypeId} {i : TypeInfo} {z : Value} {d : TypeDesc} {m : Nat} {news : List Value} (ht : P.underlying t = some (.slice e)) (hu : P.underlying ut = some d) (hd : d = .string ∨ ∃ e', d = .slice e')
  (hi : P.info? e = some i) (hz : i.zero = some z) (hs : Src P w i.size v m news)
include ht hu hd hi hs

theorem app_none (hm : m = 0) (a : Option Addr) (n cap : Nat) (hn : n ≤ cap) : (Builtin.append_ #[t, ut] ty #[.slice a n cap, v]).run P w = .ok (.slice a n cap) w := by
  subst hm
  have hnil : news = [] := List.eq_nil_of_length_eq_zero (by simpa using hs.cells)
  have hr := hs.read w rfl
  subst hnil
  rcases hd with rfl | ⟨e', rfl⟩ <;> cases a <;> simp [Builtin.append_, run_underlying ht, run_underlying hu, sizeOf, typeInfo, hi, hs.len, hn, hr, storeCells]

theorem app_room (g n cap : Nat) (cur : Array Value) (fz : Nat × Nat) (hg : w.heap[g]? = some (.cells cur e fz)) (hf : noFz fz cur.size) (hroom : n + m ≤ cap) (hfit : n * i.size + news.length ≤ cur.size) :
    (Builtin.append_ #[t, ut] ty #[.slice (some ⟨g, 0, none⟩) n cap, v]).run P w =
      .ok (.slice (some ⟨g, 0, none⟩) (n + m) cap) (w.setRow g (cur.toList.take (n * i.size) ++ news ++ cur.toList.drop (n * i.size + news.length)).toArray) := by
  have hst := store_cells (P := P) g (n * i.size) e fz news 0 cur w hg hf (by simpa using hfit) hs.one
  simp only [Nat.add_zero] at hst
  have hr := hs.read w rfl
  rcases hd with rfl | ⟨e', rfl⟩ <;> simp [Builtin.append_, run_underlying ht, run_underlying hu, sizeOf, typeInfo, hi, hs.len, hroom, hr, Addr.add_lit, hst]

theorem app_grow (hz : i.zero = some z) (b : Option Addr) (n cap : Nat) (olds : List Value) (holds : ∀ w', w'.heap = w.heap → (Builtin.firstCells i.size n (.slice b n cap)).run P w' = .ok olds.toArray w')
    (hgr : cap < n + m) (h63 : ((n + m : Nat) : Int) ≤ 9223372036854775807) (hfit : Builtin.nextslicecap (n + m) cap * i.bytes ≤ 281474976710656) :
    (Builtin.append_ #[t, ut] ty #[.slice b n cap, v]).run P w =
      .ok (.slice (some ⟨w.heap.size, 0, none⟩) (n + m) (grownCap w (n + m) cap e))
        (w.drew.alloc (.cells (olds.toArray ++ news.toArray ++ Builtin.zeroCells z.cells (grownCap w (n + m) cap e - (n + m))) e)) := by
  have hn : ¬ (n + m ≤ cap) := by omega
  have h63' : ¬ (9223372036854775807 < ((n : Int) + (m : Int))) := by omega
  have h48' : ¬ (281474976710656 < Builtin.nextslicecap (n + m) cap * i.bytes) := by omega
  have hf := hs.read w.drew rfl
  have hfo := holds w.drew rfl
  rcases hd with rfl | ⟨e', rfl⟩ <;> simp [Builtin.append_, run_underlying ht, run_underlying hu, sizeOf, typeInfo, zeroValue, hi, hz, hs.len, hn, h63', h48', Question.forced, hf, hfo, newRow, grownCap]
  all_goals
    congr 2
    apply Array.ext'
    simp [List.append_assoc]
end

/-- One object's memory becomes block g. -/
theorem Goes.obj (h : Holds1 c ok φ σ a w) {g k sz N : Nat} {e : TypeId} {bx : Bool} {xs : List AV} {H' : List (Nat × HO)} {kill tch : Option Nat} (hgr : w.grownBy w' (some g)) (hB : c.mine g) (hnok : ¬ ok g)
    (hother : ∀ k' o g' sz' N', k' ≠ k → look σ.h k' = some o → φ k' = some (g', sz', N') → g' ≠ g) (hobj : ObjAt ok φ' w' g sz N e bx xs)
    (hφk : φ' k = some (g, sz, N)) (hφ : ∀ j, j ≠ k → φ' j = φ j) (hkill : ∀ j, kill ≠ some j → φ' j = φ j)
    (hHk : look H' k = some ⟨sz, e, bx, xs⟩) (hH : ∀ j, j ≠ k → look H' j = look (killH k σ.h) j ∨ (look H' j = look σ.h j ∧ φ' = φ)) (htch : g < w.heap.size → tch = some k ∧ ∃ sz N, φ k = some (g, sz, N)) : Goes c ok φ w ok φ' H' w' kill tch := by
  have hok : ∀ b, ok b → w'.heap[b]? = w.heap[b]? := fun b hb => hgr.block b (h.okLt b hb) (fun e => hnok (by cases e; exact hb))
  have hl : ∀ j o, j ≠ k → look H' j = some o → ∃ o0, look σ.h j = some o0 ∧ (o = killB k o0 ∨ (o = o0 ∧ φ' = φ)) := by
    intro j o hj ho
    rcases hH j hj with h1 | ⟨h1, h2⟩
    · rw [h1, look_killH] at ho
      cases h0 : look σ.h j with
      | none => simp [h0] at ho
      | some o0 => simp [h0] at ho; exact ⟨o0, rfl, .inl ho.symm⟩
    · rw [h1] at ho; exact ⟨o, ho, .inr ⟨rfl, h2⟩⟩
  refine ⟨fun _ h => h, hok, hkill, ⟨fun j o hj => ?_, fun j j' o o' g1 s1 n1 s2 n2 h1 h2 h3 h4 => ?_⟩, fun b hb => Nat.lt_of_lt_of_le (h.okLt b hb) hgr.size, h.okOr, h.below.grown hgr (fun k e => by cases e; exact hB), fun b hb hn => hgr.block b hb (fun e => by
    cases e
    obtain ⟨h1, s1, n1, h2⟩ := htch hb
    exact hn k s1 n1 h1 h2)⟩
  · by_cases ej : j = k
    · subst ej
      rw [hHk] at hj; cases hj
      exact .inr ⟨g, N, hφk, hB, hnok, hobj⟩
    · obtain ⟨o0, h0, hor⟩ := hl j o ej hj
      rw [hφ j ej]
      rcases h.heap.at_ j o0 h0 with ⟨h1, h1'⟩ | ⟨g', N', h1, h2, h3, h4⟩
      · refine .inl ⟨h1, ?_⟩
        rcases hor with rfl | ⟨rfl, _⟩
        · exact killB_nil k o0 h1'
        · exact h1'
      · have h5 : w'.heap[g']? = w.heap[g']? := hgr.block g' (h.heap.lt h0 h1).1 (fun e => hother j o0 g' _ N' ej h0 h1 (by cases e; rfl))
        have h6 := h4.mono (ok' := ok) (fun _ h => h) hok h5
        rcases hor with rfl | ⟨rfl, e2⟩
        · exact .inr ⟨g', N', by rw [killB_sz]; exact h1, h2, h3, h6.kill hφ⟩
        · exact .inr ⟨g', N', h1, h2, h3, e2 ▸ h6⟩
  · by_cases e1 : j = k
    · by_cases e2 : j' = k
      · rw [e1, e2]
      · subst e1
        rw [hφk] at h3; cases h3
        obtain ⟨p', h0, -⟩ := hl j' o' e2 h2
        rw [hφ j' e2] at h4
        exact absurd rfl (hother j' p' _ _ _ e2 h0 h4)
    · by_cases e2 : j' = k
      · subst e2
        rw [hφk] at h4; cases h4
        obtain ⟨p, h0, -⟩ := hl j o e1 h1
        rw [hφ j e1] at h3
        exact absurd rfl (hother j p _ _ _ e1 h0 h3)
      · obtain ⟨p, h0, -⟩ := hl j o e1 h1
        obtain ⟨p', h0', -⟩ := hl j' o' e2 h2
        rw [hφ j e1] at h3; rw [hφ j' e2] at h4
        exact h.heap.inj j j' p p' g1 s1 n1 s2 n2 h0 h0' h3 h4

theorem Goes.none (h : Holds1 c ok φ σ a w) {k sz : Nat} {e : TypeId} {bx : Bool} {H' : List (Nat × HO)} {kill tch : Option Nat}
    (hφk : φ' k = none) (hφ : ∀ j, j ≠ k → φ' j = φ j) (hkill : ∀ j, kill ≠ some j → φ' j = φ j)
    (hHk : look H' k = some ⟨sz, e, bx, []⟩) (hH : ∀ j, j ≠ k → look H' j = look (killH k σ.h) j) : Goes c ok φ w ok φ' H' w kill tch := by
  have hl : ∀ j, look H' j = look (put (killH k σ.h) k ⟨sz, e, bx, []⟩) j := by
    intro j
    by_cases ej : j = k
    · subst ej; rw [hHk, look_put_self]
    · rw [hH j ej, look_put_ne _ _ ej]
  have hK := h.heap.newNone (k := k) (sz := sz) (e := e) (bx := bx) hφ hφk
  refine ⟨fun _ h => h, fun _ _ => rfl, hkill, ⟨fun j o hj => ?_, fun j j' o o' g1 s1 n1 s2 n2 h1 h2 h3 h4 => ?_⟩, h.okLt, h.okOr, h.below, fun _ _ _ => rfl⟩
  · rw [hl j] at hj; exact hK.at_ j o hj
  · rw [hl j] at h1; rw [hl j'] at h2; exact hK.inj j j' o o' g1 s1 n1 s2 n2 h1 h2 h3 h4

def isSrc (P : Program) (sz : Nat) (ut : TypeId) (y : AV) : Prop × List AV :=
  match y, P.underlying ut with
  | .sl _ sy ys, some (.slice _) => (sy = sz ∨ ys = [], ys)
  | .str s, some .string => (sz = 1, s.map fun b => .int .u8 b.toNat)
  | _, _ => (False, [])
abbrev EffR := Prop × AV × List (Nat × HO) × Option Nat
def noE : EffR := (False, .junk, [], none)
def evApp (P : Program) (H : List (Nat × HO)) (d : Nat) (t ut : TypeId) (x y : AV) : EffR :=
  match P.underlying t with
  | some (.slice e) =>
    match x with
    | .osl k off len =>
      match look H k with
      | some o => (off = 0 ∧ len = o.xs.length ∧ o.bx = false ∧ o.e = e ∧ apOK P e o.sz ∧ (isSrc P o.sz ut y).1 ∧ len + (isSrc P o.sz ut y).2.length ≤ 68719476736,
          .osl k 0 (len + (isSrc P o.sz ut y).2.length), upd (killH k H) k ⟨o.sz, o.e, false, o.xs ++ (isSrc P o.sz ut y).2⟩, some k)
      | none => noE
    | .sl true sz xs => (((isSrc P (P.cellsOf e) ut y).2 ≠ [] ∨ xs = []) ∧ (sz = P.cellsOf e ∨ xs = []) ∧ apOK P e (P.cellsOf e) ∧ (isSrc P (P.cellsOf e) ut y).1 ∧ xs.length + (isSrc P (P.cellsOf e) ut y).2.length ≤ 68719476736,
        .osl d 0 (xs.length + (isSrc P (P.cellsOf e) ut y).2.length), put (killH d H) d ⟨P.cellsOf e, e, false, xs ++ (isSrc P (P.cellsOf e) ut y).2⟩, some d)
    | _ => noE
  | _ => noE

theorem isSrc_sound {sz : Nat} {ut : TypeId} {y : AV} (hy : R1 ok φ w u y) (h : (isSrc P sz ut y).1) : ∃ d vs, P.underlying ut = some d ∧ (d = .string ∨ ∃ e', d = .slice e') ∧ Src P w sz u (isSrc P sz ut y).2.length vs ∧
    Pts (DRep ok w) vs (flat (isSrc P sz ut y).2) ∧ (∀ x ∈ (isSrc P sz ut y).2, x.cells.length = sz) := by
  unfold isSrc at h ⊢
  split at h
  · rename_i ex sy ys e hu
    obtain ⟨vs, h1, h2, h3⟩ := Src.of_sl (P := P) hy.sl_inv
    rcases h with h | h
    · subst h
      refine ⟨_, vs, hu, .inr ⟨_, rfl⟩, h1, h2, ?_⟩
      intro x hx; exact h3 (List.ne_nil_of_mem hx) x hx
    · simp only at h ⊢
      subst h
      have hn : vs = [] := by have := h2.1; simp [flat] at this; exact this
      subst hn
      refine ⟨_, [], hu, .inr ⟨_, rfl⟩, ⟨h1.len, by simp, by simp, fun w' hw => ?_⟩, by simpa [flat] using Pts.nil, by simp⟩
      have := h1.read w' hw
      obtain ⟨ad, cap, rfl, _⟩ := hy.sl_inv.sl_len
      cases ad with
      | none => simp [Builtin.firstCells]
      | some ad => simp [Builtin.firstCells, loadCells, loadCellsFrom]
  · rename_i s hu
    simp only at h
    subst h
    obtain ⟨h1, h2⟩ := Src.of_str (P := P) (ok := ok) (w := w) s
    rw [hy.str_inv]
    exact ⟨_, _, hu, .inl rfl, by simpa using h1, h2, fun x hx => by obtain ⟨b, _, rfl⟩ := List.mem_map.1 hx; rfl⟩
  · exact h.elim

theorem flat_le {sz : Nat} {xs ys : List AV} (h : ∀ x ∈ xs ++ ys, x.cells.length = sz) : (flat (xs ++ ys)).length = (xs.length + ys.length) * sz := by
  rw [flat_len h, List.length_append]

/-- Growing: a new block. -/
theorem app_new (h : Holds1 c ok φ σ a w) {t ut ty e : TypeId} {i : TypeInfo} {z : Value} {d : TypeDesc} {news olds : List Value} {xs ys : List AV} {k sz cap : Nat} {b : Option Addr} {H' : List (Nat × HO)} {tch : Option Nat}
    (ht : c.P.underlying t = some (.slice e)) (hu : c.P.underlying ut = some d) (hd : d = .string ∨ ∃ e', d = .slice e') (hi : c.P.info? e = some i) (hz : i.zero = some z) (hsz : i.size = sz) (hzs : z.cells.size = sz) (hby : i.bytes ≤ 1024)
    (hs : Src c.P w sz u ys.length news) (hnews : Pts (DRep ok w) news (flat ys)) (hys : ∀ x ∈ ys, x.cells.length = sz)
    (holds : ∀ w', w'.heap = w.heap → (Builtin.firstCells sz xs.length (.slice b xs.length cap)).run c.P w' = .ok olds.toArray w') (hold : Pts (DRep ok w) olds (flat xs)) (hxs : ∀ x ∈ xs, x.cells.length = sz) (hone : ∀ v ∈ olds, v.oneCell' = true)
    (hgrow : cap < xs.length + ys.length) (hle : xs.length + ys.length ≤ 68719476736)
    (hHk : look H' k = some ⟨sz, e, false, xs ++ ys⟩) (hH : ∀ j, j ≠ k → look H' j = look (killH k σ.h) j) :
    ∃ r w' ok' φ', (Builtin.append_ #[t, ut] ty #[.slice b xs.length cap, u]).run c.P w = .ok r w' ∧ Goes c ok φ w ok' φ' H' w' (some k) tch ∧ R1 ok' φ' w' r (.osl k 0 (xs.length + ys.length)) := by
  subst hsz
  have hb : (xs.length + ys.length) * i.bytes ≤ 140737488355328 := Nat.le_trans (Nat.mul_le_mul hle hby) (by decide)
  have hr := app_grow (ty := ty) ht hu hd hi hs hz b xs.length cap olds holds hgrow (by omega) (growslice_fits hgrow hb)
  have hm : xs.length + ys.length ≤ maxLen := by simp only [maxLen]; omega
  have hge := grownCap_ge w (xs.length + ys.length) cap e
  have hcm := grownCap_le_maxLen w (xs.length + ys.length) cap e hm
  have hol : olds.length = xs.length * i.size := by rw [hold.1, flat_len hxs]
  have hnl : news.length = ys.length * i.size := hs.cells
  have hB : c.mine w.heap.size := .inl h.below.size
  let φ' : Names := fun j => if j = k then some (w.heap.size, i.size, grownCap w (xs.length + ys.length) cap e * i.size) else φ j
  refine ⟨_, _, ok, φ', hr, Goes.obj h (g := w.heap.size) (k := k) (sz := i.size) (N := grownCap w (xs.length + ys.length) cap e * i.size) (e := e) (xs := xs ++ ys) ?_ hB ?_ ?_ ?_ (by simp [φ']) (fun j hj => by simp [φ', hj]) (fun j hj => by
    have : j ≠ k := fun e => hj (by rw [e]); simp [φ', this]) hHk (fun j hj => .inl (hH j hj)) (fun hh => absurd hh (Nat.lt_irrefl _)), ?_⟩
  · exact ⟨rfl, rfl, rfl, by simp, fun b hb _ => Below.heap_alloc w.drew _ b hb⟩
  · intro hk; have := h.okLt _ hk; omega
  · intro k' o g' sz' N' _ ho hφ e
    have := (h.heap.lt ho hφ).1; omega
  · have hcur : (olds.toArray ++ news.toArray ++ Builtin.zeroCells z.cells (grownCap w (xs.length + ys.length) cap e - (xs.length + ys.length))).size = grownCap w (xs.length + ys.length) cap e * i.size := by
      simp only [Array.size_append, List.size_toArray, size_zeroCells, hzs, hol, hnl, ← Nat.add_mul]
      congr 1; omega
    have hall : ∀ x ∈ xs ++ ys, x.cells.length = i.size := fun x hx => (List.mem_append.1 hx).elim (hxs x) (hys x)
    have hfl : (flat (xs ++ ys)).length = (olds ++ news).length := by rw [flat_append]; simp [hold.1, hnews.1]
    have htk : (olds.toArray ++ news.toArray ++ Builtin.zeroCells z.cells (grownCap w (xs.length + ys.length) cap e - (xs.length + ys.length))).toList.take (flat (xs ++ ys)).length = olds ++ news := by
      rw [hfl, Array.toList_append]
      have : (olds.toArray ++ news.toArray).toList = olds ++ news := by simp
      rw [this]
      exact List.take_left
    refine ⟨_, _, heap_alloc_new w.drew _, .inl rfl, hcur, ?_, hall, ?_, ?_⟩
    · rw [flat_le hall]; exact Nat.mul_le_mul_right _ hge
    · rw [htk]; intro v hv; exact (List.mem_append.1 hv).elim (hone v) (hs.one v)
    · rw [htk, flat_append]
      exact (hold.append hnews).mono fun v x hx => hx.mono (fun _ h => h) fun b hb => Below.heap_alloc w.drew _ b (h.okLt b hb)
  · exact .inr ⟨w.heap.size, i.size, grownCap w (xs.length + ys.length) cap e * i.size, grownCap w (xs.length + ys.length) cap e, by simp [φ'], by simp, hge, by simp, hcm⟩

theorem evApp_sound (h : Holds1 c ok φ σ a w) {t ut ty : TypeId} {d : Nat} {x y : AV} (hx : R1 ok φ w v x) (hy : R1 ok φ w u y) (hc : (evApp c.P σ.h d t ut x y).1) :
    ∃ r w' ok' φ', (Builtin.append_ #[t, ut] ty #[v, u]).run c.P w = .ok r w' ∧ Goes c ok φ w ok' φ' (evApp c.P σ.h d t ut x y).2.2.1 w' (evApp c.P σ.h d t ut x y).2.2.2 x.nameOf ∧ R1 ok' φ' w' r (evApp c.P σ.h d t ut x y).2.1 := by
  unfold evApp at hc ⊢
  split at hc
  rotate_left
  · exact hc.elim
  rename_i e ht
  split at hc
  · rename_i k off len
    split at hc
    rotate_left
    · exact hc.elim
    rename_i o ho
    obtain ⟨rfl, hlen, hbx, he, ⟨i, z, hi, hz, hsz, hzs, hby, h0⟩, hsrc, hle⟩ := hc
    obtain ⟨dd, vs, hu, hdd, hS, hp, hcs⟩ := isSrc_sound hy hsrc
    simp only at hsrc hle hS hp hcs ⊢
    generalize hys : (isSrc c.P o.sz ut y).2 = ys at *
    subst he hlen
    rw [← hsz] at hS
    have hput : look (upd (killH k σ.h) k ⟨o.sz, o.e, false, o.xs ++ ys⟩) k = some ⟨o.sz, o.e, false, o.xs ++ ys⟩ := look_upd_self (o' := killB k o) (by rw [look_killH, ho]; rfl)
    have hne : ∀ j, j ≠ k → look (upd (killH k σ.h) k ⟨o.sz, o.e, false, o.xs ++ ys⟩) j = look (killH k σ.h) j := fun j hj => look_upd_ne _ _ hj
    rcases hx with ⟨ad, rfl, hl0⟩ | ⟨g, sz, N, cap, hφ, rfl, hcap, hN, hcm⟩
    · have hxs : o.xs = [] := List.eq_nil_of_length_eq_zero hl0
      by_cases hm : ys = []
      · subst hm
        rw [hl0]
        refine ⟨_, w, ok, fun j => if j = k then none else φ j, app_none (ty := ty) ht hu hdd hi hS rfl ad 0 0 (Nat.le_refl _), Goes.none h (k := k) (by simp) (fun j hj => by simp [hj]) (fun j hj => by
          have : j ≠ k := fun e => hj (by rw [e])
          simp [this]) (by rw [hput, hxs]; rfl) hne, .inl ⟨ad, rfl, by simp⟩⟩
      · have hm' : 0 < ys.length := by cases ys with
          | nil => exact absurd rfl hm
          | cons _ _ => simp
        have := app_new (ty := ty) (tch := some k) h (xs := o.xs) (ys := ys) (k := k) (cap := 0) (b := ad) (olds := []) (H' := upd (killH k σ.h) k ⟨o.sz, o.e, false, o.xs ++ ys⟩) ht hu hdd hi hz hsz hzs hby (hsz ▸ hS) hp hcs (by
            intro w' _; rw [hxs]
            cases ad with
            | none => simp [Builtin.firstCells]
            | some ad => simp [Builtin.firstCells, loadCells, loadCellsFrom]) (by rw [hxs]; exact Pts.nil) (by rw [hxs]; simp) (by simp) (by omega) hle hput hne
        rwa [hl0] at this ⊢
    · rcases h.heap.at_ k o ho with ⟨h1, _⟩ | ⟨g', N', h1, hB, hnok, hobj⟩
      · rw [h1] at hφ; cases hφ
      rw [h1] at hφ; cases hφ
      obtain ⟨vs0, hp0, hone0, hm0⟩ := hobj.row (fun e => by rw [hbx] at e; cases e)
      rw [hbx] at hobj
      obtain ⟨cur, fz, hcur, hfz, hcsz, hfl, hall, hone, hpts⟩ := hobj
      have hfl0 : (flat o.xs).length = o.xs.length * o.sz := flat_len hall
      simp only [Nat.zero_mul, Nat.zero_add] at hN ⊢
      by_cases hroom : o.xs.length + ys.length ≤ cap
      · have hnl : vs.length = ys.length * o.sz := by rw [← hsz]; exact hS.cells
        have hfit : o.xs.length * i.size + vs.length ≤ cur.size := by
          rw [hnl, hsz, hcsz, ← hN, ← Nat.add_mul]; exact Nat.mul_le_mul_right _ hroom
        have hr := app_room (ty := ty) ht hu hdd hi hS g o.xs.length cap cur fz hcur (hcsz ▸ hfz) hroom hfit
        have hall' : ∀ x ∈ o.xs ++ ys, x.cells.length = o.sz := fun x hx => (List.mem_append.1 hx).elim (hall x) (hcs x)
        have hgr : w.grownBy (w.setRow g (cur.toList.take (o.xs.length * i.size) ++ vs ++ cur.toList.drop (o.xs.length * i.size + vs.length)).toArray) (some g) :=
          ⟨rfl, rfl, rfl, by simp, fun b _ hb => setRow_other w g b _ (fun e => hb (by rw [e]))⟩
        refine ⟨_, _, ok, φ, hr, Goes.obj h (g := g) (k := k) (sz := o.sz) (N := N) (e := o.e) (bx := false) (xs := o.xs ++ ys) hgr hB hnok ?_ ?_ h1 (fun _ _ => rfl) (fun _ _ => rfl) hput (fun j hj => .inl (hne j hj)) (fun _ => ⟨rfl, _, _, h1⟩), ?_⟩
        · intro k' o' g' sz' N' hk' ho' hφ' e
          subst e
          exact hk' (h.heap.inj k' k o' o _ _ _ _ _ ho' ho hφ' h1)
        · have htake : (cur.toList.take (o.xs.length * i.size)).length = (flat o.xs).length := by
            rw [hfl0, List.length_take, hsz]; simp; rw [hcsz]; omega
          have htk : (cur.toList.take (o.xs.length * i.size) ++ vs ++ cur.toList.drop (o.xs.length * i.size + vs.length)).take (flat (o.xs ++ ys)).length = cur.toList.take (flat o.xs).length ++ vs := by
            have e1 : (flat (o.xs ++ ys)).length = (cur.toList.take (o.xs.length * i.size) ++ vs).length := by
              rw [flat_append, List.length_append, List.length_append, htake, hp.1]
            rw [e1, List.take_left, hfl0, hsz]
          refine ⟨_, _, setRow_heap w g cur _ _ _ hcur, hfz, ?_, ?_, hall', ?_, ?_⟩
          · simp only [List.size_toArray, List.length_append, List.length_take, List.length_drop, Array.length_toList]; omega
          · rw [flat_le hall', ← hN]; exact Nat.mul_le_mul_right _ hroom
          · simp only [List.toList_toArray]
            rw [htk]; intro v hv; exact (List.mem_append.1 hv).elim (hone v) (hS.one v)
          · simp only [List.toList_toArray]
            rw [htk, flat_append]
            exact (Pts.append (R := DRep ok w) hpts hp).mono fun v x hx => hx.mono (fun _ h => h) fun b hb => hgr.block b (h.okLt b hb) (fun e => hnok (by cases e; exact hb))
        · exact .inr ⟨g, o.sz, N, cap, h1, by simp, hroom, by simpa using hN, hcm⟩
      · have hl0 : vs0.length = o.xs.length * o.sz := by rw [hp0.1, hfl0]
        exact app_new (ty := ty) h (xs := o.xs) (ys := ys) (k := k) (cap := cap) (b := some ⟨g, 0, none⟩) (olds := vs0) (H' := upd (killH k σ.h) k ⟨o.sz, o.e, false, o.xs ++ ys⟩) ht hu hdd hi hz hsz hzs hby (hsz ▸ hS) hp hcs (by
            intro w' hw
            exact run_firstCells_some (P := c.P) w' o.sz o.xs.length _ _ _ vs0 hl0 fun j v hj => by
              rw [addr_add, cell_heap hw, Nat.zero_add]; exact hm0 j v hj) hp0 hall hone0 (by omega) hle hput hne
  · rename_i sz xs
    obtain ⟨hne0, hszx, ⟨i, z, hi, hz, hsz, hzs, hby, h0⟩, hsrc, hle⟩ := hc
    obtain ⟨dd, vs, hu, hdd, hS, hp, hcs⟩ := isSrc_sound hy hsrc
    simp only at hsrc hle hS hp hcs hne0 ⊢
    generalize hys : (isSrc c.P (c.P.cellsOf e) ut y).2 = ys at *
    generalize hs0 : c.P.cellsOf e = s0 at *
    have hput : look (put (killH d σ.h) d ⟨s0, e, false, xs ++ ys⟩) d = some ⟨s0, e, false, xs ++ ys⟩ := look_put_self _ _ _
    have hne : ∀ j, j ≠ d → look (put (killH d σ.h) d ⟨s0, e, false, xs ++ ys⟩) j = look (killH d σ.h) j := fun j hj => look_put_ne _ _ hj
    rw [← hsz] at hS
    by_cases hm : ys = []
    · subst hm
      have hx0 : xs = [] := by rcases hne0 with h | h
                               · exact absurd rfl h
                               · exact h
      subst hx0
      have hx : DRep ok w v (.sl true sz []) := hx
      have : ∃ ad, v = .slice ad 0 0 := by
        cases hx with
        | slNil _ _ a cap hc => exact ⟨a, by rw [hc rfl]⟩
        | sl _ b o cap _ _ vs hb hne => exact absurd rfl hne
      obtain ⟨ad, rfl⟩ := this
      refine ⟨_, w, ok, fun j => if j = d then none else φ j, app_none (ty := ty) ht hu hdd hi hS rfl ad 0 0 (Nat.le_refl _), Goes.none h (k := d) (by simp) (fun j hj => by simp [hj]) (fun j hj => by
          have : j ≠ d := fun e => hj (by rw [e])
          simp [this]) (by rw [hput]; rfl) hne, .inl ⟨ad, rfl, by simp⟩⟩
    · have hm' : 0 < ys.length := by cases ys with
          | nil => exact absurd rfl hm
          | cons _ _ => simp
      have hx : DRep ok w v (.sl true sz xs) := hx
      obtain ⟨vx, hSx, hpx, hcx⟩ := Src.of_sl (P := c.P) hx
      have hcap : ∃ ad, v = .slice ad xs.length xs.length := by
        rcases hx.sl_cases with ⟨rfl, ad, cap, rfl, hc⟩ | ⟨b, o, cap, rfl, _, hc⟩
        · exact ⟨ad, by rw [hc rfl]; rfl⟩
        · exact ⟨_, by rw [hc rfl]⟩
      obtain ⟨ad, rfl⟩ := hcap
      refine app_new (ty := ty) h (xs := xs) (ys := ys) (k := d) (cap := xs.length) (b := ad) (olds := vx) (H' := put (killH d σ.h) d ⟨s0, e, false, xs ++ ys⟩) ht hu hdd hi hz hsz hzs hby (hsz ▸ hS) hp hcs ?_ hpx ?_ hSx.one (by omega) hle hput hne
      · intro w' hw
        rcases hszx with h1 | h1
        · rw [← h1]; exact hSx.read w' hw
        · subst h1
          have hn : vx = [] := by have := hpx.1; simp [flat] at this; exact this
          subst hn
          cases ad with
          | none => simp [Builtin.firstCells]
          | some ad => simp [Builtin.firstCells, loadCells, loadCellsFrom]
      · intro x hx'
        have h2 := hcx (List.ne_nil_of_mem hx') x hx'
        rcases hszx with h1 | h1
        · rw [← h1]; exact h2
        · subst h1; simp at hx'
  · exact hc.elim
end
end Go.Ideal
