/- More effects: new variables, new slices, copying. -/
import Derived.Test.YtdhkkdhooobdhaaGreatDoorCoreS
import Derived.Lib.AppendZerosOnto
set_option linter.unusedVariables false
set_option linter.unusedSimpArgs false
namespace Go.Ideal
open Go.RowKit

def evAlloc (σ : St) (d : Nat) (t : TypeId) : Option AV → EffR
  | some x => (stoB true x = true ∧ x.names0 d = false, .op d 0 0, put (killH d σ.h) d ⟨x.cells.length, t, true, [x]⟩, some d)
  | none => noE
def evMakeZ (P : Program) (σ : St) (d e : Nat) (n m : Int) : Option AV → EffR
  | some z => (0 ≤ n ∧ n ≤ m ∧ m ≤ 68719476736 ∧ apOK P e (P.cellsOf e) ∧ z.cells.length = P.cellsOf e ∧ z.sto = true ∧ z.data = true, .osl d 0 n.toNat, put (killH d σ.h) d ⟨P.cellsOf e, e, false, List.replicate n.toNat z⟩, some d)
  | none => noE
def evMake (P : Program) (σ : St) (d : Nat) (l m : AV) : Option TypeDesc → EffR
  | some (.slice e) => match l, m with
    | .int _ n, .int _ k => evMakeZ P σ d e n k (zeroAV P e)
    | _, _ => noE
  | _ => noE
def evCopyO (P : Program) (H : List (Nat × HO)) (k off len : Nat) (r : Nat → Prop × List AV) : Option HO → EffR
  | some o => (o.bx = false ∧ szIs P o.e o.sz ∧ (r o.sz).1 ∧ off + min (r o.sz).2.length len ≤ o.xs.length, .int .i64 (min (r o.sz).2.length len : Nat),
      upd H k ⟨o.sz, o.e, false, o.xs.take off ++ (r o.sz).2.take (min (r o.sz).2.length len) ++ o.xs.drop (off + min (r o.sz).2.length len)⟩, none)
  | none => noE
def evCopy (P : Program) (H : List (Nat × HO)) (ut : TypeId) (x y : AV) : Option TypeDesc → EffR
  | some (.slice e) => match x with
    | .osl k off len => match look H k with
      | some o => (o.e = e ∧ (evCopyO P H k off len (fun sz => isSrc P sz ut y) (some o)).1, (evCopyO P H k off len (fun sz => isSrc P sz ut y) (some o)).2)
      | none => noE
    | _ => noE
  | _ => noE
def evAppZ (P : Program) (H : List (Nat × HO)) (d e cap sz : Nat) (xs : List AV) (n : Int) : Option AV → EffR
  | some z => (sz = P.cellsOf e ∧ 0 < n ∧ cap < xs.length + n.toNat ∧ xs.length + n.toNat ≤ 68719476736 ∧ apOK P e (P.cellsOf e) ∧ z.cells.length = P.cellsOf e ∧ z.sto = true ∧ z.data = true,
      .osl d 0 (xs.length + n.toNat), put (killH d H) d ⟨P.cellsOf e, e, false, xs ++ List.replicate n.toNat z⟩, some d)
  | none => noE
def evAppS (P : Program) (H : List (Nat × HO)) (d cap sz : Nat) (xs : List AV) (y : AV) (o u : Option TypeDesc) : EffR :=
  match y, o, u with
  | .int _ n, some (.slice e), some (.int _) => evAppZ P H d e cap sz xs n (zeroAV P e)
  | _, _, _ => noE
/-- Appending; of zeros, to a slice of known capacity. -/
def evApp3 (P : Program) (H : List (Nat × HO)) (d : Nat) (t ut : TypeId) (x y : AV) : EffR :=
  match x with
  | .slk cap sz xs => evAppS P H d cap sz xs y (P.underlying t) (P.underlying ut)
  | x => evApp P H d t ut x y

section
variable {ok ok' : Nat → Prop} {φ φ' : Names} {w w' : World} {v u : Value} {P : Program} {c : Ctx} {σ : St} {a : Act} {y : AV}

theorem evAlloc_sound (h : Holds1 c ok φ σ a w) {d : Nat} {t : TypeId} (hc : (evAlloc σ d t (zeroAV c.P t)).1) :
    ∃ r w' ok' φ', (Instr.alloc t true (.tuple #[])).run c.P w = .ok r w' ∧ Goes c ok φ w ok' φ' (evAlloc σ d t (zeroAV c.P t)).2.2.1 w' (evAlloc σ d t (zeroAV c.P t)).2.2.2 none ∧ R1 ok' φ' w' r (evAlloc σ d t (zeroAV c.P t)).2.1 := by
  generalize hz : zeroAV c.P t = oz at *
  cases oz with
  | none => exact hc.elim
  | some x =>
    obtain ⟨i, z, hi, hzz, rfl⟩ := zeroAV_inv hz
    obtain ⟨hs, hn⟩ := hc
    rcases box_new h (d := d) (t := t) (R1.cst z) hs with hg | hg
    · exact ⟨.pointer (some ⟨w.heap.size, 0, none⟩), w.alloc (.cells z.cells t), ok, _, by simp [Instr.alloc, zeroValue, typeInfo, hi, hzz, newVar, newRow], hg, ⟨w.heap.size, _, _, by simp; exact ⟨rfl, rfl⟩, by simp⟩⟩
    · rw [hn] at hg; cases hg

theorem madeCells_get {zc : Array Value} {n k : Nat} (hk : k < n) (h0 : 0 < zc.size) : (madeCells zc n)[k]? = zc[k % zc.size]? := by
  have hlt : k % zc.size < zc.size := Nat.mod_lt _ h0
  simp [madeCells, hk, Array.getElem!_eq_getD, Array.getD_eq_getD_getElem?, hlt]

theorem flat_replicate (n : Nat) (z : AV) (k : Nat) (hk : k < n * z.cells.length) : (flat (List.replicate n z))[k]? = z.cells[k % z.cells.length]? := by
  have h0 : 0 < z.cells.length := Nat.pos_of_ne_zero (by intro e; rw [e] at hk; simp at hk)
  have hall : ∀ x ∈ List.replicate n z, x.cells.length = z.cells.length := fun x hx => by rw [List.eq_of_mem_replicate hx]
  have hq : k / z.cells.length < n := (Nat.div_lt_iff_lt_mul h0).2 hk
  have hm : k % z.cells.length < z.cells.length := Nat.mod_lt _ h0
  have := flat_get hall (i := k / z.cells.length) (j := k % z.cells.length) (c := z.cells.getD (k % z.cells.length) .junk) (by simpa using hq) (by
    have : (List.replicate n z).getD (k / z.cells.length) .junk = z := by simp [List.getD, hq]
    rw [this]; exact getD_some hm)
  rw [Nat.mul_comm, Nat.div_add_mod] at this
  rw [this, getD_some hm]

theorem evMake_sound (h : Holds1 c ok φ σ a w) {d : Nat} {t : TypeId} {x y : AV} (hx : R1 ok φ w v x) (hy : R1 ok φ w u y) (hc : (evMake c.P σ d x y (c.P.underlying t)).1) :
    ∃ r w' ok' φ', (Instr.makeSlice t v u).run c.P w = .ok r w' ∧ Goes c ok φ w ok' φ' (evMake c.P σ d x y (c.P.underlying t)).2.2.1 w' (evMake c.P σ d x y (c.P.underlying t)).2.2.2 none ∧ R1 ok' φ' w' r (evMake c.P σ d x y (c.P.underlying t)).2.1 := by
  generalize hu : c.P.underlying t = ou at *
  unfold evMake at hc ⊢
  split at hc
  rotate_left
  · exact hc.elim
  rename_i e
  split at hc
  rotate_left
  · exact hc.elim
  rename_i k1 n k2 m
  rw [hx.int_inv, hy.int_inv]
  generalize hz : zeroAV c.P e = oz at *
  cases oz with
  | none => exact hc.elim
  | some za =>
    obtain ⟨i, z, hi, hzz, rfl⟩ := zeroAV_inv hz
    simp only [evMakeZ] at hc ⊢
    obtain ⟨h0, hnm, hm, ⟨i', z', hi', hz', hsz, hzs, hby, hpos⟩, hzl, hst, hdt⟩ := hc
    rw [hi] at hi'; cases hi'
    rw [hzz] at hz'; cases hz'
    generalize hs0 : c.P.cellsOf e = s0 at *
    subst hsz
    have hzr := (R1.cst (ok := ok) (φ := φ) (w := w) z).data hdt
    have hzp := hzr.cellsPts hst
    have hz1 := hzr.one hst
    have hrun := run_make (P := c.P) w t e i z hu hi hzz k1 k2 n m h0 hnm (by
      have : (i.bytes : Int) ≤ 1024 := by omega
      calc (i.bytes : Int) * m ≤ 1024 * m := Int.mul_le_mul_of_nonneg_right this (by omega)
        _ ≤ 281474976710656 := by omega) (by omega)
    have hgr : w.grownBy (w.alloc (.cells (madeCells z.cells (m.toNat * i.size)) e)) (some w.heap.size) := ⟨rfl, rfl, rfl, by simp, fun b hb _ => Below.heap_alloc w _ b hb⟩
    refine ⟨_, _, ok, _, hrun, Goes.fresh (sz := i.size) (N := m.toNat * i.size) (e := e) (bx := false) (xs := List.replicate n.toNat (AV.cst z)) h d hgr ?_, ?_⟩
    · have hall : ∀ x ∈ List.replicate n.toNat (AV.cst z), x.cells.length = i.size := fun x hx => by rw [List.eq_of_mem_replicate hx]; exact hzl
      have hfl : (flat (List.replicate n.toNat (AV.cst z))).length = n.toNat * i.size := by rw [flat_len hall]; simp
      have hle : n.toNat * i.size ≤ m.toNat * i.size := Nat.mul_le_mul_right _ (by omega)
      have hget : ∀ (k : Nat) v, ((madeCells z.cells (m.toNat * i.size)).toList.take (n.toNat * i.size))[k]? = some v → k < n.toNat * i.size ∧ z.cells[k % i.size]? = some v := by
        intro k v hv
        rw [List.getElem?_take] at hv
        split at hv
        · rename_i hk
          rw [Array.getElem?_toList, madeCells_get (by omega) (by omega), hzs] at hv
          exact ⟨hk, hv⟩
        · cases hv
      refine ⟨_, _, heap_alloc_new w _, .inl rfl, size_madeCells _ _, by rw [hfl]; exact hle, hall, ?_, ?_⟩
      · rw [hfl]; intro v hv
        obtain ⟨k, hk⟩ := List.getElem?_of_mem hv
        refine hz1 v (List.mem_of_getElem? (i := k % i.size) ?_)
        simpa using (hget k v hk).2
      · rw [hfl]
        refine ⟨by rw [hfl, List.length_take, Array.length_toList, size_madeCells]; exact Nat.min_eq_left hle, fun k v x h1 h2 => ?_⟩
        obtain ⟨hk, hv⟩ := hget k v h1
        rw [flat_replicate _ _ _ (by rw [hzl]; exact hk), hzl] at h2
        exact (hzp.2 (k % i.size) v x (by simpa using hv) h2).mono (fun _ h => h) fun b hb => Below.heap_alloc w _ b (h.okLt b hb)
    · exact .inr ⟨w.heap.size, i.size, m.toNat * i.size, m.toNat, by simp, by simp, by omega, by simp, by simp only [maxLen]; omega⟩

/-- A beginning of what is copied. -/
theorem src_take {sz : Nat} {ut : TypeId} {y : AV} (hy : R1 ok φ w u y) (h : (isSrc P sz ut y).1) (n : Nat) (hn : n ≤ (isSrc P sz ut y).2.length) :
    ∃ news : List Value, (∀ w', (Builtin.lenOf u).run P w' = .ok (isSrc P sz ut y).2.length w') ∧ (Builtin.firstCells sz n u).run P w = .ok news.toArray w ∧ Pts (DRep ok w) news (flat ((isSrc P sz ut y).2.take n)) ∧ (∀ v ∈ news, v.oneCell' = true) ∧
      (∀ x ∈ (isSrc P sz ut y).2, x.cells.length = sz) := by
  obtain ⟨d, vs, _, _, hS, hp, hcs⟩ := isSrc_sound hy h
  have hft : flat ((isSrc P sz ut y).2.take n) = (flat (isSrc P sz ut y).2).take (n * sz) := (flat_take hcs n).symm
  refine ⟨vs.take (n * sz), hS.len, ?_, by rw [hft]; exact hp.take _, fun v hv => hS.one v (List.mem_of_mem_take hv), hcs⟩
  have hr := hS.read w rfl
  have hvl := hS.cells
  unfold isSrc at hn hvl hr h
  split at hr
  · rename_i ex sy ys e hu
    simp only [hu] at hn hvl h
    rcases hy.sl_inv.sl_cases with ⟨rfl, ad, cap, rfl, _⟩ | ⟨b, o, cap, rfl, _, _⟩
    · simp at hn hvl
      subst hn
      cases ad with
      | none => simp [Builtin.firstCells, hvl]
      | some ad => simp [Builtin.firstCells, loadCells, loadCellsFrom, hvl]
    · by_cases hys : ys = []
      · subst hys
        simp at hn hvl
        subst hn
        simp [Builtin.firstCells, loadCells, loadCellsFrom, hvl]
      have hsy : sy = sz := h.resolve_right hys
      subst hsy
      obtain ⟨vs', h1, h2, h3⟩ := Src.of_sl (P := P) hy.sl_inv
      have hvs : vs' = vs := by
        have := h1.read w rfl
        rw [hr] at this
        simpa using this.symm
      subst hvs
      have hm : ∀ (j : Nat) v, vs'[j]? = some v → w.cell? ((⟨b, o, none⟩ : Addr).add j) = some v := by
        have hd := hy.sl_inv
        generalize hys' : ys.length = q at hd
        cases hd with
        | slNil => exact absurd rfl hys
        | sl _ _ _ _ _ _ vs2 hb hne hcap hex hsz hl h1' hm hh =>
          have e2 : vs2 = vs' := by
            have := run_firstCells_some (P := P) w sy ys.length ⟨b, o, none⟩ ys.length cap vs2 (by rw [hl, flat_len hsz]) (fun j v hj => by rw [addr_add]; exact hm j v hj)
            rw [hys'] at this hr
            rw [hr] at this
            simpa using this.symm
          subst e2
          intro j v hj; rw [addr_add]; exact hm j v hj
      refine run_firstCells_some (P := P) w sy n ⟨b, o, none⟩ _ cap (vs'.take (n * sy)) ?_ fun j v hj => ?_
      · rw [List.length_take, hvl]; exact Nat.min_eq_left (Nat.mul_le_mul_right _ hn)
      · rw [List.getElem?_take] at hj
        split at hj
        · exact hm j v hj
        · cases hj
  · rename_i s hu
    simp only [hu] at h hn hvl
    subst h
    have hs := hy.str_inv
    subst hs
    simp only [Builtin.firstCells, Sem.run_pure, List.length_map] at hr hn ⊢
    congr 1
    have e1 : ((ByteArray.mk s.toArray).extract 0 s.length) = ⟨s.toArray⟩ := by
      have := size_mk s
      rw [← this]; exact ByteArray.extract_zero_size
    rw [e1] at hr
    have hvs : vs = s.map fun b => Value.int .u8 b.toNat := by
      have : (Array.map (fun b => Value.int .u8 (b.toNat : Int)) s.toArray) = vs.toArray := by simpa using hr
      have := congrArg Array.toList this
      simpa using this.symm
    rw [hvs, Nat.mul_one]
    apply Array.toList_inj.1
    simp [ByteArray.data_extract, List.map_take]
  · rename_i hno1 hno2
    exfalso
    split at h
    · rename_i hu; exact hno1 _ _ _ _ rfl hu
    · rename_i hu; exact hno2 _ rfl hu
    · exact h

theorem HeapOK.looks {H H' : List (Nat × HO)} {B : Nat → Prop} (h : HeapOK ok φ H w B) (e : ∀ j, look H' j = look H j) : HeapOK ok φ H' w B :=
  ⟨fun k o ho => h.at_ k o (by rw [← e]; exact ho), fun k k' o o' g sz N sz' N' h1 h2 => h.inj k k' o o' g sz N sz' N' (by rw [← e]; exact h1) (by rw [← e]; exact h2)⟩

theorem evCopy_sound (h : Holds1 c ok φ σ a w) {t ut ty : TypeId} {x y : AV} (hx : R1 ok φ w v x) (hy : R1 ok φ w u y) (hc : (evCopy c.P σ.h ut x y (c.P.underlying t)).1) :
    ∃ r w' ok' φ', (Builtin.copy_ #[t, ut] ty #[v, u]).run c.P w = .ok r w' ∧ Goes c ok φ w ok' φ' (evCopy c.P σ.h ut x y (c.P.underlying t)).2.2.1 w' (evCopy c.P σ.h ut x y (c.P.underlying t)).2.2.2 x.nameOf ∧ R1 ok' φ' w' r (evCopy c.P σ.h ut x y (c.P.underlying t)).2.1 := by
  generalize hu : c.P.underlying t = ou at *
  unfold evCopy at hc ⊢
  split at hc
  rotate_left
  · exact hc.elim
  rename_i e
  split at hc
  rotate_left
  · exact hc.elim
  rename_i k off len
  split at hc
  rotate_left
  · exact hc.elim
  rename_i o ho
  obtain ⟨he, hbx, hs, hsrc, hle⟩ := hc
  simp only [ho, evCopyO] at hle hsrc ⊢
  subst he
  obtain ⟨news, hlen, hfirst, hnp, hn1, hcs⟩ := src_take (P := c.P) hy hsrc (min (isSrc c.P o.sz ut y).2.length len) (Nat.min_le_left _ _)
  generalize hys : (isSrc c.P o.sz ut y).2 = ys at *
  generalize hn : min ys.length len = n at *
  have hns : Nat.min ys.length len = n := hn
  have hlen0 : news.length = n * o.sz := by
    rw [hnp.1, flat_len (fun x hx => hcs x (List.mem_of_mem_take hx)), List.length_take]
    rw [Nat.min_eq_left (by omega)]
  have hob : o = ⟨o.sz, o.e, false, o.xs⟩ := by rw [← hbx]
  rcases hx with ⟨ad, rfl, hl0⟩ | ⟨g, sz, N, cap, hφ, rfl, hcap, hN, hcm⟩
  · have hn0 : n = 0 := by omega
    subst hn0
    have hnil : news = [] := List.eq_nil_of_length_eq_zero (by simpa using hlen0)
    subst hnil
    refine ⟨_, w, ok, φ, ?_, ⟨fun _ h => h, fun _ _ => rfl, fun _ _ => rfl, h.heap.looks fun j => ?_, h.okLt, h.okOr, h.below, fun _ _ _ => rfl⟩, R1.int ..⟩
    · cases ad <;> simp [Builtin.copy_, run_underlying hu, hlen, hs.run, hfirst, hns, storeCells, goInt]
    · have e1 : (⟨o.sz, o.e, false, o.xs.take off ++ ys.take 0 ++ o.xs.drop (off + 0)⟩ : HO) = o := by
        rw [hob]; simp
      rw [e1]
      by_cases ej : j = k
      · subst ej; rw [look_upd_self ho, ho]
      · exact look_upd_ne _ _ ej
  · rcases h.heap.at_ k o ho with ⟨h1, _⟩ | ⟨g', N', h1, hB, hnok, cur, fz, hcur, hfz, hcsz, hfl, hall, hone, hpts⟩
    · rw [h1] at hφ; cases hφ
    rw [h1] at hφ; cases hφ
    have hpts : Pts (DRep ok w) (cur.toList.take (flat o.xs).length) (flat o.xs) := by
      have := hpts
      rw [hbx] at this; exact this
    have hfl0 := flat_len hall
    have hin : off * o.sz + n * o.sz ≤ o.xs.length * o.sz := by
      rw [← Nat.add_mul]; exact Nat.mul_le_mul_right _ hle
    have hst' := store_cells (P := c.P) g (off * o.sz) o.e fz news 0 cur w hcur (hcsz ▸ hfz) (by rw [hlen0]; omega) hn1
    simp only [Nat.add_zero] at hst'
    have hgr : w.grownBy (w.setRow g (cur.toList.take (off * o.sz) ++ news ++ cur.toList.drop (off * o.sz + news.length)).toArray) (some g) :=
      ⟨rfl, rfl, rfl, by simp, fun b _ hb => setRow_other w g b _ (fun e => hb (by rw [e]))⟩
    refine ⟨_, _, ok, φ, ?_, Goes.obj h (g := g) (k := k) (sz := o.sz) (N := N) (e := o.e) (bx := false) (xs := o.xs.take off ++ ys.take n ++ o.xs.drop (off + n)) hgr hB hnok ?_ ?_ h1 (fun _ _ => rfl) (fun _ _ => rfl) (look_upd_self ho) (fun j hj => .inr ⟨look_upd_ne _ _ hj, rfl⟩) (fun _ => ⟨rfl, _, _, h1⟩), R1.int ..⟩
    · simp [Builtin.copy_, run_underlying hu, hlen, hs.run, hfirst, hns, hst', goInt]
    · intro k' o' g' sz' N' hk' ho' hφ' e
      subst e
      exact hk' (h.heap.inj k' k o' o _ _ _ _ _ ho' ho hφ' h1)
    · have hall' : ∀ x ∈ o.xs.take off ++ ys.take n ++ o.xs.drop (off + n), x.cells.length = o.sz := by
        intro x hx
        simp only [List.mem_append] at hx
        rcases hx with (hx | hx) | hx
        · exact hall x (List.mem_of_mem_take hx)
        · exact hcs x (List.mem_of_mem_take hx)
        · exact hall x (List.mem_of_mem_drop hx)
      have hll : (o.xs.take off ++ ys.take n ++ o.xs.drop (off + n)).length = o.xs.length := by
        simp only [List.length_append, List.length_take, List.length_drop]; omega
      have hfl' : (flat (o.xs.take off ++ ys.take n ++ o.xs.drop (off + n))).length = (flat o.xs).length := by rw [flat_len hall', hll, hfl0]
      have hF : flat (o.xs.take off ++ ys.take n ++ o.xs.drop (off + n)) = (flat o.xs).take (off * o.sz) ++ flat (ys.take n) ++ (flat o.xs).drop (off * o.sz + n * o.sz) := by
        rw [flat_append, flat_append, ← flat_take hall, ← flat_drop hall, Nat.add_mul]
      have htk : (cur.toList.take (off * o.sz) ++ news ++ cur.toList.drop (off * o.sz + news.length)).take (flat o.xs).length =
          (cur.toList.take (flat o.xs).length).take (off * o.sz) ++ news ++ (cur.toList.take (flat o.xs).length).drop (off * o.sz + n * o.sz) := by
        have hcl : (flat o.xs).length ≤ cur.toList.length := Nat.le_trans hfl (by rw [← hcsz]; simp)
        rw [hlen0, List.append_assoc, List.append_assoc, List.take_append]
        rw [List.take_take, List.take_take, Nat.min_eq_left (show off * o.sz ≤ (flat o.xs).length by omega), Nat.min_eq_right (show off * o.sz ≤ (flat o.xs).length by omega)]
        have hl1 : (cur.toList.take (off * o.sz)).length = off * o.sz := by rw [List.length_take]; omega
        rw [hl1]
        congr 1
        rw [List.take_append, hlen0, List.take_of_length_le (show news.length ≤ _ by rw [hlen0]; omega), List.drop_take]
        congr 2
        omega
      refine ⟨_, _, setRow_heap w g cur _ _ _ hcur, hfz, ?_, ?_, hall', ?_, ?_⟩
      · simp only [List.size_toArray, List.length_append, List.length_take, List.length_drop, Array.length_toList, hlen0]; omega
      · rw [hfl']; exact hfl
      · rw [hfl']
        simp only
        rw [htk]
        intro v hv
        simp only [List.mem_append] at hv
        rcases hv with (hv | hv) | hv
        · exact hone v (List.mem_of_mem_take hv)
        · exact hn1 v hv
        · exact hone v (List.mem_of_mem_drop hv)
      · rw [hfl']
        simp only
        rw [htk, hF]
        exact (((hpts.take _).append hnp).append (hpts.drop _)).mono fun v x hx => DRep.mono hx (fun _ h => h) (fun b hb => hgr.block b (h.okLt b hb) (fun e => hnok (by cases e; exact hb)))

theorem zeroCells_get {zc : Array Value} {n k : Nat} (hk : k < n * zc.size) (h0 : 0 < zc.size) : (Builtin.zeroCells zc n)[k]? = zc[k % zc.size]? := by
  have hlt : k % zc.size < zc.size := Nat.mod_lt _ h0
  simp [Builtin.zeroCells, hk, Array.getElem!_eq_getD, Array.getD_eq_getD_getElem?, hlt]

/-- A grown row: a new block. -/
theorem goes_grown (h : Holds1 c ok φ σ a w) {e : TypeId} {k sz n cap : Nat} {cur : Array Value} {xs : List AV} {H' : List (Nat × HO)} {tch : Option Nat} {vs : List Value}
    (hcur : cur.size = grownCap w n cap e * sz) (hall : ∀ x ∈ xs, x.cells.length = sz) (hxl : xs.length = n) (htk : cur.toList.take (flat xs).length = vs) (hone : ∀ v ∈ vs, v.oneCell' = true) (hp : Pts (DRep ok w) vs (flat xs))
    (hle : n ≤ 68719476736) (hHk : look H' k = some ⟨sz, e, false, xs⟩) (hH : ∀ j, j ≠ k → look H' j = look (killH k σ.h) j) :
    ∃ φ', Goes c ok φ w ok φ' H' (w.drew.alloc (.cells cur e)) (some k) tch ∧ R1 ok φ' (w.drew.alloc (.cells cur e)) (.slice (some ⟨w.heap.size, 0, none⟩) n (grownCap w n cap e)) (.osl k 0 n) := by
  subst hxl
  have hm : xs.length ≤ maxLen := by simp only [maxLen]; omega
  have hge := grownCap_ge w xs.length cap e
  have hcm := grownCap_le_maxLen w xs.length cap e hm
  have hB : c.mine w.heap.size := .inl h.below.size
  let φ' : Names := fun j => if j = k then some (w.heap.size, sz, grownCap w xs.length cap e * sz) else φ j
  refine ⟨φ', Goes.obj h (g := w.heap.size) (k := k) (sz := sz) (N := grownCap w xs.length cap e * sz) (e := e) (xs := xs) ?_ hB ?_ ?_ ?_ (by simp [φ']) (fun j hj => by simp [φ', hj]) (fun j hj => by
    have : j ≠ k := fun e => hj (by rw [e])
    simp [φ', this]) hHk (fun j hj => .inl (hH j hj)) (fun hh => absurd hh (Nat.lt_irrefl _)), ?_⟩
  · exact ⟨rfl, rfl, rfl, by simp, fun b hb _ => Below.heap_alloc w.drew _ b hb⟩
  · intro hk; have := h.okLt _ hk; omega
  · intro k' o g' sz' N' _ ho hφ e
    have := (h.heap.lt ho hφ).1; omega
  · refine ⟨_, _, heap_alloc_new w.drew _, .inl rfl, hcur, ?_, hall, ?_, ?_⟩
    · rw [flat_len hall]; exact Nat.mul_le_mul_right _ hge
    · rw [htk]; exact hone
    · rw [htk]
      exact hp.mono fun v x hx => hx.mono (fun _ h => h) fun b hb => Below.heap_alloc w.drew _ b (h.okLt b hb)
  · exact .inr ⟨w.heap.size, sz, grownCap w xs.length cap e * sz, grownCap w xs.length cap e, by simp [φ'], by simp, hge, by simp, hcm⟩

theorem evApp3_sound (h : Holds1 c ok φ σ a w) {t ut ty : TypeId} {d : Nat} {x y : AV} (hx : R1 ok φ w v x) (hy : R1 ok φ w u y) (hc : (evApp3 c.P σ.h d t ut x y).1) :
    ∃ r w' ok' φ', (Builtin.append_ #[t, ut] ty #[v, u]).run c.P w = .ok r w' ∧ Goes c ok φ w ok' φ' (evApp3 c.P σ.h d t ut x y).2.2.1 w' (evApp3 c.P σ.h d t ut x y).2.2.2 x.nameOf ∧ R1 ok' φ' w' r (evApp3 c.P σ.h d t ut x y).2.1 := by
  by_cases hk : ∃ cap sz xs, x = .slk cap sz xs
  rotate_left
  · have e : evApp3 c.P σ.h d t ut x y = evApp c.P σ.h d t ut x y := by cases x <;> first | rfl | exact absurd ⟨_, _, _, rfl⟩ hk
    rw [e] at hc ⊢
    exact evApp_sound h hx hy hc
  obtain ⟨cap, sz, xs, rfl⟩ := hk
  have hx : DRep ok w v (.slk cap sz xs) := hx
  have hv : ∃ a n, v = .slice a n cap ∧ DRep ok w v (.sl false sz xs) := by
    cases hx with
    | slk _ _ n _ a h => exact ⟨a, n, rfl, h⟩
  obtain ⟨ad, n0, rfl, hd⟩ := hv
  obtain ⟨a', cap', hve, hlc⟩ := hd.sl_len
  cases hve
  simp only [evApp3] at hc ⊢
  generalize hu : c.P.underlying t = ou at *
  generalize hv : c.P.underlying ut = ov at *
  unfold evAppS at hc ⊢
  split at hc
  rotate_left
  · exact hc.elim
  rename_i kq n e kn
  rw [hy.int_inv]
  generalize hz : zeroAV c.P e = oz at *
  cases oz with
  | none => exact hc.elim
  | some za =>
    obtain ⟨i, z, hi, hzz, rfl⟩ := zeroAV_inv hz
    simp only [evAppZ] at hc ⊢
    obtain ⟨hsze, h0, hgr, hle, ⟨i', z', hi', hz', hsz, hzs, hby, hpos⟩, hzl, hst, hdt⟩ := hc
    rw [hi] at hi'; cases hi'
    rw [hzz] at hz'; cases hz'
    generalize hs0 : c.P.cellsOf e = s0 at *
    subst hsze
    subst hsz
    have hzr := (R1.cst (ok := ok) (φ := φ) (w := w) z).data hdt
    have hzp := hzr.cellsPts hst
    have hz1 := hzr.one hst
    obtain ⟨m, rfl⟩ : ∃ m : Nat, n = m := ⟨n.toNat, by omega⟩
    rw [Int.toNat_natCast] at hgr hle ⊢
    obtain ⟨olds, hS, hop, hoc⟩ := Src.of_sl (P := c.P) hd
    have hb : (xs.length + m) * i.bytes ≤ 140737488355328 := Nat.le_trans (Nat.mul_le_mul hle hby) (by decide)
    have hbm : m * i.bytes ≤ 140737488355328 := Nat.le_trans (Nat.mul_le_mul (by omega) hby) (by decide : 68719476736 * 1024 ≤ 140737488355328)
    have hrun := Lib.run_append_grow_zeros w t ut ty e i z kq kn hu hv hi hzz ad xs.length cap olds (hS.read w.drew rfl) m (by omega) hpos hgr (by omega) (by omega) (growslice_fits hgr hb)
    have hxc : ∀ x ∈ xs, x.cells.length = i.size := fun x hx' => hoc (List.ne_nil_of_mem hx') x hx'
    have hol : olds.length = xs.length * i.size := by rw [hop.1, flat_len hxc]
    have hall : ∀ x ∈ xs ++ List.replicate m (AV.cst z), x.cells.length = i.size := fun x hx' => (List.mem_append.1 hx').elim (hxc x) fun hx' => by rw [List.eq_of_mem_replicate hx']; exact hzl
    have hfl : (flat (xs ++ List.replicate m (AV.cst z))).length = (xs.length + m) * i.size := by rw [flat_len hall]; simp
    have hge := grownCap_ge w (xs.length + m) cap e
    have hfr : (flat (List.replicate m (AV.cst z))).length = m * i.size := by
      rw [flat_len (fun x hx' => hall x (List.mem_append.2 (.inr hx')))]; simp
    have hzl2 : (Builtin.zeroCells z.cells m).toList.length = m * i.size := by rw [Array.length_toList, size_zeroCells, hzs]
    have hnp : Pts (DRep ok w) (Builtin.zeroCells z.cells m).toList (flat (List.replicate m (AV.cst z))) := by
      refine ⟨by rw [hzl2, hfr], fun k v x h1 h2 => ?_⟩
      have hk : k < m * i.size := by rw [← hzl2]; exact (List.getElem?_eq_some_iff.1 h1).1
      rw [Array.getElem?_toList, zeroCells_get (by rw [hzs]; exact hk) (by omega), hzs] at h1
      rw [flat_replicate _ _ _ (by rw [hzl]; exact hk), hzl] at h2
      exact hzp.2 (k % i.size) v x (by simpa using h1) h2
    have hn1 : ∀ v ∈ (Builtin.zeroCells z.cells m).toList, v.oneCell' = true := by
      intro v hv'
      obtain ⟨k, h1⟩ := List.getElem?_of_mem hv'
      have hk : k < m * i.size := by rw [← hzl2]; exact (List.getElem?_eq_some_iff.1 h1).1
      rw [Array.getElem?_toList, zeroCells_get (by rw [hzs]; exact hk) (by omega), hzs] at h1
      exact hz1 v (List.mem_of_getElem? (i := k % i.size) (by simpa using h1))
    have htk : (olds.toArray ++ Builtin.zeroCells z.cells m ++ Builtin.zeroCells z.cells (grownCap w (xs.length + m) cap e - (xs.length + m))).toList.take (flat (xs ++ List.replicate m (AV.cst z))).length = olds ++ (Builtin.zeroCells z.cells m).toList := by
      have e1 : (flat (xs ++ List.replicate m (AV.cst z))).length = (olds ++ (Builtin.zeroCells z.cells m).toList).length := by
        rw [List.length_append, hzl2, hol, hfl, Nat.add_mul]
      rw [e1, Array.toList_append]
      have : (olds.toArray ++ Builtin.zeroCells z.cells m).toList = olds ++ (Builtin.zeroCells z.cells m).toList := by simp
      rw [this]
      exact List.take_left
    obtain ⟨φ', hg, hr⟩ := goes_grown (tch := (none : Option Nat)) h (e := e) (k := d) (sz := i.size) (n := xs.length + m) (cap := cap) (xs := xs ++ List.replicate m (AV.cst z)) (H' := put (killH d σ.h) d ⟨i.size, e, false, xs ++ List.replicate m (AV.cst z)⟩)
      (by
        simp only [Array.size_append, List.size_toArray, size_zeroCells, hzs, hol, ← Nat.add_mul]
        congr 1; omega) hall (by simp) htk (fun v hv' => (List.mem_append.1 hv').elim (hS.one v) (hn1 v)) (by rw [flat_append]; exact hop.append hnp) hle (look_put_self _ _ _) (fun j hj => look_put_ne _ _ hj)
    exact ⟨_, _, ok, φ', hrun, hg, hr⟩

/-! ### All effects -/
def effOf3 (P : Program) (σ : St) (o : Oper) : Option EffR :=
  match o.op with
  | .alloc t => some (evAlloc σ (o.dst.getD 0) t (zeroAV P t))
  | .makeSlice t l m => some ((σ.get true l).1 ∧ (σ.get true m).1 ∧ (evMake P σ (o.dst.getD 0) (σ.get true l).2 (σ.get true m).2 (P.underlying t)).1, (evMake P σ (o.dst.getD 0) (σ.get true l).2 (σ.get true m).2 (P.underlying t)).2)
  | .call cl =>
    match cl.callee, cl.args.toList, cl.argTypes.toList with
    | .builtin .append, [x, y], [t, u] =>
      some ((σ.get true x).1 ∧ (σ.get true y).1 ∧ (evApp3 P σ.h (o.dst.getD 0) t u (σ.get true x).2 (σ.get true y).2).1, (evApp3 P σ.h (o.dst.getD 0) t u (σ.get true x).2 (σ.get true y).2).2)
    | .builtin .copy, [x, y], [t, u] =>
      some ((σ.get true x).1 ∧ (σ.get true y).1 ∧ (evCopy P σ.h u (σ.get true x).2 (σ.get true y).2 (P.underlying t)).1, (evCopy P σ.h u (σ.get true x).2 (σ.get true y).2 (P.underlying t)).2)
    | _, _, _ => effOf P σ o
  | _ => effOf P σ o

theorem eff3_sound (h : Holds1 c ok φ σ a w) (o : Oper) (r : EffR) (hr : effOf3 c.P σ o = some r) (hc : r.1) :
    ∃ v st w' ok' φ', (execOp a.eval o).run c.P w = .ok st w' ∧ (st = .value v ∨ (st = .skip ∧ v = undef)) ∧ Goes c ok φ w ok' φ' r.2.2.1 w' r.2.2.2 (touchOf σ o.op) ∧ R1 ok' φ' w' v r.2.1 := by
  have hr0 := hr
  obtain ⟨dst, op, type, pos, after, guard⟩ := o
  unfold effOf3 at hr
  simp only at hr
  split at hr
  · cases hr
    obtain ⟨r, w', ok', φ', h1, h2, h3⟩ := evAlloc_sound h hc
    exact ⟨r, .value r, w', ok', φ', by simp [execOp, h1], .inl rfl, h2, h3⟩
  · cases hr
    obtain ⟨h1, h2, h3⟩ := hc
    obtain ⟨r, w', ok', φ', h4, h5, h6⟩ := evMake_sound h (h.get rfl h1) (h.get rfl h2) h3
    exact ⟨r, .value r, w', ok', φ', by simp [execOp, h4], .inl rfl, h5, h6⟩
  · split at hr
    · rename_i cl _ _ _ x y t u hcal hargs hats
      cases hr
      obtain ⟨callee, args, ats⟩ := cl
      simp only at hcal hargs hats
      have ha : args = #[x, y] := by apply Array.toList_inj.1; simpa using hargs
      have ht : ats = #[t, u] := by apply Array.toList_inj.1; simpa using hats
      subst ha ht hcal
      obtain ⟨h1, h2, h3⟩ := hc
      obtain ⟨r, w', ok', φ', h3, h4, h5⟩ := evApp3_sound (ty := type) h (h.get rfl h1) (h.get rfl h2) h3
      exact ⟨r, .value r, w', ok', φ', by simp [execOp, resolve, invoke, builtin, h3], .inl rfl, h4, h5⟩
    · rename_i cl _ _ _ x y t u hcal hargs hats
      cases hr
      obtain ⟨callee, args, ats⟩ := cl
      simp only at hcal hargs hats
      have ha : args = #[x, y] := by apply Array.toList_inj.1; simpa using hargs
      have ht : ats = #[t, u] := by apply Array.toList_inj.1; simpa using hats
      subst ha ht hcal
      obtain ⟨h1, h2, h3⟩ := hc
      obtain ⟨r, w', ok', φ', h3, h4, h5⟩ := evCopy_sound (ty := type) h (h.get rfl h1) (h.get rfl h2) h3
      exact ⟨r, .value r, w', ok', φ', by simp [execOp, resolve, invoke, builtin, h3], .inl rfl, h4, h5⟩
    · exact eff_sound h _ r hr hc
  · exact eff_sound h _ r hr hc
end
end Go.Ideal
