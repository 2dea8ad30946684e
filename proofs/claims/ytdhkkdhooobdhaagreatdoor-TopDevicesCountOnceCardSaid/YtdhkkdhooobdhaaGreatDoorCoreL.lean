/- Steps of a region: all operations. -/
import Derived.Test.YtdhkkdhooobdhaaGreatDoorCoreK
import Derived.OwnWalk
import Derived.Lib.ConvBytes
set_option linter.unusedVariables false
set_option linter.unusedSimpArgs false
namespace Go.Ideal
open Go.RowKit

def bytesOf (s : List UInt8) : List AV := s.map fun b => .int .u8 b.toNat

/-- More operations without effect. -/
def ev2 (P : Program) (σ : St) (g : Bool) : Op → PA
  | .indexAddr t x i =>
    match P.underlying t with
    | some (.array n e) =>
      match (σ.get g i).2, (σ.get g x).2 with
      | .int _ m, .op k a b => ((σ.get g x).1 ∧ (σ.get g i).1 ∧ (g = true → szIs P e (P.cellsOf e) ∧ 0 ≤ m ∧ m < n), .op k a (b + m.toNat * P.cellsOf e))
      | .int _ m, .cp cs => ((σ.get g x).1 ∧ (σ.get g i).1 ∧ (g = true → szIs P e (P.cellsOf e) ∧ 0 ≤ m ∧ m < n), .cp (cs.drop (m.toNat * P.cellsOf e)))
      | _, _ => no
    | _ => ev P σ g (.indexAddr t x i)
  | .call cl =>
    match cl.callee, cl.args.toList, cl.argTypes.toList with
    | .builtin .min, [x, y], _ =>
      match (σ.get g x).2, (σ.get g y).2 with
      | .int k a, .int _ b => ((σ.get g x).1 ∧ (σ.get g y).1, .int k (if b < a then b else a))
      | _, _ => no
    | .builtin .max, [x, y], _ =>
      match (σ.get g x).2, (σ.get g y).2 with
      | .int k a, .int _ b => ((σ.get g x).1 ∧ (σ.get g y).1, .int k (if b > a then b else a))
      | _, _ => no
    | .builtin .cap, [x], [t] => ((σ.get g x).1 ∧ (g = true → (evCap P t (σ.get g x).2).1), (evCap P t (σ.get g x).2).2)
    | _, _, _ => ev P σ g (.call cl)
  | op => ev P σ g op

section
variable {ok ok' : Nat → Prop} {φ φ' : Names} {w w' : World} {v u : Value} {P : Program} {c : Ctx} {σ : St} {a : Act} {y : AV}

theorem DRep.cp_drop {b o : Nat} {cs : List AV} (h : DRep ok w (.pointer (some ⟨b, o, none⟩)) (.cp cs)) (n : Nat) : DRep ok w (.pointer (some ⟨b, o + n, none⟩)) (.cp (cs.drop n)) := by
  cases h with
  | cp _ _ _ vs hb hl h1 hm h =>
    have hp : Pts (DRep ok w) vs cs := ⟨hl, h⟩
    have hp := hp.drop n
    exact .cp b _ _ (vs.drop n) hb hp.1 (fun v hv => h1 v (List.mem_of_mem_drop hv)) (fun j v hv => by
      rw [List.getElem?_drop] at hv; have := hm _ v hv; rwa [← Nat.add_assoc] at this) hp.2

theorem ev2_sound (h : Holds1 c ok φ σ a w) {g : Bool} (hg : g = true) (o : Oper) (hc : (ev2 c.P σ g o.op).1) :
    ∃ v, (∀ w', (wi o.op = true ∨ w' = w) → (execOp a.eval o).run c.P w' = .ok (.value v) w') ∧ R1 ok φ w v (ev2 c.P σ g o.op).2 := by
  subst hg
  obtain ⟨dst, op, type, pos, after, guard⟩ := o
  cases op <;> first | exact ev_sound h rfl _ hc | skip
  case indexAddr t x i =>
    simp only [ev2] at hc ⊢
    split at hc
    rotate_left
    · exact ev_sound h rfl ⟨dst, .indexAddr t x i, type, pos, after, guard⟩ hc
    rename_i n e hu
    split at hc
    · rename_i ki m k p q hi hx
      obtain ⟨h1, h2, h3⟩ := hc
      obtain ⟨hs, h0, hm⟩ := h3 trivial
      have hiv := h.get rfl h2
      have hxv := h.get rfl h1
      rw [hi] at hiv; rw [hx] at hxv
      have hiv := hiv.int_inv
      obtain ⟨gg, sz, N, hφ, hv⟩ := hxv
      refine ⟨.pointer (some ⟨gg, p * sz + (q + m.toNat * c.P.cellsOf e), none⟩), fun w' _ => ?_, ⟨gg, sz, N, hφ, rfl⟩⟩
      simp [execOp, Instr.indexAt, hiv, hv, asIntOf, run_underlying hu, h0, hm, hs.run, addr_add, Instr.sureAddr, Nat.add_assoc]
    · rename_i ki m cs hi hx
      obtain ⟨h1, h2, h3⟩ := hc
      obtain ⟨hs, h0, hm⟩ := h3 trivial
      have hiv := h.get rfl h2
      have hxv := h.get rfl h1
      rw [hi] at hiv; rw [hx] at hxv
      have hiv := hiv.int_inv
      have hxv := hxv.cp_inv
      have hv : ∃ b o, a.eval x = .pointer (some ⟨b, o, none⟩) := by
        generalize a.eval x = vx at hxv
        cases hxv with
        | cp b o _ _ _ _ _ _ _ => exact ⟨b, o, rfl⟩
      obtain ⟨b, o, hv⟩ := hv
      rw [hv] at hxv
      refine ⟨.pointer (some ⟨b, o + m.toNat * c.P.cellsOf e, none⟩), fun w' _ => ?_, R1.of_data (hxv.cp_drop _)⟩
      simp [execOp, Instr.indexAt, hiv, hv, asIntOf, run_underlying hu, h0, hm, hs.run, addr_add, Instr.sureAddr]
    · exact hc.elim
  case call cl =>
    obtain ⟨callee, args, ats⟩ := cl
    simp only [ev2] at hc ⊢
    split at hc
    · rename_i tt x y hargs
      split at hc
      · rename_i k p k' q hx hy
        obtain ⟨h1, h2⟩ := hc
        have hxv := h.get rfl h1
        have hyv := h.get rfl h2
        rw [hx] at hxv; rw [hy] at hyv
        have ha : args = #[x, y] := by apply Array.toList_inj.1; simpa using hargs
        subst ha
        simp only [hx, hy]
        refine ⟨.int k (if q < p then q else p), fun w' _ => ?_, R1.int ..⟩
        simp [execOp, resolve, invoke, builtin, Builtin.min_, Builtin.min2, hxv.int_inv, hyv.int_inv]
      · exact hc.elim
    · rename_i tt x y hargs
      split at hc
      · rename_i k p k' q hx hy
        obtain ⟨h1, h2⟩ := hc
        have hxv := h.get rfl h1
        have hyv := h.get rfl h2
        rw [hx] at hxv; rw [hy] at hyv
        have ha : args = #[x, y] := by apply Array.toList_inj.1; simpa using hargs
        subst ha
        simp only [hx, hy]
        refine ⟨.int k (if q > p then q else p), fun w' _ => ?_, R1.int ..⟩
        simp [execOp, resolve, invoke, builtin, Builtin.max_, Builtin.max2, hxv.int_inv, hyv.int_inv]
      · exact hc.elim
    · rename_i x t hargs hats
      have ha : args = #[x] := by apply Array.toList_inj.1; simpa using hargs
      have ht : ats = #[t] := by apply Array.toList_inj.1; simpa using hats
      subst ha ht
      obtain ⟨h1, h3⟩ := hc
      obtain ⟨r, hr, hr1⟩ := evCap_sound (P := c.P) (ty := type) (h.get rfl h1) (h3 trivial)
      refine ⟨r, fun w' _ => ?_, hr1⟩
      have := hr w'
      simp [execOp, resolve, invoke, builtin, this]
    · exact ev_sound h rfl ⟨dst, .call ⟨_, args, ats⟩, type, pos, after, guard⟩ hc

/-! ### Effects -/
def evBuild (P : Program) (σ : St) (d : Nat) (t : TypeId) (n : Nat) (parts : List (Nat × Operand)) : EffR :=
  match P.underlying t with
  | some (.slice e) => ((argsOf σ true (parts.map (·.2))).1 ∧ parts.map (·.1) = List.range n ∧ (argsOf σ true (parts.map (·.2))).2.all (fun x => x.sto && x.cells.length == P.cellsOf e) = true ∧ apOK P e (P.cellsOf e) ∧ n * P.cellsOf e ≤ 65536,
      .osl d 0 n, put (killH d σ.h) d ⟨P.cellsOf e, e, false, (argsOf σ true (parts.map (·.2))).2⟩, some d)
  | _ => noE
def evBytes (P : Program) (σ : St) (d : Nat) (e : TypeId) (s : List UInt8) : EffR :=
  (P.underlying e = some (.int .u8) ∧ s.length ≤ 68719476736, .osl d 0 s.length, put (killH d σ.h) d ⟨1, e, false, bytesOf s⟩, some d)
def updE (old : AV) (j : Nat) (x : AV) : AV :=
  match old with
  | .agg cs => .agg (cs.take j ++ x.cells ++ cs.drop (j + x.cells.length))
  | _ => x
def isAggV : AV → Bool
  | .agg _ => true
  | _ => false
/-- What may be stored into an object's cells. -/
def stoB (b : Bool) : AV → Bool
  | .osl .. | .op .. => b
  | x => x.sto && x.data
def stoC (b : Bool) : AV → Bool
  | .big _ => b
  | x => stoB b x
def AV.unbig : AV → AV
  | .big cs => .agg cs
  | x => x
def evStore (P : Program) (σ : St) (t : TypeId) (p x : AV) : EffR :=
  match p with
  | .op k i j =>
    match look σ.h k with
    | some o => (i < o.xs.length ∧ szIs P t x.unbig.cells.length ∧ stoC o.bx x = true ∧ j + x.unbig.cells.length ≤ (o.xs.getD i .junk).cells.length ∧ (isAggV (o.xs.getD i .junk) = true ∨ (isAggV x.unbig = false ∧ j = 0)),
        .val undef, upd σ.h k { o with xs := o.xs.set i (updE (o.xs.getD i .junk) j x.unbig) }, none)
    | none => noE
  | _ => noE
def evBox (σ : St) (d : Nat) (t : TypeId) (x : AV) : EffR :=
  (stoB true x = true ∧ x.names0 d = false, .op d 0 0, put (killH d σ.h) d ⟨x.cells.length, t, true, [x]⟩, some d)
def effOf (P : Program) (σ : St) (o : Oper) : Option EffR :=
  match o.op with
  | .buildSlice t n parts => some (evBuild P σ (o.dst.getD 0) t n parts.toList)
  | .store t p x => some ((σ.get true p).1 ∧ (σ.get true x).1 ∧ (evStore P σ t (σ.get true p).2 (σ.get true x).2).1, (evStore P σ t (σ.get true p).2 (σ.get true x).2).2)
  | .box t x => some ((σ.get true x).1 ∧ (evBox σ (o.dst.getD 0) t (σ.get true x).2).1, (evBox σ (o.dst.getD 0) t (σ.get true x).2).2)
  | .convert s d x =>
    match (σ.get true x).2, P.underlying s, P.underlying d with
    | .osl k off len, some (.slice e), some (.slice _) => some ((σ.get true x).1 ∧ s = d ∧ P.underlying e = some (.int .u8) ∧ 0 < len ∧ (look σ.h k).isSome = true, .osl k off len, σ.h, none)
    | .str b, some .string, some (.slice e) => some ((σ.get true x).1 ∧ (evBytes P σ (o.dst.getD 0) e b).1, (evBytes P σ (o.dst.getD 0) e b).2)
    | _, _, _ => none
  | .call cl =>
    match cl.callee, cl.args.toList, cl.argTypes.toList with
    | .builtin .append, [x, y], [t, u] =>
      some ((σ.get true x).1 ∧ (σ.get true y).1 ∧ (evApp P σ.h (o.dst.getD 0) t u (σ.get true x).2 (σ.get true y).2).1, (evApp P σ.h (o.dst.getD 0) t u (σ.get true x).2 (σ.get true y).2).2)
    | _, _, _ => none
  | _ => none

theorem bytes_pts (s : List UInt8) : Pts (DRep ok w) (s.map fun b => Value.int .u8 b.toNat) (bytesOf s) := by
  refine ⟨by simp [bytesOf], fun i v x h1 h2 => ?_⟩
  rw [bytesOf, List.getElem?_map] at h2
  rw [List.getElem?_map] at h1
  cases hb : s[i]? with
  | none => simp [hb] at h1
  | some b => simp [hb] at h1 h2; subst h1 h2; exact .int ..
theorem flat_bytesOf (s : List UInt8) : flat (bytesOf s) = bytesOf s := by
  induction s with
  | nil => rfl
  | cons b s ih => simp only [bytesOf, List.map_cons] at ih ⊢; rw [flat_cons, ih]; rfl

/-- A new block becomes the object k. -/
theorem Goes.fresh (h : Holds1 c ok φ σ a w) (k : Nat) {sz N : Nat} {e : TypeId} {bx : Bool} {xs : List AV} (hgr : w.grownBy w' (some w.heap.size)) (hobj : ObjAt ok (fun j => if j = k then some (w.heap.size, sz, N) else φ j) w' w.heap.size sz N e bx xs) :
    Goes c ok φ w ok (fun j => if j = k then some (w.heap.size, sz, N) else φ j) (put (killH k σ.h) k ⟨sz, e, bx, xs⟩) w' (some k) Option.none := by
  refine Goes.obj h (g := w.heap.size) (k := k) hgr (.inl h.below.size) ?_ ?_ hobj (by simp) (fun j hj => by simp [hj]) (fun j hj => ?_) (look_put_self _ _ _) (fun j hj => .inl (look_put_ne _ _ hj)) (fun hh => absurd hh (Nat.lt_irrefl _))
  · intro hk; have := h.okLt _ hk; omega
  · intro k' o g' sz' N' _ ho hφ e
    have := (h.heap.lt ho hφ).1; omega
  · have : j ≠ k := fun e => hj (by rw [e])
    simp [this]

/-- Its cells, in an object that may hold names if b. -/
theorem RC.cells {b : Bool} {x : AV} (h : R1 ok φ w v x) (hs : stoB b x = true) : v.cells.size = x.cells.length ∧ (∀ u ∈ v.cells.toList, u.oneCell' = true) ∧ Pts (fun v x => RC ok φ w v b x) v.cells.toList x.cells := by
  by_cases hn : (∃ k o l, x = .osl k o l) ∨ (∃ k i j, x = .op k i j)
  · have hb : b = true := by
      rcases hn with ⟨k, o, l, rfl⟩ | ⟨k, i, j, rfl⟩ <;> exact hs
    subst hb
    rcases hn with ⟨k, o, l, rfl⟩ | ⟨k, i, j, rfl⟩
    · have hv : ∃ a n m, v = .slice a n m := by
        rcases h with ⟨a, rfl, _⟩ | ⟨g, sz, N, cap, _, rfl, _⟩
        · exact ⟨_, _, _, rfl⟩
        · exact ⟨_, _, _, rfl⟩
      obtain ⟨a, n, m, rfl⟩ := hv
      exact ⟨rfl, by simp [Value.cells, Value.oneCell'], Pts.cons h Pts.nil⟩
    · have hv : ∃ a, v = .pointer a := by
        obtain ⟨g, sz, N, _, rfl⟩ := h
        exact ⟨_, rfl⟩
      obtain ⟨a, rfl⟩ := hv
      exact ⟨rfl, by simp [Value.cells, Value.oneCell'], Pts.cons h Pts.nil⟩
  · have e : stoB b x = (x.sto && x.data) := by
      cases x <;> first | rfl | exact absurd (.inl ⟨_, _, _, rfl⟩) hn | exact absurd (.inr ⟨_, _, _, rfl⟩) hn
    rw [e, Bool.and_eq_true] at hs
    have hd := h.data hs.2
    have hp := hd.cellsPts hs.1
    exact ⟨by simpa using hp.1, hd.one hs.1, hp.mono fun v x hx => RC.of_data hx⟩

theorem RC.cellsC {b : Bool} {x : AV} (h : R1 ok φ w v x) (hs : stoC b x = true) : v.cells.size = x.unbig.cells.length ∧ (∀ u ∈ v.cells.toList, u.oneCell' = true) ∧ Pts (fun v x => RC ok φ w v b x) v.cells.toList x.unbig.cells := by
  by_cases hg : ∃ cs, x = .big cs
  · obtain ⟨cs, rfl⟩ := hg
    obtain ⟨vs, rfl, h1, hp⟩ := h
    have hb : b = true := hs
    subst hb
    exact ⟨by simpa [Value.cells, AV.unbig, AV.cells] using hp.1, by simpa [Value.cells] using h1, by simpa [Value.cells, AV.unbig, AV.cells, RC] using hp⟩
  · have e : stoC b x = stoB b x ∧ x.unbig = x := by cases x <;> first | exact ⟨rfl, rfl⟩ | exact absurd ⟨_, rfl⟩ hg
    rw [e.1] at hs
    rw [e.2]
    exact RC.cells h hs
theorem cells_len {x : AV} (h : DRep ok w v x) (hx : x.sto = true) : v.cells.size = x.cells.length := by
  have := (h.cellsPts hx).1; simpa using this

theorem argsOf_len (σ : St) (g : Bool) : ∀ xs : List Operand, (argsOf σ g xs).2.length = xs.length
  | [] => rfl
  | x :: xs => by simp [argsOf, argsOf_len σ g xs]

theorem flatMap_pts {vs : List Value} {xs : List AV} (h : Pts (DRep ok w) vs xs) (hx : ∀ x ∈ xs, x.sto = true) : Pts (DRep ok w) (vs.flatMap fun v => v.cells.toList) (flat xs) ∧ ∀ v ∈ vs.flatMap (fun v => v.cells.toList), v.oneCell' = true := by
  induction xs generalizing vs with
  | nil => rw [h.nil_inv]; exact ⟨Pts.nil, by simp⟩
  | cons x xs ih =>
    obtain ⟨v, vs', rfl, h1, h2⟩ := h.cons_inv
    have := ih h2 (fun y hy => hx y (by simp [hy]))
    have hs := hx x (by simp)
    refine ⟨?_, ?_⟩
    · rw [List.flatMap_cons, flat_cons]; exact (h1.cellsPts hs).append this.1
    · intro u hu
      rw [List.flatMap_cons, List.mem_append] at hu
      exact hu.elim (h1.one hs u) (this.2 u)

theorem zip_parts {vs : List Value} {parts : List (Nat × Operand)} (f : Operand → Value) (n : Nat) (k : Nat) (h : parts.map (·.1) = List.range' k n) (hv : vs = parts.map fun p => f p.2) :
    (parts.map fun p => (p.1, f p.2)) = (vs.zipIdx k).map fun x => (x.2, x.1) := by
  induction parts generalizing vs k n with
  | nil => subst hv; simp
  | cons p ps ih =>
    subst hv
    cases n with
    | zero => simp at h
    | succ n =>
      simp only [List.map_cons, List.range'_succ, List.cons.injEq] at h
      simp [h.1, List.zipIdx_cons, ih n (k + 1) h.2 rfl]

theorem evBuild_sound (h : Holds1 c ok φ σ a w) {d : Nat} {t : TypeId} {n : Nat} {parts : Array (Nat × Operand)} (hc : (evBuild c.P σ d t n parts.toList).1) :
    ∃ r w' ok' φ', (Instr.buildSlice t n (parts.map fun (i, x) => (i, a.eval x))).run c.P w = .ok r w' ∧ Goes c ok φ w ok' φ' (evBuild c.P σ d t n parts.toList).2.2.1 w' (evBuild c.P σ d t n parts.toList).2.2.2 none ∧ R1 ok' φ' w' r (evBuild c.P σ d t n parts.toList).2.1 := by
  unfold evBuild at hc ⊢
  split at hc
  rotate_left
  · exact hc.elim
  rename_i e hu
  obtain ⟨ha, hr, hall, ⟨i, z, hi, hz, hsz, hzs, hby, h0⟩, hle⟩ := hc
  have hp := argsOf_sound h _ ha
  have hlen := argsOf_len σ true (parts.toList.map (·.2))
  simp only at hp hall hlen ⊢
  generalize hxs : (argsOf σ true (parts.toList.map (·.2))).2 = xs at *
  generalize hs0 : c.P.cellsOf e = s0 at *
  have hn : parts.toList.length = n := by have := congrArg List.length hr; simpa using this
  have hall' : ∀ x ∈ xs, x.sto = true ∧ x.cells.length = s0 := fun x hx => by simpa using List.all_eq_true.1 hall x hx
  have hxl : xs.length = n := by rw [hlen]; simpa using hn
  have hpl : (parts.map fun (i, x) => (i, a.eval x)).toList = parts.toList.map fun p => (p.1, a.eval p.2) := by simp
  let vs := parts.toList.map fun p => a.eval p.2
  have hvs : vs = (parts.toList.map (·.2)).map a.eval := by simp [vs]
  rw [← hvs] at hp
  have hvl : vs.length = n := by simp [vs]; simpa using hn
  have hzip := zip_parts (vs := vs) a.eval n 0 (by rw [hr, List.range_eq_range']) rfl
  subst hsz
  by_cases hn0 : n = 0
  · subst hn0
    have hx0 : xs = [] := List.eq_nil_of_length_eq_zero hxl
    have hv0 : vs = [] := List.eq_nil_of_length_eq_zero hvl
    subst hx0
    refine ⟨.slice (some ⟨w.heap.size, 0, none⟩) 0 0, w.alloc (.cells #[] e), ok, (fun j => if j = d then some (w.heap.size, i.size, 0) else φ j), ?_, Goes.fresh (N := 0) h d ⟨rfl, rfl, rfl, by simp, fun b hb _ => Below.heap_alloc w _ b hb⟩ ?_, ?_⟩
    · have hpe : parts = #[] := by apply Array.toList_inj.1; exact List.eq_nil_of_length_eq_zero hn
      subst hpe
      simp [Instr.buildSlice, run_underlying hu, sizeOf, typeInfo, hi, Instr.fill, newRow]
      have e0 : ((Array.range 0).map fun _ => (default : Value)) = #[] := Array.eq_empty_of_size_eq_zero (by simp)
      rw [e0]
    · exact ⟨#[], (0, 0), heap_alloc_new w _, .inl rfl, rfl, by simp [flat], by simp, by simp [flat], by simpa [flat] using Pts.nil⟩
    · exact .inl ⟨_, rfl, rfl⟩
  · have hpos : ¬ n * i.size = 0 := by
      intro hh; rcases Nat.mul_eq_zero.1 hh with h1 | h1 <;> omega
    have hcell : ∀ v ∈ vs, v.cells.size = i.size := by
      intro v hv
      obtain ⟨j, hj⟩ := List.getElem?_of_mem hv
      have hjl : j < xs.length := by rw [hxl, ← hvl]; exact (List.getElem?_eq_some_iff.1 hj).1
      have hm : xs[j] ∈ xs := List.getElem_mem hjl
      rw [cells_len (hp.2 j v xs[j] hj (by simp)) (hall' _ hm).1, (hall' _ hm).2]
    obtain ⟨hfp, hf1⟩ := flatMap_pts hp fun x hx => (hall' x hx).1
    have hsz' : ∀ x ∈ xs, x.cells.length = i.size := fun x hx => (hall' x hx).2
    have hfl : (flat xs).length = n * i.size := by rw [flat_len hsz', hxl]
    have hrun := run_buildSlice w t e n (parts.map fun (i, x) => (i, a.eval x)) (vs.flatMap fun v => v.cells.toList).toArray i z hu hi hz (by omega) hpos (by
      rw [hpl, hzip]
      exact Great.fill_whole h0 vs _ hcell (by simp [hvl]))
    refine ⟨_, _, ok, _, hrun, Goes.fresh (N := n * i.size) h d ⟨rfl, rfl, rfl, by simp, fun b hb _ => Below.heap_alloc w _ b hb⟩ ?_, ?_⟩
    · have htk : (vs.flatMap fun v => v.cells.toList).toArray.toList.take (flat xs).length = vs.flatMap fun v => v.cells.toList := by
        rw [← hfp.1]; exact List.take_of_length_le (by simp)
      refine ⟨_, _, heap_alloc_new w _, .inl rfl, by rw [← hfl, ← hfp.1]; simp, by omega, hsz', ?_, ?_⟩
      · rw [htk]; exact hf1
      · rw [htk]; exact hfp.mono fun v x hx => DRep.mono hx (fun _ h => h) fun b hb => Below.heap_alloc w _ b (h.okLt b hb)
    · have : n ≤ n * i.size := Nat.le_mul_of_pos_right _ h0
      exact .inr ⟨w.heap.size, i.size, n * i.size, n, by simp, by simp, Nat.le_refl _, by simp, by simp only [maxLen]; omega⟩

theorem evBytes_sound (h : Holds1 c ok φ σ a w) {d : Nat} {s t e : TypeId} {b : List UInt8} {u : TypeDesc} (hs : c.P.underlying s = some u) (ht : c.P.underlying t = some (.slice e)) (hc : (evBytes c.P σ d e b).1) :
    ∃ r w' ok' φ', (convert s t (.string ⟨b.toArray⟩)).run c.P w = .ok r w' ∧ Goes c ok φ w ok' φ' (evBytes c.P σ d e b).2.2.1 w' (evBytes c.P σ d e b).2.2.2 none ∧ R1 ok' φ' w' r (evBytes c.P σ d e b).2.1 := by
  obtain ⟨he, hle⟩ := hc
  have hr := Lib.run_convert_string_bytes w s t e ⟨b.toArray⟩ hs ht he
  have hsz : (ByteArray.mk b.toArray).size = b.length := size_mk b
  have hge := grownCap_ge w b.length 0 e
  have hcs : (Lib.bytesCells w e ⟨b.toArray⟩).size = grownCap w b.length 0 e := by
    simp [Lib.bytesCells, hsz]; omega
  have hgr : w.grownBy (Lib.bytesWorld w e ⟨b.toArray⟩) (some w.heap.size) :=
    ⟨rfl, rfl, rfl, by rw [Lib.bytesWorld_size]; omega, fun j hj _ => Lib.bytesWorld_at_old w e _ j hj⟩
  refine ⟨_, _, ok, _, hr, Goes.fresh (sz := 1) (N := grownCap w b.length 0 e) (e := e) (xs := bytesOf b) h d hgr ?_, ?_⟩
  · have htk : (Lib.bytesCells w e ⟨b.toArray⟩).toList.take (flat (bytesOf b)).length = b.map fun x => Value.int .u8 x.toNat := by
      rw [flat_bytesOf]
      have : (bytesOf b).length = (b.map fun x => Value.int .u8 x.toNat).length := by simp [bytesOf]
      rw [this]
      simp only [Lib.bytesCells, Array.toList_append, Array.toList_map]
      exact List.take_left
    refine ⟨_, _, Lib.bytesWorld_at_new w e _, .inr (by rw [hcs]; exact Nat.le_refl _), hcs, ?_, ?_, ?_, ?_⟩
    · rw [flat_bytesOf]; simp [bytesOf]; omega
    · intro x hx; obtain ⟨y, _, rfl⟩ := List.mem_map.1 hx; rfl
    · rw [htk]; intro v hv; obtain ⟨y, _, rfl⟩ := List.mem_map.1 hv; rfl
    · rw [htk, flat_bytesOf]; exact bytes_pts b
  · rw [hsz]
    exact .inr ⟨w.heap.size, 1, grownCap w b.length 0 e, grownCap w b.length 0 e, by simp, by simp, hge, by simp, grownCap_le_maxLen w _ 0 e (by simp only [maxLen]; omega)⟩

/-- A new box. -/
theorem box_new (h : Holds1 c ok φ σ a w) {d : Nat} {t : TypeId} {x : AV} (hx : R1 ok φ w v x) (hs : stoB true x = true) :
    Goes c ok φ w ok (fun j => if j = d then some (w.heap.size, x.cells.length, x.cells.length) else φ j) (put (killH d σ.h) d ⟨x.cells.length, t, true, [x]⟩) (w.alloc (.cells v.cells t)) (some d) none ∨ (x.names0 d = true) := by
  by_cases hn : x.names0 d = true
  · exact .inr hn
  left
  obtain ⟨hl, h1, hp⟩ := RC.cells hx hs
  refine Goes.fresh (sz := x.cells.length) (N := x.cells.length) (e := t) (xs := [x]) h d ⟨rfl, rfl, rfl, by simp, fun b hb _ => Below.heap_alloc w _ b hb⟩ ?_
  have hf : flat [x] = x.cells := by simp [flat]
  have htk : v.cells.toList.take (flat [x]).length = v.cells.toList := by
    rw [hf, ← hl]; exact List.take_of_length_le (by simp)
  refine ⟨_, _, heap_alloc_new w _, .inl rfl, hl, by rw [hf]; exact Nat.le_refl _, by simp, ?_, ?_⟩
  · rw [htk]; exact h1
  · rw [htk, hf]
    have hc : ∀ y ∈ x.cells, y.names0 d = true → False := by
      intro y hy hyd
      by_cases hag : ∃ cs, x = .agg cs
      · obtain ⟨cs, rfl⟩ := hag
        have hs : (AV.agg cs).sto && (AV.agg cs).data = true := hs
        have hdd := hx.data (x := .agg cs) rfl
        cases hdd with
        | agg vs _ hl' _ hh =>
          obtain ⟨i, hi⟩ := List.getElem?_of_mem hy
          have hlt : i < vs.length := by rw [hl']; exact (List.getElem?_eq_some_iff.1 hi).1
          have := hh i vs[i] y (by simp) hi
          generalize vs[i] = q at this
          cases y <;> simp [AV.names0] at hyd <;> cases this
      · have e2 : x.cells = [x] := by cases x <;> first | rfl | exact absurd ⟨_, rfl⟩ hag
        rw [e2] at hy
        simp at hy; subst hy; exact hn hyd
    refine ⟨hp.1, fun i v y h1 h2 => ?_⟩
    exact RC.mono (b := true) (hp.2 i v y h1 h2) (fun _ h => h) (fun b hb => Below.heap_alloc w _ b (h.okLt b hb)) fun _ k hk => by
      have : k ≠ d := fun e => hc y (List.mem_of_getElem? h2) (e ▸ hk)
      simp [this]

theorem evBox_sound (h : Holds1 c ok φ σ a w) {d : Nat} {t : TypeId} {x : AV} (hx : R1 ok φ w v x) (hc : (evBox σ d t x).1) :
    ∃ r w' ok' φ', (Instr.box t v).run c.P w = .ok r w' ∧ Goes c ok φ w ok' φ' (evBox σ d t x).2.2.1 w' (evBox σ d t x).2.2.2 none ∧ R1 ok' φ' w' r (evBox σ d t x).2.1 := by
  obtain ⟨hs, hn⟩ := hc
  rcases box_new h (d := d) (t := t) hx hs with hg | hg
  · exact ⟨.pointer (some ⟨w.heap.size, 0, none⟩), w.alloc (.cells v.cells t), ok, _, by simp [Instr.box, newVar, newRow], hg, ⟨w.heap.size, x.cells.length, x.cells.length, by simp, by simp⟩⟩
  · rw [hn] at hg; cases hg

theorem updE_cells {old x : AV} {j : Nat} (h : isAggV old = true ∨ (isAggV x = false ∧ j = 0)) (hl : j + x.cells.length ≤ old.cells.length) : (updE old j x).cells = old.cells.take j ++ x.cells ++ old.cells.drop (j + x.cells.length) := by
  by_cases ho : ∃ cs, old = .agg cs
  · obtain ⟨cs, rfl⟩ := ho; rfl
  · have hna : isAggV old = false := by cases old <;> first | rfl | exact absurd ⟨_, rfl⟩ ho
    rcases h with h | ⟨h, rfl⟩
    · rw [hna] at h; cases h
    · have h1 : ∀ y : AV, isAggV y = false → y.cells = [y] := by intro y hy; cases y <;> first | rfl | cases hy
      have : updE old 0 x = x := by cases old <;> first | rfl | exact absurd ⟨_, rfl⟩ ho
      rw [this, h1 x h, h1 old hna]; rfl

theorem flat_set {sz : Nat} : ∀ {xs : List AV} (i : Nat) (x : AV), (∀ y ∈ xs, y.cells.length = sz) → i < xs.length → flat (xs.set i x) = (flat xs).take (i * sz) ++ x.cells ++ (flat xs).drop (i * sz + sz) := by
  intro xs i x h hi
  have hi' : xs.set i x = xs.take i ++ x :: xs.drop (i + 1) := List.set_eq_take_append_cons_drop .. |>.trans (by rw [if_pos hi])
  rw [hi', flat_append, flat_cons, ← flat_take h, ← List.append_assoc]
  congr 1
  rw [← flat_drop h, Nat.add_mul, Nat.one_mul]

theorem evStore_sound (h : Holds1 c ok φ σ a w) {t : TypeId} {p x : AV} (hp : R1 ok φ w v p) (hx : R1 ok φ w u x) (hc : (evStore c.P σ t p x).1) :
    ∃ w' ok' φ', (Instr.storeAt t v u).run c.P w = .ok () w' ∧ Goes c ok φ w ok' φ' (evStore c.P σ t p x).2.2.1 w' (evStore c.P σ t p x).2.2.2 p.nameOf := by
  unfold evStore at hc ⊢
  split at hc
  rotate_left
  · exact hc.elim
  rename_i k i j
  split at hc
  rotate_left
  · exact hc.elim
  rename_i o ho
  obtain ⟨hi, hs, hst, hl, hag⟩ := hc
  obtain ⟨hxl, hx1, hxp⟩ := RC.cellsC hx hst
  clear hx hst
  generalize x.unbig = x at *
  obtain ⟨g, sz, N, hφ, rfl⟩ := hp
  rcases h.heap.at_ k o ho with ⟨h1, _⟩ | ⟨g', N', h1, hB, hnok, cur, fz, hcur, hfz, hcsz, hfl, hall, hone, hpts⟩
  · rw [h1] at hφ; cases hφ
  rw [h1] at hφ; cases hφ
  have hmem : o.xs.getD i .junk ∈ o.xs := by simp [List.getD, hi]
  have hel := hall _ hmem
  have hfl0 := flat_len hall
  have hin : i * o.sz + o.sz ≤ o.xs.length * o.sz := by
    have := Nat.mul_le_mul_right o.sz (show i + 1 ≤ o.xs.length from hi)
    rw [Nat.add_mul] at this; omega
  have hst' := store_cells (P := c.P) g (i * o.sz + j) o.e fz u.cells.toList 0 cur w hcur (hcsz ▸ hfz) (by simp [hxl]; omega) hx1
  simp only [Nat.add_zero] at hst'
  have hlen : u.cells.toList.length = x.cells.length := by simpa using hxl
  have hgr : w.grownBy (w.setRow g (cur.toList.take (i * o.sz + j) ++ u.cells.toList ++ cur.toList.drop (i * o.sz + j + u.cells.toList.length)).toArray) (some g) :=
    ⟨rfl, rfl, rfl, by simp, fun b _ hb => setRow_other w g b _ (fun e => hb (by rw [e]))⟩
  simp only [ho]
  refine ⟨_, ok, φ, ?_, Goes.obj h (g := g) (k := k) (sz := o.sz) (N := N) (e := o.e) (bx := o.bx) (xs := o.xs.set i (updE (o.xs.getD i .junk) j x)) hgr hB hnok ?_ ?_ h1 (fun _ _ => rfl) (fun _ _ => rfl) (look_upd_self ho) (fun j hj => .inr ⟨look_upd_ne _ _ hj, rfl⟩) (fun _ => ⟨rfl, _, _, h1⟩)⟩
  · simp [Instr.storeAt, Instr.sureAddr, storeVar, hs.run, hxl, hst']
  · intro k' o' g' sz' N' hk' ho' hφ' e
    subst e
    exact hk' (h.heap.inj k' k o' o _ _ _ _ _ ho' ho hφ' h1)
  · have hue := updE_cells hag hl
    have hul : (updE (o.xs.getD i .junk) j x).cells.length = o.sz := by
      rw [hue]; simp only [List.length_append, List.length_take, List.length_drop]; omega
    have hall' : ∀ y ∈ o.xs.set i (updE (o.xs.getD i .junk) j x), y.cells.length = o.sz := by
      intro y hy
      rcases List.mem_or_eq_of_mem_set hy with h1 | h1
      · exact hall y h1
      · rw [h1]; exact hul
    have hflat : flat (o.xs.set i (updE (o.xs.getD i .junk) j x)) = (flat o.xs).take (i * o.sz + j) ++ x.cells ++ (flat o.xs).drop (i * o.sz + j + x.cells.length) := by
      have hcell : (o.xs.getD i .junk).cells = ((flat o.xs).drop (i * o.sz)).take o.sz := by
        have e : o.xs.drop i = o.xs.getD i .junk :: o.xs.drop (i + 1) := by rw [List.drop_eq_getElem_cons hi]; simp [List.getD, hi]
        rw [flat_drop hall, e, flat_cons, List.take_left' hel]
      rw [flat_set i _ hall hi, hue]
      have e1 : (flat o.xs).take (i * o.sz + j) = (flat o.xs).take (i * o.sz) ++ (o.xs.getD i .junk).cells.take j := by
        rw [hcell, List.take_take, Nat.min_eq_left (show j ≤ o.sz by omega), List.take_add]
      have e2 : (flat o.xs).drop (i * o.sz + j + x.cells.length) = (o.xs.getD i .junk).cells.drop (j + x.cells.length) ++ (flat o.xs).drop (i * o.sz + o.sz) := by
        rw [hcell, Nat.add_assoc, ← List.drop_drop, ← List.drop_drop]
        conv => lhs; rw [← List.take_append_drop o.sz ((flat o.xs).drop (i * o.sz))]
        have hcl : (((flat o.xs).drop (i * o.sz)).take o.sz).length = o.sz := by rw [← hcell]; exact hel
        rw [List.drop_append_of_le_length (by omega), List.drop_append_of_le_length (by rw [List.length_drop]; omega), List.drop_drop, List.drop_drop]
      rw [e1, e2]
      simp [List.append_assoc]
    have hflen : (flat (o.xs.set i (updE (o.xs.getD i .junk) j x))).length = (flat o.xs).length := by rw [flat_len hall', hfl0]; simp
    have htk : (cur.toList.take (i * o.sz + j) ++ u.cells.toList ++ cur.toList.drop (i * o.sz + j + u.cells.toList.length)).take (flat o.xs).length =
        (cur.toList.take (flat o.xs).length).take (i * o.sz + j) ++ u.cells.toList ++ (cur.toList.take (flat o.xs).length).drop (i * o.sz + j + x.cells.length) := by
      have hle1 : i * o.sz + j + x.cells.length ≤ (flat o.xs).length := by omega
      have hcl : (flat o.xs).length ≤ cur.toList.length := Nat.le_trans hfl (by rw [← hcsz]; simp)
      rw [hlen, List.append_assoc, List.append_assoc, List.take_append]
      rw [List.take_take, List.take_take, Nat.min_eq_left (show i * o.sz + j ≤ (flat o.xs).length by omega), Nat.min_eq_right (show i * o.sz + j ≤ (flat o.xs).length by omega)]
      have hl1 : (cur.toList.take (i * o.sz + j)).length = i * o.sz + j := by rw [List.length_take]; omega
      rw [hl1]
      congr 1
      rw [List.take_append, hlen, List.take_of_length_le (show u.cells.toList.length ≤ _ by omega), List.drop_take]
      congr 2
      omega
    refine ⟨_, _, setRow_heap w g cur _ _ _ hcur, hfz, ?_, ?_, hall', ?_, ?_⟩
    · simp only [List.size_toArray, List.length_append, List.length_take, List.length_drop, Array.length_toList, hlen]; omega
    · rw [hflen]; exact hfl
    · rw [hflen]
      simp only
      rw [htk]
      intro v hv
      simp only [List.mem_append] at hv
      rcases hv with (hv | hv) | hv
      · exact hone v (List.mem_of_mem_take hv)
      · exact hx1 v hv
      · exact hone v (List.mem_of_mem_drop hv)
    · rw [hflen]
      simp only
      rw [htk, hflat]
      exact (((hpts.take _).append hxp).append (hpts.drop _)).mono fun v x hx => RC.mono hx (fun _ h => h) (fun b hb => hgr.block b (h.okLt b hb) (fun e => hnok (by cases e; exact hb))) (fun _ _ _ => rfl)

theorem World.freeze_self {w : World} {g N : Nat} {cur : Array Value} {e : TypeId} {fz : Nat × Nat} (hg : w.heap[g]? = some (.cells cur e fz)) (hz : noFz fz N) : ∃ fz', (w.freeze ⟨g, N, none⟩ 1).heap[g]? = some (.cells cur e fz') ∧ noFz fz' N := by
  obtain ⟨lo, hi⟩ := fz
  refine ⟨if lo == hi then (N, N + 1) else (min lo N, max hi (N + 1)), ?_, ?_⟩
  · simp [World.freeze, Array.getElem?_modify, hg]
  · unfold noFz at hz ⊢
    simp only at hz
    by_cases e : lo = hi
    · simp [e]
    · have : (lo == hi) = false := by simpa using e
      simp only [this, Bool.false_eq_true, if_false]
      right
      have := hz.resolve_left e
      show N ≤ min lo N
      omega
theorem evMark_sound (h : Holds1 c ok φ σ a w) {k off len : Nat} {s e : TypeId} (hs : c.P.underlying s = some (.slice e)) (he : c.P.underlying e = some (.int .u8)) (hx : R1 ok φ w v (.osl k off len)) (h0 : 0 < len) (hk : (look σ.h k).isSome = true) :
    ∃ w', (convert s s v).run c.P w = .ok v w' ∧ Goes c ok φ w ok φ σ.h w' none (some k) := by
  obtain ⟨o, ho⟩ := Option.isSome_iff_exists.1 hk
  rcases hx with ⟨ad, rfl, rfl⟩ | ⟨g, sz, N, cap, h1, rfl, h3, h4⟩
  · exact absurd h0 (Nat.lt_irrefl 0)
  rcases h.heap.at_ k o ho with ⟨h5, _⟩ | ⟨g', N', h5, hB, hnok, cur, fz, hcur, hfz, hcsz, hfl, hall, hone, hpts⟩
  · rw [h5] at h1; cases h1
  rw [h5] at h1; cases h1
  obtain ⟨fz', hf1, hf2⟩ := World.freeze_self hcur hfz
  have hsh : w.shape? g = some (o.e, N) := by simp [World.shape?, hcur, hcsz]
  have hgr : w.grownBy (w.freeze ⟨g, N, none⟩ 1) (some g) := by
    refine ⟨rfl, rfl, rfl, by simp [World.freeze], fun b _ hb => ?_⟩
    simp [World.freeze, Array.getElem?_modify, show g ≠ b from fun e => hb (by rw [e])]
  refine ⟨w.freeze ⟨g, N, none⟩ 1, ?_, Goes.obj h (g := g) (k := k) (sz := o.sz) (N := N) (e := o.e) (bx := o.bx) (xs := o.xs) hgr hB hnok ?_ ⟨cur, fz', hf1, hf2, hcsz, hfl, hall, hone, ?_⟩ h5 (fun _ _ => rfl) (fun _ _ => rfl) ho (fun _ _ => .inr ⟨rfl, rfl⟩) (fun _ => ⟨rfl, _, _, h5⟩)⟩
  · simp [convert, run_underlying hs, run_underlying he, markStringish, hsh]
  · intro k' o' g' sz' N' hk' ho' hφ' e
    subst e
    exact hk' (h.heap.inj k' k o' o _ _ _ _ _ ho' ho hφ' h5)
  · exact hpts.mono fun v x hx => RC.mono hx (fun _ h => h) (fun b hb => hgr.block b (h.okLt b hb) (fun e => hnok (by cases e; exact hb))) (fun _ _ _ => rfl)

/-- Whose memory an operation writes to. -/
def touchOf (σ : St) : Op → Option Nat
  | .store _ p _ => (σ.get true p).2.nameOf
  | .convert _ _ x => (σ.get true x).2.nameOf
  | .call cl =>
    match cl.callee, cl.args.toList with
    | .builtin .append, x :: _ => (σ.get true x).2.nameOf
    | .builtin .copy, x :: _ => (σ.get true x).2.nameOf
    | _, _ => none
  | _ => none
theorem eff_sound (h : Holds1 c ok φ σ a w) (o : Oper) (r : EffR) (hr : effOf c.P σ o = some r) (hc : r.1) :
    ∃ v st w' ok' φ', (execOp a.eval o).run c.P w = .ok st w' ∧ (st = .value v ∨ (st = .skip ∧ v = undef)) ∧ Goes c ok φ w ok' φ' r.2.2.1 w' r.2.2.2 (touchOf σ o.op) ∧ R1 ok' φ' w' v r.2.1 := by
  obtain ⟨dst, op, type, pos, after, guard⟩ := o
  unfold effOf at hr
  simp only at hr
  split at hr
  · cases hr
    obtain ⟨r, w', ok', φ', h1, h2, h3⟩ := evBuild_sound h hc
    exact ⟨r, .value r, w', ok', φ', by simp [execOp, h1], .inl rfl, h2, h3⟩
  · cases hr
    obtain ⟨h1, h2, h3⟩ := hc
    obtain ⟨w', ok', φ', h4, h5⟩ := evStore_sound h (h.get rfl h1) (h.get rfl h2) h3
    refine ⟨undef, .skip, w', ok', φ', by simp [execOp, h4], .inr ⟨rfl, rfl⟩, h5, ?_⟩
    have : ∀ (t : TypeId) (p x : AV), (evStore c.P σ t p x).1 → (evStore c.P σ t p x).2.1 = .val undef := by
      intro t p x hh
      unfold evStore at hh ⊢
      split at hh
      · split at hh
        · rename_i ho; simp only [ho]
        · exact hh.elim
      · exact hh.elim
    simp only
    rw [this _ _ _ h3]
    exact R1.of_data (.val _)
  · cases hr
    obtain ⟨h1, h2⟩ := hc
    obtain ⟨r, w', ok', φ', h3, h4, h5⟩ := evBox_sound h (h.get rfl h1) h2
    exact ⟨r, .value r, w', ok', φ', by simp [execOp, h3], .inl rfl, h4, h5⟩
  · split at hr
    · rename_i k off len e e' hb hs hd
      cases hr
      obtain ⟨h1, rfl, h3, h4, h5⟩ := hc
      have hv := h.get rfl h1
      rw [hb] at hv
      obtain ⟨w', h6, h7⟩ := evMark_sound h hs h3 hv h4 h5
      exact ⟨_, .value _, w', ok, φ, by simp [execOp, h6], .inl rfl, by simpa [touchOf, hb, AV.nameOf] using h7, hv.mono (fun _ h => h) h7.same (fun _ _ => rfl)⟩
    · rename_i b e hb hs hd
      cases hr
      obtain ⟨h1, h2⟩ := hc
      have hv := h.get rfl h1
      rw [hb] at hv
      obtain ⟨r, w', ok', φ', h3, h4, h5⟩ := evBytes_sound h hs hd h2
      exact ⟨r, .value r, w', ok', φ', by simp [execOp, hv.str_inv, h3], .inl rfl, by simpa [touchOf, hb, AV.nameOf] using h4, h5⟩
    · cases hr
  · split at hr
    · rename_i cl _ _ _ x y t u hcal hargs hats
      cases hr
      obtain ⟨callee, args, ats⟩ := cl
      simp only at hcal hargs hats
      have ha : args = #[x, y] := by apply Array.toList_inj.1; simpa using hargs
      have ht : ats = #[t, u] := by apply Array.toList_inj.1; simpa using hats
      subst ha ht hcal
      obtain ⟨h1, h2, h3⟩ := hc
      obtain ⟨r, w', ok', φ', h3, h4, h5⟩ := evApp_sound (ty := type) h (h.get rfl h1) (h.get rfl h2) h3
      exact ⟨r, .value r, w', ok', φ', by simp [execOp, resolve, invoke, builtin, h3], .inl rfl, h4, h5⟩
    · cases hr
  · cases hr
end
end Go.Ideal
