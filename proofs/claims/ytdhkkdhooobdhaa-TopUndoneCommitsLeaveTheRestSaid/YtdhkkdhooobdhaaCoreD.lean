/- Rules for the control of a function over abstract states. -/
import Derived.Test.YtdhkkdhooobdhaaCore
import Derived.Deep.LoopGhost
import Derived.Laws.StructEq
set_option linter.unusedVariables false
set_option linter.unusedSimpArgs false
namespace Go.Ideal
open Go.RowKit

def PQ (c : Ctx) (N : St → Prop) (E : Nat → St → Prop) (R : St → Prop) : Exit → Act → World → Prop
  | .normal, a, w => ∃ σ, N σ ∧ Holds c σ a w
  | .exit i, a, w => ∃ σ, E i σ ∧ Holds c σ a w
  | .ret, a, w => ∃ σ, R σ ∧ Holds c σ a w
  | _, _, _ => False

def T (c : Ctx) (code : Code) (N : St → Prop) (E : Nat → St → Prop) (R : St → Prop) (σ : St) : Prop :=
  ∀ a w, Holds c σ a w → code.wp c.P (PQ c N E R) a w

section
variable {c : Ctx} {N N' : St → Prop} {E E' : Nat → St → Prop} {R R' : St → Prop} {σ σ' : St} {x y : Code}

theorem T.seq (h : T c x (fun σ' => T c y N E R σ') E R σ) : T c (.seq x y) N E R σ := fun a w ha =>
  wp_seq (wp_mono (h a w ha) fun e a' w' q => by
    cases e <;> first | exact q | skip
    obtain ⟨σ', hT, hH⟩ := q
    exact hT a' w' hH)
theorem T.skip (h : N σ) : T c .skip N E R σ := fun a w ha => wp_skip ⟨σ, h, ha⟩
theorem T.exit {i : Nat} (h : E i σ) : T c (.exit i) N E R σ := fun a w ha => wp_exit ⟨σ, h, ha⟩
theorem T.ret (h : R σ) : T c .ret N E R σ := fun a w ha => wp_ret ⟨σ, h, ha⟩
theorem T.mono (h : T c x N E R σ) (hN : ∀ σ, N σ → N' σ) (hE : ∀ i σ, E i σ → E' i σ) (hR : ∀ σ, R σ → R' σ) : T c x N' E' R' σ := fun a w ha =>
  wp_mono (h a w ha) fun e a' w' q => by
    cases e <;> first | exact q | skip
    · obtain ⟨σ', h1, h2⟩ := q; exact ⟨σ', hN _ h1, h2⟩
    · obtain ⟨σ', h1, h2⟩ := q; exact ⟨σ', hE _ _ h1, h2⟩
    · obtain ⟨σ', h1, h2⟩ := q; exact ⟨σ', hR _ h1, h2⟩
theorem T.block {id : Nat} (h : T c x N (fun i => if i = id then N else E i) R σ) : T c (.block id x) N E R σ := fun a w ha =>
  wp_block (wp_mono (h a w ha) fun e a' w' q => by
    cases e <;> first | exact q | skip
    rename_i i
    obtain ⟨σ', h1, h2⟩ := q
    simp only [Exit.inBlock]
    by_cases e : i = id
    · simp only [e, if_true] at h1 ⊢; exact ⟨σ', h1, h2⟩
    · simp only [e, if_false] at h1 ⊢; exact ⟨σ', h1, h2⟩)

def Le (c : Ctx) (σ σ' : St) : Prop := ∀ a w, Holds c σ a w → Holds c σ' a w
theorem Le.refl : Le c σ σ := fun _ _ h => h
theorem Le.trans {σ1 σ2 σ3 : St} (h : Le c σ1 σ2) (h' : Le c σ2 σ3) : Le c σ1 σ3 := fun a w x => h' a w (h a w x)
theorem T.weaken (h : Le c σ σ') (t : T c x N E R σ') : T c x N E R σ := fun a w ha => t a w (h a w ha)

theorem T.loop {ι : Type} (st : ι → St) (I : ι → Prop) (μ : ι → Nat) (h0 : ∃ i, I i ∧ Le c σ (st i))
    (hr : ∀ i, I i → T c x (fun σ' => ∃ i', I i' ∧ μ i' < μ i ∧ Le c σ' (st i')) E R (st i)) : T c (.loop x) N E R σ := by
  intro a w ha
  obtain ⟨i0, hi0, hle0⟩ := h0
  refine wp_loop_ghost (fun n a w => ∃ i, I i ∧ μ i = n ∧ Holds c (st i) a w) (μ i0) ⟨i0, hi0, rfl, hle0 a w ha⟩ ?_
  rintro n a w ⟨i, hi, rfl, hh⟩
  refine wp_mono (hr i hi a w hh) fun e a' w' q => ?_
  cases e <;> first | exact q | skip
  obtain ⟨σ', ⟨i', h1, h2, h3⟩, h4⟩ := q
  exact ⟨μ i', h2, i', h1, rfl, h3 a' w' h4⟩
end

/-! Slots that are forgotten -/
def Fits (xs ys : List AV) : Prop := xs.length = ys.length ∧ ∀ (i : Nat) x y, xs[i]? = some x → ys[i]? = some y → x = y ∨ y = .junk
theorem Fits.nil : Fits [] [] := ⟨rfl, by simp⟩
theorem Fits.cons {x : AV} {xs ys : List AV} (h : Fits xs ys) : Fits (x :: xs) (x :: ys) := by
  refine ⟨by simp [h.1], fun i a b h1 h2 => ?_⟩
  cases i with
  | zero => simp at h1 h2; exact .inl (h1.symm.trans h2)
  | succ i => exact h.2 i a b (by simpa using h1) (by simpa using h2)
theorem Fits.le {c : Ctx} {xs ys : List AV} {h : List (Nat × HO)} (f : Fits xs ys) : Le c ⟨xs, h⟩ ⟨ys, h⟩ := by
  rintro a w ⟨ok, φ, hh⟩
  refine ⟨ok, φ, hh.defers, ⟨hh.slots.1.trans f.1, fun i v y h1 h2 => ?_⟩, hh.heap, hh.okLt, hh.okOr, hh.ok0, hh.below⟩
  have hi : i < xs.length := f.1 ▸ (List.getElem?_eq_some_iff.1 h2).1
  have hx : xs[i]? = some xs[i] := by simp
  rcases f.2 i _ y hx h2 with e | e
  · subst e; exact hh.slots.2 i v _ h1 hx
  · subst e; trivial

end Go.Ideal

/- What one operation without effect makes of abstract values, and that it does. -/
set_option linter.unusedVariables false
set_option linter.unusedSimpArgs false
namespace Go.Ideal
open Go.RowKit

/-- An int of its kind. -/
def inR (k : IntKind) (n : Int) : Prop := k.wrap n = n

def AV.ofV0 : Value → AV
  | .int k n => .int k n
  | .bool b => .bool b
  | .string s => .str s.data.toList
  | .slice none 0 0 => .sl true 1 []
  | .nilFunc => .atom .nilFunc
  | .nilIface => .atom .nilIface
  | .pointer none => .atom (.pointer none)
  | v => .val v
def AV.ofV : Value → AV
  | .agg cs => .agg (cs.toList.map AV.ofV0)
  | .func (.func f) fs cs => if fs.isEmpty && cs.isEmpty then .fn f [] else .val (.func (.func f) fs cs)
  | v => AV.ofV0 v

/-- A value behind a guard: when it is there, and what it is. -/
def optOK (g : Bool) : AV → Prop
  | .opt f _ => g = true → f = true
  | _ => True
def strip : AV → AV
  | .opt _ x => x
  | x => x

def AV.isByte : AV → Bool
  | .int .u8 n => decide (0 ≤ n ∧ n < 256)
  | _ => false
def AV.byte : AV → UInt8
  | .int _ n => UInt8.ofNat n.toNat
  | _ => 0

def mux (t : Bool) : AV → AV → AV
  | .bool p, .bool q => .bool (bif t then p else q)
  | .int k p, .int k' q => if k = k' then .int k (bif t then p else q) else (bif t then .int k p else .int k' q)
  | .str p, .str q => .str (bif t then p else q)
  | x, y => bif t then x else y

theorem mux_true (x y : AV) : mux true x y = x := by
  unfold mux; split <;> first | rfl | (split <;> rfl)
theorem mux_false (x y : AV) : mux false x y = y := by
  unfold mux; split <;> first | rfl | (split <;> first | rfl | (rename_i h; subst h; rfl))
theorem mux_bool (t p q : Bool) : mux t (.bool p) (.bool q) = .bool (bif t then p else q) := rfl
theorem mux_int (t : Bool) (k : IntKind) (p q : Int) : mux t (.int k p) (.int k q) = .int k (bif t then p else q) := by simp [mux]
theorem mux_str (t : Bool) (p q : List UInt8) : mux t (.str p) (.str q) = .str (bif t then p else q) := rfl
abbrev PA := Prop × AV
def no : PA := (False, .junk)

/-- Go's remainder. -/
def remv (a b : Int) : Int := a.tmod b
theorem remv_nn {a b : Int} (h : 0 ≤ a) : remv a b = a % b := Int.tmod_eq_emod_of_nonneg h
def evInt (op : BinOp) (k : IntKind) (a b : Int) : PA :=
  match op with
  | .add => (inR k (a + b), .int k (a + b))
  | .sub => (inR k (a - b), .int k (a - b))
  | .mul => (inR k (a * b), .int k (a * b))
  | .quo => (0 ≤ a ∧ 0 < b ∧ inR k (a / b), .int k (a / b))
  | .rem => (0 < b, .int k (remv a b))
  | .and => (0 ≤ a ∧ 0 ≤ b ∧ inR k ((a.toNat &&& b.toNat : Nat) : Int) ∧ inR k a ∧ inR k b, .int k ((a.toNat &&& b.toNat : Nat) : Int))
  | .or => (0 ≤ a ∧ 0 ≤ b ∧ inR k ((a.toNat ||| b.toNat : Nat) : Int) ∧ inR k a ∧ inR k b, .int k ((a.toNat ||| b.toNat : Nat) : Int))
  | .xor => (0 ≤ a ∧ 0 ≤ b ∧ inR k ((a.toNat ^^^ b.toNat : Nat) : Int) ∧ inR k a ∧ inR k b, .int k ((a.toNat ^^^ b.toNat : Nat) : Int))
  | .eql => (True, .bool (decide (a = b)))
  | .neq => (True, .bool (!decide (a = b)))
  | .lss => (True, .bool (decide (a < b)))
  | .leq => (True, .bool (decide (a ≤ b)))
  | .gtr => (True, .bool (decide (a > b)))
  | .geq => (True, .bool (decide (a ≥ b)))
  | _ => no
def evShift (op : BinOp) (k : IntKind) (a b : Int) : PA :=
  match op with
  | .shr => (0 ≤ a ∧ 0 ≤ b ∧ b < 64 ∧ inR k a, .int k (a / 2 ^ b.toNat))
  | .shl => (0 ≤ a ∧ 0 ≤ b ∧ b < 64 ∧ inR k (a * 2 ^ b.toNat) ∧ inR k a, .int k (a * 2 ^ b.toNat))
  | _ => no
def eqOne (P : Program) (f : Field) : Option (Nat × Nat) := if f.name ≠ "_" then match P.underlying f.type with
      | some (.int _) => some (f.offset, 0)
      | some .bool => some (f.offset, 1)
      | some .string => some (f.offset, 2)
      | _ => none else none
/-- A field's places: its own, or those of the fields of a struct. -/
def eqSub (P : Program) (f : Field) : Option (List (Nat × Nat)) := if f.name ≠ "_" then match P.underlying f.type with
      | some (.int _) => some [(f.offset, 0)]
      | some .bool => some [(f.offset, 1)]
      | some .string => some [(f.offset, 2)]
      | some (.struct gs) => if P.stoodInHeld f.type then none else match gs.toList.mapM (eqOne P) with
        | some ls => if ls.all (fun p => p.1 < P.cellsOf f.type) then some (ls.map fun p => (f.offset + p.1, p.2)) else none
        | none => none
      | _ => none else none
/-- The fields of a struct that are compared: places and kinds. -/
def eqFlat (P : Program) (t : TypeId) : Option (List (Nat × Nat)) :=
  match P.underlying t with
  | some (.struct fs) =>
    if P.stoodInHeld t || P.eqGuardType P.depth t then none
    else match fs.toList.mapM (eqSub P) with
      | some lls => some lls.flatten
      | none => none
  | some (.array n e) =>
    if P.eqGuardType P.depth t then none
    else if (P.info? e).isSome && P.cellsOf e == 1 then
      match P.underlying e with
      | some (.int _) => some ((List.range n).map fun i => (i, 0))
      | some .bool => some ((List.range n).map fun i => (i, 1))
      | some .string => some ((List.range n).map fun i => (i, 2))
      | _ => none
    else none
  | _ => none
def eqC (k : Nat) : AV → AV → Prop × Bool
  | .int q a, .int q' b => (k = 0 ∧ q = q', decide (a = b))
  | .bool a, .bool b => (k = 1, a == b)
  | .str a, .str b => (k = 2, a == b)
  | _, _ => (False, false)
def eqL (cs ds : List AV) : List (Nat × Nat) → Prop × Bool
  | [] => (True, true)
  | (l, k) :: ls => (l < cs.length ∧ l < ds.length ∧ (eqC k (cs.getD l .junk) (ds.getD l .junk)).1 ∧ (eqL cs ds ls).1, (eqC k (cs.getD l .junk) (ds.getD l .junk)).2 && (eqL cs ds ls).2)
def evEqA (op : BinOp) (cs ds : List AV) : Option (List (Nat × Nat)) → PA
  | some ls => match op with
    | .eql => ((eqL cs ds ls).1, .bool (eqL cs ds ls).2)
    | .neq => ((eqL cs ds ls).1, .bool (!(eqL cs ds ls).2))
    | _ => no
  | none => no
def evBin (P : Program) (t : TypeId) (op : BinOp) (x y : AV) : PA :=
  match x, y with
  | .int k a, .int k' b =>
    match op with
    | .shr | .shl => evShift op k a b
    | _ => if k = k' then evInt op k a b else no
  | .bool a, .bool b =>
    match op with
    | .eql => (P.underlying t = some .bool, .bool (a == b))
    | .neq => (P.underlying t = some .bool, .bool (!(a == b)))
    | _ => no
  | .str a, .str b =>
    match op with
    | .eql => (True, .bool (a == b))
    | .neq => (True, .bool (!(a == b)))
    | .add => (a.length + b.length < 2 ^ 63, .str (a ++ b))
    | .lss => (True, .bool (Op.bytesLess a b))
    | _ => no
  | .agg cs, .agg ds => evEqA op cs ds (eqFlat P t)
  | _, _ => no
def evUn (op : UnOp) (x : AV) : PA :=
  match op, x with
  | .not, .bool b => (True, .bool (!b))
  | _, _ => no

def evConv (P : Program) (src dst : TypeId) (x : AV) : PA :=
  match x, P.underlying src, P.underlying dst with
  | .int .i8 n, some (.int _), some (.int .u8) => (True, .int .u8 (n % 256))
  | .int .i16 n, some (.int _), some (.int .u16) => (True, .int .u16 (n % 65536))
  | .int _ n, some (.int _), some (.int k) => (inR k n, .int k n)
  | .str s, some .string, some .string => (True, .str s)
  | .sl _ 1 xs, some (.slice e), some .string => (P.underlying e = some (.int .u8) ∧ xs.all AV.isByte = true, .str (xs.map AV.byte))
  | _, _, _ => no

def evLen (P : Program) (t : TypeId) (x : AV) : PA :=
  match x, P.underlying t with
  | .sl _ _ xs, some (.slice _) => (True, .int .i64 xs.length)
  | .str s, some .string => (True, .int .i64 s.length)
  | .osl _ _ n, some (.slice _) => (True, .int .i64 n)
  | .slk _ _ xs, some (.slice _) => (True, .int .i64 xs.length)
  | _, _ => no
def evCap (P : Program) (t : TypeId) (x : AV) : PA :=
  match x, P.underlying t with
  | .slk cap _ _, some (.slice _) => (True, .int .i64 cap)
  | .sl true _ xs, some (.slice _) => (True, .int .i64 xs.length)
  | _, _ => no

def evNat (x : AV) : Prop × Nat :=
  match x with
  | .int _ n => (0 ≤ n, n.toNat)
  | _ => (False, 0)

/-- The element's type has that number of cells. -/
def szIs (P : Program) (e : TypeId) (n : Nat) : Prop := (P.info? e).map (·.size) = some n
def evIndexAddr (P : Program) (H : List (Nat × HO)) (t : TypeId) (x i : AV) : PA :=
  match i, x, P.underlying t with
  | .int _ n, .sl _ sz xs, some (.slice e) => (szIs P e sz ∧ 0 ≤ n ∧ n < xs.length, .cp (xs.getD n.toNat .junk).cells)
  | .int _ n, .osl k off len, some (.slice e) =>
    match look H k with
    | some o => (szIs P e o.sz ∧ 0 ≤ n ∧ n < len, .op k (off + n.toNat) 0)
    | none => no
  | _, _, _ => no

def evIndex (P : Program) (t : TypeId) (x i : AV) : PA :=
  match i, x, P.underlying t with
  | .int _ n, .str s, some .string => (0 ≤ n ∧ n < s.length, .int .u8 (s.getD n.toNat 0).toNat)
  | _, _, _ => no

def evExtract (x : AV) (i : Nat) : PA :=
  match x with
  | .tup xs => (i < xs.length, xs.getD i .junk)
  | _ => no

/-- Bounds: (the condition, low, high) for a thing of that length; nothing is said beyond the length. -/
def evBounds (len : Nat) (lo hi mx : Option AV) : Prop × Nat × Nat :=
  let l := match lo with | none => (True, 0) | some x => evNat x
  let h := match hi with | none => (True, len) | some x => evNat x
  let m := match mx with | none => True | some x => hi.isSome = true ∧ (evNat x).1 ∧ (evNat x).2 = h.2
  (l.1 ∧ h.1 ∧ m ∧ l.2 ≤ h.2 ∧ h.2 ≤ len, l.2, h.2)
def evSlice (P : Program) (H : List (Nat × HO)) (t : TypeId) (x : AV) (lo hi mx : Option AV) : PA :=
  match x, P.underlying t with
  | .str s, some .string => let b := evBounds s.length lo hi none; (b.1 ∧ mx.isNone = true, .str ((s.take b.2.2).drop b.2.1))
  | .sl ex sz xs, some (.slice e) => let b := evBounds xs.length lo hi mx; (szIs P e sz ∧ b.1, .sl (mx.isSome || (ex && hi.isNone)) sz ((xs.take b.2.2).drop b.2.1))
  | .osl k off len, some (.slice e) =>
    match look H k with
    | some o => let b := evBounds len lo hi none; (szIs P e o.sz ∧ b.1 ∧ mx.isNone = true, .osl k (off + b.2.1) (b.2.2 - b.2.1))
    | none => no
  | _, _ => no

def evSliceX (P : Program) (H : List (Nat × HO)) (t : TypeId) (x : AV) (lo hi mx : Option AV) : PA :=
  match x with
  | .slk cap sz xs =>
    match hi with
    | none => evSlice P H t (.sl false sz xs) lo none mx
    | some h => ((evSlice P H t (.sl false sz xs) none (some h) none).1 ∧ lo.isNone = true ∧ mx.isNone = true, .slk cap sz (xs.take (evNat h).2))
  | x => evSlice P H t x lo hi mx

def aggT (P : Program) (t : TypeId) : Bool :=
  match P.underlying t with
  | some (.struct _) | some (.array _ _) => true
  | _ => false
def evLoad (P : Program) (H : List (Nat × HO)) (t : TypeId) (x : AV) : PA :=
  match x with
  | .cp cs => if aggT P t then (P.cellsOf t ≤ cs.length, .agg (cs.take (P.cellsOf t))) else (cs ≠ [], cs.headD .junk)
  | .op k i j =>
    match look H k with
    | none => no
    | some o => if aggT P t then (i < o.xs.length ∧ j + P.cellsOf t ≤ (o.xs.getD i .junk).cells.length ∧ (((o.xs.getD i .junk).cells.drop j).take (P.cellsOf t)).all AV.data0 = true, .agg (((o.xs.getD i .junk).cells.drop j).take (P.cellsOf t)))
      else (i < o.xs.length ∧ j < (o.xs.getD i .junk).cells.length, (o.xs.getD i .junk).cells.getD j .junk)
  | _ => no

end Go.Ideal

/- The operations without effect do what CoreC says: numbers, strings, lengths. -/
set_option linter.unusedVariables false
set_option linter.unusedSimpArgs false
namespace Go.Ideal
open Go.RowKit

section
variable {ok : Nat → Prop} {φ : Names} {w : World} {v u : Value} {P : Program}

theorem R1.int_inv {k : IntKind} {n : Int} (h : R1 ok φ w v (.int k n)) : v = .int k n := by cases h; rfl
theorem R1.bool_inv {b : Bool} (h : R1 ok φ w v (.bool b)) : v = .bool b := by cases h; rfl
theorem R1.str_inv {s : List UInt8} (h : R1 ok φ w v (.str s)) : v = .string ⟨s.toArray⟩ := by cases h; rfl
theorem R1.int (k : IntKind) (n : Int) : R1 ok φ w (.int k n) (.int k n) := R1.of_data (.int k n)
theorem R1.bool (b : Bool) : R1 ok φ w (.bool b) (.bool b) := R1.of_data (.bool b)
theorem R1.str (s : List UInt8) : R1 ok φ w (.string ⟨s.toArray⟩) (.str s) := R1.of_data (.str s)

theorem inR_lt {k : IntKind} {n : Int} (h0 : 0 ≤ n) (h : inR k n) : n.toNat < 2 ^ k.bits := by
  unfold inR IntKind.wrap at h
  cases k <;> simp [IntKind.bits, IntKind.signed] at h ⊢ <;> omega

theorem bits_toNat (k : IntKind) {a : Int} (h0 : 0 ≤ a) (h : a.toNat < 2 ^ k.bits) : (a % 2 ^ k.bits).toNat = a.toNat := by
  have e1 : ((2 ^ k.bits : Nat) : Int) = (2 : Int) ^ k.bits := by simp
  have : a % 2 ^ k.bits = a := Int.emod_eq_of_lt h0 (by omega)
  rw [this]

theorem evInt_sound {op : BinOp} {k : IntKind} {a b : Int} {t : TypeId} (h : (evInt op k a b).1) :
    ∃ v, (∀ w', (binOp op t (.int k a) (.int k b)).run P w' = .ok v w') ∧ R1 ok φ w v (evInt op k a b).2 := by
  cases op <;> simp only [evInt, no] at h ⊢ <;> first | exact h.elim | skip
  case add => exact ⟨_, by intro w'; simp [binOp, Op.intArith]; rfl, by rw [show k.wrap (a + b) = a + b from h]; exact .int ..⟩
  case sub => exact ⟨_, by intro w'; simp [binOp, Op.intArith]; rfl, by rw [show k.wrap (a - b) = a - b from h]; exact .int ..⟩
  case mul => exact ⟨_, by intro w'; simp [binOp, Op.intArith]; rfl, by rw [show k.wrap (a * b) = a * b from h]; exact .int ..⟩
  case quo =>
    obtain ⟨h0, h1, h2⟩ := h
    have hne : b ≠ 0 := by omega
    exact ⟨_, by intro w'; simp [binOp, Op.intDiv, hne]; rfl, by rw [Int.tdiv_eq_ediv_of_nonneg h0, show k.wrap (a / b) = a / b from h2]; exact .int ..⟩
  case rem =>
    have hne : b ≠ 0 := by have h : 0 < b := h; omega
    exact ⟨_, by intro w'; simp [binOp, Op.intDiv, hne]; rfl, .int ..⟩
  case and =>
    obtain ⟨h0, h1, h2, ha, hb⟩ := h
    refine ⟨_, by intro w'; simp [binOp, Op.intBits]; rfl, ?_⟩
    rw [bits_toNat k h0 (inR_lt h0 ha), bits_toNat k h1 (inR_lt h1 hb), show k.wrap ((a.toNat &&& b.toNat : Nat) : Int) = _ from h2]; exact .int ..
  case or =>
    obtain ⟨h0, h1, h2, ha, hb⟩ := h
    refine ⟨_, by intro w'; simp [binOp, Op.intBits]; rfl, ?_⟩
    rw [bits_toNat k h0 (inR_lt h0 ha), bits_toNat k h1 (inR_lt h1 hb), show k.wrap ((a.toNat ||| b.toNat : Nat) : Int) = _ from h2]; exact .int ..
  case xor =>
    obtain ⟨h0, h1, h2, ha, hb⟩ := h
    refine ⟨_, by intro w'; simp [binOp, Op.intBits]; rfl, ?_⟩
    rw [bits_toNat k h0 (inR_lt h0 ha), bits_toNat k h1 (inR_lt h1 hb), show k.wrap ((a.toNat ^^^ b.toNat : Nat) : Int) = _ from h2]; exact .int ..
  case eql => exact ⟨_, by intro w'; simp [binOp, Op.intCmp]; rfl, by rw [show (a == b) = decide (a = b) from rfl]; exact .bool _⟩
  case neq => exact ⟨_, by intro w'; simp [binOp, Op.intCmp]; rfl, by rw [show (a != b) = !decide (a = b) from rfl]; exact .bool _⟩
  case lss => exact ⟨_, by intro w'; simp [binOp, Op.intCmp], .bool _⟩
  case leq => exact ⟨_, by intro w'; simp [binOp, Op.intCmp], .bool _⟩
  case gtr => exact ⟨_, by intro w'; simp [binOp, Op.intCmp], .bool _⟩
  case geq => exact ⟨_, by intro w'; simp [binOp, Op.intCmp], .bool _⟩

theorem evShift_sound {op : BinOp} {k k' : IntKind} {a b : Int} {t : TypeId} (h : (evShift op k a b).1) :
    ∃ v, (∀ w', (binOp op t (.int k a) (.int k' b)).run P w' = .ok v w') ∧ R1 ok φ w v (evShift op k a b).2 := by
  cases op <;> simp only [evShift, no] at h ⊢ <;> first | exact h.elim | skip
  case shl =>
    obtain ⟨h0, h1, h2, h3, ha⟩ := h
    have hn : ¬ b < 0 := by omega
    refine ⟨_, by intro w'; simp [binOp, Op.shift, hn]; rfl, ?_⟩
    have : k.wrap (a * 2 ^ min b.toNat k.bits) = a * 2 ^ b.toNat := by
      rcases Nat.le_total b.toNat k.bits with hle | hle
      · rw [Nat.min_eq_left hle]; exact h3
      · rw [Nat.min_eq_right hle]
        have h4 := inR_lt (Int.mul_nonneg h0 (Int.pow_nonneg (by decide))) h3
        by_cases hz : a = 0
        · subst hz; simpa [inR] using h3
        · exfalso
          have h5 : (2 : Nat) ^ k.bits ≤ (a * 2 ^ b.toNat).toNat := by
            have h6 : (2 : Int) ^ k.bits ≤ 2 ^ b.toNat := by exact_mod_cast Nat.pow_le_pow_right (by decide) hle
            have h7 : (1 : Int) * 2 ^ b.toNat ≤ a * 2 ^ b.toNat := Int.mul_le_mul_of_nonneg_right (by omega) (Int.pow_nonneg (by decide))
            have h8 : ((2 ^ k.bits : Nat) : Int) = (2 : Int) ^ k.bits := by simp
            omega
          omega
    rw [this]; exact .int ..
  case shr =>
    obtain ⟨h0, h1, h2, ha⟩ := h
    have hn : ¬ b < 0 := by omega
    refine ⟨_, by intro w'; simp [binOp, Op.shift, hn]; rfl, ?_⟩
    have : a.fdiv (2 ^ min b.toNat k.bits) = a / 2 ^ b.toNat := by
      rw [Int.fdiv_eq_ediv_of_nonneg a (Int.pow_nonneg (by decide))]
      rcases Nat.le_total b.toNat k.bits with hle | hle
      · rw [Nat.min_eq_left hle]
      · rw [Nat.min_eq_right hle]
        have h4 := inR_lt h0 ha
        have h5 : (2 : Nat) ^ k.bits ≤ 2 ^ b.toNat := Nat.pow_le_pow_right (by decide) hle
        have e1 : ((2 ^ k.bits : Nat) : Int) = (2 : Int) ^ k.bits := by simp
        have e2 : ((2 ^ b.toNat : Nat) : Int) = (2 : Int) ^ b.toNat := by simp
        rw [Int.ediv_eq_zero_of_lt h0 (by omega), Int.ediv_eq_zero_of_lt h0 (by omega)]
    rw [this]; exact .int ..

end
end Go.Ideal

