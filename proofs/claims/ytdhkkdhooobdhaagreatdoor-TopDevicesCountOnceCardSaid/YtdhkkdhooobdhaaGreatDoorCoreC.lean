/- What one operation without effect makes of abstract values, and that it does. -/
import Derived.Test.YtdhkkdhooobdhaaGreatDoorCoreB
import Derived.Laws.StructEq
set_option linter.unusedVariables false
set_option linter.unusedSimpArgs false
namespace Go.Ideal
open Go.RowKit

/-- An int of its kind. -/
def inR (k : IntKind) (n : Int) : Prop := k.wrap n = n

def AV.ofV0 : Value → AV
  | .int k n => .int k n
  | .bool b => .bool b
  | .string s => .str s.data.toList
  | .slice none 0 0 => .sl true 1 []
  | .nilFunc => .atom .nilFunc
  | .nilIface => .atom .nilIface
  | .pointer none => .atom (.pointer none)
  | v => .val v
def AV.ofV : Value → AV
  | .agg cs => .agg (cs.toList.map AV.ofV0)
  | .func (.func f) fs cs => if fs.isEmpty && cs.isEmpty then .fn f [] else .val (.func (.func f) fs cs)
  | v => AV.ofV0 v

/-- A value behind a guard: when it is there, and what it is. -/
def optOK (g : Bool) : AV → Prop
  | .opt f _ => g = true → f = true
  | _ => True
def strip : AV → AV
  | .opt _ x => x
  | x => x

def AV.isByte : AV → Bool
  | .int .u8 n => decide (0 ≤ n ∧ n < 256)
  | _ => false
def AV.byte : AV → UInt8
  | .int _ n => UInt8.ofNat n.toNat
  | _ => 0

def mux (t : Bool) : AV → AV → AV
  | .bool p, .bool q => .bool (bif t then p else q)
  | .int k p, .int k' q => if k = k' then .int k (bif t then p else q) else (bif t then .int k p else .int k' q)
  | .str p, .str q => .str (bif t then p else q)
  | x, y => bif t then x else y

theorem mux_true (x y : AV) : mux true x y = x := by
  unfold mux; split <;> first | rfl | (split <;> rfl)
theorem mux_false (x y : AV) : mux false x y = y := by
  unfold mux; split <;> first | rfl | (split <;> first | rfl | (rename_i h; subst h; rfl))
theorem mux_bool (t p q : Bool) : mux t (.bool p) (.bool q) = .bool (bif t then p else q) := rfl
theorem mux_int (t : Bool) (k : IntKind) (p q : Int) : mux t (.int k p) (.int k q) = .int k (bif t then p else q) := by simp [mux]
theorem mux_str (t : Bool) (p q : List UInt8) : mux t (.str p) (.str q) = .str (bif t then p else q) := rfl
abbrev PA := Prop × AV
def no : PA := (False, .junk)

/-- Go's remainder. -/
def remv (a b : Int) : Int := a.tmod b
theorem remv_nn {a b : Int} (h : 0 ≤ a) : remv a b = a % b := Int.tmod_eq_emod_of_nonneg h
def evInt (op : BinOp) (k : IntKind) (a b : Int) : PA :=
  match op with
  | .add => (inR k (a + b), .int k (a + b))
  | .sub => (inR k (a - b), .int k (a - b))
  | .mul => (inR k (a * b), .int k (a * b))
  | .quo => (0 ≤ a ∧ 0 < b ∧ inR k (a / b), .int k (a / b))
  | .rem => (0 < b, .int k (remv a b))
  | .and => (0 ≤ a ∧ 0 ≤ b ∧ inR k ((a.toNat &&& b.toNat : Nat) : Int) ∧ inR k a ∧ inR k b, .int k ((a.toNat &&& b.toNat : Nat) : Int))
  | .or => (0 ≤ a ∧ 0 ≤ b ∧ inR k ((a.toNat ||| b.toNat : Nat) : Int) ∧ inR k a ∧ inR k b, .int k ((a.toNat ||| b.toNat : Nat) : Int))
  | .xor => (0 ≤ a ∧ 0 ≤ b ∧ inR k ((a.toNat ^^^ b.toNat : Nat) : Int) ∧ inR k a ∧ inR k b, .int k ((a.toNat ^^^ b.toNat : Nat) : Int))
  | .eql => (True, .bool (decide (a = b)))
  | .neq => (True, .bool (!decide (a = b)))
  | .lss => (True, .bool (decide (a < b)))
  | .leq => (True, .bool (decide (a ≤ b)))
  | .gtr => (True, .bool (decide (a > b)))
  | .geq => (True, .bool (decide (a ≥ b)))
  | _ => no
def evShift (op : BinOp) (k : IntKind) (a b : Int) : PA :=
  match op with
  | .shr => (0 ≤ a ∧ 0 ≤ b ∧ b < 64 ∧ inR k a, .int k (a / 2 ^ b.toNat))
  | .shl => (0 ≤ a ∧ 0 ≤ b ∧ b < 64 ∧ inR k (a * 2 ^ b.toNat) ∧ inR k a, .int k (a * 2 ^ b.toNat))
  | _ => no
def eqOne (P : Program) (f : Field) : Option (Nat × Nat) := if f.name ≠ "_" then match P.underlying f.type with
      | some (.int _) => some (f.offset, 0)
      | some .bool => some (f.offset, 1)
      | some .string => some (f.offset, 2)
      | _ => none else none
/-- A field's places: its own, or those of the fields of a struct. -/
def eqSub (P : Program) (f : Field) : Option (List (Nat × Nat)) := if f.name ≠ "_" then match P.underlying f.type with
      | some (.int _) => some [(f.offset, 0)]
      | some .bool => some [(f.offset, 1)]
      | some .string => some [(f.offset, 2)]
      | some (.struct gs) => if P.stoodInHeld f.type then none else match gs.toList.mapM (eqOne P) with
        | some ls => if ls.all (fun p => p.1 < P.cellsOf f.type) then some (ls.map fun p => (f.offset + p.1, p.2)) else none
        | none => none
      | _ => none else none
/-- The fields of a struct that are compared: places and kinds. -/
def eqFlat (P : Program) (t : TypeId) : Option (List (Nat × Nat)) :=
  match P.underlying t with
  | some (.struct fs) =>
    if P.stoodInHeld t || P.eqGuardType P.depth t then none
    else match fs.toList.mapM (eqSub P) with
      | some lls => some lls.flatten
      | none => none
  | some (.array n e) =>
    if P.eqGuardType P.depth t then none
    else if (P.info? e).isSome && P.cellsOf e == 1 then
      match P.underlying e with
      | some (.int _) => some ((List.range n).map fun i => (i, 0))
      | some .bool => some ((List.range n).map fun i => (i, 1))
      | some .string => some ((List.range n).map fun i => (i, 2))
      | _ => none
    else none
  | _ => none
def eqC (k : Nat) : AV → AV → Prop × Bool
  | .int q a, .int q' b => (k = 0 ∧ q = q', decide (a = b))
  | .bool a, .bool b => (k = 1, a == b)
  | .str a, .str b => (k = 2, a == b)
  | _, _ => (False, false)
def eqL (cs ds : List AV) : List (Nat × Nat) → Prop × Bool
  | [] => (True, true)
  | (l, k) :: ls => (l < cs.length ∧ l < ds.length ∧ (eqC k (cs.getD l .junk) (ds.getD l .junk)).1 ∧ (eqL cs ds ls).1, (eqC k (cs.getD l .junk) (ds.getD l .junk)).2 && (eqL cs ds ls).2)
def evEqA (op : BinOp) (cs ds : List AV) : Option (List (Nat × Nat)) → PA
  | some ls => match op with
    | .eql => ((eqL cs ds ls).1, .bool (eqL cs ds ls).2)
    | .neq => ((eqL cs ds ls).1, .bool (!(eqL cs ds ls).2))
    | _ => no
  | none => no
def evBin (P : Program) (t : TypeId) (op : BinOp) (x y : AV) : PA :=
  match x, y with
  | .int k a, .int k' b =>
    match op with
    | .shr | .shl => evShift op k a b
    | _ => if k = k' then evInt op k a b else no
  | .bool a, .bool b =>
    match op with
    | .eql => (P.underlying t = some .bool, .bool (a == b))
    | .neq => (P.underlying t = some .bool, .bool (!(a == b)))
    | _ => no
  | .str a, .str b =>
    match op with
    | .eql => (True, .bool (a == b))
    | .neq => (True, .bool (!(a == b)))
    | .add => (a.length + b.length < 2 ^ 63, .str (a ++ b))
    | .lss => (True, .bool (Op.bytesLess a b))
    | _ => no
  | .agg cs, .agg ds => evEqA op cs ds (eqFlat P t)
  | _, _ => no
def evUn (op : UnOp) (x : AV) : PA :=
  match op, x with
  | .not, .bool b => (True, .bool (!b))
  | _, _ => no

def evConv (P : Program) (src dst : TypeId) (x : AV) : PA :=
  match x, P.underlying src, P.underlying dst with
  | .int .i8 n, some (.int _), some (.int .u8) => (True, .int .u8 (n % 256))
  | .int .i16 n, some (.int _), some (.int .u16) => (True, .int .u16 (n % 65536))
  | .int _ n, some (.int _), some (.int k) => (inR k n, .int k n)
  | .str s, some .string, some .string => (True, .str s)
  | .sl _ 1 xs, some (.slice e), some .string => (P.underlying e = some (.int .u8) ∧ xs.all AV.isByte = true, .str (xs.map AV.byte))
  | _, _, _ => no

def evLen (P : Program) (t : TypeId) (x : AV) : PA :=
  match x, P.underlying t with
  | .sl _ _ xs, some (.slice _) => (True, .int .i64 xs.length)
  | .str s, some .string => (True, .int .i64 s.length)
  | .osl _ _ n, some (.slice _) => (True, .int .i64 n)
  | .slk _ _ xs, some (.slice _) => (True, .int .i64 xs.length)
  | _, _ => no
def evCap (P : Program) (t : TypeId) (x : AV) : PA :=
  match x, P.underlying t with
  | .slk cap _ _, some (.slice _) => (True, .int .i64 cap)
  | .sl true _ xs, some (.slice _) => (True, .int .i64 xs.length)
  | _, _ => no

def evNat (x : AV) : Prop × Nat :=
  match x with
  | .int _ n => (0 ≤ n, n.toNat)
  | _ => (False, 0)

/-- The element's type has that number of cells. -/
def szIs (P : Program) (e : TypeId) (n : Nat) : Prop := (P.info? e).map (·.size) = some n
def evIndexAddr (P : Program) (H : List (Nat × HO)) (t : TypeId) (x i : AV) : PA :=
  match i, x, P.underlying t with
  | .int _ n, .sl _ sz xs, some (.slice e) => (szIs P e sz ∧ 0 ≤ n ∧ n < xs.length, .cp (xs.getD n.toNat .junk).cells)
  | .int _ n, .osl k off len, some (.slice e) =>
    match look H k with
    | some o => (szIs P e o.sz ∧ 0 ≤ n ∧ n < len, .op k (off + n.toNat) 0)
    | none => no
  | _, _, _ => no

def aggT (P : Program) (t : TypeId) : Bool :=
  match P.underlying t with
  | some (.struct _) | some (.array _ _) => true
  | _ => false
def evIndex (P : Program) (t : TypeId) (x i : AV) : PA :=
  match i, x, P.underlying t with
  | .int _ n, .str s, some .string => (0 ≤ n ∧ n < s.length, .int .u8 (s.getD n.toNat 0).toNat)
  | .int _ n, .agg cs, some (.array len e) => ((P.underlying e).isSome = true ∧ szIs P e (P.cellsOf e) ∧ 0 ≤ n ∧ n < len ∧ (if aggT P e then n.toNat * P.cellsOf e + P.cellsOf e ≤ cs.length else n.toNat * P.cellsOf e < cs.length),
      if aggT P e then .agg ((cs.drop (n.toNat * P.cellsOf e)).take (P.cellsOf e)) else cs.getD (n.toNat * P.cellsOf e) .junk)
  | _, _, _ => no

def evExtract (x : AV) (i : Nat) : PA :=
  match x with
  | .tup xs => (i < xs.length, xs.getD i .junk)
  | _ => no

/-- Bounds: (the condition, low, high) for a thing of that length; nothing is said beyond the length. -/
def evBounds (len : Nat) (lo hi mx : Option AV) : Prop × Nat × Nat :=
  let l := match lo with | none => (True, 0) | some x => evNat x
  let h := match hi with | none => (True, len) | some x => evNat x
  let m := match mx with | none => True | some x => hi.isSome = true ∧ (evNat x).1 ∧ (evNat x).2 = h.2
  (l.1 ∧ h.1 ∧ m ∧ l.2 ≤ h.2 ∧ h.2 ≤ len, l.2, h.2)
def evSlice (P : Program) (H : List (Nat × HO)) (t : TypeId) (x : AV) (lo hi mx : Option AV) : PA :=
  match x, P.underlying t with
  | .str s, some .string => let b := evBounds s.length lo hi none; (b.1 ∧ mx.isNone = true, .str ((s.take b.2.2).drop b.2.1))
  | .sl ex sz xs, some (.slice e) => let b := evBounds xs.length lo hi mx; (szIs P e sz ∧ b.1, .sl (mx.isSome || (ex && hi.isNone)) sz ((xs.take b.2.2).drop b.2.1))
  | .osl k off len, some (.slice e) =>
    match look H k with
    | some o => let b := evBounds len lo hi none; (szIs P e o.sz ∧ b.1 ∧ mx.isNone = true, .osl k (off + b.2.1) (b.2.2 - b.2.1))
    | none => no
  | _, _ => no

def evSliceX (P : Program) (H : List (Nat × HO)) (t : TypeId) (x : AV) (lo hi mx : Option AV) : PA :=
  match x with
  | .slk cap sz xs =>
    match hi with
    | none => evSlice P H t (.sl false sz xs) lo none mx
    | some h => ((evSlice P H t (.sl false sz xs) none (some h) none).1 ∧ lo.isNone = true ∧ mx.isNone = true, .slk cap sz (xs.take (evNat h).2))
  | x => evSlice P H t x lo hi mx

def evLoad (P : Program) (H : List (Nat × HO)) (t : TypeId) (x : AV) : PA :=
  match x with
  | .cp cs => if aggT P t then (P.cellsOf t ≤ cs.length, .agg (cs.take (P.cellsOf t))) else (cs ≠ [], cs.headD .junk)
  | .op k i j =>
    match look H k with
    | none => no
    | some o => if aggT P t then (i < o.xs.length ∧ j + P.cellsOf t ≤ (o.xs.getD i .junk).cells.length ∧ (((o.xs.getD i .junk).cells.drop j).take (P.cellsOf t)).all AV.data0 = true, .agg (((o.xs.getD i .junk).cells.drop j).take (P.cellsOf t)))
      else (i < o.xs.length ∧ j < (o.xs.getD i .junk).cells.length, (o.xs.getD i .junk).cells.getD j .junk)
  | _ => no

end Go.Ideal
