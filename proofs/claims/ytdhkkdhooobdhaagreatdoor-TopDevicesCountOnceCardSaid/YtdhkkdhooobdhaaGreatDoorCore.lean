/- Abstract values, how they lie in memory, and states of a function over them. -/
import Derived.WalkKit
import Derived.ProofKit
import Derived.Orders
import Derived.Laws.AppendOwn
set_option linter.unusedVariables false
set_option linter.unusedSimpArgs false
namespace Go.Ideal
open Go.RowKit

inductive AV where
  | int (k : IntKind) (n : Int)
  | bool (b : Bool)
  | str (s : List UInt8)
  | agg (cs : List AV)
  | tup (xs : List AV)
  | sl (ex : Bool) (sz : Nat) (xs : List AV)
  | cp (cs : List AV)
  | osl (k off len : Nat)
  | op (k i j : Nat)
  | fn (f : FuncId) (caps : List AV)
  | ifc (t : TypeId) (x : AV)
  | mth (m : String) (x : AV)
  | val (v : Value)
  | opt (b : Bool) (x : AV)
  | slk (cap sz : Nat) (xs : List AV)
  | atom (v : Value)
  /-- A map with numbers as keys. -/
  | mp (ks : List Int) (xs : List AV)
  /-- A struct with names of owned memory. -/
  | big (cs : List AV)
  | junk
  deriving Inhabited

def AV.cells : AV → List AV
  | .agg cs => cs
  | x => [x]

/-- It may be stored into cells. -/
def AV.sto : AV → Bool
  | .agg _ | .int .. | .bool _ | .str _ | .sl .. | .cp _ | .fn .. | .ifc .. | .atom _ | .mp .. => true
  | _ => false

def flat (xs : List AV) : List AV := xs.flatMap AV.cells

/-- Data (no names of owned memory) in a world; the blocks that it lies in satisfy 'ok'. -/
inductive DRep (ok : Nat → Prop) (w : World) : Value → AV → Prop
  | int (k : IntKind) (n : Int) : DRep ok w (.int k n) (.int k n)
  | bool (b : Bool) : DRep ok w (.bool b) (.bool b)
  | str (s : List UInt8) : DRep ok w (.string ⟨s.toArray⟩) (.str s)
  | val (v : Value) : DRep ok w v (.val v)
  | junk (v : Value) : DRep ok w v .junk
  | agg (vs : List Value) (cs : List AV) (hl : vs.length = cs.length) (h1 : ∀ v ∈ vs, v.oneCell' = true)
      (h : ∀ (i : Nat) v x, vs[i]? = some v → cs[i]? = some x → DRep ok w v x) : DRep ok w (.agg vs.toArray) (.agg cs)
  | slNil (ex : Bool) (sz : Nat) (a : Option Addr) (cap : Nat) (h : ex = true → cap = 0) : DRep ok w (.slice a 0 cap) (.sl ex sz [])
  | sl (ex : Bool) (b o cap sz : Nat) (xs : List AV) (vs : List Value) (hb : ok b) (hne : xs ≠ []) (hcap : xs.length ≤ cap) (hex : ex = true → cap = xs.length)
      (hsz : ∀ x ∈ xs, x.cells.length = sz) (hl : vs.length = (flat xs).length) (h1 : ∀ v ∈ vs, v.oneCell' = true)
      (hm : ∀ (j : Nat) v, vs[j]? = some v → w.cell? ⟨b, o + j, none⟩ = some v)
      (h : ∀ (i : Nat) v x, vs[i]? = some v → (flat xs)[i]? = some x → DRep ok w v x) : DRep ok w (.slice (some ⟨b, o, none⟩) xs.length cap) (.sl ex sz xs)
  | cp (b o : Nat) (cs : List AV) (vs : List Value) (hb : ok b) (hl : vs.length = cs.length) (h1 : ∀ v ∈ vs, v.oneCell' = true)
      (hm : ∀ (j : Nat) v, vs[j]? = some v → w.cell? ⟨b, o + j, none⟩ = some v)
      (h : ∀ (i : Nat) v x, vs[i]? = some v → cs[i]? = some x → DRep ok w v x) : DRep ok w (.pointer (some ⟨b, o, none⟩)) (.cp cs)
  | fn (f : FuncId) (vs : List Value) (caps : List AV) (hl : vs.length = caps.length)
      (h : ∀ (i : Nat) v x, vs[i]? = some v → caps[i]? = some x → DRep ok w v x) : DRep ok w (.func (.func f) #[] vs.toArray) (.fn f caps)
  | ifc (t : TypeId) (v : Value) (x : AV) (h : DRep ok w v x) : DRep ok w (.iface t v) (.ifc t x)
  /-- A method of an interface value. -/
  | mth (m : String) (v : Value) (x : AV) (h : DRep ok w v x) : DRep ok w (.func (.method m) #[v] #[]) (.mth m x)
  /-- A slice of known capacity. -/
  | slk (cap sz n : Nat) (xs : List AV) (a : Option Addr) (h : DRep ok w (.slice a n cap) (.sl false sz xs)) : DRep ok w (.slice a n cap) (.slk cap sz xs)
  /-- A value of one cell. -/
  | atom (v : Value) (h : v.oneCell' = true) : DRep ok w v (.atom v)
  | mp (b clk : Nat) (es : Array MapEntry) (ks : List Int) (xs : List AV) (hb : ok b) (hm : w.heap[b]? = some (.map es clk)) (hk : es.toList.map (·.key) = ks.map (Value.int .i64)) (hl : es.size = xs.length)
      (h : ∀ (i : Nat) e x, es[i]? = some e → xs[i]? = some x → DRep ok w e.val x) : DRep ok w (.map (some b)) (.mp ks xs)

def Pts (R : Value → AV → Prop) (vs : List Value) (xs : List AV) : Prop :=
  vs.length = xs.length ∧ ∀ (i : Nat) v x, vs[i]? = some v → xs[i]? = some x → R v x

theorem Pts.nil {R : Value → AV → Prop} : Pts R [] [] := ⟨rfl, by simp⟩
theorem Pts.cons {R : Value → AV → Prop} {v : Value} {x : AV} {vs : List Value} {xs : List AV} (h : R v x) (t : Pts R vs xs) : Pts R (v :: vs) (x :: xs) := by
  refine ⟨by simp [t.1], fun i v' x' h1 h2 => ?_⟩
  cases i with
  | zero => simp at h1 h2; subst h1 h2; exact h
  | succ i => exact t.2 i v' x' (by simpa using h1) (by simpa using h2)
theorem Pts.head {R : Value → AV → Prop} {v : Value} {x : AV} {vs : List Value} {xs : List AV} (h : Pts R (v :: vs) (x :: xs)) : R v x := h.2 0 v x rfl rfl
theorem Pts.tail {R : Value → AV → Prop} {v : Value} {x : AV} {vs : List Value} {xs : List AV} (h : Pts R (v :: vs) (x :: xs)) : Pts R vs xs :=
  ⟨by simpa using h.1, fun i v' x' h1 h2 => h.2 (i + 1) v' x' (by simpa using h1) (by simpa using h2)⟩
theorem Pts.nil_inv {R : Value → AV → Prop} {vs : List Value} (h : Pts R vs []) : vs = [] := List.eq_nil_of_length_eq_zero (by simpa using h.1)
theorem Pts.cons_inv {R : Value → AV → Prop} {vs : List Value} {x : AV} {xs : List AV} (h : Pts R vs (x :: xs)) : ∃ v vs', vs = v :: vs' ∧ R v x ∧ Pts R vs' xs := by
  cases vs with
  | nil => exact absurd h.1 (by simp)
  | cons v vs' => exact ⟨v, vs', rfl, h.head, h.tail⟩
theorem Pts.append {R : Value → AV → Prop} {vs : List Value} {xs : List AV} {vs' : List Value} {xs' : List AV} (h : Pts R vs xs) (h' : Pts R vs' xs') : Pts R (vs ++ vs') (xs ++ xs') := by
  induction vs generalizing xs with
  | nil => cases xs with
    | nil => simpa using h'
    | cons x xs => exact absurd h.1 (by simp)
  | cons v vs ih => cases xs with
    | nil => exact absurd h.1 (by simp)
    | cons x xs => exact Pts.cons h.head (ih h.tail)
theorem Pts.mono {R R' : Value → AV → Prop} {vs : List Value} {xs : List AV} (h : Pts R vs xs) (hr : ∀ v x, R v x → R' v x) : Pts R' vs xs :=
  ⟨h.1, fun i v x h1 h2 => hr _ _ (h.2 i v x h1 h2)⟩
theorem Pts.get {R : Value → AV → Prop} {vs : List Value} {xs : List AV} (h : Pts R vs xs) {i : Nat} {x : AV} (hx : xs[i]? = some x) : ∃ v, vs[i]? = some v ∧ R v x := by
  have hi : i < xs.length := (List.getElem?_eq_some_iff.1 hx).1
  have hv : i < vs.length := h.1 ▸ hi
  exact ⟨vs[i], by simp, h.2 i _ x (by simp) hx⟩
theorem Pts.drop {R : Value → AV → Prop} {vs : List Value} {xs : List AV} (h : Pts R vs xs) (n : Nat) : Pts R (vs.drop n) (xs.drop n) :=
  ⟨by simp [h.1], fun i v x h1 h2 => h.2 (n + i) v x (by simpa using h1) (by simpa using h2)⟩
theorem Pts.take {R : Value → AV → Prop} {vs : List Value} {xs : List AV} (h : Pts R vs xs) (n : Nat) : Pts R (vs.take n) (xs.take n) :=
  ⟨by simp [h.1], fun i v x h1 h2 => by
    rw [List.getElem?_take] at h1 h2
    split at h1
    · rename_i hi; rw [if_pos hi] at h2; exact h.2 i v x h1 h2
    · cases h1⟩
theorem Pts.set {R : Value → AV → Prop} {vs : List Value} {xs : List AV} (h : Pts R vs xs) {i : Nat} {v : Value} {x : AV} (hr : R v x) : Pts R (vs.set i v) (xs.set i x) :=
  ⟨by simp [h.1], fun j v' x' h1 h2 => by
    rw [List.getElem?_set] at h1 h2
    have hl := h.1
    split at h1
    · rename_i e; subst e
      split at h1
      · rename_i hi; rw [if_pos rfl, if_pos (hl ▸ hi)] at h2
        simp at h1 h2; subst h1 h2; exact hr
      · cases h1
    · rename_i e; rw [if_neg e] at h2; exact h.2 j v' x' h1 h2⟩

/-- What is known of data stays where its blocks stay; more blocks may be allowed. -/
theorem DRep.mono {ok ok' : Nat → Prop} {w w' : World} {v : Value} {x : AV} (h : DRep ok w v x) (hok : ∀ b, ok b → ok' b)
    (hw : ∀ b, ok b → w'.heap[b]? = w.heap[b]?) : DRep ok' w' v x := by
  induction h with
  | int k n => exact .int k n
  | bool b => exact .bool b
  | str s => exact .str s
  | val v => exact .val v
  | junk v => exact .junk v
  | agg vs cs hl h1 _ ih => exact .agg vs cs hl h1 ih
  | slNil ex sz a cap h => exact .slNil ex sz a cap h
  | sl ex b o cap sz xs vs hb hne hcap hex hsz hl h1 hm _ ih =>
    exact .sl ex b o cap sz xs vs (hok b hb) hne hcap hex hsz hl h1 (fun j v hv => by
      rw [World.cell?_of_block (a := ⟨b, o + j, none⟩) (hw b hb)]; exact hm j v hv) ih
  | cp b o cs vs hb hl h1 hm _ ih =>
    exact .cp b o cs vs (hok b hb) hl h1 (fun j v hv => by
      rw [World.cell?_of_block (a := ⟨b, o + j, none⟩) (hw b hb)]; exact hm j v hv) ih
  | fn f vs caps hl _ ih => exact .fn f vs caps hl ih
  | ifc t v x _ ih => exact .ifc t v x ih
  | mth m v x _ ih => exact .mth m v x ih
  | slk cap sz n xs a _ ih => exact .slk cap sz n xs a ih
  | atom v h => exact .atom v h
  | mp b clk es ks xs hb hm hk hl _ ih => exact .mp b clk es ks xs (hok b hb) (by rw [hw b hb]; exact hm) hk hl ih

theorem one_cells {v : Value} (h : v.oneCell' = true) : v.cells = #[v] := by
  cases v <;> first | rfl | simp [Value.oneCell'] at h
theorem DRep.one {ok : Nat → Prop} {w : World} {v : Value} {x : AV} (h : DRep ok w v x) (hx : x.sto = true) : (∀ u ∈ v.cells.toList, u.oneCell' = true) := by
  by_cases ha : ∃ v0, x = .atom v0
  · obtain ⟨v0, rfl⟩ := ha
    cases h with
    | atom _ h => rw [one_cells h]; simpa using h
  · cases h <;> simp_all [AV.sto, Value.cells, Value.oneCell']

theorem DRep.cellsPts {ok : Nat → Prop} {w : World} {v : Value} {x : AV} (h : DRep ok w v x) (hx : x.sto = true) : Pts (DRep ok w) v.cells.toList x.cells := by
  cases h with
  | agg vs cs hl h1 h => exact ⟨by simp [Value.cells, AV.cells, hl], by simpa [Value.cells, AV.cells] using h⟩
  | int k n => exact Pts.cons (.int k n) .nil
  | bool b => exact Pts.cons (.bool b) .nil
  | str s => exact Pts.cons (.str s) .nil
  | val v => simp [AV.sto] at hx
  | junk v => simp [AV.sto] at hx
  | slNil ex sz a cap h => exact Pts.cons (.slNil ex sz a cap h) .nil
  | sl ex b o cap sz xs vs hb hne hcap hex hsz hl h1 hm h => exact Pts.cons (.sl ex b o cap sz xs vs hb hne hcap hex hsz hl h1 hm h) .nil
  | cp b o cs vs hb hl h1 hm h => exact Pts.cons (.cp b o cs vs hb hl h1 hm h) .nil
  | fn f vs caps hl h => exact Pts.cons (.fn f vs caps hl h) .nil
  | ifc t v x h => exact Pts.cons (.ifc t v x h) .nil
  | mth m v x h => simp [AV.sto] at hx
  | slk cap sz n xs a h => simp [AV.sto] at hx
  | atom v h => rw [one_cells h]; exact Pts.cons (.atom v h) .nil
  | mp b clk es ks xs hb hm hk hl h => exact Pts.cons (.mp b clk es ks xs hb hm hk hl h) .nil

/-! ### Values in slots: data, names of owned memory, closures, results of several parts, values behind a guard. -/
abbrev Names := Nat → Option (Nat × Nat × Nat)

def R0 (ok : Nat → Prop) (φ : Names) (w : World) (v : Value) : AV → Prop
  | .osl k off len => (∃ a, v = .slice a 0 0 ∧ len = 0) ∨
      (∃ g sz N cap, φ k = some (g, sz, N) ∧ v = .slice (some ⟨g, off * sz, none⟩) len cap ∧ len ≤ cap ∧ (off + cap) * sz = N ∧ cap ≤ maxLen)
  | .op k i j => ∃ g sz N, φ k = some (g, sz, N) ∧ v = .pointer (some ⟨g, i * sz + j, none⟩)
  | .junk => True
  | x => DRep ok w v x

def R1 (ok : Nat → Prop) (φ : Names) (w : World) (v : Value) : AV → Prop
  | .fn f caps => ∃ vs : List Value, v = .func (.func f) #[] vs.toArray ∧ Pts (R0 ok φ w) vs caps
  | .tup xs => ∃ vs : List Value, v = .tuple vs.toArray ∧ Pts (R0 ok φ w) vs xs
  | .big xs => ∃ vs : List Value, v = .agg vs.toArray ∧ (∀ u ∈ vs, u.oneCell' = true) ∧ Pts (R0 ok φ w) vs xs
  | x => R0 ok φ w v x

def R2 (ok : Nat → Prop) (φ : Names) (w : World) (v : Value) : AV → Prop
  | .opt b x => (b = true → R1 ok φ w v x) ∧ (b = false → v = undef)
  | x => R1 ok φ w v x

/-- Does it name owned memory k (at the top, in a closure or in a tuple)? -/
def AV.names0 (k : Nat) : AV → Bool
  | .osl k' _ _ => k' == k
  | .op k' _ _ => k' == k
  | _ => false
def AV.names1 (k : Nat) : AV → Bool
  | .fn _ caps => caps.any (AV.names0 k)
  | .tup xs => xs.any (AV.names0 k)
  | .big xs => xs.any (AV.names0 k)
  | x => x.names0 k
def AV.names (k : Nat) : AV → Bool
  | .opt _ x => x.names1 k
  | x => x.names1 k
def AV.kill (k : Nat) (x : AV) : AV := if x.names k then .junk else x

theorem R0.of_data {ok : Nat → Prop} {φ : Names} {w : World} {v : Value} {x : AV} (h : DRep ok w v x) : R0 ok φ w v x := by
  cases h with
  | junk v => trivial
  | int k n => exact .int k n
  | bool b => exact .bool b
  | str s => exact .str s
  | val v => exact .val v
  | agg vs cs hl h1 h => exact .agg vs cs hl h1 h
  | slNil ex sz a cap h => exact .slNil ex sz a cap h
  | sl ex b o cap sz xs vs hb hne hcap hex hsz hl h1 hm h => exact .sl ex b o cap sz xs vs hb hne hcap hex hsz hl h1 hm h
  | cp b o cs vs hb hl h1 hm h => exact .cp b o cs vs hb hl h1 hm h
  | fn f vs caps hl h => exact .fn f vs caps hl h
  | ifc t v x h => exact .ifc t v x h
  | mth m v x h => exact .mth m v x h
  | slk cap sz n xs a h => exact .slk cap sz n xs a h
  | atom v h => exact .atom v h
  | mp b clk es ks xs hb hm hk hl h => exact .mp b clk es ks xs hb hm hk hl h

theorem R1.of_data {ok : Nat → Prop} {φ : Names} {w : World} {v : Value} {x : AV} (h : DRep ok w v x) : R1 ok φ w v x := by
  cases h with
  | fn f vs caps hl h => exact ⟨vs, rfl, hl, fun i v x h1 h2 => R0.of_data (h i v x h1 h2)⟩
  | junk v => trivial
  | int k n => exact .int k n
  | bool b => exact .bool b
  | str s => exact .str s
  | val v => exact .val v
  | agg vs cs hl h1 h => exact .agg vs cs hl h1 h
  | slNil ex sz a cap h => exact .slNil ex sz a cap h
  | sl ex b o cap sz xs vs hb hne hcap hex hsz hl h1 hm h => exact .sl ex b o cap sz xs vs hb hne hcap hex hsz hl h1 hm h
  | cp b o cs vs hb hl h1 hm h => exact .cp b o cs vs hb hl h1 hm h
  | ifc t v x h => exact .ifc t v x h
  | mth m v x h => exact .mth m v x h
  | slk cap sz n xs a h => exact .slk cap sz n xs a h
  | atom v h => exact .atom v h
  | mp b clk es ks xs hb hm hk hl h => exact .mp b clk es ks xs hb hm hk hl h

theorem R2.of_R1 {ok : Nat → Prop} {φ : Names} {w : World} {v : Value} {x : AV} (h : R1 ok φ w v x) : R2 ok φ w v x := by
  cases x <;> first | exact h | skip
  case opt b y => cases h
theorem R1.of_R0 {ok : Nat → Prop} {φ : Names} {w : World} {v : Value} {x : AV} (h : R0 ok φ w v x) : R1 ok φ w v x := by
  cases x <;> first | exact h | skip
  case fn f caps => exact R1.of_data h
  case tup xs => cases h
  case big xs => cases h
theorem R2.of_data {ok : Nat → Prop} {φ : Names} {w : World} {v : Value} {x : AV} (h : DRep ok w v x) : R2 ok φ w v x := R2.of_R1 (R1.of_data h)
theorem R2.of_R0 {ok : Nat → Prop} {φ : Names} {w : World} {v : Value} {x : AV} (h : R0 ok φ w v x) : R2 ok φ w v x := R2.of_R1 (R1.of_R0 h)

section
variable {ok ok' : Nat → Prop} {φ φ' : Names} {w w' : World} {v : Value} {x : AV} {K : Nat → Bool}
theorem R0.mono (h : R0 ok φ w v x) (hok : ∀ b, ok b → ok' b) (hw : ∀ b, ok b → w'.heap[b]? = w.heap[b]?)
    (hφ : ∀ k, x.names0 k = true → φ' k = φ k) : R0 ok' φ' w' v x := by
  cases x <;> first | exact DRep.mono h hok hw | trivial | skip
  case osl k off len =>
    rcases h with h | ⟨g, sz, N, cap, h1, h2⟩
    · exact .inl h
    · exact .inr ⟨g, sz, N, cap, by rw [hφ k (by simp [AV.names0])]; exact h1, h2⟩
  case op k i j =>
    obtain ⟨g, sz, N, h1, h2⟩ := h
    exact ⟨g, sz, N, by rw [hφ k (by simp [AV.names0])]; exact h1, h2⟩
theorem R1.mono (h : R1 ok φ w v x) (hok : ∀ b, ok b → ok' b) (hw : ∀ b, ok b → w'.heap[b]? = w.heap[b]?)
    (hφ : ∀ k, x.names1 k = true → φ' k = φ k) : R1 ok' φ' w' v x := by
  by_cases hx : (∃ f caps, x = .fn f caps) ∨ (∃ xs, x = .tup xs) ∨ (∃ xs, x = .big xs)
  rotate_left
  · have e : ∀ (ok : Nat → Prop) (φ : Names) (w : World), R1 ok φ w v x = R0 ok φ w v x := by
      intro ok φ w; cases x <;> first | rfl | (exfalso; simp at hx)
    have e2 : ∀ k, x.names1 k = x.names0 k := by intro k; cases x <;> first | rfl | (exfalso; simp at hx)
    rw [e] at h ⊢
    exact h.mono hok hw fun k hk => hφ k (by rw [e2]; exact hk)
  rcases hx with ⟨f, caps, rfl⟩ | ⟨caps, rfl⟩ | ⟨caps, rfl⟩
  rotate_left 2
  · obtain ⟨vs, rfl, h1, hp⟩ := h
    refine ⟨vs, rfl, h1, hp.1, fun i v x h1 h2 => (hp.2 i v x h1 h2).mono hok hw fun k hk => hφ k ?_⟩
    exact List.any_eq_true.2 ⟨x, List.mem_of_getElem? h2, hk⟩
  · obtain ⟨vs, rfl, hp⟩ := h
    refine ⟨vs, rfl, hp.1, fun i v x h1 h2 => (hp.2 i v x h1 h2).mono hok hw fun k hk => hφ k ?_⟩
    exact List.any_eq_true.2 ⟨x, List.mem_of_getElem? h2, hk⟩
  · obtain ⟨vs, rfl, hp⟩ := h
    refine ⟨vs, rfl, hp.1, fun i v x h1 h2 => (hp.2 i v x h1 h2).mono hok hw fun k hk => hφ k ?_⟩
    exact List.any_eq_true.2 ⟨x, List.mem_of_getElem? h2, hk⟩
theorem R2.mono (h : R2 ok φ w v x) (hok : ∀ b, ok b → ok' b) (hw : ∀ b, ok b → w'.heap[b]? = w.heap[b]?)
    (hφ : ∀ k, x.names k = true → φ' k = φ k) : R2 ok' φ' w' v x := by
  by_cases hx : ∃ b y, x = .opt b y
  rotate_left
  · have e : ∀ (ok : Nat → Prop) (φ : Names) (w : World), R2 ok φ w v x = R1 ok φ w v x := by
      intro ok φ w; cases x <;> first | rfl | (exfalso; simp at hx)
    have e2 : ∀ k, x.names k = x.names1 k := by intro k; cases x <;> first | rfl | (exfalso; simp at hx)
    rw [e] at h ⊢
    exact h.mono hok hw fun k hk => hφ k (by rw [e2]; exact hk)
  obtain ⟨b, y, rfl⟩ := hx
  · exact ⟨fun hb => (h.1 hb).mono hok hw hφ, h.2⟩
end

/-! ### Owned memory, states -/
structure HO where
  sz : Nat
  e : TypeId
  bx : Bool
  xs : List AV
structure St where
  s : List AV
  h : List (Nat × HO)

def look : List (Nat × HO) → Nat → Option HO
  | [], _ => none
  | (k', o) :: t, k => if k' = k then some o else look t k
def drop : List (Nat × HO) → Nat → List (Nat × HO)
  | [], _ => []
  | (k', o) :: t, k => if k' = k then drop t k else (k', o) :: drop t k
def put (h : List (Nat × HO)) (k : Nat) (o : HO) : List (Nat × HO) := (k, o) :: drop h k

theorem look_drop_self (h : List (Nat × HO)) (k : Nat) : look (drop h k) k = none := by
  induction h with
  | nil => rfl
  | cons p t ih => obtain ⟨k', o⟩ := p; simp only [drop]; split <;> simp_all [look]
theorem look_drop_ne (h : List (Nat × HO)) {k k' : Nat} (hn : k' ≠ k) : look (drop h k) k' = look h k' := by
  induction h with
  | nil => rfl
  | cons p t ih =>
    obtain ⟨j, o⟩ := p
    simp only [drop, look]
    by_cases h1 : j = k
    · subst h1; simp [ih, Ne.symm hn]
    · simp [h1, look, ih]
theorem look_put_self (h : List (Nat × HO)) (k : Nat) (o : HO) : look (put h k o) k = some o := by simp [put, look]
theorem look_put_ne (h : List (Nat × HO)) {k k' : Nat} (o : HO) (hn : k' ≠ k) : look (put h k o) k' = look h k' := by
  simp [put, look, Ne.symm hn, look_drop_ne h hn]

def AV.data0 : AV → Bool
  | .osl .. | .op .. => false
  | _ => true
theorem R0.data {ok : Nat → Prop} {φ : Names} {w : World} {v : Value} {x : AV} (h : R0 ok φ w v x) (hd : x.data0 = true) : DRep ok w v x := by
  cases x <;> first | exact h | (simp [AV.data0] at hd; done) | exact .junk _

/-- What a cell of an object holds: data, or, in a box, a name, too. -/
def RC (ok : Nat → Prop) (φ : Names) (w : World) (v : Value) : Bool → AV → Prop
  | true, x => R0 ok φ w v x
  | false, x => DRep ok w v x
theorem RC.of_data {ok : Nat → Prop} {φ : Names} {w : World} {v : Value} {b : Bool} {x : AV} (h : DRep ok w v x) : RC ok φ w v b x := by
  cases b
  · exact h
  · exact R0.of_data h
theorem RC.r0 {ok : Nat → Prop} {φ : Names} {w : World} {v : Value} {b : Bool} {x : AV} (h : RC ok φ w v b x) : R0 ok φ w v x := by
  cases b
  · exact R0.of_data h
  · exact h
theorem RC.mono {ok ok' : Nat → Prop} {φ φ' : Names} {w w' : World} {v : Value} {b : Bool} {x : AV} (h : RC ok φ w v b x) (hok : ∀ b, ok b → ok' b) (hw : ∀ b, ok b → w'.heap[b]? = w.heap[b]?)
    (hφ : b = true → ∀ k, x.names0 k = true → φ' k = φ k) : RC ok' φ' w' v b x := by
  cases b
  · exact DRep.mono h hok hw
  · exact R0.mono h hok hw (hφ rfl)

/-- None of the first N cells is frozen. -/
def noFz (fz : Nat × Nat) (N : Nat) : Prop := fz.1 = fz.2 ∨ N ≤ fz.1
/-- The object's memory: block g, N cells, none of them frozen; the first ones hold the elements. -/
def ObjAt (ok : Nat → Prop) (φ : Names) (w : World) (g sz N : Nat) (e : TypeId) (b : Bool) (xs : List AV) : Prop :=
  ∃ cur fz, w.heap[g]? = some (.cells cur e fz) ∧ noFz fz N ∧ cur.size = N ∧ (flat xs).length ≤ N ∧
    (∀ x ∈ xs, x.cells.length = sz) ∧ (∀ v ∈ cur.toList.take (flat xs).length, v.oneCell' = true) ∧ Pts (fun v x => RC ok φ w v b x) (cur.toList.take (flat xs).length) (flat xs)

structure HeapOK (ok : Nat → Prop) (φ : Names) (H : List (Nat × HO)) (w : World) (B : Nat → Prop) : Prop where
  at_ : ∀ k o, look H k = some o → (φ k = none ∧ o.xs = []) ∨ ∃ g N, φ k = some (g, o.sz, N) ∧ B g ∧ ¬ ok g ∧ ObjAt ok φ w g o.sz N o.e o.bx o.xs
  inj : ∀ k k' o o' g sz N sz' N', look H k = some o → look H k' = some o' → φ k = some (g, sz, N) → φ k' = some (g, sz', N') → k = k'

/-! A name that means something else from now on: boxes that hold it forget it. -/
def AV.kill0 (k : Nat) (x : AV) : AV := if x.names0 k then .junk else x
def killE (k : Nat) : AV → AV
  | .agg cs => .agg (cs.map (AV.kill0 k))
  | x => x.kill0 k
def killB (k : Nat) : HO → HO
  | ⟨sz, e, true, xs⟩ => ⟨sz, e, true, xs.map (killE k)⟩
  | ⟨sz, e, false, xs⟩ => ⟨sz, e, false, xs⟩
def killH (k : Nat) : List (Nat × HO) → List (Nat × HO)
  | [] => []
  | (j, o) :: H => (j, killB k o) :: killH k H
theorem look_killH (k : Nat) (H : List (Nat × HO)) (j : Nat) : look (killH k H) j = (look H j).map (killB k) := by
  induction H with
  | nil => rfl
  | cons p t ih =>
    obtain ⟨i, o⟩ := p
    simp only [killH, look]
    split <;> simp_all
theorem kill0_cells (k : Nat) (x : AV) (h : ∀ cs, x ≠ .agg cs) : (x.kill0 k).cells = [x.kill0 k] := by
  unfold AV.kill0
  split
  · rfl
  · cases x <;> first | rfl | exact absurd rfl (h _)
theorem killE_cells (k : Nat) (x : AV) : (killE k x).cells = x.cells.map (AV.kill0 k) := by
  by_cases h : ∃ cs, x = .agg cs
  · obtain ⟨cs, rfl⟩ := h; rfl
  · have h1 : ∀ cs, x ≠ .agg cs := fun cs e => h ⟨cs, e⟩
    have e1 : killE k x = x.kill0 k := by cases x <;> first | rfl | exact absurd rfl (h1 _)
    have e2 : x.cells = [x] := by cases x <;> first | rfl | exact absurd rfl (h1 _)
    rw [e1, kill0_cells k x h1, e2]; rfl
theorem flat_killE (k : Nat) (xs : List AV) : flat (xs.map (killE k)) = (flat xs).map (AV.kill0 k) := by
  induction xs with
  | nil => rfl
  | cons x xs ih =>
    simp only [flat, List.map_cons, List.flatMap_cons, List.map_append] at ih ⊢
    rw [ih, killE_cells]
theorem R0.kill {ok : Nat → Prop} {φ φ' : Names} {w : World} {v : Value} {x : AV} {k : Nat} (h : R0 ok φ w v x) (hφ : ∀ j, j ≠ k → φ' j = φ j) : R0 ok φ' w v (x.kill0 k) := by
  unfold AV.kill0
  split
  · trivial
  · rename_i hn
    exact h.mono (fun _ h => h) (fun _ _ => rfl) fun j hj => hφ j (fun e => hn (e ▸ hj))
/-- An object whose block is as it was, while another name's meaning changes. -/
theorem ObjAt.kill {ok : Nat → Prop} {φ φ' : Names} {w : World} {g N k : Nat} {o : HO} (h : ObjAt ok φ w g o.sz N o.e o.bx o.xs) (hφ : ∀ j, j ≠ k → φ' j = φ j) :
    ObjAt ok φ' w g (killB k o).sz N (killB k o).e (killB k o).bx (killB k o).xs := by
  obtain ⟨sz, e, b, xs⟩ := o
  obtain ⟨cur, fz, h1, hz, h2, h3, h4, h5, h6⟩ := h
  cases b with
  | false => exact ⟨cur, fz, h1, hz, h2, h3, h4, h5, h6.mono fun v x hx => RC.mono hx (fun _ h => h) (fun _ _ => rfl) (fun e => by cases e)⟩
  | true =>
    simp only [killB]
    refine ⟨cur, fz, h1, hz, h2, by rw [flat_killE, List.length_map]; exact h3, ?_, by rw [flat_killE, List.length_map]; exact h5, ?_⟩
    · intro y hy
      obtain ⟨x, hx, rfl⟩ := List.mem_map.1 hy
      rw [killE_cells, List.length_map]; exact h4 x hx
    · rw [flat_killE, List.length_map]
      refine ⟨by rw [List.length_map]; exact h6.1, fun i v x h1 h2 => ?_⟩
      rw [List.getElem?_map] at h2
      cases hx : (flat xs)[i]? with
      | none => simp [hx] at h2
      | some y => simp [hx] at h2; subst h2; exact R0.kill (h6.2 i v y h1 hx) hφ
theorem killB_sz (k : Nat) (o : HO) : (killB k o).sz = o.sz := by obtain ⟨sz, e, b, xs⟩ := o; cases b <;> rfl
theorem killB_nil (k : Nat) (o : HO) (h : o.xs = []) : (killB k o).xs = [] := by
  obtain ⟨sz, e, b, xs⟩ := o
  simp only at h
  subst h
  cases b <;> rfl

structure Ctx where
  P : Program
  w0 : World
  ok0 : Nat → Prop
  /-- Blocks that are taken over from the caller. -/
  own : Nat → Prop
def noB : Nat → Prop := fun _ => False
def Ctx.mine (c : Ctx) (b : Nat) : Prop := c.w0.heap.size ≤ b ∨ c.own b
/-- The world is as it was, but for the blocks taken over. -/
structure FrB (own : Nat → Prop) (w w' : World) : Prop where
  os : w'.os = w.os
  tape : w'.tape = w.tape
  output : w'.output = w.output
  size : w.heap.size ≤ w'.heap.size
  block : ∀ k, k < w.heap.size → ¬ own k → w'.heap[k]? = w.heap[k]?
theorem FrB.refl (own : Nat → Prop) (w : World) : FrB own w w := ⟨rfl, rfl, rfl, Nat.le_refl _, fun _ _ _ => rfl⟩
theorem FrB.trans {own own' : Nat → Prop} {a b c : World} (h : FrB own a b) (k : FrB own' b c) (ho : ∀ i, i < a.heap.size → own' i → own i) : FrB own a c :=
  ⟨k.os.trans h.os, k.tape.trans h.tape, k.output.trans h.output, Nat.le_trans h.size k.size, fun i hi hn => (k.block i (Nat.lt_of_lt_of_le hi h.size) fun e => hn (ho i hi e)).trans (h.block i hi hn)⟩
theorem FrB.below {w w' : World} (h : FrB noB w w') : Below w.heap.size w w' := ⟨h.os, h.tape, h.output, h.size, fun k hk => h.block k hk fun e => e⟩
theorem FrB.of_below {w w' : World} (h : Below w.heap.size w w') : FrB noB w w' := ⟨h.os, h.tape, h.output, h.size, fun k hk _ => h.block k hk⟩
theorem FrB.alloc {own : Nat → Prop} {a w : World} (h : FrB own a w) (o : Obj) : FrB own a (w.alloc o) :=
  h.trans (FrB.of_below ((Below.refl _ w).alloc (Nat.le_refl _) o)) fun _ _ e => e.elim
theorem FrB.grown {own : Nat → Prop} {a w w' : World} {row : Option Nat} (h : FrB own a w) (hg : w.grownBy w' row) (hr : ∀ k, row = some k → a.heap.size ≤ k ∨ own k) : FrB own a w' :=
  ⟨hg.os.trans h.os, hg.tape.trans h.tape, hg.output.trans h.output, Nat.le_trans h.size hg.size, fun k hk hn => (hg.block k (Nat.lt_of_lt_of_le hk h.size) (fun e => by
    rcases hr k e.symm with h1 | h1
    · omega
    · exact hn h1)).trans (h.block k hk hn)⟩

structure Holds1 (c : Ctx) (ok : Nat → Prop) (φ : Names) (σ : St) (a : Act) (w : World) : Prop where
  defers : a.defers = []
  slots : Pts (R2 ok φ w) a.tmps.toList σ.s
  heap : HeapOK ok φ σ.h w c.mine
  okLt : ∀ b, ok b → b < w.heap.size
  okOr : ∀ b, ok b → c.ok0 b ∨ c.mine b
  ok0 : ∀ b, c.ok0 b → ok b
  below : FrB c.own c.w0 w
def Holds (c : Ctx) (σ : St) (a : Act) (w : World) : Prop := ∃ ok φ, Holds1 c ok φ σ a w

end Go.Ideal
