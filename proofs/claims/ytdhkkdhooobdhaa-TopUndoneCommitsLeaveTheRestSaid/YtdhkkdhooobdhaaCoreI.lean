/- One operation at a time, over abstract states: operations without effect. -/
import Derived.Test.YtdhkkdhooobdhaaCoreF
set_option linter.unusedVariables false
set_option linter.unusedSimpArgs false
namespace Go.Ideal
open Go.RowKit

def St.look1 (σ : St) (t : Nat) : AV := σ.s.getD t .junk

def AV.cst (v : Value) : AV :=
  match v with
  | .agg cs => if cs.toList.all Value.oneCell' then AV.ofV v else .val v
  | _ => AV.ofV v

/-- An operand, where the operation takes place if g: when it is known, and what it is. -/
def St.get (σ : St) (g : Bool) : Operand → PA
  | .tmp t => (optOK g (σ.look1 t), strip (σ.look1 t))
  | .const v => (True, AV.cst v)
  | .func f => (True, .fn f [])
  | .global _ => no

def St.getO (σ : St) (g : Bool) : Option Operand → Prop × Option AV
  | none => (True, none)
  | some x => ((σ.get g x).1, some (σ.get g x).2)

def ev (P : Program) (σ : St) (g : Bool) : Op → PA
  | .move x | .assign x => σ.get g x
  | .pick c x y =>
    match (σ.get g c).2 with
    | .bool t => ((σ.get g c).1 ∧ (σ.get (g && t) x).1 ∧ (σ.get (g && !t) y).1, mux t (σ.get (g && t) x).2 (σ.get (g && !t) y).2)
    | _ => no
  | .binOp op t x y _ => ((σ.get g x).1 ∧ (σ.get g y).1 ∧ (g = true → (evBin P t op (σ.get g x).2 (σ.get g y).2).1), (evBin P t op (σ.get g x).2 (σ.get g y).2).2)
  | .unOp op _ x => ((σ.get g x).1 ∧ (g = true → (evUn op (σ.get g x).2).1), (evUn op (σ.get g x).2).2)
  | .load t x => ((σ.get g x).1 ∧ (P.underlying t).isSome = true ∧ szIs P t (P.cellsOf t) ∧ (g = true → (evLoad P σ.h t (σ.get g x).2).1), (evLoad P σ.h t (σ.get g x).2).2)
  | .slice t x lo hi mx => ((σ.get g x).1 ∧ (σ.getO g lo).1 ∧ (σ.getO g hi).1 ∧ (σ.getO g mx).1 ∧ (g = true → (evSliceX P σ.h t (σ.get g x).2 (σ.getO g lo).2 (σ.getO g hi).2 (σ.getO g mx).2).1),
      (evSliceX P σ.h t (σ.get g x).2 (σ.getO g lo).2 (σ.getO g hi).2 (σ.getO g mx).2).2)
  | .indexAddr t x i => ((σ.get g x).1 ∧ (σ.get g i).1 ∧ (g = true → (evIndexAddr P σ.h t (σ.get g x).2 (σ.get g i).2).1), (evIndexAddr P σ.h t (σ.get g x).2 (σ.get g i).2).2)
  | .index t x i => ((σ.get g x).1 ∧ (σ.get g i).1 ∧ (g = true → (evIndex P t (σ.get g x).2 (σ.get g i).2).1), (evIndex P t (σ.get g x).2 (σ.get g i).2).2)
  | .extract x i => ((σ.get g x).1 ∧ (g = true → (evExtract (σ.get g x).2 i).1), (evExtract (σ.get g x).2 i).2)
  | .convert s d x => ((σ.get g x).1 ∧ (g = true → (evConv P s d (σ.get g x).2).1), (evConv P s d (σ.get g x).2).2)
  | .call cl =>
    match cl.callee, cl.args.toList, cl.argTypes.toList with
    | .builtin .len, [x], [t] => ((σ.get g x).1 ∧ (g = true → (evLen P t (σ.get g x).2).1), (evLen P t (σ.get g x).2).2)
    | _, _, _ => no
  | _ => no

/-- It looks at no memory. -/
def wi : Op → Bool
  | .load .. | .convert .. => false
  | _ => true

section
variable {ok : Nat → Prop} {φ : Names} {w : World} {v u : Value} {P : Program} {c : Ctx} {σ : St} {a : Act}

theorem DRep.ofV0 (v : Value) : DRep ok w v (AV.ofV0 v) := by
  unfold AV.ofV0
  split
  · exact .int ..
  · exact .bool _
  · rename_i s; exact (by simpa using DRep.str (ok := ok) (w := w) s.data.toList)
  · exact .slNil _ _ _ _ (fun _ => rfl)
  · exact .atom _ rfl
  · exact .atom _ rfl
  · exact .atom _ rfl
  · exact .val _
theorem R1.ofVfunc (fn : Fn) (fs cs : Array Value) : R1 ok φ w (.func fn fs cs) (AV.ofV (.func fn fs cs)) := by
  cases fn <;> first | exact R1.of_data (.ofV0 _) | skip
  case func f =>
    simp only [AV.ofV]
    by_cases he : (fs.isEmpty && cs.isEmpty) = true
    · rw [if_pos he]
      simp at he
      exact ⟨[], by rw [he.1, he.2], Pts.nil⟩
    · rw [if_neg he]; exact R1.of_data (.val _)
theorem R1.cst (v : Value) : R1 ok φ w v (AV.cst v) := by
  unfold AV.cst
  split
  · rename_i cs
    split
    · rename_i hc
      refine R1.of_data ?_
      simp only [AV.ofV]
      have := DRep.agg (ok := ok) (w := w) cs.toList (cs.toList.map AV.ofV0) (by simp) (fun v hv => by
        exact List.all_eq_true.1 hc v hv) (fun i v x h1 h2 => by
        rw [List.getElem?_map, h1] at h2; simp at h2; subst h2; exact .ofV0 v)
      simpa using this
    · exact R1.of_data (.val _)
  · rename_i hna
    cases v <;> first | exact R1.of_data (.ofV0 _) | skip
    case agg => exact absurd rfl (hna _)
    case func fn fs cs => exact R1.ofVfunc fn fs cs

theorem R1.of_R2 {x : AV} (h : R2 ok φ w v x) {g : Bool} (hg : g = true) (ho : optOK g x) : R1 ok φ w v (strip x) := by
  cases x <;> first | exact h | skip
  exact h.1 (ho hg)

theorem Holds1.get (h : Holds1 c ok φ σ a w) {g : Bool} (hg : g = true) {x : Operand} (hx : (σ.get g x).1) : R1 ok φ w (a.eval x) (σ.get g x).2 := by
  cases x with
  | tmp t =>
    simp only [St.get, Act.eval] at hx ⊢
    by_cases ht : t < σ.s.length
    · obtain ⟨v, hv, hr⟩ := h.slots.get (i := t) (x := σ.look1 t) (getD_some ht)
      have e : a.tmps.getD t undef = v := by
        rw [Array.getElem?_toList] at hv
        simp [Array.getD_eq_getD_getElem?, hv]
      rw [e]; exact R1.of_R2 hr hg hx
    · have : σ.look1 t = .junk := by simp [St.look1, List.getD, ht]
      rw [this]; trivial
  | const v => exact R1.cst v
  | global g => exact hx.elim
  | func f => exact ⟨[], by simp [Act.eval], Pts.nil⟩

theorem Holds1.getO (h : Holds1 c ok φ σ a w) {g : Bool} (hg : g = true) {x : Option Operand} (hx : (σ.getO g x).1) : OptR (R1 ok φ w) (x.map a.eval) (σ.getO g x).2 := by
  cases x with
  | none => trivial
  | some x => exact h.get hg hx

theorem foldl_push (ns : List Int) : ∀ acc : List UInt8, ns.foldl (fun (r : ByteArray) n => r.push (UInt8.ofNat n.toNat)) ⟨acc.toArray⟩ = ⟨(acc ++ ns.map fun n => UInt8.ofNat n.toNat).toArray⟩ := by
  induction ns with
  | nil => intro acc; simp
  | cons n ns ih =>
    intro acc
    have e : (ByteArray.mk acc.toArray).push (UInt8.ofNat n.toNat) = ⟨(acc ++ [UInt8.ofNat n.toNat]).toArray⟩ := by
      apply ByteArray.ext; simp [ByteArray.push]
    rw [List.foldl_cons, e, ih]; simp

theorem isByte_inv {x : AV} (h : x.isByte = true) : ∃ n, x = .int .u8 n ∧ 0 ≤ n ∧ n < 256 := by
  unfold AV.isByte at h
  split at h
  · rename_i n; exact ⟨n, rfl, by simpa using h⟩
  · cases h

theorem flat_bytes {xs : List AV} (h : xs.all AV.isByte = true) : flat xs = xs := by
  induction xs with
  | nil => rfl
  | cons x xs ih =>
    simp only [List.all_cons, Bool.and_eq_true] at h
    obtain ⟨n, rfl, _⟩ := isByte_inv h.1
    rw [flat_cons, ih h.2]; rfl

theorem bytes_vals {xs : List AV} (h : xs.all AV.isByte = true) {vs : List Value} (hp : Pts (DRep ok w) vs xs) :
    ∃ ns : List Int, vs = ns.map (Value.int .u8) ∧ xs.map AV.byte = ns.map fun n => UInt8.ofNat n.toNat := by
  induction xs generalizing vs with
  | nil => rw [hp.nil_inv]; exact ⟨[], rfl, rfl⟩
  | cons x xs ih =>
    simp only [List.all_cons, Bool.and_eq_true] at h
    obtain ⟨n, rfl, _⟩ := isByte_inv h.1
    obtain ⟨v, vs', rfl, hv, hp'⟩ := hp.cons_inv
    obtain ⟨ns, h1, h2⟩ := ih h.2 hp'
    cases hv
    exact ⟨n :: ns, by simp [h1], by simp [h2, AV.byte]⟩

theorem bytes_run {s d e : TypeId} {ex : Bool} {xs : List AV} (hs : P.underlying s = some (.slice e)) (hd : P.underlying d = some .string) (he : P.underlying e = some (.int .u8))
    (hx : DRep ok w v (.sl ex 1 xs)) (hb : xs.all AV.isByte = true) : ∃ r, (convert s d v).run P w = .ok r w ∧ R1 ok φ w r (.str (xs.map AV.byte)) := by
  have hconv : ∀ a n cap, (convert s d (.slice a n cap)).run P w = (Conv.bytesToString (.slice a n cap)).run P w := by
    intro a n cap
    simp [convert, run_underlying hs, run_underlying hd, run_underlying he]
  cases hx with
  | slNil _ _ a cap hc =>
    refine ⟨.string ⟨#[]⟩, ?_, R1.str []⟩
    rw [hconv]
    cases a with
    | none => simp [Conv.bytesToString]; rfl
    | some a => rw [run_bytesToString w a 0 cap [] (by simp [loadCells, loadCellsFrom])]; rfl
  | sl _ b o cap _ _ vs hbk hne hcap hex hsz hl h1 hm hh =>
    have hp : Pts (DRep ok w) vs xs := by
      have e := flat_bytes hb
      rw [e] at hl hh
      exact ⟨hl, hh⟩
    obtain ⟨ns, hv, hm2⟩ := bytes_vals hb hp
    have hlen : vs.length = xs.length := hp.1
    rw [hconv, run_bytesToString w _ xs.length cap ns (by
      rw [← hv, ← hlen]
      exact run_loadCells_list w _ vs (fun j v hj => by rw [addr_add]; exact hm j v hj))]
    refine ⟨_, rfl, ?_⟩
    have := foldl_push ns []
    rw [show ByteArray.empty = ⟨([] : List UInt8).toArray⟩ from rfl, this, hm2]
    exact R1.str _

theorem evConv_sound {x : AV} {s d : TypeId} (hx : R1 ok φ w v x) (h : (evConv P s d x).1) : ∃ r, (convert s d v).run P w = .ok r w ∧ R1 ok φ w r (evConv P s d x).2 := by
  unfold evConv at h ⊢
  split at h
  · rename_i n k1 hs hd
    rw [hx.int_inv]
    refine ⟨.int .u8 (IntKind.u8.wrap n), ?_, ?_⟩
    · simp [convert, run_underlying hs, run_underlying hd, Conv.intToInt]
    · rw [show IntKind.u8.wrap n = n % 256 from rfl]; exact R1.int ..
  · rename_i n k1 hs hd
    rw [hx.int_inv]
    refine ⟨.int .u16 (IntKind.u16.wrap n), ?_, ?_⟩
    · simp [convert, run_underlying hs, run_underlying hd, Conv.intToInt]
    · rw [show IntKind.u16.wrap n = n % 65536 from rfl]; exact R1.int ..
  · rename_i k0 n k1 k _ _ hs hd
    rw [hx.int_inv]
    refine ⟨.int k (k.wrap n), ?_, ?_⟩
    · simp [convert, run_underlying hs, run_underlying hd, Conv.intToInt]
    · rw [show k.wrap n = n from h]; exact R1.int ..
  · rename_i s hs hd
    rw [hx.str_inv]
    exact ⟨_, by simp [convert, run_underlying hs, run_underlying hd], R1.str _⟩
  · rename_i ex xs e hs hd
    obtain ⟨he, hb⟩ := h
    exact bytes_run hs hd he hx.sl_inv hb
  · exact h.elim

theorem mux_sound {t : Bool} {x y : AV} (hx : t = true → R1 ok φ w v x) (hy : t = false → R1 ok φ w v y) : R1 ok φ w v (mux t x y) := by
  have gen : R1 ok φ w v (bif t then x else y) := by
    cases t
    · exact hy rfl
    · exact hx rfl
  unfold mux
  split
  · cases t
    · exact hy rfl
    · exact hx rfl
  · split
    · rename_i hk; subst hk
      cases t
      · exact hy rfl
      · exact hx rfl
    · exact gen
  · cases t
    · exact hy rfl
    · exact hx rfl
  · exact gen

theorem ev_sound (h : Holds1 c ok φ σ a w) {g : Bool} (hg : g = true) (o : Oper) (hc : (ev c.P σ g o.op).1) :
    ∃ v, (∀ w', (wi o.op = true ∨ w' = w) → (execOp a.eval o).run c.P w' = .ok (.value v) w') ∧ R1 ok φ w v (ev c.P σ g o.op).2 := by
  subst hg
  obtain ⟨dst, op, type, pos, after, guard⟩ := o
  simp only at hc ⊢
  unfold ev at hc ⊢
  split at hc
  · exact ⟨_, fun w' _ => by simp [execOp], h.get rfl hc⟩
  · exact ⟨_, fun w' _ => by simp [execOp], h.get rfl hc⟩
  · rename_i cc x y
    split at hc
    · rename_i t ht
      obtain ⟨h1, h2, h3⟩ := hc
      have hb := h.get rfl h1
      rw [ht] at hb
      have hb := hb.bool_inv
      refine ⟨if t then a.eval x else a.eval y, fun w' _ => ?_, ?_⟩
      · cases t <;> simp [execOp, hb, asBool]
      · simp only [ht]
        cases t
        · exact mux_sound (by simp) (fun _ => h.get rfl (by simpa using h3))
        · exact mux_sound (fun _ => h.get rfl (by simpa using h2)) (by simp)
    · exact hc.elim
  · rename_i op t x y yt
    obtain ⟨h1, h2, h3⟩ := hc
    obtain ⟨r, hr, hr1⟩ := evBin_sound (P := c.P) (h.get rfl h1) (h.get rfl h2) (h3 rfl) x y
    exact ⟨r, fun w' _ => by have := hr w'; simp only [execOp, Sem.run_bind] at this ⊢; rw [this]; rfl, hr1⟩
  · obtain ⟨h1, h3⟩ := hc
    obtain ⟨r, hr, hr1⟩ := evUn_sound (P := c.P) (h.get rfl h1) (h3 rfl)
    exact ⟨r, fun w' _ => by have := hr w'; simp [execOp, this], hr1⟩
  · obtain ⟨h1, h4, h5, h3⟩ := hc
    obtain ⟨r, hr, hr1⟩ := evLoad_sound (P := c.P) h.heap (h.get rfl h1) h4 h5 (h3 rfl)
    exact ⟨r, fun w' hw => by
      have e : w' = w := by simpa [wi] using hw
      subst e; simp [execOp, hr], hr1⟩
  · obtain ⟨h1, h4, h5, h6, h3⟩ := hc
    obtain ⟨r, hr, hr1⟩ := evSliceX_sound (P := c.P) h.heap (h.get rfl h1) (h.getO rfl h4) (h.getO rfl h5) (h.getO rfl h6) (h3 rfl)
    exact ⟨r, fun w' _ => by have := hr w'; simp [execOp, this], hr1⟩
  · obtain ⟨h1, h2, h3⟩ := hc
    obtain ⟨r, hr, hr1⟩ := evIndexAddr_sound (P := c.P) h.heap (h.get rfl h1) (h.get rfl h2) (h3 rfl)
    exact ⟨r, fun w' _ => by have := hr w'; simp [execOp, this], hr1⟩
  · obtain ⟨h1, h2, h3⟩ := hc
    obtain ⟨r, hr, hr1⟩ := evIndex_sound (P := c.P) (h.get rfl h1) (h.get rfl h2) (h3 rfl)
    exact ⟨r, fun w' _ => by have := hr w'; simp [execOp, this], hr1⟩
  · obtain ⟨h1, h3⟩ := hc
    obtain ⟨r, hr, hr1⟩ := evExtract_sound (P := c.P) (h.get rfl h1) (h3 rfl)
    exact ⟨r, fun w' _ => by have := hr w'; simp [execOp, this], hr1⟩
  · obtain ⟨h1, h3⟩ := hc
    obtain ⟨r, hr, hr1⟩ := evConv_sound (P := c.P) (h.get rfl h1) (h3 rfl)
    exact ⟨r, fun w' hw => by
      have e : w' = w := by simpa [wi] using hw
      subst e; simp [execOp, hr], hr1⟩
  · rename_i cl
    obtain ⟨callee, args, ats⟩ := cl
    split at hc
    · rename_i x t hcal hargs hats
      simp only at hcal hargs hats
      have ha : args = #[x] := by apply Array.toList_inj.1; simpa using hargs
      have ht : ats = #[t] := by apply Array.toList_inj.1; simpa using hats
      subst ha ht hcal
      obtain ⟨h1, h3⟩ := hc
      obtain ⟨r, hr, hr1⟩ := evLen_sound (P := c.P) (ty := type) (h.get rfl h1) (h3 rfl)
      refine ⟨r, fun w' _ => ?_, hr1⟩
      have := hr w'
      simp [execOp, resolve, invoke, builtin, this]
    · exact hc.elim
  · exact hc.elim
end
end Go.Ideal

/- Steps with effects: how a state follows from a state; contracts of functions. -/
set_option linter.unusedVariables false
set_option linter.unusedSimpArgs false
namespace Go.Ideal
open Go.RowKit

structure Goes (c : Ctx) (ok : Nat → Prop) (φ : Names) (w : World) (ok' : Nat → Prop) (φ' : Names) (H' : List (Nat × HO)) (w' : World) (kill tch : Option Nat) : Prop where
  sub : ∀ b, ok b → ok' b
  same : ∀ b, ok b → w'.heap[b]? = w.heap[b]?
  names : ∀ k, kill ≠ some k → φ' k = φ k
  heap : HeapOK ok' φ' H' w' c.mine
  okLt : ∀ b, ok' b → b < w'.heap.size
  okOr : ∀ b, ok' b → c.ok0 b ∨ c.mine b
  below : FrB c.own c.w0 w'
  frame : ∀ b, b < w.heap.size → (∀ k sz N, tch = some k → φ k ≠ some (b, sz, N)) → w'.heap[b]? = w.heap[b]?

/-- The name at hand. -/
def AV.nameOf : AV → Option Nat
  | .osl k _ _ => some k
  | .op k _ _ => some k
  | _ => none
def killO (kill : Option Nat) (s : List AV) : List AV :=
  match kill with
  | none => s
  | some k => s.map (AV.kill k)

def setO (s : List AV) (d : Option Tmp) (y : AV) : List AV :=
  match d with
  | none => s
  | some d => s.set d y

section
variable {ok ok' : Nat → Prop} {φ φ' : Names} {w w' : World} {v u : Value} {P : Program} {c : Ctx} {σ : St} {a : Act} {H H' : List (Nat × HO)} {kill tch : Option Nat} {y : AV}

theorem kill_R2 {k : Nat} {x : AV} (h : R2 ok φ w v x) (hok : ∀ b, ok b → ok' b) (hw : ∀ b, ok b → w'.heap[b]? = w.heap[b]?) (hφ : ∀ j, j ≠ k → φ' j = φ j) : R2 ok' φ' w' v (x.kill k) := by
  unfold AV.kill
  by_cases hx : x.names k = true
  · rw [if_pos hx]; trivial
  · rw [if_neg hx]
    exact h.mono hok hw fun j hj => hφ j (fun e => hx (e ▸ hj))

theorem Goes.slots (g : Goes c ok φ w ok' φ' H' w' kill tch) {vs : List Value} {s : List AV} (h : Pts (R2 ok φ w) vs s) : Pts (R2 ok' φ' w') vs (killO kill s) := by
  cases kill with
  | none => exact h.mono fun v x hx => hx.mono g.sub g.same fun k _ => g.names k (by simp)
  | some k =>
    refine ⟨by simp [killO, h.1], fun i v x h1 h2 => ?_⟩
    simp only [killO, List.getElem?_map] at h2
    cases hs : s[i]? with
    | none => simp [hs] at h2
    | some y =>
      simp [hs] at h2; subst h2
      exact kill_R2 (h.2 i v y h1 hs) g.sub g.same fun j hj => g.names j (fun e => hj (by simpa using e.symm))

theorem Holds1.goes (h : Holds1 c ok φ σ a w) (g : Goes c ok φ w ok' φ' H' w' kill tch) {d : Option Tmp} (hv : R2 ok' φ' w' v y) :
    Holds1 c ok' φ' ⟨setO (killO kill σ.s) d y, H'⟩ (a.put d v) w' := by
  refine ⟨?_, ?_, g.heap, g.okLt, g.okOr, fun b hb => g.sub b (h.ok0 b hb), g.below⟩
  · cases d <;> exact h.defers
  · have hs := g.slots h.slots
    cases d with
    | none => exact hs
    | some d =>
      have := hs.set (i := d) hv
      simpa [Act.put, setO, Array.toList_setIfInBounds] using this

theorem Goes.refl (h : Holds1 c ok φ σ a w) : Goes c ok φ w ok φ σ.h w none none :=
  ⟨fun _ h => h, fun _ _ => rfl, fun _ _ => rfl, h.heap, h.okLt, h.okOr, h.below, fun _ _ _ => rfl⟩

theorem ObjAt.mono {g sz N : Nat} {e : TypeId} {b : Bool} {xs : List AV} (h : ObjAt ok φ w g sz N e b xs) (hok : ∀ b, ok b → ok' b) (hw : ∀ b, ok b → w'.heap[b]? = w.heap[b]?) (hg : w'.heap[g]? = w.heap[g]?) : ObjAt ok' φ w' g sz N e b xs := by
  obtain ⟨cur, fz, h1, hz, h2, h3, h4, h5, h6⟩ := h
  exact ⟨cur, fz, by rw [hg]; exact h1, hz, h2, h3, h4, h5, h6.mono fun v x hx => RC.mono hx hok hw fun _ _ _ => rfl⟩
/-- The block goes on as it is, while another name's meaning changes. -/
theorem HeapOK.killed {B : Nat → Prop} {k : Nat} (h : HeapOK ok φ H w B) (hφ : ∀ j, j ≠ k → φ' j = φ j) : HeapOK ok φ' (killH k (drop H k)) w B := by
  have hl : ∀ j o, look (killH k (drop H k)) j = some o → ∃ o0, j ≠ k ∧ look H j = some o0 ∧ o = killB k o0 := by
    intro j o hj
    rw [look_killH] at hj
    cases h0 : look (drop H k) j with
    | none => simp [h0] at hj
    | some o0 =>
      simp [h0] at hj
      by_cases e : j = k
      · subst e; rw [look_drop_self] at h0; cases h0
      · rw [look_drop_ne _ e] at h0; exact ⟨o0, e, h0, hj.symm⟩
  refine ⟨fun j o hj => ?_, fun j j' o o' g sz N sz' N' h1 h2 h3 h4 => ?_⟩
  · obtain ⟨o0, e, h0, rfl⟩ := hl j o hj
    rw [hφ j e]
    rcases h.at_ j o0 h0 with ⟨h1, h2⟩ | ⟨g, N, h1, h2, h3, h4⟩
    · exact .inl ⟨h1, killB_nil k o0 h2⟩
    · exact .inr ⟨g, N, by rw [killB_sz]; exact h1, h2, h3, h4.kill hφ⟩
  · obtain ⟨p, e, h5, rfl⟩ := hl j o h1
    obtain ⟨p', e', h6, rfl⟩ := hl j' o' h2
    rw [hφ j e] at h3; rw [hφ j' e'] at h4
    exact h.inj j j' p p' g sz N sz' N' h5 h6 h3 h4

theorem HeapOK.mono {B : Nat → Prop} (h : HeapOK ok φ H w B) (hok : ∀ b, ok b → ok' b) (hw : ∀ b, ok b → w'.heap[b]? = w.heap[b]?)
    (hg : ∀ k o g sz N, look H k = some o → φ k = some (g, sz, N) → w'.heap[g]? = w.heap[g]? ∧ ¬ ok' g) : HeapOK ok' φ H w' B := by
  refine ⟨fun k o ho => ?_, h.inj⟩
  rcases h.at_ k o ho with h1 | ⟨g, N, h1, h2, h3, h4⟩
  · exact .inl h1
  · exact .inr ⟨g, N, h1, h2, (hg k o g _ N ho h1).2, h4.mono hok hw (hg k o g _ N ho h1).1⟩

theorem HeapOK.lt {B : Nat → Prop} (h : HeapOK ok φ H w B) {k : Nat} {o : HO} {g sz N : Nat} (ho : look H k = some o) (hk : φ k = some (g, sz, N)) : g < w.heap.size ∧ B g ∧ ¬ ok g := by
  rcases h.at_ k o ho with ⟨h1, _⟩ | ⟨g', N', h1, h2, h3, cur, fz, h4, _⟩
  · rw [hk] at h1; cases h1
  · rw [hk] at h1; cases h1
    exact ⟨(Array.getElem?_eq_some_iff.1 h4).1, h2, h3⟩

/-- A new block that nobody will write to. -/
theorem Goes.alloc (h : Holds1 c ok φ σ a w) (cur : Array Value) (e : TypeId) :
    Goes c ok φ w (fun b => ok b ∨ b = w.heap.size) φ σ.h (w.alloc (.cells cur e (0, 0))) none none := by
  have hsame : ∀ b, b < w.heap.size → (w.alloc (.cells cur e (0, 0))).heap[b]? = w.heap[b]? := fun b hb => Below.heap_alloc w _ b hb
  have hB : c.w0.heap.size ≤ w.heap.size := h.below.size
  refine ⟨fun b hb => .inl hb, fun b hb => hsame b (h.okLt b hb), fun _ _ => rfl, ?_, ?_, ?_, h.below.alloc _, fun b hb _ => hsame b hb⟩
  · refine h.heap.mono (fun b hb => .inl hb) (fun b hb => hsame b (h.okLt b hb)) fun k o g sz N ho hk => ?_
    obtain ⟨h1, h2, h3⟩ := h.heap.lt ho hk
    exact ⟨hsame g h1, fun hh => hh.elim h3 (fun e => by omega)⟩
  · intro b hb
    have : (w.alloc (.cells cur e (0, 0))).heap.size = w.heap.size + 1 := Array.size_push _
    rcases hb with hb | hb
    · have := h.okLt b hb; omega
    · omega
  · intro b hb
    rcases hb with hb | hb
    · exact h.okOr b hb
    · exact .inr (.inl (by omega))
end

/-! ### Contracts -/
def Callable (P : Program) (f : FuncId) : Prop := ∃ fn, P.funcs[f]? = some fn ∧ (fn.name == "runtime.NumGoroutine") = false ∧ fn.body.isNone = false

def AV.ren0 (k : Nat) : AV → AV
  | .osl _ o l => .osl k o l
  | .op _ i j => .op k i j
  | x => x
def AV.ren (k : Nat) : AV → AV
  | .tup xs => .tup (xs.map (AV.ren0 k))
  | .big xs => .big (xs.map (AV.ren0 k))
  | x => x.ren0 k

def oneH : Option HO → List (Nat × HO)
  | none => []
  | some o => [(0, o)]
/-- The function, called with such data, returns such a result: data, or owned memory under the name 0. -/
def Spec (P : Program) (f : FuncId) (ds : List AV) (r : AV) (ho : Option HO) : Prop :=
  Callable P f ∧ (∀ o, ho = some o → o.bx = false) ∧ ∀ (ok : Nat → Prop) (w : World) (vs : List Value), (∀ b, ok b → b < w.heap.size) → Pts (DRep ok w) vs ds →
    Calls P f vs.toArray w fun e w' => ∃ v ok' φ, e = .returned v ∧ Below w.heap.size w w' ∧ (∀ b, ok b → ok' b) ∧
      (∀ b, ok' b → b < w'.heap.size ∧ (ok b ∨ w.heap.size ≤ b)) ∧ R1 ok' φ w' v r ∧ (∀ k, r.names k = true → k = 0 ∧ ho.isSome = true) ∧
      HeapOK ok' φ (oneH ho) w' (fun g => w.heap.size ≤ g)


section
variable {ok ok' : Nat → Prop} {φ φ' : Names} {w w' : World} {v u : Value} {P : Program} {c : Ctx} {σ : St} {a : Act} {H H' : List (Nat × HO)} {kill : Option Nat} {y : AV}

theorem ren0_R0 {x : AV} {d : Nat} (h : R0 ok φ w v x) (hk : ∀ k, x.names0 k = true → φ' d = φ k) : R0 ok φ' w v (x.ren0 d) := by
  cases x <;> first | exact h | skip
  case osl k o l =>
    rcases h with h | ⟨g, sz, N, cap, h1, h2⟩
    · exact .inl h
    · exact .inr ⟨g, sz, N, cap, by rw [hk k (by simp [AV.names0])]; exact h1, h2⟩
  case op k i j =>
    obtain ⟨g, sz, N, h1, h2⟩ := h
    exact ⟨g, sz, N, by rw [hk k (by simp [AV.names0])]; exact h1, h2⟩

theorem ren_R1 {x : AV} {d : Nat} (h : R1 ok φ w v x) (hk : ∀ k, x.names k = true → φ' d = φ k) (hf : ∀ f caps, x = .fn f caps → ∀ k, x.names k = false) : R1 ok φ' w v (x.ren d) := by
  by_cases hg : ∃ xs, x = .big xs
  · obtain ⟨xs, rfl⟩ := hg
    obtain ⟨vs, rfl, h1, hp⟩ := h
    refine ⟨vs, rfl, h1, by simp [hp.1], fun i v x h1 h2 => ?_⟩
    rw [List.getElem?_map] at h2
    cases hx : xs[i]? with
    | none => simp [hx] at h2
    | some y =>
      simp [hx] at h2; subst h2
      exact ren0_R0 (hp.2 i v y h1 hx) fun k hy => hk k (List.any_eq_true.2 ⟨y, List.mem_of_getElem? hx, hy⟩)
  by_cases ht : ∃ xs, x = .tup xs
  · obtain ⟨xs, rfl⟩ := ht
    obtain ⟨vs, rfl, hp⟩ := h
    refine ⟨vs, rfl, by simp [hp.1], fun i v x h1 h2 => ?_⟩
    rw [List.getElem?_map] at h2
    cases hx : xs[i]? with
    | none => simp [hx] at h2
    | some y =>
      simp [hx] at h2; subst h2
      exact ren0_R0 (hp.2 i v y h1 hx) fun k hy => hk k (List.any_eq_true.2 ⟨y, List.mem_of_getElem? hx, hy⟩)
  · by_cases hfn : ∃ f caps, x = .fn f caps
    · obtain ⟨f, caps, rfl⟩ := hfn
      exact h.mono (fun _ h => h) (fun _ _ => rfl) fun k hk' => by
        have := hf f caps rfl k
        simp only [AV.names] at this; rw [this] at hk'; cases hk'
    · have e : ∀ φ : Names, R1 ok φ w v x = R0 ok φ w v x := by
        intro φ; cases x <;> first | rfl | (exact absurd ⟨_, _, rfl⟩ hfn) | (exact absurd ⟨_, rfl⟩ ht) | (exact absurd ⟨_, rfl⟩ hg)
      have e2 : x.ren d = x.ren0 d := by cases x <;> first | rfl | (exact absurd ⟨_, rfl⟩ ht) | (exact absurd ⟨_, rfl⟩ hg)
      have e3 : ∀ k, x.names0 k = true → x.names k = true := by
        intro k hk'; cases x <;> first | exact hk' | (simp [AV.names0] at hk')
      rw [e] at h
      rw [e2]
      exact R1.of_R0 (ren0_R0 h fun k hk' => hk k (e3 k hk'))

def retH (ho : Option HO) (d : Nat) (H : List (Nat × HO)) : List (Nat × HO) :=
  match ho with
  | none => H
  | some o => put (killH d H) d o
def retK (ho : Option HO) (d : Nat) : Option Nat :=
  match ho with
  | none => none
  | some _ => some d

theorem Holds1.call (h : Holds1 c ok φ σ a w) {f : FuncId} {ds : List AV} {r : AV} {ho : Option HO} (sp : Spec c.P f ds r ho) {vs : List Value} (hargs : Pts (DRep ok w) vs ds) (d : Nat)
    (hfn : ∀ f caps, r = .fn f caps → ∀ k, r.names k = false) :
    Calls c.P f vs.toArray w fun e w' => ∃ v ok' φ', e = .returned v ∧ Goes c ok φ w ok' φ' (retH ho d σ.h) w' (retK ho d) none ∧ R1 ok' φ' w' v (r.ren d) := by
  refine Calls.mono (sp.2.2 ok w vs h.okLt hargs) ?_
  rintro e w' ⟨v, ok', φ1, rfl, hb, hsub, hok', hr, hn, hh⟩
  have hsame : ∀ b, b < w.heap.size → w'.heap[b]? = w.heap[b]? := fun b hb' => hb.block b hb'
  have hB := h.below.size
  have hbel : FrB c.own c.w0 w' := h.below.trans (FrB.of_below hb) fun _ _ e => e.elim
  have hold : ∀ k o g sz N, look σ.h k = some o → φ k = some (g, sz, N) → w'.heap[g]? = w.heap[g]? ∧ ¬ ok' g := by
    intro k o g sz N ho hk
    obtain ⟨h1, h2, h3⟩ := h.heap.lt ho hk
    refine ⟨hsame g h1, fun hg => ?_⟩
    rcases (hok' g hg).2 with h4 | h4
    · exact h3 h4
    · omega
  have hor : ∀ b, ok' b → c.ok0 b ∨ c.mine b := fun b hb' => by
    rcases (hok' b hb').2 with h4 | h4
    · exact h.okOr b h4
    · exact .inr (.inl (by omega))
  have hheap0 := h.heap.mono hsub (fun b hb' => hsame b (h.okLt b hb')) hold
  cases ho with
  | none =>
    refine ⟨v, ok', φ, rfl, ⟨hsub, fun b hb' => hsame b (h.okLt b hb'), fun _ _ => rfl, hheap0, fun b hb' => (hok' b hb').1, hor, hbel, fun b hb _ => hsame b hb⟩, ?_⟩
    exact ren_R1 hr (fun k hk => by have := (hn k hk).2; simp at this) hfn
  | some o =>
    refine ⟨v, ok', fun k => if k = d then φ1 0 else φ k, rfl, ⟨hsub, fun b hb' => hsame b (h.okLt b hb'), fun k hk => ?_, ?_, fun b hb' => (hok' b hb').1, hor, hbel, fun b hb _ => hsame b hb⟩, ?_⟩
    · have : k ≠ d := fun e => hk (by simp [retK, e])
      simp [this]
    · have h00 := hh.at_ 0 o (by simp [oneH, look])
      have hbx := sp.2.1 o rfl
      have hφ' : ∀ j, j ≠ d → (fun k => if k = d then φ1 0 else φ k) j = φ j := fun j hj => by simp [hj]
      have hK := hheap0.killed (k := d) hφ'
      have hlk : ∀ j, j ≠ d → look (killH d σ.h) j = look (killH d (drop σ.h d)) j := fun j hj => by rw [look_killH, look_killH, look_drop_ne _ hj]
      have hobj : ∀ g N, ObjAt ok' φ1 w' g o.sz N o.e o.bx o.xs → ObjAt ok' (fun k => if k = d then φ1 0 else φ k) w' g o.sz N o.e o.bx o.xs := by
        intro g N hO
        rw [hbx] at hO ⊢
        obtain ⟨cur, fz, a1, a2, a3, a4, a5, a6, a7⟩ := hO
        exact ⟨cur, fz, a1, a2, a3, a4, a5, a6, a7⟩
      refine ⟨fun k o' hk => ?_, ?_⟩
      · by_cases e : k = d
        · subst e
          rw [retH, look_put_self] at hk; cases hk
          simp only [if_true]
          rcases h00 with h1 | ⟨g, N, h1, h2, h3, h4⟩
          · exact .inl h1
          · exact .inr ⟨g, N, h1, .inl (by omega), h3, hobj g N h4⟩
        · rw [retH, look_put_ne _ _ e, hlk k e] at hk
          exact hK.at_ k o' hk
      · intro k k' o1 o2 g sz N sz' N' h1 h2 h3 h4
        have new : ∀ {g sz N}, φ1 0 = some (g, sz, N) → w.heap.size ≤ g := by
          intro g sz N hg
          rcases h00 with ⟨h1, _⟩ | ⟨g', N', h1, h2, _⟩
          · rw [hg] at h1; cases h1
          · rw [hg] at h1; cases h1; exact h2
        by_cases e : k = d
        · by_cases e' : k' = d
          · rw [e, e']
          · exfalso
            simp only [e, if_true] at h3
            simp only [e', if_false] at h4
            rw [retH, look_put_ne _ _ e', look_killH] at h2
            cases h0 : look σ.h k' with
            | none => simp [h0] at h2
            | some q =>
              have := (h.heap.lt h0 h4).1
              have := new h3
              omega
        · by_cases e' : k' = d
          · exfalso
            simp only [e', if_true] at h4
            simp only [e, if_false] at h3
            rw [retH, look_put_ne _ _ e, look_killH] at h1
            cases h0 : look σ.h k with
            | none => simp [h0] at h1
            | some q =>
              have := (h.heap.lt h0 h3).1
              have := new h4
              omega
          · simp only [e, if_false] at h3
            simp only [e', if_false] at h4
            rw [retH, look_put_ne _ _ e, look_killH] at h1
            rw [retH, look_put_ne _ _ e', look_killH] at h2
            cases h0 : look σ.h k with
            | none => simp [h0] at h1
            | some q => cases h0' : look σ.h k' with
              | none => simp [h0'] at h2
              | some q' => exact h.heap.inj k k' q q' g sz N sz' N' h0 h0' h3 h4
    · exact ren_R1 hr (fun k hk => by rw [(hn k hk).1]; simp) hfn
end
end Go.Ideal

/- A region's operations, one after the other, over abstract states. -/
set_option linter.unusedVariables false
set_option linter.unusedSimpArgs false
namespace Go.Ideal
open Go.RowKit

def flagOf (b : Bool) : AV → Option Bool
  | .bool t => some (t == b)
  | .opt f (.bool t) => some (f && (t == b))
  | _ => none
def gflag (ops : Array Oper) (σ : St) (o : Oper) : Option Bool :=
  match o.guard with
  | none => some true
  | some (j, b) =>
    match (ops[j]?).bind (·.dst) with
    | some d => flagOf b (σ.look1 d)
    | none => none
def gval (o : Oper) (g : Bool) (y : AV) : AV :=
  match o.guard with
  | none => y
  | some _ => .opt g y

def TL (c : Ctx) (ops : Array Oper) (N : St → Prop) (E : Nat → St → Prop) (R : St → Prop) (rest : List Oper) (σ : St) : Prop :=
  ∀ a w, Holds c σ a w → wpList c.P ops (PQ c N E R) rest a w

section
variable {ok ok' : Nat → Prop} {φ φ' : Names} {w w' : World} {v u : Value} {P : Program} {c : Ctx} {σ : St} {a : Act} {y : AV}
  {ops : Array Oper} {N : St → Prop} {E : Nat → St → Prop} {R : St → Prop} {rest : List Oper} {o : Oper} {g : Bool}

theorem T.region {id : Nat} (h : TL c ops N E R ops.toList σ) : T c (.region id ops false) N E R σ := fun a w ha => wp_region_list (h a w ha)
theorem TL.nil (h : N σ) : TL c ops N E R [] σ := fun a w ha => wpList_nil ⟨σ, h, ha⟩

theorem Holds1.at (h : Holds1 c ok φ σ a w) {d : Nat} (hd : σ.look1 d ≠ .junk) : ∃ v, a.tmps[d]? = some v ∧ R2 ok φ w v (σ.look1 d) := by
  by_cases ht : d < σ.s.length
  · obtain ⟨v, hv, hr⟩ := h.slots.get (i := d) (x := σ.look1 d) (getD_some ht)
    exact ⟨v, by simpa using hv, hr⟩
  · exact absurd (by simp [St.look1, List.getD, ht]) hd

theorem wanted_eq (h : Holds1 c ok φ σ a w) (hg : gflag ops σ o = some g) : Region.wanted o (yielded ops a.tmps) = g := by
  unfold gflag at hg
  unfold Region.wanted
  split at hg
  · rename_i e; rw [e]; simpa using hg
  · rename_i j b e
    rw [e]
    simp only
    split at hg
    · rename_i d hd
      unfold yielded
      rw [hd]
      simp only [Option.bind_some]
      unfold flagOf at hg
      split at hg
      · rename_i t ht
        obtain ⟨v, hv, hr⟩ := h.at (d := d) (by rw [ht]; simp)
        rw [ht] at hr
        cases hr
        simp only [hv]
        cases t <;> cases b <;> simp at hg ⊢ <;> exact hg
      · rename_i f t ht
        obtain ⟨v, hv, hr⟩ := h.at (d := d) (by rw [ht]; simp)
        rw [ht] at hr
        cases f with
        | true =>
          have hr := hr.1 rfl
          cases hr
          simp only [hv]
          cases t <;> cases b <;> simp at hg ⊢ <;> exact hg
        | false =>
          rw [hr.2 rfl] at hv
          simp only [hv, undef]
          simpa using hg
      · cases hg
    · cases hg

theorem gval_R2 (hg : g = true) (h : R1 ok φ w v y) : R2 ok φ w v (gval o g y) := by
  unfold gval
  split
  · exact R2.of_R1 h
  · exact ⟨fun _ => h, fun e => by rw [hg] at e; cases e⟩
theorem gval_undef (hg : g = false) (hn : gflag ops σ o = some g) : R2 ok φ w undef (gval o g y) := by
  unfold gval
  split
  · rename_i e; simp [gflag, e, hg] at hn
  · exact ⟨(fun e => by rw [hg] at e; cases e), fun _ => rfl⟩

theorem TL.pure (hg : gflag ops σ o = some g) (hc : (ev c.P σ g o.op).1) (h : TL c ops N E R rest ⟨setO σ.s o.dst (gval o g (ev c.P σ g o.op).2), σ.h⟩) :
    TL c ops N E R (o :: rest) σ := by
  rintro a w ⟨ok, φ, ha⟩
  have hw := wanted_eq ha hg
  unfold wpList
  rw [hw]
  cases g with
  | true =>
    simp only [if_true]
    obtain ⟨v, hv, hr⟩ := ev_sound ha rfl o hc
    refine .inl ?_
    unfold Oper.wp
    rw [hv w (.inr rfl)]
    exact h _ _ ⟨ok, φ, ha.goes (Goes.refl ha) (gval_R2 rfl hr)⟩
  | false =>
    simp only [Bool.false_eq_true, if_false]
    exact h _ _ ⟨ok, φ, ha.goes (Goes.refl ha) (gval_undef rfl hg)⟩

def AV.data : AV → Bool
  | .fn _ caps => caps.all AV.data0
  | .tup _ => false
  | .big _ => false
  | x => x.data0

theorem R1.data {x : AV} (h : R1 ok φ w v x) (hd : x.data = true) : DRep ok w v x := by
  by_cases hfn : ∃ f caps, x = .fn f caps
  · obtain ⟨f, caps, rfl⟩ := hfn
    obtain ⟨vs, rfl, hp⟩ := h
    refine .fn f vs caps hp.1 fun i v x h1 h2 => (hp.2 i v x h1 h2).data ?_
    exact List.all_eq_true.1 hd x (List.mem_of_getElem? h2)
  · by_cases ht : ∃ xs, x = .tup xs
    · obtain ⟨xs, rfl⟩ := ht; simp [AV.data] at hd
    · have e : R1 ok φ w v x = R0 ok φ w v x := by
        cases x <;> first | rfl | (exact absurd ⟨_, _, rfl⟩ hfn) | (exact absurd ⟨_, rfl⟩ ht) | (simp [AV.data] at hd; done)
      have e2 : x.data = x.data0 := by cases x <;> first | rfl | (exact absurd ⟨_, _, rfl⟩ hfn) | (exact absurd ⟨_, rfl⟩ ht) | (simp [AV.data] at hd; done)
      rw [e] at h; rw [e2] at hd
      exact h.data hd

/-- Operands that are given away: data. -/
def argsOf (σ : St) (g : Bool) : List Operand → Prop × List AV
  | [] => (True, [])
  | x :: xs => ((σ.get g x).1 ∧ (g = true → (σ.get g x).2.data = true) ∧ (argsOf σ g xs).1, (σ.get g x).2 :: (argsOf σ g xs).2)

theorem argsOf_sound (h : Holds1 c ok φ σ a w) : ∀ xs : List Operand, (argsOf σ true xs).1 → Pts (DRep ok w) (xs.map a.eval) (argsOf σ true xs).2
  | [], _ => Pts.nil
  | x :: xs, hx => Pts.cons ((h.get rfl hx.1).data (hx.2.1 rfl)) (argsOf_sound h xs hx.2.2)

/-- A function without a body of its own, that only computes. -/
def XSpec (P : Program) (f : FuncId) (ds : List AV) (r : AV) : Prop :=
  ∀ (ok : Nat → Prop) (w : World) (vs : List Value), Pts (DRep ok w) vs ds → ∃ v, (callFunc f vs.toArray).run P w = .ok (.value v) w ∧ DRep ok w v r
/-- A call: some contract fits, and the rest goes on with its result. -/
def CallK (P : Program) (f : FuncId) (ds : List AV) (g u : Bool) (K : AV → Option HO → Prop) : Prop :=
  ∃ r ho, (g = true → Spec P f ds r ho ∨ (ho = none ∧ XSpec P f ds r ∧ r.data = true)) ∧ (u = true ∨ ho = none) ∧ (∀ f caps, r = .fn f caps → ∀ k, r.names k = false) ∧ K r ho

theorem exec_call {cl : Call} {x : Operand} {f : FuncId} {caps : List Value} (hcal : cl.callee = .value x) (hx : a.eval x = .func (.func f) #[] caps.toArray) (hf : Callable P f) (w : World) (hop : o.op = .call cl) :
    (execOp a.eval o).run P w = .ok (.enter f (cl.args.toList.map a.eval ++ caps).toArray) w := by
  obtain ⟨fn, h1, h2, h3⟩ := hf
  simp only [execOp, hop, resolve, hcal, hx, Deferred.ofValue]
  have h2' : fn.name ≠ "runtime.NumGoroutine" := by simpa using h2
  have h3' : fn.body ≠ none := by intro e; rw [e] at h3; cases h3
  simp [invoke, callFunc, h1, h2', h3']

theorem exec_xcall {cl : Call} {x : Operand} {f : FuncId} {caps : List Value} (hcal : cl.callee = .value x) (hx : a.eval x = .func (.func f) #[] caps.toArray) (w : World) (hop : o.op = .call cl) {v : Value}
    (h : (callFunc f (cl.args.toList.map a.eval ++ caps).toArray).run P w = .ok (.value v) w) : (execOp a.eval o).run P w = .ok (.value v) w := by
  have e : (cl.args.toList.map a.eval ++ caps).toArray = cl.args.map a.eval ++ caps.toArray := by simp
  rw [e] at h
  rw [← h]
  simp only [execOp, hop, resolve, hcal, hx, Deferred.ofValue]
  simp [invoke]

theorem ren_data {x : AV} (h : x.data = true) (d : Nat) : x.ren d = x := by
  cases x <;> first | rfl | (simp [AV.data, AV.data0] at h)

theorem T.cond {x : Operand} {thn els : Code} {b : Bool} (h1 : (σ.get true x).1) (hx : (σ.get true x).2 = .bool b) (ht : b = true → T c thn N E R σ) (hf : b = false → T c els N E R σ) : T c (.cond x thn els) N E R σ := by
  rintro a w ⟨ok, φ, ha⟩
  have := ha.get rfl h1
  rw [hx] at this
  exact wp_cond_split this.bool_inv (fun e => ht e a w ⟨ok, φ, ha⟩) (fun e => hf e a w ⟨ok, φ, ha⟩)

theorem no_mine {P : Program} {w : World} {ok : Nat → Prop} {b : Nat} (h : (⟨P, w, ok, noB⟩ : Ctx).mine b) : w.heap.size ≤ b := h.elim id fun e => e.elim
/-- The result lies in slot t: data, or owned memory. -/
structure Fin (t : Nat) (r : AV) (ho : Option HO) (σ : St) : Prop where
  lt : t < σ.s.length
  opt : strip (σ.look1 t) = σ.look1 t
  eq : (σ.look1 t).ren 0 = r
  own : ∃ k, (∀ j, (σ.look1 t).names j = true → j = k) ∧ (∀ o, ho = some o → look σ.h k = some o)
  fn : ∀ f caps, σ.look1 t = .fn f caps → ∀ k, (σ.look1 t).names k = false
  names : ∀ j, r.names j = true → j = 0 ∧ ho.isSome = true

def hoOK : Option HO → Bool
  | none => true
  | some o => !o.bx
theorem hoOK_inv {ho : Option HO} (h : hoOK ho = true) : ∀ o, ho = some o → o.bx = false := by
  intro o e; subst e; simpa [hoOK] using h

theorem Spec.of_T {f : FuncId} {fn : Func} {code : Code} {t : Nat} {ds : List AV} {r : AV} {ho : Option HO} (hbx : hoOK ho = true) (hf : P.funcs[f]? = some fn) (hn : (fn.name == "runtime.NumGoroutine") = false)
    (hb : fn.body = some code) (hres : fn.results = #[.tmp t])
    (h : ∀ w ok, T ⟨P, w, ok, noB⟩ code (Fin t r ho) (fun _ _ => False) (Fin t r ho) ⟨ds ++ List.replicate (fn.ntmps - ds.length) .junk, []⟩) : Spec P f ds r ho := by
  refine ⟨⟨fn, hf, hn, by rw [hb]; rfl⟩, hoOK_inv hbx, fun ok w vs hlt hp => ?_⟩
  refine calls_of_wp hf hb ?_
  have hst : Holds ⟨P, w, ok, noB⟩ ⟨ds ++ List.replicate (fn.ntmps - ds.length) .junk, []⟩ { tmps := vs.toArray ++ Array.replicate (fn.ntmps - vs.toArray.size) undef, defers := [] } w := by
    refine ⟨ok, fun _ => none, rfl, ?_, ⟨by simp [look], by simp [look]⟩, hlt, fun b hb => .inl hb, fun b hb => hb, FrB.refl _ _⟩
    have e : (vs.toArray ++ Array.replicate (fn.ntmps - vs.toArray.size) undef).toList = vs ++ List.replicate (fn.ntmps - ds.length) undef := by
      simp [hp.1]
    rw [e]
    refine (hp.mono fun v x hx => R2.of_data hx).append ⟨by simp, fun i v x h1 h2 => ?_⟩
    have h1 := List.eq_of_mem_replicate (List.mem_of_getElem? h1)
    have h2 := List.eq_of_mem_replicate (List.mem_of_getElem? h2)
    subst h1 h2
    trivial
  have key : ∀ (a : Act) (w' : World), (∃ σ, Fin t r ho σ ∧ Holds ⟨P, w, ok, noB⟩ σ a w') → a.defers = [] ∧ ∃ v, (results fn a.tmps).run P w' = .ok v w' ∧ (∃ v' ok' φ, Ending.returned v = .returned v' ∧ Below w.heap.size w w' ∧ (∀ b, ok b → ok' b) ∧
      (∀ b, ok' b → b < w'.heap.size ∧ (ok b ∨ w.heap.size ≤ b)) ∧ R1 ok' φ w' v' r ∧ (∀ k, r.names k = true → k = 0 ∧ ho.isSome = true) ∧
      HeapOK ok' φ (oneH ho) w' (fun g => w.heap.size ≤ g)) := by
    rintro a w' ⟨σ, hF, ok', φ, hh⟩
    refine ⟨hh.defers, a.tmps.getD t undef, results_tmp hres a.tmps P w', a.tmps.getD t undef, ok', ?_⟩
    obtain ⟨k, hk1, hk2⟩ := hF.own
    obtain ⟨v, hv, hr⟩ := hh.slots.get (i := t) (x := σ.look1 t) (getD_some hF.lt)
    have e : a.tmps.getD t undef = v := by
      rw [Array.getElem?_toList] at hv
      simp [Array.getD_eq_getD_getElem?, hv]
    rw [e]
    have hr1 : R1 ok' φ w' v (σ.look1 t) := by
      have := hF.opt
      generalize σ.look1 t = x at *
      cases x <;> first | exact hr | skip
      case opt b y =>
        simp only [strip] at this
        exact absurd (congrArg SizeOf.sizeOf this) (by simp)
    refine ⟨fun j => if j = 0 then φ k else none, rfl, FrB.below hh.below, hh.ok0, fun b hb => ⟨hh.okLt b hb, (hh.okOr b hb).imp_right no_mine⟩, ?_, hF.names, ?_⟩
    · rw [← hF.eq]
      exact ren_R1 hr1 (fun j hj => by simp [hk1 j hj]) hF.fn
    · cases ho with
      | none => exact ⟨by simp [oneH, look], by simp [oneH, look]⟩
      | some o =>
        have ho := hk2 o rfl
        refine ⟨fun j o' hj => ?_, fun j j' o1 o2 g sz N sz' N' h1 h2 _ _ => ?_⟩
        · simp only [oneH, look] at hj
          split at hj
          · rename_i e; subst e; cases hj
            simp only [if_true]
            rcases hh.heap.at_ k o ho with h1 | ⟨g, N, h1, h2, h3, h4⟩
            · exact .inl h1
            · refine .inr ⟨g, N, h1, no_mine h2, h3, ?_⟩
              have hb0 := hoOK_inv hbx o rfl
              rw [hb0] at h4 ⊢
              obtain ⟨cur, fz, a1, a2, a3, a4, a5, a6, a7⟩ := h4
              exact ⟨cur, fz, a1, a2, a3, a4, a5, a6, a7⟩
          · cases hj
        · simp only [oneH, look] at h1 h2
          split at h1
          · split at h2
            · omega
            · cases h2
          · cases h1
  refine wp_mono (h w ok _ w hst) fun e a' w' q => ?_
  cases e with
  | normal => exact key a' w' q
  | ret => exact key a' w' q
  | exit i => obtain ⟨σ, h1, _⟩ := q; exact h1.elim
  | _ => exact q.elim

/-! A function that takes owned memory over. -/
def ownOf (φ : Names) (k : Nat) (b : Nat) : Prop := ∃ sz N, φ k = some (b, sz, N)
def oneN (φ : Names) (k : Nat) : Names := fun j => if j = 0 then φ k else none
def SpecO (P : Program) (f : FuncId) (o : HO) (ds : List AV) (r : AV) (o' : HO) : Prop :=
  Callable P f ∧ o.bx = false ∧ o'.bx = false ∧ ∀ (ok : Nat → Prop) (φ : Names) (w : World) (vs : List Value), (∀ b, ok b → b < w.heap.size) → (∀ j, j ≠ 0 → φ j = none) →
    HeapOK ok φ [(0, o)] w (fun _ => True) → Pts (R0 ok φ w) vs ds →
    Calls P f vs.toArray w fun e w' => ∃ v ok' φ', e = .returned v ∧ FrB (ownOf φ 0) w w' ∧ (∀ b, ok b → ok' b) ∧
      (∀ b, ok' b → b < w'.heap.size ∧ (ok b ∨ w.heap.size ≤ b ∨ ownOf φ 0 b)) ∧ R1 ok' φ' w' v r ∧ (∀ k, r.names k = true → k = 0) ∧
      HeapOK ok' φ' [(0, o')] w' (fun g => w.heap.size ≤ g ∨ ownOf φ 0 g)

theorem Holds1.callO (h : Holds1 c ok φ σ a w) {f : FuncId} {ds : List AV} {r : AV} {k : Nat} {o o' : HO} (ho : look σ.h k = some o) (sp : SpecO c.P f o ds r o') {vs : List Value} (hargs : Pts (R0 ok (oneN φ k) w) vs ds)
    (hfn : ∀ f caps, r = .fn f caps → ∀ k, r.names k = false) :
    Calls c.P f vs.toArray w fun e w' => ∃ v ok' φ', e = .returned v ∧ Goes c ok φ w ok' φ' (retH (some o') k σ.h) w' (some k) (some k) ∧ R1 ok' φ' w' v (r.ren k) := by
  obtain ⟨hcal, hbx, hbx', sp⟩ := sp
  have hone : oneN φ k 0 = φ k := by simp [oneN]
  have hown : ∀ b, ownOf (oneN φ k) 0 b ↔ ownOf φ k b := fun b => by simp [ownOf, hone]
  have hobj0 : ∀ (ψ ψ' : Names) (o : HO) (ok : Nat → Prop) (w : World) (g N : Nat), o.bx = false → ObjAt ok ψ w g o.sz N o.e o.bx o.xs → ObjAt ok ψ' w g o.sz N o.e o.bx o.xs := by
    intro ψ ψ' o ok w g N hb hO
    rw [hb] at hO ⊢
    obtain ⟨cur, fz, a1, a2, a3, a4, a5, a6, a7⟩ := hO
    exact ⟨cur, fz, a1, a2, a3, a4, a5, a6, a7⟩
  have hheap1 : HeapOK ok (oneN φ k) [(0, o)] w (fun _ => True) := by
    refine ⟨fun j p hj => ?_, fun j j' p p' g sz N sz' N' h1 h2 _ _ => ?_⟩
    · simp only [look] at hj
      split at hj
      · rename_i e; subst e; cases hj
        rw [hone]
        rcases h.heap.at_ k o ho with h1 | ⟨g, N, h1, h2, h3, h4⟩
        · exact .inl h1
        · exact .inr ⟨g, N, h1, trivial, h3, hobj0 _ _ _ _ _ _ _ hbx h4⟩
      · cases hj
    · simp only [look] at h1 h2
      split at h1
      · split at h2
        · omega
        · cases h2
      · cases h1
  refine Calls.mono (sp ok (oneN φ k) w vs h.okLt (fun j hj => by simp [oneN, hj]) hheap1 hargs) ?_
  rintro e w' ⟨v, ok', φ1, rfl, hb, hsub, hok', hr, hn, hh⟩
  have hmine : ∀ b, ownOf φ k b → b < w.heap.size ∧ c.mine b ∧ ¬ ok b := by
    rintro b ⟨sz, N, hb⟩
    exact h.heap.lt ho hb
  have hsame : ∀ b, b < w.heap.size → ¬ ownOf φ k b → w'.heap[b]? = w.heap[b]? := fun b hb' hn => hb.block b hb' fun e => hn ((hown b).1 e)
  have hB := h.below.size
  have hsameok : ∀ b, ok b → w'.heap[b]? = w.heap[b]? := fun b hb' => hsame b (h.okLt b hb') fun e => (hmine b e).2.2 hb'
  have hold : ∀ j o2 g sz N, look (drop σ.h k) j = some o2 → φ j = some (g, sz, N) → w'.heap[g]? = w.heap[g]? ∧ ¬ ok' g := by
    intro j o2 g sz N hj hφ
    by_cases e : j = k
    · subst e; rw [look_drop_self] at hj; cases hj
    rw [look_drop_ne _ e] at hj
    have hnk : ¬ ownOf φ k g := by
      rintro ⟨sz', N', h1⟩
      exact e (h.heap.inj j k o2 o _ _ _ _ _ hj ho hφ h1)
    obtain ⟨h1, h2, h3⟩ := h.heap.lt hj hφ
    refine ⟨hsame g h1 hnk, fun hg => ?_⟩
    rcases (hok' g hg).2 with h4 | h4 | h4
    · exact h3 h4
    · omega
    · exact hnk ((hown g).1 h4)
  have hor : ∀ b, ok' b → c.ok0 b ∨ c.mine b := fun b hb' => by
    rcases (hok' b hb').2 with h4 | h4 | h4
    · exact h.okOr b h4
    · exact .inr (.inl (by omega))
    · exact .inr (hmine b ((hown b).1 h4)).2.1
  have hdrop : HeapOK ok φ (drop σ.h k) w c.mine := by
    refine ⟨fun j p hj => ?_, fun j j' p p' g sz N sz' N' h1 h2 h3 h4 => ?_⟩
    · by_cases e : j = k
      · subst e; rw [look_drop_self] at hj; cases hj
      · rw [look_drop_ne _ e] at hj; exact h.heap.at_ j p hj
    · by_cases e : j = k
      · subst e; rw [look_drop_self] at h1; cases h1
      · by_cases e' : j' = k
        · subst e'; rw [look_drop_self] at h2; cases h2
        · rw [look_drop_ne _ e] at h1; rw [look_drop_ne _ e'] at h2; exact h.heap.inj j j' p p' g sz N sz' N' h1 h2 h3 h4
  have hheap0 := hdrop.mono hsub hsameok hold
  have hφ' : ∀ j, j ≠ k → (fun j => if j = k then φ1 0 else φ j) j = φ j := fun j hj => by simp [hj]
  have hK := hheap0.killed (k := k) hφ'
  have hlk : ∀ j, j ≠ k → look (killH k σ.h) j = look (killH k (drop (drop σ.h k) k)) j := fun j hj => by rw [look_killH, look_killH, look_drop_ne _ hj, look_drop_ne _ hj]
  have h00 := hh.at_ 0 o' (by simp [look])
  have new : ∀ {g sz N}, φ1 0 = some (g, sz, N) → w.heap.size ≤ g ∨ ownOf φ k g := by
    intro g sz N hg
    rcases h00 with ⟨h1, _⟩ | ⟨g', N', h1, h2, _⟩
    · rw [hg] at h1; cases h1
    · rw [hg] at h1; cases h1; exact h2.imp_right (hown g).1
  have hbel : FrB c.own c.w0 w' := h.below.trans hb fun b hb1 hb2 => by
    rcases (hmine b ((hown b).1 hb2)).2.1 with h4 | h4
    · omega
    · exact h4
  refine ⟨v, ok', fun j => if j = k then φ1 0 else φ j, rfl, ⟨hsub, hsameok, fun j hj => ?_, ⟨fun j p hj => ?_, ?_⟩, fun b hb' => (hok' b hb').1, hor, hbel, fun b hb1 hb2 => ?_⟩, ?_⟩
  · have : j ≠ k := fun e => hj (by rw [e])
    simp [this]
  · by_cases e : j = k
    · subst e
      rw [retH, look_put_self] at hj; cases hj
      simp only [if_true]
      rcases h00 with h1 | ⟨g, N, h1, h2, h3, h4⟩
      · exact .inl h1
      · refine .inr ⟨g, N, h1, ?_, h3, hobj0 _ _ _ _ _ _ _ hbx' h4⟩
        rcases h2 with h2 | h2
        · exact .inl (by omega)
        · exact (hmine g ((hown g).1 h2)).2.1
    · rw [retH, look_put_ne _ _ e, hlk j e] at hj
      exact hK.at_ j p hj
  · have cross : ∀ j g sz N sz' N' q, j ≠ k → look (killH k σ.h) j = some q → φ1 0 = some (g, sz, N) → φ j = some (g, sz', N') → False := by
      intro j g sz N sz' N' q e hj h3 h4
      rw [look_killH] at hj
      cases h0 : look σ.h j with
      | none => simp [h0] at hj
      | some p =>
        rcases new h3 with h5 | ⟨s2, n2, h5⟩
        · have := (h.heap.lt h0 h4).1; omega
        · exact e (h.heap.inj j k p o _ _ _ _ _ h0 ho h4 h5)
    intro j j' p p' g sz N sz' N' h1 h2 h3 h4
    by_cases e : j = k
    · by_cases e' : j' = k
      · rw [e, e']
      · exfalso
        simp only [e, if_true] at h3
        simp only [e', if_false] at h4
        rw [retH, look_put_ne _ _ e'] at h2
        exact cross j' g sz N sz' N' p' e' h2 h3 h4
    · by_cases e' : j' = k
      · exfalso
        simp only [e', if_true] at h4
        simp only [e, if_false] at h3
        rw [retH, look_put_ne _ _ e] at h1
        exact cross j g sz' N' sz N p e h1 h4 h3
      · simp only [e, if_false] at h3
        simp only [e', if_false] at h4
        rw [retH, look_put_ne _ _ e, look_killH] at h1
        rw [retH, look_put_ne _ _ e', look_killH] at h2
        cases h0 : look σ.h j with
        | none => simp [h0] at h1
        | some q => cases h0' : look σ.h j' with
          | none => simp [h0'] at h2
          | some q' => exact h.heap.inj j j' q q' g sz N sz' N' h0 h0' h3 h4
  · exact hsame b hb1 fun ⟨sz, N, e⟩ => hb2 k sz N rfl e
  · exact ren_R1 hr (fun j hj => by rw [hn j hj]; simp) hfn

theorem SpecO.of_T {f : FuncId} {fn : Func} {code : Code} {t : Nat} {ds : List AV} {r : AV} {o o' : HO} (hbx : o.bx = false) (hbx' : o'.bx = false) (hf : P.funcs[f]? = some fn) (hn : (fn.name == "runtime.NumGoroutine") = false)
    (hb : fn.body = some code) (hres : fn.results = #[.tmp t])
    (h : ∀ w ok own, T ⟨P, w, ok, own⟩ code (Fin t r (some o')) (fun _ _ => False) (Fin t r (some o')) ⟨ds ++ List.replicate (fn.ntmps - ds.length) .junk, [(0, o)]⟩) : SpecO P f o ds r o' := by
  refine ⟨⟨fn, hf, hn, by rw [hb]; rfl⟩, hbx, hbx', fun ok φ w vs hlt hφ0 hheap hp => ?_⟩
  refine calls_of_wp hf hb ?_
  have hst : Holds ⟨P, w, ok, ownOf φ 0⟩ ⟨ds ++ List.replicate (fn.ntmps - ds.length) .junk, [(0, o)]⟩ { tmps := vs.toArray ++ Array.replicate (fn.ntmps - vs.toArray.size) undef, defers := [] } w := by
    refine ⟨ok, φ, rfl, ?_, ⟨fun j p hj => ?_, hheap.inj⟩, hlt, fun b hb => .inl hb, fun b hb => hb, FrB.refl _ _⟩
    · have e : (vs.toArray ++ Array.replicate (fn.ntmps - vs.toArray.size) undef).toList = vs ++ List.replicate (fn.ntmps - ds.length) undef := by
        simp [hp.1]
      rw [e]
      refine (hp.mono fun v x hx => R2.of_R0 hx).append ⟨by simp, fun i v x h1 h2 => ?_⟩
      have h1 := List.eq_of_mem_replicate (List.mem_of_getElem? h1)
      have h2 := List.eq_of_mem_replicate (List.mem_of_getElem? h2)
      subst h1 h2
      trivial
    · rcases hheap.at_ j p hj with h1 | ⟨g, N, h1, h2, h3⟩
      · exact .inl h1
      · refine .inr ⟨g, N, h1, .inr ?_, h3⟩
        simp only [look] at hj
        split at hj
        · rename_i e; subst e; exact ⟨_, _, h1⟩
        · cases hj
  have key : ∀ (a : Act) (w' : World), (∃ σ, Fin t r (some o') σ ∧ Holds ⟨P, w, ok, ownOf φ 0⟩ σ a w') → a.defers = [] ∧ ∃ v, (results fn a.tmps).run P w' = .ok v w' ∧ (∃ v' ok' φ', Ending.returned v = .returned v' ∧ FrB (ownOf φ 0) w w' ∧ (∀ b, ok b → ok' b) ∧
      (∀ b, ok' b → b < w'.heap.size ∧ (ok b ∨ w.heap.size ≤ b ∨ ownOf φ 0 b)) ∧ R1 ok' φ' w' v' r ∧ (∀ k, r.names k = true → k = 0) ∧
      HeapOK ok' φ' [(0, o')] w' (fun g => w.heap.size ≤ g ∨ ownOf φ 0 g)) := by
    rintro a w' ⟨σ, hF, ok', φ', hh⟩
    refine ⟨hh.defers, a.tmps.getD t undef, results_tmp hres a.tmps P w', a.tmps.getD t undef, ok', ?_⟩
    obtain ⟨k, hk1, hk2⟩ := hF.own
    obtain ⟨v, hv, hr⟩ := hh.slots.get (i := t) (x := σ.look1 t) (getD_some hF.lt)
    have e : a.tmps.getD t undef = v := by
      rw [Array.getElem?_toList] at hv
      simp [Array.getD_eq_getD_getElem?, hv]
    rw [e]
    have hr1 : R1 ok' φ' w' v (σ.look1 t) := by
      have := hF.opt
      generalize σ.look1 t = x at *
      cases x <;> first | exact hr | skip
      case opt b y =>
        simp only [strip] at this
        exact absurd (congrArg SizeOf.sizeOf this) (by simp)
    refine ⟨fun j => if j = 0 then φ' k else none, rfl, hh.below, hh.ok0, fun b hb => ⟨hh.okLt b hb, hh.okOr b hb⟩, ?_, fun j hj => (hF.names j hj).1, ?_⟩
    · rw [← hF.eq]
      exact ren_R1 hr1 (fun j hj => by simp [hk1 j hj]) hF.fn
    · have ho := hk2 o' rfl
      refine ⟨fun j p hj => ?_, fun j j' o1 o2 g sz N sz' N' h1 h2 _ _ => ?_⟩
      · simp only [look] at hj
        split at hj
        · rename_i e; subst e; cases hj
          simp only [if_true]
          rcases hh.heap.at_ k o' ho with h1 | ⟨g, N, h1, h2, h3, h4⟩
          · exact .inl h1
          · refine .inr ⟨g, N, h1, h2, h3, ?_⟩
            rw [hbx'] at h4 ⊢
            obtain ⟨cur, fz, a1, a2, a3, a4, a5, a6, a7⟩ := h4
            exact ⟨cur, fz, a1, a2, a3, a4, a5, a6, a7⟩
        · cases hj
      · simp only [look] at h1 h2
        split at h1
        · split at h2
          · omega
          · cases h2
        · cases h1
  refine wp_mono (h w ok _ _ w hst) fun e a' w' q => ?_
  cases e with
  | normal => exact key a' w' q
  | ret => exact key a' w' q
  | exit i => obtain ⟨σ, h1, _⟩ := q; exact h1.elim
  | _ => exact q.elim
end
end Go.Ideal

