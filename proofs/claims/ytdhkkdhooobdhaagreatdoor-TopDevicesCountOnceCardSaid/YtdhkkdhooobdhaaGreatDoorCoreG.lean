/- One operation at a time, over abstract states: operations without effect. -/
import Derived.Test.YtdhkkdhooobdhaaGreatDoorCoreF
set_option linter.unusedVariables false
set_option linter.unusedSimpArgs false
namespace Go.Ideal
open Go.RowKit

def St.look1 (σ : St) (t : Nat) : AV := σ.s.getD t .junk

def AV.cst (v : Value) : AV :=
  match v with
  | .agg cs => if cs.toList.all Value.oneCell' then AV.ofV v else .val v
  | _ => AV.ofV v

/-- An operand, where the operation takes place if g: when it is known, and what it is. -/
def St.get (σ : St) (g : Bool) : Operand → PA
  | .tmp t => (optOK g (σ.look1 t), strip (σ.look1 t))
  | .const v => (True, AV.cst v)
  | .func f => (True, .fn f [])
  | .global _ => no

def St.getO (σ : St) (g : Bool) : Option Operand → Prop × Option AV
  | none => (True, none)
  | some x => ((σ.get g x).1, some (σ.get g x).2)

def ev (P : Program) (σ : St) (g : Bool) : Op → PA
  | .move x | .assign x => σ.get g x
  | .pick c x y =>
    match (σ.get g c).2 with
    | .bool t => ((σ.get g c).1 ∧ (σ.get (g && t) x).1 ∧ (σ.get (g && !t) y).1, mux t (σ.get (g && t) x).2 (σ.get (g && !t) y).2)
    | _ => no
  | .binOp op t x y _ => ((σ.get g x).1 ∧ (σ.get g y).1 ∧ (g = true → (evBin P t op (σ.get g x).2 (σ.get g y).2).1), (evBin P t op (σ.get g x).2 (σ.get g y).2).2)
  | .unOp op _ x => ((σ.get g x).1 ∧ (g = true → (evUn op (σ.get g x).2).1), (evUn op (σ.get g x).2).2)
  | .load t x => ((σ.get g x).1 ∧ (P.underlying t).isSome = true ∧ szIs P t (P.cellsOf t) ∧ (g = true → (evLoad P σ.h t (σ.get g x).2).1), (evLoad P σ.h t (σ.get g x).2).2)
  | .slice t x lo hi mx => ((σ.get g x).1 ∧ (σ.getO g lo).1 ∧ (σ.getO g hi).1 ∧ (σ.getO g mx).1 ∧ (g = true → (evSliceX P σ.h t (σ.get g x).2 (σ.getO g lo).2 (σ.getO g hi).2 (σ.getO g mx).2).1),
      (evSliceX P σ.h t (σ.get g x).2 (σ.getO g lo).2 (σ.getO g hi).2 (σ.getO g mx).2).2)
  | .indexAddr t x i => ((σ.get g x).1 ∧ (σ.get g i).1 ∧ (g = true → (evIndexAddr P σ.h t (σ.get g x).2 (σ.get g i).2).1), (evIndexAddr P σ.h t (σ.get g x).2 (σ.get g i).2).2)
  | .index t x i => ((σ.get g x).1 ∧ (σ.get g i).1 ∧ (g = true → (evIndex P t (σ.get g x).2 (σ.get g i).2).1), (evIndex P t (σ.get g x).2 (σ.get g i).2).2)
  | .extract x i => ((σ.get g x).1 ∧ (g = true → (evExtract (σ.get g x).2 i).1), (evExtract (σ.get g x).2 i).2)
  | .convert s d x => ((σ.get g x).1 ∧ (g = true → (evConv P s d (σ.get g x).2).1), (evConv P s d (σ.get g x).2).2)
  | .call cl =>
    match cl.callee, cl.args.toList, cl.argTypes.toList with
    | .builtin .len, [x], [t] => ((σ.get g x).1 ∧ (g = true → (evLen P t (σ.get g x).2).1), (evLen P t (σ.get g x).2).2)
    | _, _, _ => no
  | _ => no

/-- It looks at no memory. -/
def wi : Op → Bool
  | .load .. | .convert .. => false
  | _ => true

section
variable {ok : Nat → Prop} {φ : Names} {w : World} {v u : Value} {P : Program} {c : Ctx} {σ : St} {a : Act}

theorem DRep.ofV0 (v : Value) : DRep ok w v (AV.ofV0 v) := by
  unfold AV.ofV0
  split
  · exact .int ..
  · exact .bool _
  · rename_i s; exact (by simpa using DRep.str (ok := ok) (w := w) s.data.toList)
  · exact .slNil _ _ _ _ (fun _ => rfl)
  · exact .atom _ rfl
  · exact .atom _ rfl
  · exact .atom _ rfl
  · exact .val _
theorem R1.ofVfunc (fn : Fn) (fs cs : Array Value) : R1 ok φ w (.func fn fs cs) (AV.ofV (.func fn fs cs)) := by
  cases fn <;> first | exact R1.of_data (.ofV0 _) | skip
  case func f =>
    simp only [AV.ofV]
    by_cases he : (fs.isEmpty && cs.isEmpty) = true
    · rw [if_pos he]
      simp at he
      exact ⟨[], by rw [he.1, he.2], Pts.nil⟩
    · rw [if_neg he]; exact R1.of_data (.val _)
theorem R1.cst (v : Value) : R1 ok φ w v (AV.cst v) := by
  unfold AV.cst
  split
  · rename_i cs
    split
    · rename_i hc
      refine R1.of_data ?_
      simp only [AV.ofV]
      have := DRep.agg (ok := ok) (w := w) cs.toList (cs.toList.map AV.ofV0) (by simp) (fun v hv => by
        exact List.all_eq_true.1 hc v hv) (fun i v x h1 h2 => by
        rw [List.getElem?_map, h1] at h2; simp at h2; subst h2; exact .ofV0 v)
      simpa using this
    · exact R1.of_data (.val _)
  · rename_i hna
    cases v <;> first | exact R1.of_data (.ofV0 _) | skip
    case agg => exact absurd rfl (hna _)
    case func fn fs cs => exact R1.ofVfunc fn fs cs

theorem R1.of_R2 {x : AV} (h : R2 ok φ w v x) {g : Bool} (hg : g = true) (ho : optOK g x) : R1 ok φ w v (strip x) := by
  cases x <;> first | exact h | skip
  exact h.1 (ho hg)

theorem Holds1.get (h : Holds1 c ok φ σ a w) {g : Bool} (hg : g = true) {x : Operand} (hx : (σ.get g x).1) : R1 ok φ w (a.eval x) (σ.get g x).2 := by
  cases x with
  | tmp t =>
    simp only [St.get, Act.eval] at hx ⊢
    by_cases ht : t < σ.s.length
    · obtain ⟨v, hv, hr⟩ := h.slots.get (i := t) (x := σ.look1 t) (getD_some ht)
      have e : a.tmps.getD t undef = v := by
        rw [Array.getElem?_toList] at hv
        simp [Array.getD_eq_getD_getElem?, hv]
      rw [e]; exact R1.of_R2 hr hg hx
    · have : σ.look1 t = .junk := by simp [St.look1, List.getD, ht]
      rw [this]; trivial
  | const v => exact R1.cst v
  | global g => exact hx.elim
  | func f => exact ⟨[], by simp [Act.eval], Pts.nil⟩

theorem Holds1.getO (h : Holds1 c ok φ σ a w) {g : Bool} (hg : g = true) {x : Option Operand} (hx : (σ.getO g x).1) : OptR (R1 ok φ w) (x.map a.eval) (σ.getO g x).2 := by
  cases x with
  | none => trivial
  | some x => exact h.get hg hx

theorem foldl_push (ns : List Int) : ∀ acc : List UInt8, ns.foldl (fun (r : ByteArray) n => r.push (UInt8.ofNat n.toNat)) ⟨acc.toArray⟩ = ⟨(acc ++ ns.map fun n => UInt8.ofNat n.toNat).toArray⟩ := by
  induction ns with
  | nil => intro acc; simp
  | cons n ns ih =>
    intro acc
    have e : (ByteArray.mk acc.toArray).push (UInt8.ofNat n.toNat) = ⟨(acc ++ [UInt8.ofNat n.toNat]).toArray⟩ := by
      apply ByteArray.ext; simp [ByteArray.push]
    rw [List.foldl_cons, e, ih]; simp

theorem isByte_inv {x : AV} (h : x.isByte = true) : ∃ n, x = .int .u8 n ∧ 0 ≤ n ∧ n < 256 := by
  unfold AV.isByte at h
  split at h
  · rename_i n; exact ⟨n, rfl, by simpa using h⟩
  · cases h

theorem flat_bytes {xs : List AV} (h : xs.all AV.isByte = true) : flat xs = xs := by
  induction xs with
  | nil => rfl
  | cons x xs ih =>
    simp only [List.all_cons, Bool.and_eq_true] at h
    obtain ⟨n, rfl, _⟩ := isByte_inv h.1
    rw [flat_cons, ih h.2]; rfl

theorem bytes_vals {xs : List AV} (h : xs.all AV.isByte = true) {vs : List Value} (hp : Pts (DRep ok w) vs xs) :
    ∃ ns : List Int, vs = ns.map (Value.int .u8) ∧ xs.map AV.byte = ns.map fun n => UInt8.ofNat n.toNat := by
  induction xs generalizing vs with
  | nil => rw [hp.nil_inv]; exact ⟨[], rfl, rfl⟩
  | cons x xs ih =>
    simp only [List.all_cons, Bool.and_eq_true] at h
    obtain ⟨n, rfl, _⟩ := isByte_inv h.1
    obtain ⟨v, vs', rfl, hv, hp'⟩ := hp.cons_inv
    obtain ⟨ns, h1, h2⟩ := ih h.2 hp'
    cases hv
    exact ⟨n :: ns, by simp [h1], by simp [h2, AV.byte]⟩

theorem bytes_run {s d e : TypeId} {ex : Bool} {xs : List AV} (hs : P.underlying s = some (.slice e)) (hd : P.underlying d = some .string) (he : P.underlying e = some (.int .u8))
    (hx : DRep ok w v (.sl ex 1 xs)) (hb : xs.all AV.isByte = true) : ∃ r, (convert s d v).run P w = .ok r w ∧ R1 ok φ w r (.str (xs.map AV.byte)) := by
  have hconv : ∀ a n cap, (convert s d (.slice a n cap)).run P w = (Conv.bytesToString (.slice a n cap)).run P w := by
    intro a n cap
    simp [convert, run_underlying hs, run_underlying hd, run_underlying he]
  cases hx with
  | slNil _ _ a cap hc =>
    refine ⟨.string ⟨#[]⟩, ?_, R1.str []⟩
    rw [hconv]
    cases a with
    | none => simp [Conv.bytesToString]; rfl
    | some a => rw [run_bytesToString w a 0 cap [] (by simp [loadCells, loadCellsFrom])]; rfl
  | sl _ b o cap _ _ vs hbk hne hcap hex hsz hl h1 hm hh =>
    have hp : Pts (DRep ok w) vs xs := by
      have e := flat_bytes hb
      rw [e] at hl hh
      exact ⟨hl, hh⟩
    obtain ⟨ns, hv, hm2⟩ := bytes_vals hb hp
    have hlen : vs.length = xs.length := hp.1
    rw [hconv, run_bytesToString w _ xs.length cap ns (by
      rw [← hv, ← hlen]
      exact run_loadCells_list w _ vs (fun j v hj => by rw [addr_add]; exact hm j v hj))]
    refine ⟨_, rfl, ?_⟩
    have := foldl_push ns []
    rw [show ByteArray.empty = ⟨([] : List UInt8).toArray⟩ from rfl, this, hm2]
    exact R1.str _

theorem evConv_sound {x : AV} {s d : TypeId} (hx : R1 ok φ w v x) (h : (evConv P s d x).1) : ∃ r, (convert s d v).run P w = .ok r w ∧ R1 ok φ w r (evConv P s d x).2 := by
  unfold evConv at h ⊢
  split at h
  · rename_i n k1 hs hd
    rw [hx.int_inv]
    refine ⟨.int .u8 (IntKind.u8.wrap n), ?_, ?_⟩
    · simp [convert, run_underlying hs, run_underlying hd, Conv.intToInt]
    · rw [show IntKind.u8.wrap n = n % 256 from rfl]; exact R1.int ..
  · rename_i n k1 hs hd
    rw [hx.int_inv]
    refine ⟨.int .u16 (IntKind.u16.wrap n), ?_, ?_⟩
    · simp [convert, run_underlying hs, run_underlying hd, Conv.intToInt]
    · rw [show IntKind.u16.wrap n = n % 65536 from rfl]; exact R1.int ..
  · rename_i k0 n k1 k _ _ hs hd
    rw [hx.int_inv]
    refine ⟨.int k (k.wrap n), ?_, ?_⟩
    · simp [convert, run_underlying hs, run_underlying hd, Conv.intToInt]
    · rw [show k.wrap n = n from h]; exact R1.int ..
  · rename_i s hs hd
    rw [hx.str_inv]
    exact ⟨_, by simp [convert, run_underlying hs, run_underlying hd], R1.str _⟩
  · rename_i ex xs e hs hd
    obtain ⟨he, hb⟩ := h
    exact bytes_run hs hd he hx.sl_inv hb
  · exact h.elim

theorem mux_sound {t : Bool} {x y : AV} (hx : t = true → R1 ok φ w v x) (hy : t = false → R1 ok φ w v y) : R1 ok φ w v (mux t x y) := by
  have gen : R1 ok φ w v (bif t then x else y) := by
    cases t
    · exact hy rfl
    · exact hx rfl
  unfold mux
  split
  · cases t
    · exact hy rfl
    · exact hx rfl
  · split
    · rename_i hk; subst hk
      cases t
      · exact hy rfl
      · exact hx rfl
    · exact gen
  · cases t
    · exact hy rfl
    · exact hx rfl
  · exact gen

theorem ev_sound (h : Holds1 c ok φ σ a w) {g : Bool} (hg : g = true) (o : Oper) (hc : (ev c.P σ g o.op).1) :
    ∃ v, (∀ w', (wi o.op = true ∨ w' = w) → (execOp a.eval o).run c.P w' = .ok (.value v) w') ∧ R1 ok φ w v (ev c.P σ g o.op).2 := by
  subst hg
  obtain ⟨dst, op, type, pos, after, guard⟩ := o
  simp only at hc ⊢
  unfold ev at hc ⊢
  split at hc
  · exact ⟨_, fun w' _ => by simp [execOp], h.get rfl hc⟩
  · exact ⟨_, fun w' _ => by simp [execOp], h.get rfl hc⟩
  · rename_i cc x y
    split at hc
    · rename_i t ht
      obtain ⟨h1, h2, h3⟩ := hc
      have hb := h.get rfl h1
      rw [ht] at hb
      have hb := hb.bool_inv
      refine ⟨if t then a.eval x else a.eval y, fun w' _ => ?_, ?_⟩
      · cases t <;> simp [execOp, hb, asBool]
      · simp only [ht]
        cases t
        · exact mux_sound (by simp) (fun _ => h.get rfl (by simpa using h3))
        · exact mux_sound (fun _ => h.get rfl (by simpa using h2)) (by simp)
    · exact hc.elim
  · rename_i op t x y yt
    obtain ⟨h1, h2, h3⟩ := hc
    obtain ⟨r, hr, hr1⟩ := evBin_sound (P := c.P) (h.get rfl h1) (h.get rfl h2) (h3 rfl) x y
    exact ⟨r, fun w' _ => by have := hr w'; simp only [execOp, Sem.run_bind] at this ⊢; rw [this]; rfl, hr1⟩
  · obtain ⟨h1, h3⟩ := hc
    obtain ⟨r, hr, hr1⟩ := evUn_sound (P := c.P) (h.get rfl h1) (h3 rfl)
    exact ⟨r, fun w' _ => by have := hr w'; simp [execOp, this], hr1⟩
  · obtain ⟨h1, h4, h5, h3⟩ := hc
    obtain ⟨r, hr, hr1⟩ := evLoad_sound (P := c.P) h.heap (h.get rfl h1) h4 h5 (h3 rfl)
    exact ⟨r, fun w' hw => by
      have e : w' = w := by simpa [wi] using hw
      subst e; simp [execOp, hr], hr1⟩
  · obtain ⟨h1, h4, h5, h6, h3⟩ := hc
    obtain ⟨r, hr, hr1⟩ := evSliceX_sound (P := c.P) h.heap (h.get rfl h1) (h.getO rfl h4) (h.getO rfl h5) (h.getO rfl h6) (h3 rfl)
    exact ⟨r, fun w' _ => by have := hr w'; simp [execOp, this], hr1⟩
  · obtain ⟨h1, h2, h3⟩ := hc
    obtain ⟨r, hr, hr1⟩ := evIndexAddr_sound (P := c.P) h.heap (h.get rfl h1) (h.get rfl h2) (h3 rfl)
    exact ⟨r, fun w' _ => by have := hr w'; simp [execOp, this], hr1⟩
  · obtain ⟨h1, h2, h3⟩ := hc
    obtain ⟨r, hr, hr1⟩ := evIndex_sound (P := c.P) (h.get rfl h1) (h.get rfl h2) (h3 rfl)
    exact ⟨r, fun w' _ => by have := hr w'; simp [execOp, this], hr1⟩
  · obtain ⟨h1, h3⟩ := hc
    obtain ⟨r, hr, hr1⟩ := evExtract_sound (P := c.P) (h.get rfl h1) (h3 rfl)
    exact ⟨r, fun w' _ => by have := hr w'; simp [execOp, this], hr1⟩
  · obtain ⟨h1, h3⟩ := hc
    obtain ⟨r, hr, hr1⟩ := evConv_sound (P := c.P) (h.get rfl h1) (h3 rfl)
    exact ⟨r, fun w' hw => by
      have e : w' = w := by simpa [wi] using hw
      subst e; simp [execOp, hr], hr1⟩
  · rename_i cl
    obtain ⟨callee, args, ats⟩ := cl
    split at hc
    · rename_i x t hcal hargs hats
      simp only at hcal hargs hats
      have ha : args = #[x] := by apply Array.toList_inj.1; simpa using hargs
      have ht : ats = #[t] := by apply Array.toList_inj.1; simpa using hats
      subst ha ht hcal
      obtain ⟨h1, h3⟩ := hc
      obtain ⟨r, hr, hr1⟩ := evLen_sound (P := c.P) (ty := type) (h.get rfl h1) (h3 rfl)
      refine ⟨r, fun w' _ => ?_, hr1⟩
      have := hr w'
      simp [execOp, resolve, invoke, builtin, this]
    · exact hc.elim
  · exact hc.elim
end
end Go.Ideal
