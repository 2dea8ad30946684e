/- A region's operations over abstract states, in the given order or in any; results of several parts. -/
import Derived.Test.YtdhkkdhooobdhaaGreatDoorCoreT
import Derived.OrdersHeld
set_option linter.unusedVariables false
set_option linter.unusedSimpArgs false
namespace Go.Ideal
open Go.RowKit

/-- Names that become data. -/
def keepN : AV → List Nat
  | .osl .. | .op .. | .big .. => []
  | x => x.nm
def storeO (x : AV) : Option HO → List Nat
  | some ⟨_, _, true, _⟩ => keepN x
  | _ => x.nm
def storeN (H : List (Nat × HO)) (x : AV) : AV → List Nat
  | .op k _ _ => storeO x (look H k)
  | _ => x.nm
def loadN (H : List (Nat × HO)) : AV → List Nat
  | .op k _ _ => innO (look H k)
  | _ => []
def convN (σ : St) (x : Operand) : Option TypeDesc → List Nat
  | some .string => σ.nms [x]
  | _ => []
def frzOf (P : Program) (σ : St) : Op → List Nat
  | .buildSlice _ _ parts => σ.nms (parts.toList.map (·.2))
  | .box _ x => keepN (σ.get true x).2
  | .store _ p x => storeN σ.h (σ.get true x).2 (σ.get true p).2
  | .load t x => if aggT P t = true then loadN σ.h (σ.get true x).2 else []
  | .convert _ d x => convN σ x (P.underlying d)
  | .makeInterface _ x => σ.nms [x]
  | .call cl =>
    match cl.callee with
    | .value f => σ.nms (f :: cl.args.toList)
    | .invoke _ _ => σ.nms cl.args.toList
    | .builtin .append => σ.nms (cl.args.toList.drop 1)
    | .builtin .copy => σ.nms (cl.args.toList.drop 1)
    | _ => []
  | _ => []

/-- Is it nil? What is asked, and of which elements. -/
def nilQ (P : Program) (σ : St) (g : Bool) : Op → Option (Bool × Prop × List AV)
  | .binOp .eql t x (.const (.slice none 0 0)) _ =>
    match (σ.get g x).2, P.underlying t with
    | .sl _ _ xs, some (.slice _) => some (true, (σ.get g x).1, xs)
    | _, _ => none
  | _ => none

/-- Some names stay what they are. -/
def okK (H H' : List (Nat × HO)) (kill tch : Option Nat) : List Nat → Prop
  | [] => True
  | k :: ks => kill ≠ some k ∧ tch ≠ some k ∧ ((look H k).isSome = true → (look H' k).isSome = true) ∧ okK H H' kill tch ks
def Step (c : Ctx) (ops : Array Oper) (Kp : List Nat) (σ0 : St) (o : Oper) (K : St → Prop) : Prop :=
  match gflag ops σ0 o with
  | none => False
  | some g =>
    let σ := σ0.frzK (frzOf c.P σ0 o.op)
    match o.op with
    | .call ⟨.value x, args, _⟩ =>
      match (σ.get g x).2, o.dst with
      | .fn f caps, some d => (σ.get g x).1 ∧ caps.all AV.data0 = true ∧ (argsOf σ g args.toList).1 ∧
          CallK c.P f ((argsOf σ g args.toList).2 ++ caps) g o.guard.isNone fun r ho => okK σ.h (retH ho d σ.h) (retK ho d) none Kp ∧ K ⟨(killO (retK ho d) σ.s).set d (gval o g (r.ren d)), retH ho d σ.h⟩
      | _, _ => False
    | .call ⟨.invoke x m, args, _⟩ =>
      match (σ.get g x).2, o.dst with
      | .ifc t y, some d => (match methOf c.P t m with
          | some f => (σ.get g x).1 ∧ (argsOf σ g args.toList).1 ∧
          CallK c.P f (y :: (argsOf σ g args.toList).2) g o.guard.isNone fun r ho => okK σ.h (retH ho d σ.h) (retK ho d) none Kp ∧ K ⟨(killO (retK ho d) σ.s).set d (gval o g (r.ren d)), retH ho d σ.h⟩
          | none => False)
      | _, _ => False
    | op =>
      match effOf3 c.P σ o with
      | some r => (g = true → r.1 ∧ okK σ.h r.2.2.1 r.2.2.2 (touchOf σ op) Kp ∧ K ⟨setO (killO r.2.2.2 σ.s) o.dst (gval o true r.2.1), r.2.2.1⟩) ∧ (g = false → K ⟨setO σ.s o.dst (gval o false .junk), σ.h⟩)
      | none =>
        match nilQ c.P σ g op with
        | some q => q.2.1 ∧ ∀ b, (b = true → q.2.2 = []) → K ⟨setO σ.s o.dst (gval o g (.bool b)), σ.h⟩
        | none => (ev3 c.P σ g op).1 ∧ K ⟨setO σ.s o.dst (gval o g (ev3 c.P σ g op).2), σ.h⟩

def wpStep (P : Program) (ops : Array Oper) (Q : Exit → Act → World → Prop) (o : Oper) (K : Act → World → Prop) (a : Act) (w : World) : Prop :=
  if Region.wanted o (yielded ops a.tmps) then o.wp P a w K Q ∨ (o.asks P a w ∧ LetsOut Q) else K (a.put o.dst undef) w

section
variable {ok ok' : Nat → Prop} {φ φ' : Names} {w w' : World} {v u : Value} {P : Program} {c : Ctx} {σ : St} {a : Act} {y : AV}
  {ops : Array Oper} {N : St → Prop} {E : Nat → St → Prop} {R : St → Prop} {rest : List Oper} {o : Oper} {g : Bool} {Q : Exit → Act → World → Prop}

theorem equal_nil {t e : TypeId} (hu : P.underlying t = some (.slice e)) (ad : Option Addr) (n cap : Nat) (w : World) : (Op.equal t (.slice ad n cap) (.slice none 0 0)).run P w = .ok ad.isNone w := by
  have key : ∀ d, (Op.equalIn (d + 1) t (.slice ad n cap) (.slice none 0 0)).run P w = .ok ad.isNone w := by
    intro d
    unfold Op.equalIn
    cases ad <;> simp [run_underlying hu]
  exact key 9999

theorem nilQ_sound (h : Holds1 c ok φ σ a w) {q : Bool × Prop × List AV} (hq : nilQ c.P σ true o.op = some q) (hc : q.2.1) :
    ∃ b, (b = true → q.2.2 = []) ∧ (execOp a.eval o).run c.P w = .ok (.value (.bool b)) w := by
  obtain ⟨dst, op, type, pos, after, guard⟩ := o
  unfold nilQ at hq
  simp only at hq
  split at hq
  · rename_i t x yt
    split at hq
    · rename_i ex sz xs e hx hu
      cases hq
      have hv := h.get rfl hc
      rw [hx] at hv
      have hk : a.eval (.const (.slice none 0 0)) = .slice none 0 0 := rfl
      rcases hv.sl_inv.sl_cases with ⟨hn, ad, cap, hv', _⟩ | ⟨b, o, cap, hv', _⟩
      · cases ad with
        | none => exact ⟨true, fun _ => hn, by simp [execOp, hv', hk, eqGuard, binOp, equal_nil hu]⟩
        | some ad => exact ⟨false, by simp, by simp [execOp, hv', hk, eqGuard, binOp, equal_nil hu]⟩
      · exact ⟨false, by simp, by simp [execOp, hv', hk, eqGuard, binOp, equal_nil hu]⟩
    · cases hq
  · cases hq

/-- What stays behind a step. -/
def Keeps (Kp : List Nat) (ok : Nat → Prop) (φ : Names) (H : List (Nat × HO)) (w : World) (ok' : Nat → Prop) (φ' : Names) (H' : List (Nat × HO)) (w' : World) : Prop :=
  ∀ b, PB Kp ok φ H b → PB Kp ok' φ' H' b ∧ w'.heap[b]? = w.heap[b]?
theorem okK_mem {H H' : List (Nat × HO)} {kill tch : Option Nat} : ∀ {Kp : List Nat}, okK H H' kill tch Kp → ∀ k ∈ Kp, kill ≠ some k ∧ tch ≠ some k ∧ ((look H k).isSome = true → (look H' k).isSome = true)
  | _ :: _, h, k, hk => by
    rcases List.mem_cons.1 hk with rfl | hk
    · exact ⟨h.1, h.2.1, h.2.2.1⟩
    · exact okK_mem h.2.2.2 k hk
theorem Goes.keeps {Kp : List Nat} {H' : List (Nat × HO)} {kill tch : Option Nat} (h : Holds1 c ok φ σ a w) (g : Goes c ok φ w ok' φ' H' w' kill tch) (hk : okK σ.h H' kill tch Kp)
    (ht : ∀ k, tch = some k → (look σ.h k).isSome = true ∨ φ k = Option.none ∨ True) (ht2 : ∀ k, tch = some k → (look σ.h k).isSome = true) : Keeps Kp ok φ σ.h w ok' φ' H' w' := by
  rintro b (hb | ⟨k, hk', h1, sz, N, h2⟩)
  · exact ⟨.inl (g.sub b hb), g.same b hb⟩
  · obtain ⟨a1, a2, a3⟩ := okK_mem hk k hk'
    obtain ⟨o, ho⟩ := Option.isSome_iff_exists.1 h1
    refine ⟨.inr ⟨k, hk', a3 h1, sz, N, by rw [g.names k a1]; exact h2⟩, g.frame b (h.heap.lt ho h2).1 fun j sz' N' hj hφ => ?_⟩
    obtain ⟨o', ho'⟩ := Option.isSome_iff_exists.1 (ht2 j hj)
    have := h.heap.inj k j o o' _ _ _ _ _ ho ho' h2 hφ
    subst this
    exact a2 hj

/-- Whose memory is written to is there. -/
theorem touch_some {r : EffR} {o : Oper} (hr : effOf3 P σ o = some r) (hc : r.1) : ∀ k, touchOf σ o.op = some k → (look σ.h k).isSome = true := by
  intro k hk
  obtain ⟨dst, op, type, pos, after, guard⟩ := o
  have nm : ∀ x : AV, x.nameOf = some k → (∃ i j, x = .op k i j) ∨ (∃ i j, x = .osl k i j) := by
    intro x hx
    cases x <;> simp [AV.nameOf] at hx
    · subst hx; exact .inr ⟨_, _, rfl⟩
    · subst hx; exact .inl ⟨_, _, rfl⟩
  cases op <;> simp only [touchOf] at hk <;> first | cases hk | skip
  case store t p x =>
    simp only [effOf3, effOf] at hr
    cases hr
    obtain ⟨_, _, h3⟩ := hc
    rcases nm _ hk with ⟨i, j, e⟩ | ⟨i, j, e⟩
    · rw [e] at h3
      simp only [evStore] at h3
      cases ho : look σ.h k with
      | none => simp [ho, noE] at h3
      | some o => rfl
    · rw [e] at h3; exact h3.elim
  case convert s d x =>
    simp only [effOf3, effOf] at hr
    rcases nm _ hk with ⟨i, j, e⟩ | ⟨i, j, e⟩
    · rw [e] at hr; simp at hr
    · rw [e] at hr
      split at hr
      · rename_i h1 h2 h3; cases h1; cases hr; exact hc.2.2.2.2
      · rename_i e1 _ _; cases e1
      · cases hr
  case call cl =>
    obtain ⟨callee, args, ats⟩ := cl
    simp only at hk
    split at hk
    · rename_i x rest hargs
      simp only [effOf3] at hr
      split at hr
      · rename_i x' y t u _ h2 h3
        cases hr
        rw [hargs] at h2
        cases h2
        obtain ⟨_, _, h3⟩ := hc
        rcases nm _ hk with ⟨i, j, e⟩ | ⟨i, j, e⟩
        · rw [e] at h3; simp only [evApp3] at h3; unfold evApp at h3; split at h3 <;> exact h3.elim
        · rw [e] at h3
          simp only [evApp3] at h3
          unfold evApp at h3
          split at h3
          · cases ho : look σ.h k with
            | none => simp [ho, noE] at h3
            | some o => rfl
          · exact h3.elim
      · rename_i h2 _ _; cases h2
      · simp only [effOf] at hr
        first
        | (cases hr; done)
        | (split at hr <;> first | (cases hr; done) | simp_all)
    · rename_i x rest hargs
      simp only [effOf3] at hr
      split at hr
      · rename_i h2 _ _; cases h2
      · rename_i x' y t u _ h2 h3
        cases hr
        rw [hargs] at h2
        cases h2
        obtain ⟨_, _, h3⟩ := hc
        rcases nm _ hk with ⟨i, j, e⟩ | ⟨i, j, e⟩
        · rw [e] at h3; unfold evCopy at h3; split at h3 <;> exact h3.elim
        · rw [e] at h3
          unfold evCopy at h3
          split at h3
          · cases ho : look σ.h k with
            | none => simp [ho, noE] at h3
            | some o => rfl
          · exact h3.elim
      · simp only [effOf] at hr
        first
        | (cases hr; done)
        | (split at hr <;> first | (cases hr; done) | simp_all)
    · cases hk

theorem exec_inv {cl : Call} {x : Operand} {m : String} {t : TypeId} {y : Value} {f : FuncId} (hcal : cl.callee = .invoke x m) (hx : a.eval x = .iface t y) (hm : methOf P t m = some f) (hf : Callable P f) (w : World) (hop : o.op = .call cl) :
    (execOp a.eval o).run P w = .ok (.enter f (y :: cl.args.toList.map a.eval).toArray) w := by
  obtain ⟨fn, h1, h2, h3⟩ := hf
  have h2' : fn.name ≠ "runtime.NumGoroutine" := by simpa using h2
  have h3' : fn.body ≠ none := by intro e; rw [e] at h3; cases h3
  have := run_method hm (P.types.size + 99) y w
  rw [show P.types.size + 99 + 1 = P.types.size + 100 from rfl] at this
  have e0 : (#[Value.iface t y] ++ cl.args.map a.eval)[0]? = some (.iface t y) := by rw [← Array.getElem?_toList]; simp
  have e2 : (cl.args.map a.eval).extract 0 cl.args.size = cl.args.map a.eval := by apply Array.toList_inj.1; simp; exact List.take_of_length_le (by simp)
  have e : #[y] ++ cl.args.map a.eval = (y :: cl.args.toList.map a.eval).toArray := by simp
  simp [execOp, hop, resolve, hcal, hx, invoke, callMethod, Made.depth, e0, e2, this, callFunc, h1, h2', h3', e]
theorem exec_xinv {cl : Call} {x : Operand} {m : String} {t : TypeId} {y : Value} {f : FuncId} (hcal : cl.callee = .invoke x m) (hx : a.eval x = .iface t y) (hm : methOf P t m = some f) (w : World) (hop : o.op = .call cl) {v : Value}
    (h : (callFunc f (y :: cl.args.toList.map a.eval).toArray).run P w = .ok (.value v) w) : (execOp a.eval o).run P w = .ok (.value v) w := by
  have := run_method hm (P.types.size + 99) y w
  rw [show P.types.size + 99 + 1 = P.types.size + 100 from rfl] at this
  have e0 : (#[Value.iface t y] ++ cl.args.map a.eval)[0]? = some (.iface t y) := by rw [← Array.getElem?_toList]; simp
  have e2 : (cl.args.map a.eval).extract 0 cl.args.size = cl.args.map a.eval := by apply Array.toList_inj.1; simp; exact List.take_of_length_le (by simp)
  have e : #[y] ++ cl.args.map a.eval = (y :: cl.args.toList.map a.eval).toArray := by simp
  simp [execOp, hop, resolve, hcal, hx, invoke, callMethod, Made.depth, e0, e2, this, e, h]
theorem Step.sound {K : St → Prop} {Kp : List Nat} (hs : Step c ops Kp σ o K) (h0 : Holds1 c ok φ σ a w) : wpStep c.P ops Q o (fun a w' => ∃ σ' ok' φ', K σ' ∧ Holds1 c ok' φ' σ' a w' ∧ Keeps Kp ok φ σ.h w ok' φ' σ'.h w') a w := by
  unfold Step at hs
  split at hs
  · exact hs.elim
  rename_i g hg
  have hw := wanted_eq h0 hg
  obtain ⟨ok1, ha, hkeep⟩ := LeK.frzK (frzOf c.P σ o.op) a w ok φ h0
  generalize σ.frzK (frzOf c.P σ o.op) = σ1 at *
  have keep0 : ∀ (s : List AV), Keeps Kp ok φ σ.h w ok1 φ (St.mk s σ1.h).h w := fun s b hb => ⟨hkeep Kp b hb, rfl⟩
  have keepG : ∀ {ok' φ' H' w' kill tch} (s : List AV), Goes c ok1 φ w ok' φ' H' w' kill tch → okK σ1.h H' kill tch Kp → (∀ k, tch = some k → (look σ1.h k).isSome = true) → Keeps Kp ok φ σ.h w ok' φ' (St.mk s H').h w' := by
    intro ok' φ' H' w' kill tch s hgo hk ht b hb
    have := Goes.keeps (Kp := Kp) ha hgo hk (fun _ _ => .inr (.inr trivial)) ht b (hkeep Kp b hb)
    exact this
  have hund : ∀ y : AV, g = false → R2 ok1 φ w undef (gval o g y) := by
    intro y hgf
    unfold gval
    split
    · rename_i e; simp [gflag, e, hgf] at hg
    · exact ⟨(fun e => by rw [hgf] at e; cases e), fun _ => rfl⟩
  unfold wpStep
  rw [hw]
  simp only at hs
  split at hs
  · rename_i x args ats hop
    split at hs
    · rename_i f caps d hx hd
      obtain ⟨h1, h2, h3, r, ho, hsp, hu, hfn, hkk, hrest⟩ := hs
      cases g with
      | true =>
        simp only [if_true]
        refine .inl ?_
        have hsp := hsp rfl
        have hxr := ha.get rfl h1
        rw [hx] at hxr
        obtain ⟨vs, hve, hvp⟩ := hxr
        have hcaps : Pts (DRep ok1 w) vs caps := ⟨hvp.1, fun i v x h1 h2' => (hvp.2 i v x h1 h2').data (List.all_eq_true.1 h2 x (List.mem_of_getElem? h2'))⟩
        unfold Oper.wp
        rcases hsp with hsp | ⟨rfl, hsp, hrd⟩
        · rw [exec_call (cl := ⟨.value x, args, ats⟩) rfl hve hsp.1 w hop, Oper.upon_enter]
          refine Calls.mono (ha.call hsp ((argsOf_sound ha _ h3).append hcaps) d hfn) ?_
          rintro e w' ⟨v, ok', φ', rfl, hgo, hr⟩
          have := ha.goes hgo (d := o.dst) (gval_R2 (o := o) rfl hr)
          refine ⟨_, ok', φ', hrest, ?_, keepG _ hgo hkk (by simp)⟩
          rw [hd] at this ⊢
          exact this
        · obtain ⟨v, hv1, hv2⟩ := hsp ok1 w _ ((argsOf_sound ha _ h3).append hcaps)
          rw [exec_xcall (cl := ⟨.value x, args, ats⟩) rfl hve w hop hv1]
          have := ha.goes (Goes.refl ha) (d := o.dst) (gval_R2 (o := o) rfl (R1.of_data hv2))
          rw [ren_data hrd] at hrest
          refine ⟨_, ok1, φ, hrest, ?_, keep0 _⟩
          rw [hd] at this ⊢
          exact this
      | false =>
        simp only [Bool.false_eq_true, if_false]
        have hgn : o.guard.isNone = false := by
          cases hgd : o.guard with
          | none => simp [gflag, hgd] at hg
          | some _ => rfl
        have : ho = none := by rcases hu with h | h
                               · rw [hgn] at h; cases h
                               · exact h
        subst this
        have := ha.goes (Goes.refl ha) (d := o.dst) (hund (r.ren d) rfl)
        refine ⟨_, ok1, φ, hrest, ?_, keep0 _⟩
        rw [hd] at this ⊢
        exact this
    · exact hs.elim
  · rename_i x m args ats hop
    split at hs
    · rename_i t y d hx hd
      split at hs
      · rename_i f hm
        obtain ⟨h1, h3, r, ho, hsp, hu, hfn, hkk, hrest⟩ := hs
        cases g with
        | true =>
          simp only [if_true]
          refine .inl ?_
          have hsp := hsp rfl
          have hxr := ha.get rfl h1
          rw [hx] at hxr
          have hxr : DRep ok1 w (a.eval x) (.ifc t y) := hxr
          have hve : ∃ y0, a.eval x = .iface t y0 ∧ DRep ok1 w y0 y := by
            generalize a.eval x = v0 at hxr
            cases hxr with
            | ifc _ y0 _ hh => exact ⟨y0, rfl, hh⟩
          obtain ⟨y0, hve, hy⟩ := hve
          unfold Oper.wp
          rcases hsp with hsp | ⟨rfl, hsp, hrd⟩
          · rw [exec_inv (cl := ⟨.invoke x m, args, ats⟩) rfl hve hm hsp.1 w hop, Oper.upon_enter]
            refine Calls.mono (ha.call hsp (Pts.cons hy (argsOf_sound ha _ h3)) d hfn) ?_
            rintro e w' ⟨v, ok', φ', rfl, hgo, hr⟩
            have := ha.goes hgo (d := o.dst) (gval_R2 (o := o) rfl hr)
            refine ⟨_, ok', φ', hrest, ?_, keepG _ hgo hkk (by simp)⟩
            rw [hd] at this ⊢
            exact this
          · obtain ⟨v, hv1, hv2⟩ := hsp ok1 w _ (Pts.cons hy (argsOf_sound ha _ h3))
            rw [exec_xinv (cl := ⟨.invoke x m, args, ats⟩) rfl hve hm w hop hv1]
            have := ha.goes (Goes.refl ha) (d := o.dst) (gval_R2 (o := o) rfl (R1.of_data hv2))
            rw [ren_data hrd] at hrest
            refine ⟨_, ok1, φ, hrest, ?_, keep0 _⟩
            rw [hd] at this ⊢
            exact this
        | false =>
          simp only [Bool.false_eq_true, if_false]
          have hgn : o.guard.isNone = false := by
            cases hgd : o.guard with
            | none => simp [gflag, hgd] at hg
            | some _ => rfl
          have : ho = none := by rcases hu with h | h
                                 · rw [hgn] at h; cases h
                                 · exact h
          subst this
          have := ha.goes (Goes.refl ha) (d := o.dst) (hund (r.ren d) rfl)
          refine ⟨_, ok1, φ, hrest, ?_, keep0 _⟩
          rw [hd] at this ⊢
          exact this
      · exact hs.elim
    · exact hs.elim
  · split at hs
    · rename_i r hr
      cases g with
      | true =>
        simp only [if_true]
        refine .inl ?_
        obtain ⟨hc, hkk, hk⟩ := hs.1 rfl
        obtain ⟨v, st, w', ok', φ', h1, h2, h3, h4⟩ := eff3_sound ha o r hr hc
        unfold Oper.wp
        rw [h1]
        have hh := ha.goes h3 (d := o.dst) (gval_R2 (o := o) rfl h4)
        have hkp := keepG (setO (killO r.2.2.2 σ1.s) o.dst (gval o true r.2.1)) h3 hkk (touch_some hr hc)
        rcases h2 with rfl | ⟨rfl, rfl⟩
        · exact ⟨_, ok', φ', hk, hh, hkp⟩
        · exact ⟨_, ok', φ', hk, hh, hkp⟩
      | false =>
        simp only [Bool.false_eq_true, if_false]
        exact ⟨_, ok1, φ, hs.2 rfl, ha.goes (Goes.refl ha) (d := o.dst) (hund _ rfl), keep0 _⟩
    · split at hs
      · rename_i q hq
        cases g with
        | true =>
          simp only [if_true]
          refine .inl ?_
          obtain ⟨b, hb, hrun⟩ := nilQ_sound ha hq hs.1
          unfold Oper.wp
          rw [hrun]
          exact ⟨_, ok1, φ, hs.2 b hb, ha.goes (Goes.refl ha) (gval_R2 rfl (R1.bool b)), keep0 _⟩
        | false =>
          simp only [Bool.false_eq_true, if_false]
          exact ⟨_, ok1, φ, hs.2 false (by simp), ha.goes (Goes.refl ha) (d := o.dst) (hund _ rfl), keep0 _⟩
      · cases g with
        | true =>
          simp only [if_true]
          refine .inl ?_
          obtain ⟨v, hv, hr⟩ := ev3_sound ha rfl o hs.1
          unfold Oper.wp
          rw [hv w (.inr rfl)]
          exact ⟨_, ok1, φ, hs.2, ha.goes (Goes.refl ha) (gval_R2 rfl hr), keep0 _⟩
        | false =>
          simp only [Bool.false_eq_true, if_false]
          exact ⟨_, ok1, φ, hs.2, ha.goes (Goes.refl ha) (d := o.dst) (hund _ rfl), keep0 _⟩

/-- A region's operations in their order. -/
def TS (c : Ctx) (ops : Array Oper) (N : St → Prop) : List Oper → St → Prop
  | [], σ => N σ
  | o :: rest, σ => Step c ops [] σ o (TS c ops N rest)
theorem TS.tl : ∀ (rest : List Oper) (σ : St), TS c ops N rest σ → TL c ops N E R rest σ
  | [], σ, h => TL.nil h
  | o :: rest, σ, h => fun a w ha => by
    obtain ⟨ok, φ, ha⟩ := ha
    have := Step.sound (Q := PQ c N E R) h ha
    unfold wpStep at this
    unfold wpList
    split at this
    · rename_i hw
      simp only [hw, if_true]
      rcases this with this | this
      · exact .inl (Oper.wp_mono (fun a w ⟨σ', ok', φ', h1, h2, _⟩ => TS.tl rest σ' h1 a w ⟨ok', φ', h2⟩) this)
      · exact .inr this
    · rename_i hw
      simp only [hw, if_false]
      obtain ⟨σ', ok', φ', h1, h2, _⟩ := this
      exact TS.tl rest σ' h1 _ _ ⟨ok', φ', h2⟩
theorem T.reg2 {id : Nat} (h : TS c ops N ops.toList σ) : T c (.region id ops false) N E R σ := T.region (TS.tl _ _ h)

/-! In any order. -/
inductive Plan where
  | done
  | take (i : Nat) (p : Plan)
  | one (i : Nat) (p : Plan)
  | two (i : Nat) (p : Plan) (j : Nat) (q : Plan)
  | three (i : Nat) (p : Plan) (j : Nat) (q : Plan) (k : Nat) (r : Plan)
  | four (i : Nat) (p : Plan) (j : Nat) (q : Plan) (k : Nat) (r : Plan) (e : Nat) (s : Plan)
  /-- A call that takes owned memory over. -/
  | own (i : Nat) (p : Plan)
  /-- A struct whose first part is owned memory; it is given away, the part as a mere value. -/
  | hid (k i : Nat) (p : Plan)
def Plan.good (ops : Array Oper) : Plan → Nat → Array Bool → Bool
  | .done, _, l => (Region.ready .any ops l).isEmpty
  | .take i p, f + 1, l => Region.free .any ops l i && (Region.ready .any ops l).contains i && p.good ops f (l.setIfInBounds i true)
  | .one i p, f + 1, l => (Region.ready .any ops l == [i]) && p.good ops f (l.setIfInBounds i true)
  | .own i p, f + 1, l => (Region.ready .any ops l == [i]) && p.good ops f (l.setIfInBounds i true)
  | .hid _ i p, f + 1, l => Region.free .any ops l i && (Region.ready .any ops l).contains i && p.good ops f (l.setIfInBounds i true)
  | .two i p j q, f + 1, l => (Region.ready .any ops l == [i, j]) && p.good ops f (l.setIfInBounds i true) && q.good ops f (l.setIfInBounds j true)
  | .three i p j q k r, f + 1, l => (Region.ready .any ops l == [i, j, k]) && p.good ops f (l.setIfInBounds i true) && q.good ops f (l.setIfInBounds j true) && r.good ops f (l.setIfInBounds k true)
  | .four i p j q k r e s, f + 1, l => (Region.ready .any ops l == [i, j, k, e]) && p.good ops f (l.setIfInBounds i true) && q.good ops f (l.setIfInBounds j true) && r.good ops f (l.setIfInBounds k true) && s.good ops f (l.setIfInBounds e true)
  | _, _, _ => false
def atStep (c : Ctx) (ops : Array Oper) (Kp : List Nat) (σ : St) (i : Nat) (K : St → Prop) : Prop :=
  match ops[i]? with
  | some o => Step c ops Kp σ o K
  | none => False
/-- May it be taken first? A load: from memory that stays. -/
def inK (Kp : List Nat) : AV → Prop
  | .op k _ _ => k ∈ Kp
  | _ => True
def isI : AV → Prop
  | .int _ _ => True
  | _ => False
def takeOK (Kp : List Nat) (σ : St) (g : Bool) : Op → Prop
  | .load _ x => g = true → inK Kp (σ.get g x).2
  | .convert _ _ x => g = true → isI (σ.get g x).2
  | op => wi op = true
def takeStep (c : Ctx) (ops : Array Oper) (Kp : List Nat) (σ : St) (i : Nat) (K : St → Prop) : Prop :=
  match ops[i]? with
  | some o =>
    match gflag ops σ o with
    | some g => takeOK Kp σ g o.op ∧ (ev3 c.P σ g o.op).1 ∧ K ⟨setO σ.s o.dst (gval o g (ev3 c.P σ g o.op).2), σ.h⟩
    | none => False
  | none => False
/-- A call with owned memory. -/
def ownStep (c : Ctx) (ops : Array Oper) (Kp : List Nat) (σ : St) (i : Nat) (K : St → Prop) : Prop :=
  ∃ d x args ats ty pos after f k off len x0 rest ob r o', ops[i]? = some ⟨some d, .call ⟨.value x, args, ats⟩, ty, pos, after, none⟩ ∧ (σ.get true x).1 ∧ (σ.get true x).2 = .fn f [] ∧ args.toList = x0 :: rest ∧
    (σ.get true x0).1 ∧ (σ.get true x0).2 = .osl k off len ∧ (argsOf σ true rest).1 ∧ look σ.h k = some ob ∧ SpecO c.P f ob (.osl 0 off len :: (argsOf σ true rest).2) r o' ∧
    (∀ f caps, r = .fn f caps → ∀ k, r.names k = false) ∧ okK σ.h (retH (some o') k σ.h) (some k) (some k) Kp ∧ K ⟨(σ.s.map (AV.kill k)).set d (r.ren k), retH (some o') k σ.h⟩
/-- A struct whose first part is owned memory is loaded; the part counts as a mere value. -/
def hidK (c : Ctx) (ops : Array Oper) (Kp : List Nat) (σ : St) (k i : Nat) (K : St → Prop) : Option HO → Prop
  | some ⟨sz, e, true, [.agg (.osl _ _ _ :: rest)]⟩ => rest.all AV.data0 = true ∧ ∀ v : Value, v.oneCell' = true → takeStep c ops Kp ⟨σ.s, put σ.h k ⟨sz, e, true, [.agg (.atom v :: rest)]⟩⟩ i (fun σ' => K ⟨σ'.s, σ.h⟩)
  | _ => False
def hidStep (c : Ctx) (ops : Array Oper) (Kp : List Nat) (σ : St) (k i : Nat) (K : St → Prop) : Prop := hidK c ops Kp σ k i K (look σ.h k)
theorem hid_sound {Kp : List Nat} {k i : Nat} {K : St → Prop} (h : hidStep c ops Kp σ k i K) (ha : Holds1 c ok φ σ a w) : ∃ H', takeStep c ops Kp ⟨σ.s, H'⟩ i (fun σ' => K ⟨σ'.s, σ.h⟩) ∧ Holds1 c ok φ ⟨σ.s, H'⟩ a w ∧ ∀ j, (look H' j).isSome = (look σ.h j).isSome := by
  unfold hidStep hidK at h
  split at h
  · rename_i sz e q o l rest hx
    obtain ⟨hd, h⟩ := h
    have hlk : ∀ (oo : HO) j, (look (put σ.h k oo) j).isSome = (look σ.h j).isSome := by
      intro oo j
      by_cases e : j = k
      · subst e; rw [look_put_self, hx]; rfl
      · rw [look_put_ne _ _ e]
    have hinj : ∀ (oo : HO) k1 k2 o1 o2 g sz N sz' N', look (put σ.h k oo) k1 = some o1 → look (put σ.h k oo) k2 = some o2 → φ k1 = some (g, sz, N) → φ k2 = some (g, sz', N') → k1 = k2 := by
      intro oo k1 k2 o1 o2 g sz N sz' N' h1 h2 h3 h4
      have e1 := hlk oo k1
      have e2 := hlk oo k2
      rw [h1] at e1
      rw [h2] at e2
      obtain ⟨p1, hp1⟩ := Option.isSome_iff_exists.1 e1.symm
      obtain ⟨p2, hp2⟩ := Option.isSome_iff_exists.1 e2.symm
      exact ha.heap.inj k1 k2 p1 p2 g sz N sz' N' hp1 hp2 h3 h4
    rcases ha.heap.at_ k _ hx with ⟨_, h2⟩ | ⟨g, N, h1, h2, h3, cur, fz, a1, a2, a3, a4, a5, a6, a7⟩
    · cases h2
    have hfl : ∀ x : AV, flat [.agg (x :: rest)] = x :: rest := fun x => by simp [flat, AV.cells]
    simp only [hfl] at a4 a6 a7
    have hne : cur.toList.take (AV.osl q o l :: rest).length ≠ [] := by
      intro e; have := a7.1; rw [e] at this; simp at this
    obtain ⟨v0, vs, hvs⟩ := List.exists_cons_of_ne_nil hne
    have hv0 : v0.oneCell' = true := a6 v0 (by rw [hvs]; simp)
    refine ⟨_, h v0 hv0, ⟨ha.defers, ha.slots, ⟨fun j p hj => ?_, hinj _⟩, ha.okLt, ha.okOr, ha.ok0, ha.below⟩, hlk _⟩
    by_cases ej : j = k
    · subst ej
      rw [look_put_self] at hj
      cases hj
      refine .inr ⟨g, N, h1, h2, h3, cur, fz, a1, a2, a3, by rw [hfl]; exact a4, ?_, by rw [hfl]; exact a6, ?_⟩
      · intro x hx'
        simp only [List.mem_singleton] at hx'
        subst hx'
        have := a5 (.agg (.osl q o l :: rest)) (by simp)
        simpa [AV.cells] using this
      · rw [hfl]
        show Pts _ (cur.toList.take (AV.osl q o l :: rest).length) _
        rw [hvs] at a7 ⊢
        exact Pts.cons (RC.of_data (.atom v0 hv0)) a7.tail
    · rw [look_put_ne _ _ ej] at hj
      exact ha.heap.at_ j p hj
  · exact h.elim
def TP (c : Ctx) (ops : Array Oper) (Kp : List Nat) (N : St → Prop) : Plan → St → Prop
  | .done, σ => N σ
  | .take i p, σ => takeStep c ops Kp σ i (TP c ops Kp N p)
  | .one i p, σ => atStep c ops Kp σ i (TP c ops Kp N p)
  | .four i p j q k r e s, σ => atStep c ops Kp σ i (TP c ops Kp N p) ∧ atStep c ops Kp σ j (TP c ops Kp N q) ∧ atStep c ops Kp σ k (TP c ops Kp N r) ∧ atStep c ops Kp σ e (TP c ops Kp N s)
  | .own i p, σ => ownStep c ops Kp σ i (TP c ops Kp N p)
  | .hid k i p, σ => hidStep c ops Kp σ k i (TP c ops Kp N p)
  | .two i p j q, σ => atStep c ops Kp σ i (TP c ops Kp N p) ∧ atStep c ops Kp σ j (TP c ops Kp N q)
  | .three i p j q k r, σ => atStep c ops Kp σ i (TP c ops Kp N p) ∧ atStep c ops Kp σ j (TP c ops Kp N q) ∧ atStep c ops Kp σ k (TP c ops Kp N r)

def Same (Kp : List Nat) (ok : Nat → Prop) (φ : Names) (H : List (Nat × HO)) (w w' : World) : Prop := ∀ b, PB Kp ok φ H b → w'.heap[b]? = w.heap[b]?

theorem atStep_sound {i : Nat} {Kp : List Nat} {K : St → Prop} {K' : Act → World → Prop} (h : atStep c ops Kp σ i K) (ha : Holds1 c ok φ σ a w) (hk : ∀ σ' ok' φ' a w', K σ' → Holds1 c ok' φ' σ' a w' → Keeps Kp ok φ σ.h w ok' φ' σ'.h w' → K' a w') : wpOp c.P ops Q i K' a w := by
  unfold atStep at h
  unfold wpOp
  split at h
  · rename_i o ho
    simp only [ho]
    have := Step.sound (Q := Q) h ha
    unfold wpStep at this
    split at this
    · rename_i hw
      simp only [hw, if_true]
      rcases this with this | this
      · exact .inl (Oper.wp_mono (fun a w ⟨σ', ok', φ', h1, h2, h3⟩ => hk σ' ok' φ' a w h1 h2 h3) this)
      · exact .inr this
    · rename_i hw
      simp only [hw, if_false]
      obtain ⟨σ', ok', φ', h1, h2, h3⟩ := this
      exact hk σ' ok' φ' _ _ h1 h2 h3
  · exact h.elim

theorem ownStep_sound {i : Nat} {Kp : List Nat} {K : St → Prop} {K' : Act → World → Prop} (h : ownStep c ops Kp σ i K) (ha : Holds1 c ok φ σ a w) (hk : ∀ σ' ok' φ' a w', K σ' → Holds1 c ok' φ' σ' a w' → Keeps Kp ok φ σ.h w ok' φ' σ'.h w' → K' a w') : wpOp c.P ops Q i K' a w := by
  obtain ⟨d, x, args, ats, ty, pos, after, f, k, off, len, x0, rest, ob, r, o', ho, h1, hx, hargs, h2, hx0, h3, hlk, hsp, hfn, hkk, hrest⟩ := h
  unfold wpOp
  simp only [ho]
  have hw : Region.wanted (⟨some d, .call ⟨.value x, args, ats⟩, ty, pos, after, none⟩ : Oper) (yielded ops a.tmps) = true := wanted_eq ha rfl
  simp only [hw, if_true]
  refine .inl ?_
  have hxr := ha.get rfl h1
  rw [hx] at hxr
  obtain ⟨vs, hve, hvp⟩ := hxr
  have hvs : vs = [] := Pts.nil_inv hvp
  subst hvs
  have hx0r := ha.get rfl h2
  rw [hx0] at hx0r
  have hx0r : R0 ok φ w (a.eval x0) (.osl k off len) := hx0r
  have hp0 : R0 ok (oneN φ k) w (a.eval x0) (.osl 0 off len) := by
    rcases hx0r with h | ⟨g, sz, N, cap, e1, e2⟩
    · exact .inl h
    · exact .inr ⟨g, sz, N, cap, by simpa [oneN] using e1, e2⟩
  have hps : Pts (R0 ok (oneN φ k) w) (args.toList.map a.eval ++ ([] : List Value)) (.osl 0 off len :: (argsOf σ true rest).2) := by
    rw [hargs, List.append_nil, List.map_cons]
    exact Pts.cons hp0 ((argsOf_sound ha rest h3).mono fun v x hx => R0.of_data hx)
  unfold Oper.wp
  rw [exec_call (cl := ⟨.value x, args, ats⟩) (o := ⟨some d, .call ⟨.value x, args, ats⟩, ty, pos, after, none⟩) rfl hve hsp.1 w rfl, Oper.upon_enter]
  refine Calls.mono (ha.callO hlk hsp hps hfn) ?_
  rintro e w' ⟨v, ok', φ', rfl, hgo, hr⟩
  have := ha.goes hgo (d := some d) (R2.of_R1 hr)
  exact hk _ ok' φ' _ _ hrest this (Goes.keeps ha hgo hkk (fun _ _ => .inr (.inr trivial)) (fun j hj => by cases hj; rw [hlk]; rfl))

theorem wpAnyH_weaken {md : Region.Mode} {S S' : World → Prop} (hS : ∀ w, S w → S' w) : ∀ (f : Nat) (l : Array Bool) (a : Act) (w : World), wpAnyH P md ops Q S f l a w → wpAnyH P md ops Q S' f l a w
  | 0, _, _, _, h => h
  | f + 1, l, a, w, h => ⟨h.1, fun i hi => wpOp_mono (fun a' w' h' => ⟨hS w' h'.1, wpAnyH_weaken hS f _ a' w' h'.2⟩) (h.2 i hi)⟩

theorem take_yields {Kp : List Nat} {o : Oper} {g : Bool} (hh : Holds1 c ok φ σ a w) (hg : gflag ops σ o = some g) (ht : takeOK Kp σ g o.op) (hc : (ev3 c.P σ g o.op).1) :
    ∃ v, YieldsIf c.P ops (Same Kp ok φ σ.h w) o v a ∧ R2 ok φ w v (gval o g (ev3 c.P σ g o.op).2) := by
  have hw := wanted_eq hh hg
  cases g with
  | false => exact ⟨undef, .inr ⟨hw, rfl⟩, gval_undef rfl hg⟩
  | true =>
    obtain ⟨dst, op, type, pos, after, guard⟩ := o
    by_cases hld : (∃ t x, op = .load t x) ∨ (∃ s d x, op = .convert s d x)
    rotate_left
    · have hwi : wi op = true := by
        cases op <;> first | exact ht | exact absurd (.inl ⟨_, _, rfl⟩) hld | exact absurd (.inr ⟨_, _, _, rfl⟩) hld
      obtain ⟨v, hv, hr⟩ := ev3_sound hh rfl _ hc
      exact ⟨v, .inl ⟨hw, fun w' _ => hv w' (.inl hwi)⟩, gval_R2 rfl hr⟩
    rcases hld with ⟨t, x, rfl⟩ | ⟨s, d, x, rfl⟩
    · obtain ⟨h1, h4, h5, h3⟩ := hc
      obtain ⟨r, b, hb, hrun, hr⟩ := evLoad_stable (P := c.P) hh.heap (hh.get rfl h1) h4 h5 (h3 rfl)
      have hpb : PB Kp ok φ σ.h b := by
        rcases hb with hb | ⟨k, i, j, sz, N, hx, hφ⟩
        · exact .inl hb
        · have ht := ht rfl
          have h3 := h3 rfl
          rw [hx] at ht h3
          refine .inr ⟨k, ht, ?_, sz, N, hφ⟩
          simp only [evLoad] at h3
          cases ho : look σ.h k with
          | none => simp [ho, no] at h3
          | some o => rfl
      exact ⟨r, .inl ⟨hw, fun w' hS => by simp [execOp, hrun w' (hS b hpb)]⟩, gval_R2 rfl hr⟩
    · obtain ⟨h1, h3⟩ := hc
      have h3 := h3 rfl
      have ht := ht rfl
      have hv := hh.get rfl h1
      generalize hx : (σ.get true x).2 = y at *
      cases y <;> first | exact ht.elim | skip
      rename_i k n _
      have hval := hv.int_inv
      have key : ∃ r, (∀ w' : World, (convert s d (.int k n)).run c.P w' = .ok r w') ∧ R1 ok φ w r (evConv c.P s d (.int k n)).2 := by
        obtain ⟨r, hr1, hr2⟩ := evConv_sound (P := c.P) (ok := ok) (φ := φ) (w := w) (R1.int k n) h3
        refine ⟨r, fun w' => ?_, hr2⟩
        obtain ⟨r', hr1', hr2'⟩ := evConv_sound (P := c.P) (ok := ok) (φ := φ) (w := w') (R1.int k n) h3
        have hI : ∃ k' n', (evConv c.P s d (.int k n)).2 = .int k' n' := by
          revert h3
          unfold evConv
          split
          · intro _; exact ⟨_, _, rfl⟩
          · intro _; exact ⟨_, _, rfl⟩
          · intro _; exact ⟨_, _, rfl⟩
          · rename_i e1 e2 e3; cases e1
          · rename_i e1 e2 e3; cases e1
          · intro h3; exact h3.elim
        have e : r' = r := by
          obtain ⟨k', n', hI⟩ := hI
          rw [hI] at hr2 hr2'
          rw [hr2.int_inv, hr2'.int_inv]
        rw [← e]; exact hr1'
      obtain ⟨r, hr1, hr2⟩ := key
      refine ⟨r, .inl ⟨hw, fun w' _ => by simp [execOp, hval, hr1 w']⟩, gval_R2 rfl ?_⟩
      show R1 ok φ w r (evConv c.P s d (σ.get true x).2).2
      rw [hx]; exact hr2

theorem TP.sound {Kp : List Nat} (hsel : Region.noSelect ops = true) : ∀ (p : Plan) (f : Nat) (l : Array Bool) (σ : St) (a : Act) (w : World) (ok : Nat → Prop) (φ : Names), p.good ops f l = true → TP c ops Kp N p σ → Holds1 c ok φ σ a w →
    wpAnyH c.P .any ops (PQ c N E R) (Same Kp ok φ σ.h w) f l a w
  | .done, f, l, σ, a, w, ok, φ, hok, h, ha => by
    simp only [Plan.good, List.isEmpty_iff] at hok
    exact wpAnyH_done hok ⟨σ, h, ok, φ, ha⟩ f
  | .take i p, 0, _, _, _, _, _, _, hok, _, _ => by simp [Plan.good] at hok
  | .one i p, 0, _, _, _, _, _, _, hok, _, _ => by simp [Plan.good] at hok
  | .two i p j q, 0, _, _, _, _, _, _, hok, _, _ => by simp [Plan.good] at hok
  | .own i p, 0, _, _, _, _, _, _, hok, _, _ => by simp [Plan.good] at hok
  | .four i p j q k r e s, 0, _, _, _, _, _, _, hok, _, _ => by simp [Plan.good] at hok
  | .hid k i p, 0, _, _, _, _, _, _, hok, _, _ => by simp [Plan.good] at hok
  | .three i p j q k r, 0, _, _, _, _, _, _, hok, _, _ => by simp [Plan.good] at hok
  | .take i p, f + 1, l, σ, a, w, ok, φ, hok, h, ha => by
    simp only [Plan.good, Bool.and_eq_true] at hok
    simp only [TP, takeStep] at h
    split at h
    rotate_left
    · exact h.elim
    rename_i o ho
    split at h
    rotate_left
    · exact h.elim
    rename_i g hg
    obtain ⟨hwi, hc, hk⟩ := h
    obtain ⟨v, hy, hr⟩ := take_yields ha hg hwi hc
    refine wpAnyH_take (v := v) ho hsel hok.1.1 hok.1.2 (fun _ _ _ h => h) hy (fun _ _ => rfl) ?_
    exact TP.sound hsel p f _ ⟨setO σ.s o.dst (gval o g (ev3 c.P σ g o.op).2), σ.h⟩ _ _ _ _ hok.2 hk (ha.goes (Goes.refl ha) hr)
  | .one i p, f + 1, l, σ, a, w, ok, φ, hok, h, ha => by
    simp only [Plan.good, Bool.and_eq_true, beq_iff_eq] at hok
    refine wpAnyH_all hok.1 (by simp) fun k hk => ?_
    simp only [List.mem_singleton] at hk
    subst hk
    exact atStep_sound h ha fun σ' ok' φ' a w' h1 h2 h3 => ⟨fun b hb => (h3 b hb).2, wpAnyH_weaken (fun w'' hs b hb => (hs b (h3 b hb).1).trans (h3 b hb).2) _ _ _ _ (TP.sound hsel p f _ _ _ _ _ _ hok.2 h1 h2)⟩
  | .hid k i p, f + 1, l, σ, a, w, ok, φ, hok, h, ha => by
    simp only [Plan.good, Bool.and_eq_true] at hok
    obtain ⟨H', h, ha', hlk⟩ := hid_sound h ha
    simp only [takeStep] at h
    split at h
    rotate_left
    · exact h.elim
    rename_i o ho
    split at h
    rotate_left
    · exact h.elim
    rename_i g hg
    obtain ⟨hwi, hc, hk⟩ := h
    obtain ⟨v, hy, hr⟩ := take_yields ha' hg hwi hc
    have hS : Same Kp ok φ H' w = Same Kp ok φ σ.h w := by
      funext w'
      unfold Same PB
      simp only [hlk]
    rw [hS] at hy
    refine wpAnyH_take (v := v) ho hsel hok.1.1 hok.1.2 (fun _ _ _ h => h) hy (fun _ _ => rfl) ?_
    exact TP.sound hsel p f _ ⟨setO σ.s o.dst (gval o g (ev3 c.P ⟨σ.s, H'⟩ g o.op).2), σ.h⟩ _ _ _ _ hok.2 hk (ha.goes (Goes.refl ha) hr)
  | .own i p, f + 1, l, σ, a, w, ok, φ, hok, h, ha => by
    simp only [Plan.good, Bool.and_eq_true, beq_iff_eq] at hok
    refine wpAnyH_all hok.1 (by simp) fun k hk => ?_
    simp only [List.mem_singleton] at hk
    subst hk
    exact ownStep_sound h ha fun σ' ok' φ' a w' h1 h2 h3 => ⟨fun b hb => (h3 b hb).2, wpAnyH_weaken (fun w'' hs b hb => (hs b (h3 b hb).1).trans (h3 b hb).2) _ _ _ _ (TP.sound hsel p f _ _ _ _ _ _ hok.2 h1 h2)⟩
  | .two i p j q, f + 1, l, σ, a, w, ok, φ, hok, h, ha => by
    simp only [Plan.good, Bool.and_eq_true, beq_iff_eq] at hok
    refine wpAnyH_all hok.1.1 (by simp) fun k hk => ?_
    simp only [List.mem_cons, List.not_mem_nil, or_false] at hk
    rcases hk with rfl | rfl
    · exact atStep_sound h.1 ha fun σ' ok' φ' a w' h1 h2 h3 => ⟨fun b hb => (h3 b hb).2, wpAnyH_weaken (fun w'' hs b hb => (hs b (h3 b hb).1).trans (h3 b hb).2) _ _ _ _ (TP.sound hsel p f _ _ _ _ _ _ hok.1.2 h1 h2)⟩
    · exact atStep_sound h.2 ha fun σ' ok' φ' a w' h1 h2 h3 => ⟨fun b hb => (h3 b hb).2, wpAnyH_weaken (fun w'' hs b hb => (hs b (h3 b hb).1).trans (h3 b hb).2) _ _ _ _ (TP.sound hsel q f _ _ _ _ _ _ hok.2 h1 h2)⟩
  | .three i p j q k r, f + 1, l, σ, a, w, ok, φ, hok, h, ha => by
    simp only [Plan.good, Bool.and_eq_true, beq_iff_eq] at hok
    refine wpAnyH_all hok.1.1.1 (by simp) fun k hk => ?_
    simp only [List.mem_cons, List.not_mem_nil, or_false] at hk
    rcases hk with rfl | rfl | rfl
    · exact atStep_sound h.1 ha fun σ' ok' φ' a w' h1 h2 h3 => ⟨fun b hb => (h3 b hb).2, wpAnyH_weaken (fun w'' hs b hb => (hs b (h3 b hb).1).trans (h3 b hb).2) _ _ _ _ (TP.sound hsel p f _ _ _ _ _ _ hok.1.1.2 h1 h2)⟩
    · exact atStep_sound h.2.1 ha fun σ' ok' φ' a w' h1 h2 h3 => ⟨fun b hb => (h3 b hb).2, wpAnyH_weaken (fun w'' hs b hb => (hs b (h3 b hb).1).trans (h3 b hb).2) _ _ _ _ (TP.sound hsel q f _ _ _ _ _ _ hok.1.2 h1 h2)⟩
    · exact atStep_sound h.2.2 ha fun σ' ok' φ' a w' h1 h2 h3 => ⟨fun b hb => (h3 b hb).2, wpAnyH_weaken (fun w'' hs b hb => (hs b (h3 b hb).1).trans (h3 b hb).2) _ _ _ _ (TP.sound hsel r f _ _ _ _ _ _ hok.2 h1 h2)⟩
  | .four i p j q k r e s, f + 1, l, σ, a, w, ok, φ, hok, h, ha => by
    simp only [Plan.good, Bool.and_eq_true, beq_iff_eq] at hok
    refine wpAnyH_all hok.1.1.1.1 (by simp) fun k hk => ?_
    simp only [List.mem_cons, List.not_mem_nil, or_false] at hk
    rcases hk with rfl | rfl | rfl | rfl
    · exact atStep_sound h.1 ha fun σ' ok' φ' a w' h1 h2 h3 => ⟨fun b hb => (h3 b hb).2, wpAnyH_weaken (fun w'' hs b hb => (hs b (h3 b hb).1).trans (h3 b hb).2) _ _ _ _ (TP.sound hsel p f _ _ _ _ _ _ hok.1.1.1.2 h1 h2)⟩
    · exact atStep_sound h.2.1 ha fun σ' ok' φ' a w' h1 h2 h3 => ⟨fun b hb => (h3 b hb).2, wpAnyH_weaken (fun w'' hs b hb => (hs b (h3 b hb).1).trans (h3 b hb).2) _ _ _ _ (TP.sound hsel q f _ _ _ _ _ _ hok.1.1.2 h1 h2)⟩
    · exact atStep_sound h.2.2.1 ha fun σ' ok' φ' a w' h1 h2 h3 => ⟨fun b hb => (h3 b hb).2, wpAnyH_weaken (fun w'' hs b hb => (hs b (h3 b hb).1).trans (h3 b hb).2) _ _ _ _ (TP.sound hsel r f _ _ _ _ _ _ hok.1.2 h1 h2)⟩
    · exact atStep_sound h.2.2.2 ha fun σ' ok' φ' a w' h1 h2 h3 => ⟨fun b hb => (h3 b hb).2, wpAnyH_weaken (fun w'' hs b hb => (hs b (h3 b hb).1).trans (h3 b hb).2) _ _ _ _ (TP.sound hsel s f _ _ _ _ _ _ hok.2 h1 h2)⟩

theorem Holds.drawn {n : Nat} (h : Holds c σ a w) : Holds c σ a { w with drawn := n } := by
  obtain ⟨ok, φ, h⟩ := h
  refine ⟨ok, φ, h.defers, h.slots.mono fun v x hx => hx.mono (fun _ h => h) (fun _ _ => rfl) (fun _ _ => rfl), h.heap.mono (fun _ h => h) (fun _ _ => rfl) (fun k o g sz N ho hφ => ⟨rfl, (h.heap.lt ho hφ).2.2⟩), h.okLt, h.okOr, h.ok0, ?_⟩
  have hb := h.below
  exact ⟨hb.1, hb.2, hb.3, hb.4, hb.5⟩

theorem T.drawn {id : Nat} (p : Plan) (Kp : List Nat) (hm : c.P.follows .mixedOrders = true) (hsel : Region.noSelect ops = true) (hok : p.good ops ops.size (Array.replicate ops.size false) = true) (h : TP c ops Kp N p σ) : T c (.region id ops true) N E R σ := fun _ _ ha => by
  obtain ⟨ok, φ, hd⟩ := ha.drawn
  exact wp_region_held hm (TP.sound hsel p _ _ _ _ _ _ _ hok h hd)
end
end Go.Ideal
