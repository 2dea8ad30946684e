/- A region's operations over abstract states, in the given order or in any; results of several parts. -/
import Derived.Test.YthmeobfdmeepbaaCoreL
set_option linter.unusedVariables false
set_option linter.unusedSimpArgs false
namespace Go.Ideal
open Go.RowKit

/-- Operands that must be data. -/
def frzOf (P : Program) : Op → List Operand
  | .buildSlice _ _ parts => parts.toList.map (·.2)
  | .box _ x => [x]
  | .store _ _ x => [x]
  | .convert _ d x => match P.underlying d with | some .string => [x] | _ => []
  | .call cl =>
    match cl.callee with
    | .value f => f :: cl.args.toList
    | .builtin .append => cl.args.toList.drop 1
    | _ => []
  | _ => []

/-- Is it nil? What is asked, and of which elements. -/
def nilQ (P : Program) (σ : St) (g : Bool) : Op → Option (Bool × Prop × List AV)
  | .binOp .eql t x (.const (.slice none 0 0)) _ =>
    match (σ.get g x).2, P.underlying t with
    | .sl _ _ xs, some (.slice _) => some (true, (σ.get g x).1, xs)
    | _, _ => none
  | _ => none

def Step (c : Ctx) (ops : Array Oper) (σ0 : St) (o : Oper) (K : St → Prop) : Prop :=
  match gflag ops σ0 o with
  | none => False
  | some g =>
    let σ := σ0.frzO (frzOf c.P o.op)
    match o.op with
    | .call ⟨.value x, args, _⟩ =>
      match (σ.get g x).2, o.dst with
      | .fn f caps, some d => (σ.get g x).1 ∧ caps.all AV.data0 = true ∧ (argsOf σ g args.toList).1 ∧
          CallK c.P f ((argsOf σ g args.toList).2 ++ caps) g o.guard.isNone fun r ho => K ⟨(killO (retK ho d) σ.s).set d (gval o g (r.ren d)), retH ho d σ.h⟩
      | _, _ => False
    | op =>
      match effOf c.P σ o with
      | some r => (g = true → r.1 ∧ K ⟨setO (killO r.2.2.2 σ.s) o.dst (gval o true r.2.1), r.2.2.1⟩) ∧ (g = false → K ⟨setO σ.s o.dst (gval o false .junk), σ.h⟩)
      | none =>
        match nilQ c.P σ g op with
        | some q => q.2.1 ∧ ∀ b, (b = true → q.2.2 = []) → K ⟨setO σ.s o.dst (gval o g (.bool b)), σ.h⟩
        | none => (ev2 c.P σ g op).1 ∧ K ⟨setO σ.s o.dst (gval o g (ev2 c.P σ g op).2), σ.h⟩

def wpStep (P : Program) (ops : Array Oper) (Q : Exit → Act → World → Prop) (o : Oper) (K : Act → World → Prop) (a : Act) (w : World) : Prop :=
  if Region.wanted o (yielded ops a.tmps) then o.wp P a w K Q ∨ (o.asks P a w ∧ LetsOut Q) else K (a.put o.dst undef) w

section
variable {ok ok' : Nat → Prop} {φ φ' : Names} {w w' : World} {v u : Value} {P : Program} {c : Ctx} {σ : St} {a : Act} {y : AV}
  {ops : Array Oper} {N : St → Prop} {E : Nat → St → Prop} {R : St → Prop} {rest : List Oper} {o : Oper} {g : Bool} {Q : Exit → Act → World → Prop}

theorem equal_nil {t e : TypeId} (hu : P.underlying t = some (.slice e)) (ad : Option Addr) (n cap : Nat) (w : World) : (Op.equal t (.slice ad n cap) (.slice none 0 0)).run P w = .ok ad.isNone w := by
  have key : ∀ d, (Op.equalIn (d + 1) t (.slice ad n cap) (.slice none 0 0)).run P w = .ok ad.isNone w := by
    intro d
    unfold Op.equalIn
    cases ad <;> simp [run_underlying hu]
  exact key 9999

theorem nilQ_sound (h : Holds1 c ok φ σ a w) {q : Bool × Prop × List AV} (hq : nilQ c.P σ true o.op = some q) (hc : q.2.1) :
    ∃ b, (b = true → q.2.2 = []) ∧ (execOp a.eval o).run c.P w = .ok (.value (.bool b)) w := by
  obtain ⟨dst, op, type, pos, after, guard⟩ := o
  unfold nilQ at hq
  simp only at hq
  split at hq
  · rename_i t x yt
    split at hq
    · rename_i ex sz xs e hx hu
      cases hq
      have hv := h.get rfl hc
      rw [hx] at hv
      have hk : a.eval (.const (.slice none 0 0)) = .slice none 0 0 := rfl
      rcases hv.sl_inv.sl_cases with ⟨hn, ad, cap, hv', _⟩ | ⟨b, o, cap, hv', _⟩
      · cases ad with
        | none => exact ⟨true, fun _ => hn, by simp [execOp, hv', hk, eqGuard, binOp, equal_nil hu]⟩
        | some ad => exact ⟨false, by simp, by simp [execOp, hv', hk, eqGuard, binOp, equal_nil hu]⟩
      · exact ⟨false, by simp, by simp [execOp, hv', hk, eqGuard, binOp, equal_nil hu]⟩
    · cases hq
  · cases hq

theorem Step.sound {K : St → Prop} (hs : Step c ops σ o K) (h : Holds c σ a w) : wpStep c.P ops Q o (fun a w => ∃ σ', K σ' ∧ Holds c σ' a w) a w := by
  unfold Step at hs
  obtain ⟨ok0, φ0, h0⟩ := h
  split at hs
  · exact hs.elim
  rename_i g hg
  have hw := wanted_eq h0 hg
  obtain ⟨ok, φ, ha⟩ := Le.frzO (frzOf c.P o.op) a w ⟨ok0, φ0, h0⟩
  generalize σ.frzO (frzOf c.P o.op) = σ1 at *
  have hund : ∀ y : AV, g = false → R2 ok φ w undef (gval o g y) := by
    intro y hgf
    unfold gval
    split
    · rename_i e; simp [gflag, e, hgf] at hg
    · exact ⟨(fun e => by rw [hgf] at e; cases e), fun _ => rfl⟩
  unfold wpStep
  rw [hw]
  simp only at hs
  split at hs
  · rename_i x args ats hop
    split at hs
    · rename_i f caps d hx hd
      obtain ⟨h1, h2, h3, r, ho, hsp, hu, hfn, hrest⟩ := hs
      cases g with
      | true =>
        simp only [if_true]
        refine .inl ?_
        have hsp := hsp rfl
        have hxr := ha.get rfl h1
        rw [hx] at hxr
        obtain ⟨vs, hve, hvp⟩ := hxr
        have hcaps : Pts (DRep ok w) vs caps := ⟨hvp.1, fun i v x h1 h2' => (hvp.2 i v x h1 h2').data (List.all_eq_true.1 h2 x (List.mem_of_getElem? h2'))⟩
        unfold Oper.wp
        rcases hsp with hsp | ⟨rfl, hsp, hrd⟩
        · rw [exec_call (cl := ⟨.value x, args, ats⟩) rfl hve hsp.1 w hop, Oper.upon_enter]
          refine Calls.mono (ha.call hsp ((argsOf_sound ha _ h3).append hcaps) d hfn) ?_
          rintro e w' ⟨v, ok', φ', rfl, hgo, hr⟩
          refine ⟨_, hrest, ok', φ', ?_⟩
          have := ha.goes hgo (d := o.dst) (gval_R2 (o := o) rfl hr)
          rw [hd] at this ⊢
          exact this
        · obtain ⟨v, hv1, hv2⟩ := hsp ok w _ ((argsOf_sound ha _ h3).append hcaps)
          rw [exec_xcall (cl := ⟨.value x, args, ats⟩) rfl hve w hop hv1]
          refine ⟨_, hrest, ok, φ, ?_⟩
          have := ha.goes (Goes.refl ha) (d := o.dst) (gval_R2 (o := o) rfl (R1.of_data hv2))
          rw [ren_data hrd]
          rw [hd] at this ⊢
          exact this
      | false =>
        simp only [Bool.false_eq_true, if_false]
        have hgn : o.guard.isNone = false := by
          cases hgd : o.guard with
          | none => simp [gflag, hgd] at hg
          | some _ => rfl
        have : ho = none := by rcases hu with h | h
                               · rw [hgn] at h; cases h
                               · exact h
        subst this
        refine ⟨_, hrest, ok, φ, ?_⟩
        have := ha.goes (Goes.refl ha) (d := o.dst) (hund (r.ren d) rfl)
        rw [hd] at this ⊢
        exact this
    · exact hs.elim
  · split at hs
    · rename_i r hr
      cases g with
      | true =>
        simp only [if_true]
        refine .inl ?_
        obtain ⟨hc, hk⟩ := hs.1 rfl
        obtain ⟨v, st, w', ok', φ', h1, h2, h3, h4⟩ := eff_sound ha o r hr hc
        unfold Oper.wp
        rw [h1]
        have hh := ha.goes h3 (d := o.dst) (gval_R2 (o := o) rfl h4)
        rcases h2 with rfl | ⟨rfl, rfl⟩
        · exact ⟨_, hk, ok', φ', hh⟩
        · exact ⟨_, hk, ok', φ', hh⟩
      | false =>
        simp only [Bool.false_eq_true, if_false]
        exact ⟨_, hs.2 rfl, ok, φ, ha.goes (Goes.refl ha) (d := o.dst) (hund _ rfl)⟩
    · split at hs
      · rename_i q hq
        cases g with
        | true =>
          simp only [if_true]
          refine .inl ?_
          obtain ⟨b, hb, hrun⟩ := nilQ_sound ha hq hs.1
          unfold Oper.wp
          rw [hrun]
          exact ⟨_, hs.2 b hb, ok, φ, ha.goes (Goes.refl ha) (gval_R2 rfl (R1.bool b))⟩
        | false =>
          simp only [Bool.false_eq_true, if_false]
          exact ⟨_, hs.2 false (by simp), ok, φ, ha.goes (Goes.refl ha) (d := o.dst) (hund _ rfl)⟩
      · cases g with
        | true =>
          simp only [if_true]
          refine .inl ?_
          obtain ⟨v, hv, hr⟩ := ev2_sound ha rfl o hs.1
          unfold Oper.wp
          rw [hv w (.inr rfl)]
          exact ⟨_, hs.2, ok, φ, ha.goes (Goes.refl ha) (gval_R2 rfl hr)⟩
        | false =>
          simp only [Bool.false_eq_true, if_false]
          exact ⟨_, hs.2, ok, φ, ha.goes (Goes.refl ha) (d := o.dst) (hund _ rfl)⟩

/-- A region's operations in their order. -/
def TS (c : Ctx) (ops : Array Oper) (N : St → Prop) : List Oper → St → Prop
  | [], σ => N σ
  | o :: rest, σ => Step c ops σ o (TS c ops N rest)
theorem TS.tl : ∀ (rest : List Oper) (σ : St), TS c ops N rest σ → TL c ops N E R rest σ
  | [], σ, h => TL.nil h
  | o :: rest, σ, h => fun a w ha => by
    have := Step.sound (Q := PQ c N E R) h ha
    unfold wpStep at this
    unfold wpList
    split at this
    · rename_i hw
      simp only [hw, if_true]
      rcases this with this | this
      · exact .inl (Oper.wp_mono (fun a w ⟨σ', h1, h2⟩ => TS.tl rest σ' h1 a w h2) this)
      · exact .inr this
    · rename_i hw
      simp only [hw, if_false]
      obtain ⟨σ', h1, h2⟩ := this
      exact TS.tl rest σ' h1 _ _ h2
theorem T.reg2 {id : Nat} (h : TS c ops N ops.toList σ) : T c (.region id ops false) N E R σ := T.region (TS.tl _ _ h)

/-! In any order. -/
inductive Plan where
  | done
  | take (i : Nat) (p : Plan)
  | one (i : Nat) (p : Plan)
  | two (i : Nat) (p : Plan) (j : Nat) (q : Plan)
  | three (i : Nat) (p : Plan) (j : Nat) (q : Plan) (k : Nat) (r : Plan)
def plain : Op → Bool
  | .move _ | .assign _ | .pick .. | .unOp .. | .slice .. | .indexAddr .. | .index .. | .extract .. => true
  | .binOp _ _ _ y _ => match y with | .const (.slice ..) => false | _ => true
  | .call cl => match cl.callee with | .builtin .len | .builtin .min => true | _ => false
  | _ => false
def Plan.good (ops : Array Oper) : Plan → Nat → Array Bool → Bool
  | .done, _, l => (Region.ready .any ops l).isEmpty
  | .take i p, f + 1, l => Region.free .any ops l i && (Region.ready .any ops l).contains i && p.good ops f (l.setIfInBounds i true)
  | .one i p, f + 1, l => (Region.ready .any ops l == [i]) && p.good ops f (l.setIfInBounds i true)
  | .two i p j q, f + 1, l => (Region.ready .any ops l == [i, j]) && p.good ops f (l.setIfInBounds i true) && q.good ops f (l.setIfInBounds j true)
  | .three i p j q k r, f + 1, l => (Region.ready .any ops l == [i, j, k]) && p.good ops f (l.setIfInBounds i true) && q.good ops f (l.setIfInBounds j true) && r.good ops f (l.setIfInBounds k true)
  | _, _, _ => false
def mkPlan (ops : Array Oper) : Nat → Array Bool → Plan
  | 0, _ => .done
  | f + 1, l =>
    match Region.ready .any ops l with
    | [] => .done
    | rs =>
      match rs.find? (fun i => ((ops[i]?).map fun o => plain o.op).getD false && Region.free .any ops l i) with
      | some i => .take i (mkPlan ops f (l.setIfInBounds i true))
      | none =>
        match rs with
        | [i] => .one i (mkPlan ops f (l.setIfInBounds i true))
        | [i, j] => .two i (mkPlan ops f (l.setIfInBounds i true)) j (mkPlan ops f (l.setIfInBounds j true))
        | [i, j, k] => .three i (mkPlan ops f (l.setIfInBounds i true)) j (mkPlan ops f (l.setIfInBounds j true)) k (mkPlan ops f (l.setIfInBounds k true))
        | _ => .done
def atStep (c : Ctx) (ops : Array Oper) (σ : St) (i : Nat) (K : St → Prop) : Prop :=
  match ops[i]? with
  | some o => Step c ops σ o K
  | none => False
def takeStep (c : Ctx) (ops : Array Oper) (σ : St) (i : Nat) (K : St → Prop) : Prop :=
  match ops[i]? with
  | some o =>
    match gflag ops σ o with
    | some g => wi o.op = true ∧ (ev2 c.P σ g o.op).1 ∧ K ⟨setO σ.s o.dst (gval o g (ev2 c.P σ g o.op).2), σ.h⟩
    | none => False
  | none => False
def TP (c : Ctx) (ops : Array Oper) (N : St → Prop) : Plan → St → Prop
  | .done, σ => N σ
  | .take i p, σ => takeStep c ops σ i (TP c ops N p)
  | .one i p, σ => atStep c ops σ i (TP c ops N p)
  | .two i p j q, σ => atStep c ops σ i (TP c ops N p) ∧ atStep c ops σ j (TP c ops N q)
  | .three i p j q k r, σ => atStep c ops σ i (TP c ops N p) ∧ atStep c ops σ j (TP c ops N q) ∧ atStep c ops σ k (TP c ops N r)

theorem atStep_sound {i : Nat} {K : St → Prop} {K' : Act → World → Prop} (h : atStep c ops σ i K) (ha : Holds c σ a w) (hk : ∀ σ' a w, K σ' → Holds c σ' a w → K' a w) : wpOp c.P ops Q i K' a w := by
  unfold atStep at h
  unfold wpOp
  split at h
  · rename_i o ho
    simp only [ho]
    have := Step.sound (Q := Q) h ha
    unfold wpStep at this
    split at this
    · rename_i hw
      simp only [hw, if_true]
      rcases this with this | this
      · exact .inl (Oper.wp_mono (fun a w ⟨σ', h1, h2⟩ => hk σ' a w h1 h2) this)
      · exact .inr this
    · rename_i hw
      simp only [hw, if_false]
      obtain ⟨σ', h1, h2⟩ := this
      exact hk σ' _ _ h1 h2
  · exact h.elim

theorem TP.sound (hsel : Region.noSelect ops = true) : ∀ (p : Plan) (f : Nat) (l : Array Bool) (σ : St) (a : Act) (w : World), p.good ops f l = true → TP c ops N p σ → Holds c σ a w → wpAny c.P .any ops (PQ c N E R) f l a w
  | .done, f, l, σ, a, w, hok, h, ha => by
    simp only [Plan.good, List.isEmpty_iff] at hok
    exact wpAny_done hok ⟨σ, h, ha⟩ f
  | .take i p, 0, _, _, _, _, hok, _, _ => by simp [Plan.good] at hok
  | .one i p, 0, _, _, _, _, hok, _, _ => by simp [Plan.good] at hok
  | .two i p j q, 0, _, _, _, _, hok, _, _ => by simp [Plan.good] at hok
  | .three i p j q k r, 0, _, _, _, _, hok, _, _ => by simp [Plan.good] at hok
  | .take i p, f + 1, l, σ, a, w, hok, h, ha => by
    simp only [Plan.good, Bool.and_eq_true] at hok
    simp only [TP, takeStep] at h
    split at h
    rotate_left
    · exact h.elim
    rename_i o ho
    split at h
    rotate_left
    · exact h.elim
    rename_i g hg
    obtain ⟨hwi, hc, hk⟩ := h
    obtain ⟨ok, φ, hh⟩ := ha
    have hw := wanted_eq hh hg
    cases g with
    | true =>
      obtain ⟨v, hv, hr⟩ := ev2_sound hh rfl o hc
      refine wpAny_take (v := v) ho hsel hok.1.1 hok.1.2 (fun _ _ _ h => h) (.inl ⟨hw, fun w => hv w (.inl hwi)⟩) ?_
      exact TP.sound hsel p f _ _ _ _ hok.2 hk ⟨ok, φ, hh.goes (Goes.refl hh) (gval_R2 rfl hr)⟩
    | false =>
      refine wpAny_take (v := undef) ho hsel hok.1.1 hok.1.2 (fun _ _ _ h => h) (.inr ⟨hw, rfl⟩) ?_
      exact TP.sound hsel p f _ _ _ _ hok.2 hk ⟨ok, φ, hh.goes (Goes.refl hh) (gval_undef rfl hg)⟩
  | .one i p, f + 1, l, σ, a, w, hok, h, ha => by
    simp only [Plan.good, Bool.and_eq_true, beq_iff_eq] at hok
    refine wpAny_all hok.1 (by simp) fun k hk => ?_
    simp only [List.mem_singleton] at hk
    subst hk
    exact atStep_sound h ha fun σ' a w h1 h2 => TP.sound hsel p f _ _ _ _ hok.2 h1 h2
  | .two i p j q, f + 1, l, σ, a, w, hok, h, ha => by
    simp only [Plan.good, Bool.and_eq_true, beq_iff_eq] at hok
    refine wpAny_all hok.1.1 (by simp) fun k hk => ?_
    simp only [List.mem_cons, List.not_mem_nil, or_false] at hk
    rcases hk with rfl | rfl
    · exact atStep_sound h.1 ha fun σ' a w h1 h2 => TP.sound hsel p f _ _ _ _ hok.1.2 h1 h2
    · exact atStep_sound h.2 ha fun σ' a w h1 h2 => TP.sound hsel q f _ _ _ _ hok.2 h1 h2
  | .three i p j q k r, f + 1, l, σ, a, w, hok, h, ha => by
    simp only [Plan.good, Bool.and_eq_true, beq_iff_eq] at hok
    refine wpAny_all hok.1.1.1 (by simp) fun k hk => ?_
    simp only [List.mem_cons, List.not_mem_nil, or_false] at hk
    rcases hk with rfl | rfl | rfl
    · exact atStep_sound h.1 ha fun σ' a w h1 h2 => TP.sound hsel p f _ _ _ _ hok.1.1.2 h1 h2
    · exact atStep_sound h.2.1 ha fun σ' a w h1 h2 => TP.sound hsel q f _ _ _ _ hok.1.2 h1 h2
    · exact atStep_sound h.2.2 ha fun σ' a w h1 h2 => TP.sound hsel r f _ _ _ _ hok.2 h1 h2

theorem Holds.drawn {n : Nat} (h : Holds c σ a w) : Holds c σ a { w with drawn := n } := by
  obtain ⟨ok, φ, h⟩ := h
  refine ⟨ok, φ, h.defers, h.slots.mono fun v x hx => hx.mono (fun _ h => h) (fun _ _ => rfl) (fun _ _ => rfl), h.heap.mono (fun _ h => h) (fun _ _ => rfl) (fun k o g sz N ho hφ => ⟨rfl, (h.heap.lt ho hφ).2.2⟩), h.okLt, h.okOr, h.ok0, ?_⟩
  have hb := h.below
  exact ⟨hb.1, hb.2, hb.3, hb.4, hb.5⟩

theorem T.drawn {id : Nat} (p : Plan) (hm : c.P.follows .mixedOrders = true) (hsel : Region.noSelect ops = true) (hok : p.good ops ops.size (Array.replicate ops.size false) = true) (h : TP c ops N p σ) : T c (.region id ops true) N E R σ := fun _ _ ha =>
  wp_region_any hm (TP.sound hsel p _ _ _ _ _ hok h ha.drawn)
end
end Go.Ideal
