/- A region's operations, one after the other, over abstract states. -/
import Derived.Test.YtdhkkdhooobdhaaGreatDoorCoreH
set_option linter.unusedVariables false
set_option linter.unusedSimpArgs false
namespace Go.Ideal
open Go.RowKit

def flagOf (b : Bool) : AV → Option Bool
  | .bool t => some (t == b)
  | .opt f (.bool t) => some (f && (t == b))
  | _ => none
def gflag (ops : Array Oper) (σ : St) (o : Oper) : Option Bool :=
  match o.guard with
  | none => some true
  | some (j, b) =>
    match (ops[j]?).bind (·.dst) with
    | some d => flagOf b (σ.look1 d)
    | none => none
def gval (o : Oper) (g : Bool) (y : AV) : AV :=
  match o.guard with
  | none => y
  | some _ => .opt g y

def TL (c : Ctx) (ops : Array Oper) (N : St → Prop) (E : Nat → St → Prop) (R : St → Prop) (rest : List Oper) (σ : St) : Prop :=
  ∀ a w, Holds c σ a w → wpList c.P ops (PQ c N E R) rest a w

section
variable {ok ok' : Nat → Prop} {φ φ' : Names} {w w' : World} {v u : Value} {P : Program} {c : Ctx} {σ : St} {a : Act} {y : AV}
  {ops : Array Oper} {N : St → Prop} {E : Nat → St → Prop} {R : St → Prop} {rest : List Oper} {o : Oper} {g : Bool}

theorem T.region {id : Nat} (h : TL c ops N E R ops.toList σ) : T c (.region id ops false) N E R σ := fun a w ha => wp_region_list (h a w ha)
theorem TL.nil (h : N σ) : TL c ops N E R [] σ := fun a w ha => wpList_nil ⟨σ, h, ha⟩

theorem Holds1.at (h : Holds1 c ok φ σ a w) {d : Nat} (hd : σ.look1 d ≠ .junk) : ∃ v, a.tmps[d]? = some v ∧ R2 ok φ w v (σ.look1 d) := by
  by_cases ht : d < σ.s.length
  · obtain ⟨v, hv, hr⟩ := h.slots.get (i := d) (x := σ.look1 d) (getD_some ht)
    exact ⟨v, by simpa using hv, hr⟩
  · exact absurd (by simp [St.look1, List.getD, ht]) hd

theorem wanted_eq (h : Holds1 c ok φ σ a w) (hg : gflag ops σ o = some g) : Region.wanted o (yielded ops a.tmps) = g := by
  unfold gflag at hg
  unfold Region.wanted
  split at hg
  · rename_i e; rw [e]; simpa using hg
  · rename_i j b e
    rw [e]
    simp only
    split at hg
    · rename_i d hd
      unfold yielded
      rw [hd]
      simp only [Option.bind_some]
      unfold flagOf at hg
      split at hg
      · rename_i t ht
        obtain ⟨v, hv, hr⟩ := h.at (d := d) (by rw [ht]; simp)
        rw [ht] at hr
        cases hr
        simp only [hv]
        cases t <;> cases b <;> simp at hg ⊢ <;> exact hg
      · rename_i f t ht
        obtain ⟨v, hv, hr⟩ := h.at (d := d) (by rw [ht]; simp)
        rw [ht] at hr
        cases f with
        | true =>
          have hr := hr.1 rfl
          cases hr
          simp only [hv]
          cases t <;> cases b <;> simp at hg ⊢ <;> exact hg
        | false =>
          rw [hr.2 rfl] at hv
          simp only [hv, undef]
          simpa using hg
      · cases hg
    · cases hg

theorem gval_R2 (hg : g = true) (h : R1 ok φ w v y) : R2 ok φ w v (gval o g y) := by
  unfold gval
  split
  · exact R2.of_R1 h
  · exact ⟨fun _ => h, fun e => by rw [hg] at e; cases e⟩
theorem gval_undef (hg : g = false) (hn : gflag ops σ o = some g) : R2 ok φ w undef (gval o g y) := by
  unfold gval
  split
  · rename_i e; simp [gflag, e, hg] at hn
  · exact ⟨(fun e => by rw [hg] at e; cases e), fun _ => rfl⟩

theorem TL.pure (hg : gflag ops σ o = some g) (hc : (ev c.P σ g o.op).1) (h : TL c ops N E R rest ⟨setO σ.s o.dst (gval o g (ev c.P σ g o.op).2), σ.h⟩) :
    TL c ops N E R (o :: rest) σ := by
  rintro a w ⟨ok, φ, ha⟩
  have hw := wanted_eq ha hg
  unfold wpList
  rw [hw]
  cases g with
  | true =>
    simp only [if_true]
    obtain ⟨v, hv, hr⟩ := ev_sound ha rfl o hc
    refine .inl ?_
    unfold Oper.wp
    rw [hv w (.inr rfl)]
    exact h _ _ ⟨ok, φ, ha.goes (Goes.refl ha) (gval_R2 rfl hr)⟩
  | false =>
    simp only [Bool.false_eq_true, if_false]
    exact h _ _ ⟨ok, φ, ha.goes (Goes.refl ha) (gval_undef rfl hg)⟩

def AV.data : AV → Bool
  | .fn _ caps => caps.all AV.data0
  | .tup _ => false
  | .big _ => false
  | x => x.data0

theorem R1.data {x : AV} (h : R1 ok φ w v x) (hd : x.data = true) : DRep ok w v x := by
  by_cases hfn : ∃ f caps, x = .fn f caps
  · obtain ⟨f, caps, rfl⟩ := hfn
    obtain ⟨vs, rfl, hp⟩ := h
    refine .fn f vs caps hp.1 fun i v x h1 h2 => (hp.2 i v x h1 h2).data ?_
    exact List.all_eq_true.1 hd x (List.mem_of_getElem? h2)
  · by_cases ht : ∃ xs, x = .tup xs
    · obtain ⟨xs, rfl⟩ := ht; simp [AV.data] at hd
    · have e : R1 ok φ w v x = R0 ok φ w v x := by
        cases x <;> first | rfl | (exact absurd ⟨_, _, rfl⟩ hfn) | (exact absurd ⟨_, rfl⟩ ht) | (simp [AV.data] at hd; done)
      have e2 : x.data = x.data0 := by cases x <;> first | rfl | (exact absurd ⟨_, _, rfl⟩ hfn) | (exact absurd ⟨_, rfl⟩ ht) | (simp [AV.data] at hd; done)
      rw [e] at h; rw [e2] at hd
      exact h.data hd

/-- Operands that are given away: data. -/
def argsOf (σ : St) (g : Bool) : List Operand → Prop × List AV
  | [] => (True, [])
  | x :: xs => ((σ.get g x).1 ∧ (g = true → (σ.get g x).2.data = true) ∧ (argsOf σ g xs).1, (σ.get g x).2 :: (argsOf σ g xs).2)

theorem argsOf_sound (h : Holds1 c ok φ σ a w) : ∀ xs : List Operand, (argsOf σ true xs).1 → Pts (DRep ok w) (xs.map a.eval) (argsOf σ true xs).2
  | [], _ => Pts.nil
  | x :: xs, hx => Pts.cons ((h.get rfl hx.1).data (hx.2.1 rfl)) (argsOf_sound h xs hx.2.2)

/-- A function without a body of its own, that only computes. -/
def XSpec (P : Program) (f : FuncId) (ds : List AV) (r : AV) : Prop :=
  ∀ (ok : Nat → Prop) (w : World) (vs : List Value), Pts (DRep ok w) vs ds → ∃ v, (callFunc f vs.toArray).run P w = .ok (.value v) w ∧ DRep ok w v r
/-- A call: some contract fits, and the rest goes on with its result. -/
def CallK (P : Program) (f : FuncId) (ds : List AV) (g u : Bool) (K : AV → Option HO → Prop) : Prop :=
  ∃ r ho, (g = true → Spec P f ds r ho ∨ (ho = none ∧ XSpec P f ds r ∧ r.data = true)) ∧ (u = true ∨ ho = none) ∧ (∀ f caps, r = .fn f caps → ∀ k, r.names k = false) ∧ K r ho

theorem exec_call {cl : Call} {x : Operand} {f : FuncId} {caps : List Value} (hcal : cl.callee = .value x) (hx : a.eval x = .func (.func f) #[] caps.toArray) (hf : Callable P f) (w : World) (hop : o.op = .call cl) :
    (execOp a.eval o).run P w = .ok (.enter f (cl.args.toList.map a.eval ++ caps).toArray) w := by
  obtain ⟨fn, h1, h2, h3⟩ := hf
  simp only [execOp, hop, resolve, hcal, hx, Deferred.ofValue]
  have h2' : fn.name ≠ "runtime.NumGoroutine" := by simpa using h2
  have h3' : fn.body ≠ none := by intro e; rw [e] at h3; cases h3
  simp [invoke, callFunc, h1, h2', h3']

theorem exec_xcall {cl : Call} {x : Operand} {f : FuncId} {caps : List Value} (hcal : cl.callee = .value x) (hx : a.eval x = .func (.func f) #[] caps.toArray) (w : World) (hop : o.op = .call cl) {v : Value}
    (h : (callFunc f (cl.args.toList.map a.eval ++ caps).toArray).run P w = .ok (.value v) w) : (execOp a.eval o).run P w = .ok (.value v) w := by
  have e : (cl.args.toList.map a.eval ++ caps).toArray = cl.args.map a.eval ++ caps.toArray := by simp
  rw [e] at h
  rw [← h]
  simp only [execOp, hop, resolve, hcal, hx, Deferred.ofValue]
  simp [invoke]

theorem ren_data {x : AV} (h : x.data = true) (d : Nat) : x.ren d = x := by
  cases x <;> first | rfl | (simp [AV.data, AV.data0] at h)

theorem T.cond {x : Operand} {thn els : Code} {b : Bool} (h1 : (σ.get true x).1) (hx : (σ.get true x).2 = .bool b) (ht : b = true → T c thn N E R σ) (hf : b = false → T c els N E R σ) : T c (.cond x thn els) N E R σ := by
  rintro a w ⟨ok, φ, ha⟩
  have := ha.get rfl h1
  rw [hx] at this
  exact wp_cond_split this.bool_inv (fun e => ht e a w ⟨ok, φ, ha⟩) (fun e => hf e a w ⟨ok, φ, ha⟩)

theorem no_mine {P : Program} {w : World} {ok : Nat → Prop} {b : Nat} (h : (⟨P, w, ok, noB⟩ : Ctx).mine b) : w.heap.size ≤ b := h.elim id fun e => e.elim
/-- The result lies in slot t: data, or owned memory. -/
structure Fin (t : Nat) (r : AV) (ho : Option HO) (σ : St) : Prop where
  lt : t < σ.s.length
  opt : strip (σ.look1 t) = σ.look1 t
  eq : (σ.look1 t).ren 0 = r
  own : ∃ k, (∀ j, (σ.look1 t).names j = true → j = k) ∧ (∀ o, ho = some o → look σ.h k = some o)
  fn : ∀ f caps, σ.look1 t = .fn f caps → ∀ k, (σ.look1 t).names k = false
  names : ∀ j, r.names j = true → j = 0 ∧ ho.isSome = true

def hoOK : Option HO → Bool
  | none => true
  | some o => !o.bx
theorem hoOK_inv {ho : Option HO} (h : hoOK ho = true) : ∀ o, ho = some o → o.bx = false := by
  intro o e; subst e; simpa [hoOK] using h

theorem Spec.of_T {f : FuncId} {fn : Func} {code : Code} {t : Nat} {ds : List AV} {r : AV} {ho : Option HO} (hbx : hoOK ho = true) (hf : P.funcs[f]? = some fn) (hn : (fn.name == "runtime.NumGoroutine") = false)
    (hb : fn.body = some code) (hres : fn.results = #[.tmp t])
    (h : ∀ w ok, T ⟨P, w, ok, noB⟩ code (Fin t r ho) (fun _ _ => False) (Fin t r ho) ⟨ds ++ List.replicate (fn.ntmps - ds.length) .junk, []⟩) : Spec P f ds r ho := by
  refine ⟨⟨fn, hf, hn, by rw [hb]; rfl⟩, hoOK_inv hbx, fun ok w vs hlt hp => ?_⟩
  refine calls_of_wp hf hb ?_
  have hst : Holds ⟨P, w, ok, noB⟩ ⟨ds ++ List.replicate (fn.ntmps - ds.length) .junk, []⟩ { tmps := vs.toArray ++ Array.replicate (fn.ntmps - vs.toArray.size) undef, defers := [] } w := by
    refine ⟨ok, fun _ => none, rfl, ?_, ⟨by simp [look], by simp [look]⟩, hlt, fun b hb => .inl hb, fun b hb => hb, FrB.refl _ _⟩
    have e : (vs.toArray ++ Array.replicate (fn.ntmps - vs.toArray.size) undef).toList = vs ++ List.replicate (fn.ntmps - ds.length) undef := by
      simp [hp.1]
    rw [e]
    refine (hp.mono fun v x hx => R2.of_data hx).append ⟨by simp, fun i v x h1 h2 => ?_⟩
    have h1 := List.eq_of_mem_replicate (List.mem_of_getElem? h1)
    have h2 := List.eq_of_mem_replicate (List.mem_of_getElem? h2)
    subst h1 h2
    trivial
  have key : ∀ (a : Act) (w' : World), (∃ σ, Fin t r ho σ ∧ Holds ⟨P, w, ok, noB⟩ σ a w') → a.defers = [] ∧ ∃ v, (results fn a.tmps).run P w' = .ok v w' ∧ (∃ v' ok' φ, Ending.returned v = .returned v' ∧ Below w.heap.size w w' ∧ (∀ b, ok b → ok' b) ∧
      (∀ b, ok' b → b < w'.heap.size ∧ (ok b ∨ w.heap.size ≤ b)) ∧ R1 ok' φ w' v' r ∧ (∀ k, r.names k = true → k = 0 ∧ ho.isSome = true) ∧
      HeapOK ok' φ (oneH ho) w' (fun g => w.heap.size ≤ g)) := by
    rintro a w' ⟨σ, hF, ok', φ, hh⟩
    refine ⟨hh.defers, a.tmps.getD t undef, results_tmp hres a.tmps P w', a.tmps.getD t undef, ok', ?_⟩
    obtain ⟨k, hk1, hk2⟩ := hF.own
    obtain ⟨v, hv, hr⟩ := hh.slots.get (i := t) (x := σ.look1 t) (getD_some hF.lt)
    have e : a.tmps.getD t undef = v := by
      rw [Array.getElem?_toList] at hv
      simp [Array.getD_eq_getD_getElem?, hv]
    rw [e]
    have hr1 : R1 ok' φ w' v (σ.look1 t) := by
      have := hF.opt
      generalize σ.look1 t = x at *
      cases x <;> first | exact hr | skip
      case opt b y =>
        simp only [strip] at this
        exact absurd (congrArg SizeOf.sizeOf this) (by simp)
    refine ⟨fun j => if j = 0 then φ k else none, rfl, FrB.below hh.below, hh.ok0, fun b hb => ⟨hh.okLt b hb, (hh.okOr b hb).imp_right no_mine⟩, ?_, hF.names, ?_⟩
    · rw [← hF.eq]
      exact ren_R1 hr1 (fun j hj => by simp [hk1 j hj]) hF.fn
    · cases ho with
      | none => exact ⟨by simp [oneH, look], by simp [oneH, look]⟩
      | some o =>
        have ho := hk2 o rfl
        refine ⟨fun j o' hj => ?_, fun j j' o1 o2 g sz N sz' N' h1 h2 _ _ => ?_⟩
        · simp only [oneH, look] at hj
          split at hj
          · rename_i e; subst e; cases hj
            simp only [if_true]
            rcases hh.heap.at_ k o ho with h1 | ⟨g, N, h1, h2, h3, h4⟩
            · exact .inl h1
            · refine .inr ⟨g, N, h1, no_mine h2, h3, ?_⟩
              have hb0 := hoOK_inv hbx o rfl
              rw [hb0] at h4 ⊢
              obtain ⟨cur, fz, a1, a2, a3, a4, a5, a6, a7⟩ := h4
              exact ⟨cur, fz, a1, a2, a3, a4, a5, a6, a7⟩
          · cases hj
        · simp only [oneH, look] at h1 h2
          split at h1
          · split at h2
            · omega
            · cases h2
          · cases h1
  refine wp_mono (h w ok _ w hst) fun e a' w' q => ?_
  cases e with
  | normal => exact key a' w' q
  | ret => exact key a' w' q
  | exit i => obtain ⟨σ, h1, _⟩ := q; exact h1.elim
  | _ => exact q.elim

/-! A function that takes owned memory over. -/
def ownOf (φ : Names) (k : Nat) (b : Nat) : Prop := ∃ sz N, φ k = some (b, sz, N)
def oneN (φ : Names) (k : Nat) : Names := fun j => if j = 0 then φ k else none
def SpecO (P : Program) (f : FuncId) (o : HO) (ds : List AV) (r : AV) (o' : HO) : Prop :=
  Callable P f ∧ o.bx = false ∧ o'.bx = false ∧ ∀ (ok : Nat → Prop) (φ : Names) (w : World) (vs : List Value), (∀ b, ok b → b < w.heap.size) → (∀ j, j ≠ 0 → φ j = none) →
    HeapOK ok φ [(0, o)] w (fun _ => True) → Pts (R0 ok φ w) vs ds →
    Calls P f vs.toArray w fun e w' => ∃ v ok' φ', e = .returned v ∧ FrB (ownOf φ 0) w w' ∧ (∀ b, ok b → ok' b) ∧
      (∀ b, ok' b → b < w'.heap.size ∧ (ok b ∨ w.heap.size ≤ b ∨ ownOf φ 0 b)) ∧ R1 ok' φ' w' v r ∧ (∀ k, r.names k = true → k = 0) ∧
      HeapOK ok' φ' [(0, o')] w' (fun g => w.heap.size ≤ g ∨ ownOf φ 0 g)

theorem Holds1.callO (h : Holds1 c ok φ σ a w) {f : FuncId} {ds : List AV} {r : AV} {k : Nat} {o o' : HO} (ho : look σ.h k = some o) (sp : SpecO c.P f o ds r o') {vs : List Value} (hargs : Pts (R0 ok (oneN φ k) w) vs ds)
    (hfn : ∀ f caps, r = .fn f caps → ∀ k, r.names k = false) :
    Calls c.P f vs.toArray w fun e w' => ∃ v ok' φ', e = .returned v ∧ Goes c ok φ w ok' φ' (retH (some o') k σ.h) w' (some k) (some k) ∧ R1 ok' φ' w' v (r.ren k) := by
  obtain ⟨hcal, hbx, hbx', sp⟩ := sp
  have hone : oneN φ k 0 = φ k := by simp [oneN]
  have hown : ∀ b, ownOf (oneN φ k) 0 b ↔ ownOf φ k b := fun b => by simp [ownOf, hone]
  have hobj0 : ∀ (ψ ψ' : Names) (o : HO) (ok : Nat → Prop) (w : World) (g N : Nat), o.bx = false → ObjAt ok ψ w g o.sz N o.e o.bx o.xs → ObjAt ok ψ' w g o.sz N o.e o.bx o.xs := by
    intro ψ ψ' o ok w g N hb hO
    rw [hb] at hO ⊢
    obtain ⟨cur, fz, a1, a2, a3, a4, a5, a6, a7⟩ := hO
    exact ⟨cur, fz, a1, a2, a3, a4, a5, a6, a7⟩
  have hheap1 : HeapOK ok (oneN φ k) [(0, o)] w (fun _ => True) := by
    refine ⟨fun j p hj => ?_, fun j j' p p' g sz N sz' N' h1 h2 _ _ => ?_⟩
    · simp only [look] at hj
      split at hj
      · rename_i e; subst e; cases hj
        rw [hone]
        rcases h.heap.at_ k o ho with h1 | ⟨g, N, h1, h2, h3, h4⟩
        · exact .inl h1
        · exact .inr ⟨g, N, h1, trivial, h3, hobj0 _ _ _ _ _ _ _ hbx h4⟩
      · cases hj
    · simp only [look] at h1 h2
      split at h1
      · split at h2
        · omega
        · cases h2
      · cases h1
  refine Calls.mono (sp ok (oneN φ k) w vs h.okLt (fun j hj => by simp [oneN, hj]) hheap1 hargs) ?_
  rintro e w' ⟨v, ok', φ1, rfl, hb, hsub, hok', hr, hn, hh⟩
  have hmine : ∀ b, ownOf φ k b → b < w.heap.size ∧ c.mine b ∧ ¬ ok b := by
    rintro b ⟨sz, N, hb⟩
    exact h.heap.lt ho hb
  have hsame : ∀ b, b < w.heap.size → ¬ ownOf φ k b → w'.heap[b]? = w.heap[b]? := fun b hb' hn => hb.block b hb' fun e => hn ((hown b).1 e)
  have hB := h.below.size
  have hsameok : ∀ b, ok b → w'.heap[b]? = w.heap[b]? := fun b hb' => hsame b (h.okLt b hb') fun e => (hmine b e).2.2 hb'
  have hold : ∀ j o2 g sz N, look (drop σ.h k) j = some o2 → φ j = some (g, sz, N) → w'.heap[g]? = w.heap[g]? ∧ ¬ ok' g := by
    intro j o2 g sz N hj hφ
    by_cases e : j = k
    · subst e; rw [look_drop_self] at hj; cases hj
    rw [look_drop_ne _ e] at hj
    have hnk : ¬ ownOf φ k g := by
      rintro ⟨sz', N', h1⟩
      exact e (h.heap.inj j k o2 o _ _ _ _ _ hj ho hφ h1)
    obtain ⟨h1, h2, h3⟩ := h.heap.lt hj hφ
    refine ⟨hsame g h1 hnk, fun hg => ?_⟩
    rcases (hok' g hg).2 with h4 | h4 | h4
    · exact h3 h4
    · omega
    · exact hnk ((hown g).1 h4)
  have hor : ∀ b, ok' b → c.ok0 b ∨ c.mine b := fun b hb' => by
    rcases (hok' b hb').2 with h4 | h4 | h4
    · exact h.okOr b h4
    · exact .inr (.inl (by omega))
    · exact .inr (hmine b ((hown b).1 h4)).2.1
  have hdrop : HeapOK ok φ (drop σ.h k) w c.mine := by
    refine ⟨fun j p hj => ?_, fun j j' p p' g sz N sz' N' h1 h2 h3 h4 => ?_⟩
    · by_cases e : j = k
      · subst e; rw [look_drop_self] at hj; cases hj
      · rw [look_drop_ne _ e] at hj; exact h.heap.at_ j p hj
    · by_cases e : j = k
      · subst e; rw [look_drop_self] at h1; cases h1
      · by_cases e' : j' = k
        · subst e'; rw [look_drop_self] at h2; cases h2
        · rw [look_drop_ne _ e] at h1; rw [look_drop_ne _ e'] at h2; exact h.heap.inj j j' p p' g sz N sz' N' h1 h2 h3 h4
  have hheap0 := hdrop.mono hsub hsameok hold
  have hφ' : ∀ j, j ≠ k → (fun j => if j = k then φ1 0 else φ j) j = φ j := fun j hj => by simp [hj]
  have hK := hheap0.killed (k := k) hφ'
  have hlk : ∀ j, j ≠ k → look (killH k σ.h) j = look (killH k (drop (drop σ.h k) k)) j := fun j hj => by rw [look_killH, look_killH, look_drop_ne _ hj, look_drop_ne _ hj]
  have h00 := hh.at_ 0 o' (by simp [look])
  have new : ∀ {g sz N}, φ1 0 = some (g, sz, N) → w.heap.size ≤ g ∨ ownOf φ k g := by
    intro g sz N hg
    rcases h00 with ⟨h1, _⟩ | ⟨g', N', h1, h2, _⟩
    · rw [hg] at h1; cases h1
    · rw [hg] at h1; cases h1; exact h2.imp_right (hown g).1
  have hbel : FrB c.own c.w0 w' := h.below.trans hb fun b hb1 hb2 => by
    rcases (hmine b ((hown b).1 hb2)).2.1 with h4 | h4
    · omega
    · exact h4
  refine ⟨v, ok', fun j => if j = k then φ1 0 else φ j, rfl, ⟨hsub, hsameok, fun j hj => ?_, ⟨fun j p hj => ?_, ?_⟩, fun b hb' => (hok' b hb').1, hor, hbel, fun b hb1 hb2 => ?_⟩, ?_⟩
  · have : j ≠ k := fun e => hj (by rw [e])
    simp [this]
  · by_cases e : j = k
    · subst e
      rw [retH, look_put_self] at hj; cases hj
      simp only [if_true]
      rcases h00 with h1 | ⟨g, N, h1, h2, h3, h4⟩
      · exact .inl h1
      · refine .inr ⟨g, N, h1, ?_, h3, hobj0 _ _ _ _ _ _ _ hbx' h4⟩
        rcases h2 with h2 | h2
        · exact .inl (by omega)
        · exact (hmine g ((hown g).1 h2)).2.1
    · rw [retH, look_put_ne _ _ e, hlk j e] at hj
      exact hK.at_ j p hj
  · have cross : ∀ j g sz N sz' N' q, j ≠ k → look (killH k σ.h) j = some q → φ1 0 = some (g, sz, N) → φ j = some (g, sz', N') → False := by
      intro j g sz N sz' N' q e hj h3 h4
      rw [look_killH] at hj
      cases h0 : look σ.h j with
      | none => simp [h0] at hj
      | some p =>
        rcases new h3 with h5 | ⟨s2, n2, h5⟩
        · have := (h.heap.lt h0 h4).1; omega
        · exact e (h.heap.inj j k p o _ _ _ _ _ h0 ho h4 h5)
    intro j j' p p' g sz N sz' N' h1 h2 h3 h4
    by_cases e : j = k
    · by_cases e' : j' = k
      · rw [e, e']
      · exfalso
        simp only [e, if_true] at h3
        simp only [e', if_false] at h4
        rw [retH, look_put_ne _ _ e'] at h2
        exact cross j' g sz N sz' N' p' e' h2 h3 h4
    · by_cases e' : j' = k
      · exfalso
        simp only [e', if_true] at h4
        simp only [e, if_false] at h3
        rw [retH, look_put_ne _ _ e] at h1
        exact cross j g sz' N' sz N p e h1 h4 h3
      · simp only [e, if_false] at h3
        simp only [e', if_false] at h4
        rw [retH, look_put_ne _ _ e, look_killH] at h1
        rw [retH, look_put_ne _ _ e', look_killH] at h2
        cases h0 : look σ.h j with
        | none => simp [h0] at h1
        | some q => cases h0' : look σ.h j' with
          | none => simp [h0'] at h2
          | some q' => exact h.heap.inj j j' q q' g sz N sz' N' h0 h0' h3 h4
  · exact hsame b hb1 fun ⟨sz, N, e⟩ => hb2 k sz N rfl e
  · exact ren_R1 hr (fun j hj => by rw [hn j hj]; simp) hfn

theorem SpecO.of_T {f : FuncId} {fn : Func} {code : Code} {t : Nat} {ds : List AV} {r : AV} {o o' : HO} (hbx : o.bx = false) (hbx' : o'.bx = false) (hf : P.funcs[f]? = some fn) (hn : (fn.name == "runtime.NumGoroutine") = false)
    (hb : fn.body = some code) (hres : fn.results = #[.tmp t])
    (h : ∀ w ok own, T ⟨P, w, ok, own⟩ code (Fin t r (some o')) (fun _ _ => False) (Fin t r (some o')) ⟨ds ++ List.replicate (fn.ntmps - ds.length) .junk, [(0, o)]⟩) : SpecO P f o ds r o' := by
  refine ⟨⟨fn, hf, hn, by rw [hb]; rfl⟩, hbx, hbx', fun ok φ w vs hlt hφ0 hheap hp => ?_⟩
  refine calls_of_wp hf hb ?_
  have hst : Holds ⟨P, w, ok, ownOf φ 0⟩ ⟨ds ++ List.replicate (fn.ntmps - ds.length) .junk, [(0, o)]⟩ { tmps := vs.toArray ++ Array.replicate (fn.ntmps - vs.toArray.size) undef, defers := [] } w := by
    refine ⟨ok, φ, rfl, ?_, ⟨fun j p hj => ?_, hheap.inj⟩, hlt, fun b hb => .inl hb, fun b hb => hb, FrB.refl _ _⟩
    · have e : (vs.toArray ++ Array.replicate (fn.ntmps - vs.toArray.size) undef).toList = vs ++ List.replicate (fn.ntmps - ds.length) undef := by
        simp [hp.1]
      rw [e]
      refine (hp.mono fun v x hx => R2.of_R0 hx).append ⟨by simp, fun i v x h1 h2 => ?_⟩
      have h1 := List.eq_of_mem_replicate (List.mem_of_getElem? h1)
      have h2 := List.eq_of_mem_replicate (List.mem_of_getElem? h2)
      subst h1 h2
      trivial
    · rcases hheap.at_ j p hj with h1 | ⟨g, N, h1, h2, h3⟩
      · exact .inl h1
      · refine .inr ⟨g, N, h1, .inr ?_, h3⟩
        simp only [look] at hj
        split at hj
        · rename_i e; subst e; exact ⟨_, _, h1⟩
        · cases hj
  have key : ∀ (a : Act) (w' : World), (∃ σ, Fin t r (some o') σ ∧ Holds ⟨P, w, ok, ownOf φ 0⟩ σ a w') → a.defers = [] ∧ ∃ v, (results fn a.tmps).run P w' = .ok v w' ∧ (∃ v' ok' φ', Ending.returned v = .returned v' ∧ FrB (ownOf φ 0) w w' ∧ (∀ b, ok b → ok' b) ∧
      (∀ b, ok' b → b < w'.heap.size ∧ (ok b ∨ w.heap.size ≤ b ∨ ownOf φ 0 b)) ∧ R1 ok' φ' w' v' r ∧ (∀ k, r.names k = true → k = 0) ∧
      HeapOK ok' φ' [(0, o')] w' (fun g => w.heap.size ≤ g ∨ ownOf φ 0 g)) := by
    rintro a w' ⟨σ, hF, ok', φ', hh⟩
    refine ⟨hh.defers, a.tmps.getD t undef, results_tmp hres a.tmps P w', a.tmps.getD t undef, ok', ?_⟩
    obtain ⟨k, hk1, hk2⟩ := hF.own
    obtain ⟨v, hv, hr⟩ := hh.slots.get (i := t) (x := σ.look1 t) (getD_some hF.lt)
    have e : a.tmps.getD t undef = v := by
      rw [Array.getElem?_toList] at hv
      simp [Array.getD_eq_getD_getElem?, hv]
    rw [e]
    have hr1 : R1 ok' φ' w' v (σ.look1 t) := by
      have := hF.opt
      generalize σ.look1 t = x at *
      cases x <;> first | exact hr | skip
      case opt b y =>
        simp only [strip] at this
        exact absurd (congrArg SizeOf.sizeOf this) (by simp)
    refine ⟨fun j => if j = 0 then φ' k else none, rfl, hh.below, hh.ok0, fun b hb => ⟨hh.okLt b hb, hh.okOr b hb⟩, ?_, fun j hj => (hF.names j hj).1, ?_⟩
    · rw [← hF.eq]
      exact ren_R1 hr1 (fun j hj => by simp [hk1 j hj]) hF.fn
    · have ho := hk2 o' rfl
      refine ⟨fun j p hj => ?_, fun j j' o1 o2 g sz N sz' N' h1 h2 _ _ => ?_⟩
      · simp only [look] at hj
        split at hj
        · rename_i e; subst e; cases hj
          simp only [if_true]
          rcases hh.heap.at_ k o' ho with h1 | ⟨g, N, h1, h2, h3, h4⟩
          · exact .inl h1
          · refine .inr ⟨g, N, h1, h2, h3, ?_⟩
            rw [hbx'] at h4 ⊢
            obtain ⟨cur, fz, a1, a2, a3, a4, a5, a6, a7⟩ := h4
            exact ⟨cur, fz, a1, a2, a3, a4, a5, a6, a7⟩
        · cases hj
      · simp only [look] at h1 h2
        split at h1
        · split at h2
          · omega
          · cases h2
        · cases h1
  refine wp_mono (h w ok _ _ w hst) fun e a' w' q => ?_
  cases e with
  | normal => exact key a' w' q
  | ret => exact key a' w' q
  | exit i => obtain ⟨σ, h1, _⟩ := q; exact h1.elim
  | _ => exact q.elim
end
end Go.Ideal
