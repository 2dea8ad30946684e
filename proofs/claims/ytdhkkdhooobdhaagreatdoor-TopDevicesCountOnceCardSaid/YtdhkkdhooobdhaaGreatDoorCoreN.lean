/- Rules in the form in which proofs use them. -/
import Derived.Test.YtdhkkdhooobdhaaGreatDoorCoreM
set_option linter.unusedVariables false
set_option linter.unusedSimpArgs false
namespace Go.Ideal
open Go.RowKit
section
variable {c : Ctx} {N N' : St → Prop} {E E' : Nat → St → Prop} {R R' : St → Prop} {σ σ' : St} {x y : Code} {ops : Array Oper} {id : Nat}
theorem T.seqK (h : ∀ K : St → Prop, (∀ σ', T c y N E R σ' → K σ') → T c x K E R σ) : T c (.seq x y) N E R σ := T.seq (h _ (fun _ h => h))
/-- A state with some known slots. -/
def mk (n : Nat) (l : List (Nat × AV)) : List AV := (List.range n).map fun i => ((l.find? fun p => p.1 == i).map (·.2)).getD .junk

theorem Le.fit {xs ys : List AV} {h h' : List (Nat × HO)} (f : Fits xs ys) (e : h = h') : Le c ⟨xs, h⟩ ⟨ys, h'⟩ := e ▸ f.le
theorem T.bloop {ι : Type} {b : Nat} (st : ι → St) (I : ι → Prop) (μ : ι → Nat) (i0 : ι) (hI : I i0) (hle : Le c σ (st i0))
    (hr : ∀ i, I i → T c x (fun σ' => ∃ i', I i' ∧ μ i' < μ i ∧ Le c σ' (st i')) (fun i => if i = b then N else E i) R (st i)) : T c (.block b (.loop x)) N E R σ :=
  T.block (T.loop st I μ ⟨i0, hI, hle⟩ hr)
theorem T.condT {t : Nat} {b : Bool} {thn els : Code} (hx : σ.look1 t = .bool b) (ht : b = true → T c thn N E R σ) (hf : b = false → T c els N E R σ) : T c (.cond (.tmp t) thn els) N E R σ :=
  T.cond (b := b) (by simp only [St.get, hx, optOK]) (by simp only [St.get, hx, strip]) ht hf
theorem T.post (l : List Operand) (h : T c x (fun σ => N (σ.frzO l)) E (fun σ => R (σ.frzO l)) σ) : T c x N E R σ := fun a w ha =>
  wp_mono (h a w ha) fun e a' w' q => by
    cases e <;> first | exact q | skip
    · obtain ⟨σ', h1, h2⟩ := q; exact ⟨_, h1, Le.frzO l _ _ h2⟩
    · obtain ⟨σ', h1, h2⟩ := q; exact ⟨_, h1, Le.frzO l _ _ h2⟩

def AV.fin : AV → Bool
  | .int .. | .bool _ | .str _ | .sl .. | .agg _ | .cp _ | .ifc .. | .atom _ | .mp .. => true
  | .fn _ caps => caps.all AV.data0
  | _ => false
theorem AV.fin_names {x : AV} (h : x.fin = true) (k : Nat) : x.names k = false := by
  cases x <;> first | rfl | (simp [AV.fin] at h; done) | skip
  case fn f caps =>
    simp only [AV.names, AV.names1]
    rw [List.any_eq_false]
    intro y hy hn
    have := List.all_eq_true.1 h y hy
    cases y <;> first | (simp [AV.names0] at hn; done) | (simp [AV.data0] at this)
theorem AV.fin_ren {x : AV} (h : x.fin = true) (k : Nat) : x.ren k = x := by cases x <;> first | rfl | (simp [AV.fin] at h)
theorem AV.fin_strip {x : AV} (h : x.fin = true) : strip x = x := by cases x <;> first | rfl | (simp [AV.fin] at h)
theorem AV.fin_R0 {x : AV} (h : x.fin = true) {ok : Nat → Prop} {φ : Names} {w : World} {v : Value} (hr : R2 ok φ w v x) : DRep ok w v x := by
  cases x <;> first | exact hr | (simp [AV.fin] at h; done) | skip
  case fn f caps => exact R1.data (x := .fn f caps) hr h
theorem Fin.data {t : Nat} {x : AV} (hx : σ.look1 t = x) (hlt : Nat.blt t σ.s.length = true) (hf : x.fin = true) : Fin t x none σ := by
  refine ⟨by simpa using hlt, by rw [hx]; exact AV.fin_strip hf, by rw [hx]; exact AV.fin_ren hf 0, ⟨0, fun j hj => ?_, by simp⟩, fun f caps _ k => by rw [hx]; exact AV.fin_names hf k, fun j hj => ?_⟩
  · rw [hx, AV.fin_names hf] at hj; cases hj
  · rw [AV.fin_names hf] at hj; cases hj
theorem Fin.osl {t k len : Nat} {o : HO} (hx : σ.look1 t = .osl k 0 len) (hlt : Nat.blt t σ.s.length = true) (ho : look σ.h k = some o) : Fin t (.osl 0 0 len) (some o) σ := by
  refine ⟨by simpa using hlt, by rw [hx]; rfl, by rw [hx]; rfl, ⟨k, fun j hj => ?_, fun o' e => by cases e; exact ho⟩, (fun f caps e => by rw [hx] at e; cases e), fun j hj => ?_⟩
  · rw [hx] at hj; have : k = j := by simpa [AV.names, AV.names1, AV.names0] using hj
    exact this.symm
  · have : 0 = j := by simpa [AV.names, AV.names1, AV.names0] using hj
    exact ⟨this.symm, rfl⟩

structure At (t : Nat) (x : AV) (σ : St) : Prop where
  lt' : Nat.blt t σ.s.length = true
  eq : σ.look1 t = x
  fin : x.fin = true

theorem Spec.of_post {P : Program} {f : FuncId} {fn : Func} {code : Code} {ds : List AV} {r : AV} {post : St → Prop} (hf : P.funcs[f]? = some fn) (hn : (fn.name == "runtime.NumGoroutine") = false)
    (hb : fn.body = some code) (hrn : ∀ k, r.names k = false)
    (hres : ∀ (c : Ctx) σ a w, post σ → Holds c σ a w → ∃ v, (results fn a.tmps).run P w = .ok v w ∧ ∀ ok φ, Holds1 c ok φ σ a w → R1 ok φ w v r)
    (h : ∀ w ok, T ⟨P, w, ok, noB⟩ code post (fun _ _ => False) post ⟨ds ++ List.replicate (fn.ntmps - ds.length) .junk, []⟩) : Spec P f ds r none := by
  refine ⟨⟨fn, hf, hn, by rw [hb]; rfl⟩, (by simp), fun ok w vs hlt hp => ?_⟩
  refine calls_of_wp hf hb ?_
  have hst : Holds ⟨P, w, ok, noB⟩ ⟨ds ++ List.replicate (fn.ntmps - ds.length) .junk, []⟩ { tmps := vs.toArray ++ Array.replicate (fn.ntmps - vs.toArray.size) undef, defers := [] } w := by
    refine ⟨ok, fun _ => none, rfl, ?_, ⟨by simp [look], by simp [look]⟩, hlt, fun b hb => .inl hb, fun b hb => hb, FrB.refl _ _⟩
    have e : (vs.toArray ++ Array.replicate (fn.ntmps - vs.toArray.size) undef).toList = vs ++ List.replicate (fn.ntmps - ds.length) undef := by
      simp [hp.1]
    rw [e]
    refine (hp.mono fun v x hx => R2.of_data hx).append ⟨by simp, fun i v x h1 h2 => ?_⟩
    have h2 := List.eq_of_mem_replicate (List.mem_of_getElem? h2)
    subst h2
    trivial
  have key : ∀ (a : Act) (w' : World), (∃ σ, post σ ∧ Holds ⟨P, w, ok, noB⟩ σ a w') → a.defers = [] ∧ ∃ v, (results fn a.tmps).run P w' = .ok v w' ∧ (∃ v' ok' φ, Ending.returned v = .returned v' ∧ Below w.heap.size w w' ∧ (∀ b, ok b → ok' b) ∧
      (∀ b, ok' b → b < w'.heap.size ∧ (ok b ∨ w.heap.size ≤ b)) ∧ R1 ok' φ w' v' r ∧ (∀ k, r.names k = true → k = 0 ∧ (none : Option HO).isSome = true) ∧
      HeapOK ok' φ (oneH none) w' (fun g => w.heap.size ≤ g)) := by
    rintro a w' ⟨σ, hF, hh⟩
    obtain ⟨v, h1, h2⟩ := hres _ σ a w' hF hh
    obtain ⟨ok', φ, hh⟩ := hh
    exact ⟨hh.defers, v, h1, v, ok', φ, rfl, FrB.below hh.below, hh.ok0, fun b hb => ⟨hh.okLt b hb, (hh.okOr b hb).imp_right no_mine⟩, h2 ok' φ hh, (fun k hk => by rw [hrn k] at hk; cases hk), ⟨by simp [oneH, look], by simp [oneH, look]⟩⟩
  refine wp_mono (h w ok _ w hst) fun e a' w' q => ?_
  cases e with
  | normal => exact key a' w' q
  | ret => exact key a' w' q
  | exit i => obtain ⟨σ, h1, _⟩ := q; exact h1.elim
  | _ => exact q.elim

theorem At.lt {t : Nat} {x : AV} (h : At t x σ) : t < σ.s.length := by simpa using h.lt'
theorem At.rep {t : Nat} {z : AV} {a : Act} {w : World} {ok : Nat → Prop} {φ : Names} (h : At t z σ) (hh : Holds1 c ok φ σ a w) : DRep ok w (a.tmps.getD t undef) z := by
  obtain ⟨v, hv, hr⟩ := hh.slots.get (i := t) (x := σ.look1 t) (getD_some h.lt)
  have e : a.tmps.getD t undef = v := by
    rw [Array.getElem?_toList] at hv
    simp [Array.getD_eq_getD_getElem?, hv]
  rw [e, ← h.eq]
  exact AV.fin_R0 (by rw [h.eq]; exact h.fin) hr

theorem AV.tup_names {xs : List AV} (h : xs.all AV.fin = true) (k : Nat) : (AV.tup xs).names k = false := by
  simp only [AV.names, AV.names1]
  rw [List.any_eq_false]
  intro x hx
  have := AV.fin_names (List.all_eq_true.1 h x hx) k
  cases x <;> first | (simp [AV.names0]; done) | (simp [AV.names, AV.names1, AV.names0] at this ⊢; try exact this)

theorem Spec.of_T2 {P : Program} {f : FuncId} {fn : Func} {code : Code} {t u : Nat} {ds : List AV} {p q : AV} (hf : P.funcs[f]? = some fn) (hn : (fn.name == "runtime.NumGoroutine") = false)
    (hb : fn.body = some code) (hres : fn.results = #[.tmp t, .tmp u]) (hfin : [p, q].all AV.fin = true)
    (h : ∀ w ok, T ⟨P, w, ok, noB⟩ code (fun σ => At t p σ ∧ At u q σ) (fun _ _ => False) (fun σ => At t p σ ∧ At u q σ) ⟨ds ++ List.replicate (fn.ntmps - ds.length) .junk, []⟩) : Spec P f ds (.tup [p, q]) none := by
  refine Spec.of_post hf hn hb (AV.tup_names hfin) (fun c σ a w hp _ => ⟨_, results_tmp2 hres a.tmps P w, fun ok φ hh => ?_⟩) h
  exact ⟨[_, _], rfl, Pts.cons (R0.of_data (hp.1.rep hh)) (Pts.cons (R0.of_data (hp.2.rep hh)) Pts.nil)⟩
theorem Spec.of_T3 {P : Program} {f : FuncId} {fn : Func} {code : Code} {t u s : Nat} {ds : List AV} {p q r : AV} (hf : P.funcs[f]? = some fn) (hn : (fn.name == "runtime.NumGoroutine") = false)
    (hb : fn.body = some code) (hres : fn.results = #[.tmp t, .tmp u, .tmp s]) (hfin : [p, q, r].all AV.fin = true)
    (h : ∀ w ok, T ⟨P, w, ok, noB⟩ code (fun σ => At t p σ ∧ At u q σ ∧ At s r σ) (fun _ _ => False) (fun σ => At t p σ ∧ At u q σ ∧ At s r σ) ⟨ds ++ List.replicate (fn.ntmps - ds.length) .junk, []⟩) : Spec P f ds (.tup [p, q, r]) none := by
  refine Spec.of_post hf hn hb (AV.tup_names hfin) (fun c σ a w hp _ => ⟨_, results_tmp3 hres a.tmps P w, fun ok φ hh => ?_⟩) h
  exact ⟨[_, _, _], rfl, Pts.cons (R0.of_data (hp.1.rep hh)) (Pts.cons (R0.of_data (hp.2.1.rep hh)) (Pts.cons (R0.of_data (hp.2.2.rep hh)) Pts.nil))⟩
def resRun (tmps : Array Value) : ResultVar → Sem Value
  | .tmp t => pure (tmps.getD t undef)
  | .cell t ty => do loadVar ty (← asAddr (tmps.getD t undef))
theorem results_eq (fn : Func) (tmps : Array Value) : Go.results fn tmps = (fn.results.mapM (resRun tmps) >>= fun vs => pure (if h : vs.size = 1 then vs[0] else .tuple vs) : Sem Value) := by
  unfold Go.results
  first | rfl | (congr 1; done) | (congr 1; congr 1; funext r; cases r <;> rfl)
/-- A result: what lies in a slot, or in the variable that a slot points to. -/
def ResAt (P : Program) (σ : St) (x : AV) : ResultVar → Prop
  | .tmp t => At t x σ
  | .cell t ty => ∃ cs, Nat.blt t σ.s.length = true ∧ σ.look1 t = .cp cs ∧ (P.underlying ty).isSome = true ∧ szIs P ty (P.cellsOf ty) ∧ (evLoad P [] ty (.cp cs)).1 ∧ (evLoad P [] ty (.cp cs)).2 = x ∧ x.fin = true
theorem ResAt.run {P : Program} {x : AV} {r : ResultVar} {a : Act} {w : World} {ok : Nat → Prop} {φ : Names} (hP : c.P = P) (h : ResAt P σ x r) (hh : Holds1 c ok φ σ a w) :
    ∃ v, (resRun a.tmps r).run P w = .ok v w ∧ DRep ok w v x := by
  cases r with
  | tmp t => exact ⟨_, rfl, At.rep h hh⟩
  | cell t ty =>
    obtain ⟨cs, hlt, hl, hu, hs, h1, h2, hf⟩ := h
    have hlt' : t < σ.s.length := by simpa using hlt
    obtain ⟨v, hv, hr⟩ := hh.slots.get (i := t) (x := σ.look1 t) (getD_some hlt')
    have e : a.tmps.getD t undef = v := by
      rw [Array.getElem?_toList] at hv
      simp [Array.getD_eq_getD_getElem?, hv]
    rw [hl] at hr
    have hr : R1 ok φ w v (.cp cs) := hr
    obtain ⟨u, h3, h4⟩ := evLoad_sound (H := []) (B := fun _ => True) (P := P) (t := ty) ⟨by simp [look], by simp [look]⟩ hr hu hs h1
    rw [h2] at h4
    have h4 := AV.fin_R0 hf (R2.of_R1 h4)
    have hp : ∃ b o, v = .pointer (some ⟨b, o, none⟩) := by
      have hr := hr.cp_inv
      cases hr with
      | cp b o _ _ _ _ _ _ _ => exact ⟨b, o, rfl⟩
    obtain ⟨b, o, rfl⟩ := hp
    refine ⟨u, ?_, h4⟩
    simp only [resRun, e]
    simpa [Instr.loadAt, Instr.sureAddr, asAddr] using h3
def ResAll (P : Program) (σ : St) : List AV → List ResultVar → Prop
  | [], [] => True
  | x :: xs, r :: rs => ResAt P σ x r ∧ ResAll P σ xs rs
  | _, _ => False
theorem ResAll.run {P : Program} {a : Act} {w : World} {ok : Nat → Prop} {φ : Names} (hP : c.P = P) (hh : Holds1 c ok φ σ a w) : ∀ (xs : List AV) (rs : List ResultVar), ResAll P σ xs rs →
    ∃ vs : List Value, (rs.mapM (resRun a.tmps)).run P w = .ok vs w ∧ Pts (DRep ok w) vs xs
  | [], [], _ => ⟨[], by simp, Pts.nil⟩
  | x :: xs, r :: rs, h => by
    obtain ⟨v, h1, h2⟩ := h.1.run hP hh
    obtain ⟨vs, h3, h4⟩ := ResAll.run hP hh xs rs h.2
    refine ⟨v :: vs, ?_, Pts.cons h2 h4⟩
    simp only [List.mapM_cons, Sem.run_bind, h1, Result.andThen_ok, h3, Sem.run_pure]
  | [], _ :: _, h => h.elim
  | _ :: _, [], h => h.elim
theorem ResAll.results {P : Program} {a : Act} {w : World} {ok : Nat → Prop} {φ : Names} {fn : Func} (hP : c.P = P) (hh : Holds1 c ok φ σ a w) {xs : List AV} {rs : List ResultVar} (hres : fn.results = rs.toArray) (h : ResAll P σ xs rs) :
    ∃ vs : List Value, (results fn a.tmps).run P w = .ok (if h : vs.length = 1 then vs[0] else .tuple vs.toArray) w ∧ Pts (DRep ok w) vs xs := by
  obtain ⟨vs, h1, h2⟩ := ResAll.run hP hh xs rs h
  refine ⟨vs, ?_, h2⟩
  have h1' : (rs.toArray.mapM (resRun a.tmps)).run P w = .ok vs.toArray w := by
    rw [List.mapM_toArray]
    simp only [← bind_pure_comp, Sem.run_bind, h1, Result.andThen_ok, Sem.run_pure]
  rw [results_eq, hres]
  simp only [Sem.run_bind, h1', Result.andThen_ok, Sem.run_pure]
  simp
/-- One result, in a variable. -/
theorem Spec.of_C {P : Program} {f : FuncId} {fn : Func} {code : Code} {rs : List ResultVar} {ds : List AV} {x : AV} (hf : P.funcs[f]? = some fn) (hn : (fn.name == "runtime.NumGoroutine") = false)
    (hb : fn.body = some code) (hres : fn.results = rs.toArray) (hfin : x.fin = true)
    (h : ∀ w ok, T ⟨P, w, ok, noB⟩ code (fun σ => ResAll P σ [x] rs) (fun _ _ => False) (fun σ => ResAll P σ [x] rs) ⟨ds ++ List.replicate (fn.ntmps - ds.length) .junk, []⟩) : Spec P f ds x none := by
  unfold Spec
  have key : ∀ (w : World) (ok : Nat → Prop), T ⟨P, w, ok, noB⟩ code (fun σ => ResAll P σ [x] rs) (fun _ _ => False) (fun σ => ResAll P σ [x] rs) ⟨ds ++ List.replicate (fn.ntmps - ds.length) .junk, []⟩ := h
  refine ⟨⟨fn, hf, hn, by rw [hb]; rfl⟩, (by simp), fun ok w vs hlt hp => ?_⟩
  refine calls_of_wp hf hb ?_
  have hst : Holds ⟨P, w, ok, noB⟩ ⟨ds ++ List.replicate (fn.ntmps - ds.length) .junk, []⟩ { tmps := vs.toArray ++ Array.replicate (fn.ntmps - vs.toArray.size) undef, defers := [] } w := by
    refine ⟨ok, fun _ => none, rfl, ?_, ⟨by simp [look], by simp [look]⟩, hlt, fun b hb => .inl hb, fun b hb => hb, FrB.refl _ _⟩
    have e : (vs.toArray ++ Array.replicate (fn.ntmps - vs.toArray.size) undef).toList = vs ++ List.replicate (fn.ntmps - ds.length) undef := by
      simp [hp.1]
    rw [e]
    refine (hp.mono fun v x hx => R2.of_data hx).append ⟨by simp, fun i v x h1 h2 => ?_⟩
    have h2 := List.eq_of_mem_replicate (List.mem_of_getElem? h2)
    subst h2
    trivial
  have key2 : ∀ (a : Act) (w' : World), (∃ σ, ResAll P σ [x] rs ∧ Holds ⟨P, w, ok, noB⟩ σ a w') → a.defers = [] ∧ ∃ v, (results fn a.tmps).run P w' = .ok v w' ∧ (∃ v' ok' φ, Ending.returned v = .returned v' ∧ Below w.heap.size w w' ∧ (∀ b, ok b → ok' b) ∧
      (∀ b, ok' b → b < w'.heap.size ∧ (ok b ∨ w.heap.size ≤ b)) ∧ R1 ok' φ w' v' x ∧ (∀ k, x.names k = true → k = 0 ∧ (none : Option HO).isSome = true) ∧
      HeapOK ok' φ (oneH none) w' (fun g => w.heap.size ≤ g)) := by
    rintro a w' ⟨σ, hF, ok', φ, hh⟩
    obtain ⟨us, h1, h2⟩ := ResAll.results rfl hh hres hF
    obtain ⟨u, us', rfl, h3, h4⟩ := h2.cons_inv
    have h5 := h4.nil_inv
    subst h5
    refine ⟨hh.defers, u, by simpa using h1, u, ok', φ, rfl, FrB.below hh.below, hh.ok0, fun b hb => ⟨hh.okLt b hb, (hh.okOr b hb).imp_right no_mine⟩, R1.of_data h3, (fun k hk => by rw [AV.fin_names hfin k] at hk; cases hk), ⟨by simp [oneH, look], by simp [oneH, look]⟩⟩
  refine wp_mono (h w ok _ w hst) fun e a' w' q => ?_
  cases e with
  | normal => exact key2 a' w' q
  | ret => exact key2 a' w' q
  | exit i => obtain ⟨σ, h1, _⟩ := q; exact h1.elim
  | _ => exact q.elim
/-- Several results. -/
theorem Spec.of_M {P : Program} {f : FuncId} {fn : Func} {code : Code} {rs : List ResultVar} {ds : List AV} {x y : AV} {xs : List AV} (hf : P.funcs[f]? = some fn) (hn : (fn.name == "runtime.NumGoroutine") = false)
    (hb : fn.body = some code) (hres : fn.results = rs.toArray) (hfin : (x :: y :: xs).all AV.fin = true)
    (h : ∀ w ok, T ⟨P, w, ok, noB⟩ code (fun σ => ResAll P σ (x :: y :: xs) rs) (fun _ _ => False) (fun σ => ResAll P σ (x :: y :: xs) rs) ⟨ds ++ List.replicate (fn.ntmps - ds.length) .junk, []⟩) : Spec P f ds (.tup (x :: y :: xs)) none := by
  refine ⟨⟨fn, hf, hn, by rw [hb]; rfl⟩, (by simp), fun ok w vs hlt hp => ?_⟩
  refine calls_of_wp hf hb ?_
  have hst : Holds ⟨P, w, ok, noB⟩ ⟨ds ++ List.replicate (fn.ntmps - ds.length) .junk, []⟩ { tmps := vs.toArray ++ Array.replicate (fn.ntmps - vs.toArray.size) undef, defers := [] } w := by
    refine ⟨ok, fun _ => none, rfl, ?_, ⟨by simp [look], by simp [look]⟩, hlt, fun b hb => .inl hb, fun b hb => hb, FrB.refl _ _⟩
    have e : (vs.toArray ++ Array.replicate (fn.ntmps - vs.toArray.size) undef).toList = vs ++ List.replicate (fn.ntmps - ds.length) undef := by
      simp [hp.1]
    rw [e]
    refine (hp.mono fun v x hx => R2.of_data hx).append ⟨by simp, fun i v x h1 h2 => ?_⟩
    have h2 := List.eq_of_mem_replicate (List.mem_of_getElem? h2)
    subst h2
    trivial
  have key2 : ∀ (a : Act) (w' : World), (∃ σ, ResAll P σ (x :: y :: xs) rs ∧ Holds ⟨P, w, ok, noB⟩ σ a w') → a.defers = [] ∧ ∃ v, (results fn a.tmps).run P w' = .ok v w' ∧ (∃ v' ok' φ, Ending.returned v = .returned v' ∧ Below w.heap.size w w' ∧ (∀ b, ok b → ok' b) ∧
      (∀ b, ok' b → b < w'.heap.size ∧ (ok b ∨ w.heap.size ≤ b)) ∧ R1 ok' φ w' v' (.tup (x :: y :: xs)) ∧ (∀ k, (AV.tup (x :: y :: xs)).names k = true → k = 0 ∧ (none : Option HO).isSome = true) ∧
      HeapOK ok' φ (oneH none) w' (fun g => w.heap.size ≤ g)) := by
    rintro a w' ⟨σ, hF, ok', φ, hh⟩
    obtain ⟨us, h1, h2⟩ := ResAll.results rfl hh hres hF
    have hne : us.length ≠ 1 := by rw [h2.1]; simp
    rw [dif_neg hne] at h1
    refine ⟨hh.defers, _, h1, _, ok', φ, rfl, FrB.below hh.below, hh.ok0, fun b hb => ⟨hh.okLt b hb, (hh.okOr b hb).imp_right no_mine⟩, ⟨us, rfl, h2.mono fun v x hx => R0.of_data hx⟩, (fun k hk => by rw [AV.tup_names hfin k] at hk; cases hk), ⟨by simp [oneH, look], by simp [oneH, look]⟩⟩
  refine wp_mono (h w ok _ w hst) fun e a' w' q => ?_
  cases e with
  | normal => exact key2 a' w' q
  | ret => exact key2 a' w' q
  | exit i => obtain ⟨σ, h1, _⟩ := q; exact h1.elim
  | _ => exact q.elim
theorem inR_i64 (n : Int) : inR .i64 n ↔ (-9223372036854775808 ≤ n ∧ n < 9223372036854775808) := by
  unfold inR IntKind.wrap; simp [IntKind.bits, IntKind.signed]; omega
theorem inR_u8 (n : Int) : inR .u8 n ↔ (0 ≤ n ∧ n < 256) := by
  unfold inR IntKind.wrap; simp [IntKind.bits, IntKind.signed]; omega
theorem inR_u16 (n : Int) : inR .u16 n ↔ (0 ≤ n ∧ n < 65536) := by
  unfold inR IntKind.wrap; simp [IntKind.bits, IntKind.signed]; omega
theorem inR_i32 (n : Int) : inR .i32 n ↔ (-2147483648 ≤ n ∧ n < 2147483648) := by
  unfold inR IntKind.wrap; simp [IntKind.bits, IntKind.signed]; omega
theorem bytesOf_len (l : List UInt8) : (bytesOf l).length = l.length := by simp [bytesOf]
theorem bytesOf_nil : bytesOf [] = [] := rfl
theorem bytesOf_get {l : List UInt8} {i : Nat} (h : i < l.length) : (bytesOf l).getD i .junk = .int .u8 (l.getD i 0).toNat := by
  simp [bytesOf, List.getD, h]
theorem bytesOf_app (l m : List UInt8) : bytesOf (l ++ m) = bytesOf l ++ bytesOf m := by simp [bytesOf]
theorem bytesOf_take (l : List UInt8) (n : Nat) : (bytesOf l).take n = bytesOf (l.take n) := by simp [bytesOf]
theorem bytesOf_drop (l : List UInt8) (n : Nat) : (bytesOf l).drop n = bytesOf (l.drop n) := by simp [bytesOf]
theorem bytesOf_all (l : List UInt8) : (bytesOf l).all AV.isByte = true := by
  rw [List.all_eq_true]; intro x hx
  obtain ⟨b, _, rfl⟩ := List.mem_map.1 hx
  have := b.toNat_lt
  simp [AV.isByte]; omega
theorem bytesOf_byte (l : List UInt8) : (bytesOf l).map AV.byte = l := by
  rw [bytesOf, List.map_map]
  conv => rhs; rw [← List.map_id l]
  apply List.map_congr_left
  intro b _
  simp [AV.byte]
theorem TS.nil {K : St → Prop} : TS c ops K [] σ = K σ := rfl
theorem TS.cons {K : St → Prop} {o : Oper} {rest : List Oper} : TS c ops K (o :: rest) σ = Step c ops [] σ o (TS c ops K rest) := rfl
/-- What comes behind a call is not looked at before the call is done. -/
@[congr] theorem CallK.congr {P : Program} {f : FuncId} {ds ds' : List AV} {g g' u u' : Bool} {K : AV → Option HO → Prop} (h1 : ds = ds') (h2 : g = g') (h3 : u = u') : CallK P f ds g u K = CallK P f ds' g' u' K := by
  subst h1 h2 h3; rfl
theorem CallK.of {P : Program} {f : FuncId} {ds : List AV} {g u : Bool} {K : AV → Option HO → Prop} {r : AV} {ho : Option HO} (h : Spec P f ds r ho) (hu : u = true ∨ ho = none) (hf : ∀ f caps, r = .fn f caps → ∀ k, r.names k = false) (hk : K r ho) : CallK P f ds g u K :=
  ⟨r, ho, fun _ => .inl h, hu, hf, hk⟩
theorem CallK.data {P : Program} {f : FuncId} {ds : List AV} {g u : Bool} {K : AV → Option HO → Prop} {r : AV} (h : g = true → Spec P f ds r none) (hf : r.fin = true) (hk : K r none) : CallK P f ds g u K :=
  ⟨r, none, fun hg => .inl (h hg), .inr rfl, (fun _ _ _ k => AV.fin_names hf k), hk⟩
theorem CallK.ext {P : Program} {f : FuncId} {ds : List AV} {g u : Bool} {K : AV → Option HO → Prop} {r : AV} (h : g = true → XSpec P f ds r) (hf : r.fin = true) (hk : K r none) : CallK P f ds g u K :=
  ⟨r, none, fun hg => .inr ⟨rfl, h hg, by cases r <;> first | rfl | exact hf | cases hf⟩, .inr rfl, (fun _ _ _ k => AV.fin_names hf k), hk⟩
theorem CallK.tup {P : Program} {f : FuncId} {ds : List AV} {g u : Bool} {K : AV → Option HO → Prop} {rs : List AV} (h : g = true → Spec P f ds (.tup rs) none) (hk : K (.tup rs) none) : CallK P f ds g u K :=
  ⟨_, none, fun hg => .inl (h hg), .inr rfl, (fun _ _ e => by cases e), hk⟩
theorem CallK.own {P : Program} {f : FuncId} {ds : List AV} {g : Bool} {K : AV → Option HO → Prop} {a b c : Nat} {o : HO} (h : Spec P f ds (.osl a b c) (some o)) (hk : K (.osl a b c) (some o)) : CallK P f ds g true K :=
  ⟨_, _, fun _ => .inl h, .inl rfl, (fun _ _ e => by cases e), hk⟩
end
section
variable {c : Ctx} {σ : St}
theorem DRep.loose {ok : Nat → Prop} {w : World} {v : Value} {ex : Bool} {sz : Nat} {xs : List AV} (h : DRep ok w v (.sl ex sz xs)) : DRep ok w v (.sl false sz xs) := by
  cases h with
  | slNil _ _ a cap _ => exact .slNil false sz a cap (by simp)
  | sl _ b o cap _ _ vs hb hne hcap hex hsz hl h1 hm h => exact .sl false b o cap sz xs vs hb hne hcap (by simp) hsz hl h1 hm h
/-- It is forgotten that a slice has no room. -/
theorem Le.loose {i : Nat} {ex : Bool} {sz : Nat} {xs : List AV} (hx : σ.look1 i = .sl ex sz xs) : Le c σ ⟨σ.s.set i (.sl false sz xs), σ.h⟩ := by
  rintro a w ⟨ok, φ, h⟩
  refine ⟨ok, φ, h.defers, ?_, h.heap, h.okLt, h.okOr, h.ok0, h.below⟩
  have hlt : i < σ.s.length := by
    by_cases h' : i < σ.s.length
    · exact h'
    · simp [St.look1, List.getD, h'] at hx
  obtain ⟨v, hv, hr⟩ := h.slots.get (i := i) (x := σ.look1 i) (getD_some hlt)
  rw [hx] at hr
  have h2 := h.slots.set (i := i) (v := v) (x := .sl false sz xs) (DRep.loose hr)
  have e : a.tmps.toList.set i v = a.tmps.toList := by
    apply List.ext_getElem?
    intro j
    rw [List.getElem?_set]
    split
    · rename_i e; subst e
      have := (List.getElem?_eq_some_iff.1 hv).1
      rw [if_pos this, hv]
    · rfl
  rwa [e] at h2
def strsOf (l : List (List UInt8)) : List AV := l.map AV.str
def rowsOf (l : List (List UInt8)) : List AV := l.map fun b => .sl false 1 (bytesOf b)
theorem strsOf_len (l : List (List UInt8)) : (strsOf l).length = l.length := by simp [strsOf]
theorem rowsOf_len (l : List (List UInt8)) : (rowsOf l).length = l.length := by simp [rowsOf]
theorem strsOf_nil : strsOf [] = [] := rfl
theorem strsOf_app (l m : List (List UInt8)) : strsOf (l ++ m) = strsOf l ++ strsOf m := by simp [strsOf]
theorem strsOf_one (s : List UInt8) : strsOf [s] = [.str s] := rfl
theorem strsOf_get {l : List (List UInt8)} {i : Nat} (h : i < l.length) : (strsOf l).getD i .junk = .str (l.getD i []) := by
  simp [strsOf, List.getD, h]
theorem rowsOf_get {l : List (List UInt8)} {i : Nat} (h : i < l.length) : (rowsOf l).getD i .junk = .sl false 1 (bytesOf (l.getD i [])) := by
  simp [rowsOf, List.getD, h]
theorem map_bytesOf (l : List UInt8) : l.map (fun b => AV.int .u8 (b.toNat : Int)) = bytesOf l := rfl
theorem bytesOf_eq_nil (l : List UInt8) : (bytesOf l = []) = (l = []) := by simp [bytesOf]
theorem strsOf_eq_nil (l : List (List UInt8)) : (strsOf l = []) = (l = []) := by simp [strsOf]
theorem bytesOf_fold (l m : List UInt8) : bytesOf l ++ bytesOf m = bytesOf (l ++ m) := (bytesOf_app l m).symm
theorem strsOf_take (l : List (List UInt8)) (n : Nat) : (strsOf l).take n = strsOf (l.take n) := by simp [strsOf]
theorem strsOf_drop (l : List (List UInt8)) (n : Nat) : (strsOf l).drop n = strsOf (l.drop n) := by simp [strsOf]
theorem toNat_div_pow (a k : Nat) : ((a : Int) / 2 ^ k).toNat = a / 2 ^ k := by
  have : ((a : Int) / 2 ^ k) = ((a / 2 ^ k : Nat) : Int) := by simp
  rw [this]; rfl
theorem toNat_div_lit (a k : Nat) : ((a : Int) / (no_index (OfNat.ofNat k))).toNat = a / OfNat.ofNat k := by
  have : ((a : Int) / (OfNat.ofNat k)) = ((a / k : Nat) : Int) := by simp; rfl
  rw [this]; rfl
theorem toNat_add_lit (a k : Nat) : ((a : Int) + (no_index (OfNat.ofNat k))).toNat = a + OfNat.ofNat k := by
  show ((a : Int) + (k : Int)).toNat = a + k
  omega
theorem toNat_sub_lit (a k : Nat) : ((a : Int) - (no_index (OfNat.ofNat k))).toNat = a - OfNat.ofNat k := by
  show ((a : Int) - (k : Int)).toNat = a - k
  omega
theorem toNat_add_nat (a b : Nat) : ((a : Int) + (b : Int)).toNat = a + b := by omega
theorem toNat_sub_nat (a b : Nat) : ((a : Int) - (b : Int)).toNat = a - b := by omega
theorem toNat_mod_lit (a k : Nat) : ((a : Int) % (no_index (OfNat.ofNat k))).toNat = a % OfNat.ofNat k := by
  show ((a : Int) % (k : Int)).toNat = a % k
  omega
theorem toNat_mod_nat (a k : Nat) : ((a : Int) % (k : Int)).toNat = a % k := by omega
theorem remv_cast (a : Nat) (b : Int) : remv (a : Int) b = (a : Int) % b := remv_nn (by omega)
theorem remv_add (a c : Nat) (b : Int) : remv ((a : Int) + (c : Int)) b = ((a : Int) + (c : Int)) % b := remv_nn (by omega)
theorem remv_add_lit (a k : Nat) (b : Int) : remv ((a : Int) + (no_index (OfNat.ofNat k))) b = ((a : Int) + (OfNat.ofNat k : Int)) % b :=
  remv_nn (show (0 : Int) ≤ (a : Int) + (k : Int) by omega)
theorem remv_lit (k : Nat) (b : Int) : remv (no_index (OfNat.ofNat k)) b = (OfNat.ofNat k : Int) % b := remv_nn (show (0 : Int) ≤ (k : Int) by omega)
theorem remv_mul (a c : Nat) (b : Int) : remv ((a : Int) * (c : Int)) b = ((a : Int) * (c : Int)) % b := remv_nn (Int.mul_nonneg (by omega) (by omega))
theorem remv_mul_lit (a k : Nat) (b : Int) : remv ((a : Int) * (no_index (OfNat.ofNat k))) b = ((a : Int) * (OfNat.ofNat k : Int)) % b :=
  remv_nn (show (0 : Int) ≤ (a : Int) * (k : Int) from Int.mul_nonneg (by omega) (by omega))
theorem isByte_u8 (b : UInt8) : (AV.int .u8 (b.toNat : Int)).isByte = true := by have := b.toNat_lt; simp [AV.isByte]; omega
theorem byte_u8 (b : UInt8) : (AV.int .u8 (b.toNat : Int)).byte = b := by simp [AV.byte]
end
attribute [go_sem] remv_cast remv_add remv_add_lit remv_lit remv_mul remv_mul_lit map_bytesOf bytesOf_eq_nil strsOf_eq_nil bytesOf_fold strsOf_len rowsOf_len strsOf_nil strsOf_get rowsOf_get strsOf_take strsOf_drop List.length_append List.length_map toNat_div_pow toNat_div_lit toNat_add_lit toNat_sub_lit toNat_add_nat toNat_sub_nat toNat_mod_lit toNat_mod_nat Int.ediv_one Nat.div_one isByte_u8 byte_u8 Int.cast_ofNat_Int decide_true decide_false bytesOf_get bytesOf_take bytesOf_drop bytesOf_all bytesOf_byte wi evBin evInt evShift evUn evConv evLen evNat evIndexAddr evIndex evExtract evBounds evSlice evSliceX evCap evLoad mux_true mux_false mux_bool mux_int mux_str no noE evBuild evApp evStore evBox evBytes isSrc List.flatMap_cons List.flatMap_nil List.append_nil List.nil_append List.cons_append List.map_cons List.map_nil List.getD_cons_zero List.getD_cons_succ List.getD_nil List.any_cons List.any_nil List.all_cons List.all_nil List.length_cons List.length_nil List.getElem?_toArray List.getElem?_cons_succ List.getElem?_cons_zero List.drop_zero List.drop_succ_cons true_and and_true Option.getD_some Option.getD_none Option.bind_some Option.map_some Option.isSome_some Option.isSome_none Option.isNone_some Option.isNone_none if_true if_false ite_true ite_false if_pos Bool.and_true Bool.true_and Bool.and_false Bool.false_and Bool.or_false Bool.false_or Bool.or_true Bool.true_or Bool.not_true Bool.not_false true_implies imp_self inR_i64 inR_u8 inR_u16 inR_i32 bytesOf_len bytesOf_nil List.headD_cons List.isEmpty_cons List.append_assoc false_implies implies_true Bool.false_eq_true Bool.true_eq_false Nat.succ_ne_zero beq_self_eq_true BEq.rfl beq_true beq_false Nat.zero_add Nat.add_zero Nat.mul_one Nat.one_mul Nat.zero_mul Int.toNat_natCast List.range_zero Nat.zero_le Nat.le_refl cond_true cond_false List.isEmpty_toArray List.isEmpty_nil not_true_eq_false not_false_eq_true or_true true_or or_false false_or and_self eq_self ne_eq List.take_zero List.take_succ_cons List.take_length List.nil_eq Bool.not_eq_true' Nat.sub_zero
end Go.Ideal
