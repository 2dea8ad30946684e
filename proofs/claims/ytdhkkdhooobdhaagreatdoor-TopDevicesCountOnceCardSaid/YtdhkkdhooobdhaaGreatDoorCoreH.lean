/- Steps with effects: how a state follows from a state; contracts of functions. -/
import Derived.Test.YtdhkkdhooobdhaaGreatDoorCoreG
set_option linter.unusedVariables false
set_option linter.unusedSimpArgs false
namespace Go.Ideal
open Go.RowKit

structure Goes (c : Ctx) (ok : Nat → Prop) (φ : Names) (w : World) (ok' : Nat → Prop) (φ' : Names) (H' : List (Nat × HO)) (w' : World) (kill tch : Option Nat) : Prop where
  sub : ∀ b, ok b → ok' b
  same : ∀ b, ok b → w'.heap[b]? = w.heap[b]?
  names : ∀ k, kill ≠ some k → φ' k = φ k
  heap : HeapOK ok' φ' H' w' c.mine
  okLt : ∀ b, ok' b → b < w'.heap.size
  okOr : ∀ b, ok' b → c.ok0 b ∨ c.mine b
  below : FrB c.own c.w0 w'
  frame : ∀ b, b < w.heap.size → (∀ k sz N, tch = some k → φ k ≠ some (b, sz, N)) → w'.heap[b]? = w.heap[b]?

/-- The name at hand. -/
def AV.nameOf : AV → Option Nat
  | .osl k _ _ => some k
  | .op k _ _ => some k
  | _ => none
def killO (kill : Option Nat) (s : List AV) : List AV :=
  match kill with
  | none => s
  | some k => s.map (AV.kill k)

def setO (s : List AV) (d : Option Tmp) (y : AV) : List AV :=
  match d with
  | none => s
  | some d => s.set d y

section
variable {ok ok' : Nat → Prop} {φ φ' : Names} {w w' : World} {v u : Value} {P : Program} {c : Ctx} {σ : St} {a : Act} {H H' : List (Nat × HO)} {kill tch : Option Nat} {y : AV}

theorem kill_R2 {k : Nat} {x : AV} (h : R2 ok φ w v x) (hok : ∀ b, ok b → ok' b) (hw : ∀ b, ok b → w'.heap[b]? = w.heap[b]?) (hφ : ∀ j, j ≠ k → φ' j = φ j) : R2 ok' φ' w' v (x.kill k) := by
  unfold AV.kill
  by_cases hx : x.names k = true
  · rw [if_pos hx]; trivial
  · rw [if_neg hx]
    exact h.mono hok hw fun j hj => hφ j (fun e => hx (e ▸ hj))

theorem Goes.slots (g : Goes c ok φ w ok' φ' H' w' kill tch) {vs : List Value} {s : List AV} (h : Pts (R2 ok φ w) vs s) : Pts (R2 ok' φ' w') vs (killO kill s) := by
  cases kill with
  | none => exact h.mono fun v x hx => hx.mono g.sub g.same fun k _ => g.names k (by simp)
  | some k =>
    refine ⟨by simp [killO, h.1], fun i v x h1 h2 => ?_⟩
    simp only [killO, List.getElem?_map] at h2
    cases hs : s[i]? with
    | none => simp [hs] at h2
    | some y =>
      simp [hs] at h2; subst h2
      exact kill_R2 (h.2 i v y h1 hs) g.sub g.same fun j hj => g.names j (fun e => hj (by simpa using e.symm))

theorem Holds1.goes (h : Holds1 c ok φ σ a w) (g : Goes c ok φ w ok' φ' H' w' kill tch) {d : Option Tmp} (hv : R2 ok' φ' w' v y) :
    Holds1 c ok' φ' ⟨setO (killO kill σ.s) d y, H'⟩ (a.put d v) w' := by
  refine ⟨?_, ?_, g.heap, g.okLt, g.okOr, fun b hb => g.sub b (h.ok0 b hb), g.below⟩
  · cases d <;> exact h.defers
  · have hs := g.slots h.slots
    cases d with
    | none => exact hs
    | some d =>
      have := hs.set (i := d) hv
      simpa [Act.put, setO, Array.toList_setIfInBounds] using this

theorem Goes.refl (h : Holds1 c ok φ σ a w) : Goes c ok φ w ok φ σ.h w none none :=
  ⟨fun _ h => h, fun _ _ => rfl, fun _ _ => rfl, h.heap, h.okLt, h.okOr, h.below, fun _ _ _ => rfl⟩

theorem ObjAt.mono {g sz N : Nat} {e : TypeId} {b : Bool} {xs : List AV} (h : ObjAt ok φ w g sz N e b xs) (hok : ∀ b, ok b → ok' b) (hw : ∀ b, ok b → w'.heap[b]? = w.heap[b]?) (hg : w'.heap[g]? = w.heap[g]?) : ObjAt ok' φ w' g sz N e b xs := by
  obtain ⟨cur, fz, h1, hz, h2, h3, h4, h5, h6⟩ := h
  exact ⟨cur, fz, by rw [hg]; exact h1, hz, h2, h3, h4, h5, h6.mono fun v x hx => RC.mono hx hok hw fun _ _ _ => rfl⟩
/-- The block goes on as it is, while another name's meaning changes. -/
theorem HeapOK.killed {B : Nat → Prop} {k : Nat} (h : HeapOK ok φ H w B) (hφ : ∀ j, j ≠ k → φ' j = φ j) : HeapOK ok φ' (killH k (drop H k)) w B := by
  have hl : ∀ j o, look (killH k (drop H k)) j = some o → ∃ o0, j ≠ k ∧ look H j = some o0 ∧ o = killB k o0 := by
    intro j o hj
    rw [look_killH] at hj
    cases h0 : look (drop H k) j with
    | none => simp [h0] at hj
    | some o0 =>
      simp [h0] at hj
      by_cases e : j = k
      · subst e; rw [look_drop_self] at h0; cases h0
      · rw [look_drop_ne _ e] at h0; exact ⟨o0, e, h0, hj.symm⟩
  refine ⟨fun j o hj => ?_, fun j j' o o' g sz N sz' N' h1 h2 h3 h4 => ?_⟩
  · obtain ⟨o0, e, h0, rfl⟩ := hl j o hj
    rw [hφ j e]
    rcases h.at_ j o0 h0 with ⟨h1, h2⟩ | ⟨g, N, h1, h2, h3, h4⟩
    · exact .inl ⟨h1, killB_nil k o0 h2⟩
    · exact .inr ⟨g, N, by rw [killB_sz]; exact h1, h2, h3, h4.kill hφ⟩
  · obtain ⟨p, e, h5, rfl⟩ := hl j o h1
    obtain ⟨p', e', h6, rfl⟩ := hl j' o' h2
    rw [hφ j e] at h3; rw [hφ j' e'] at h4
    exact h.inj j j' p p' g sz N sz' N' h5 h6 h3 h4

theorem HeapOK.mono {B : Nat → Prop} (h : HeapOK ok φ H w B) (hok : ∀ b, ok b → ok' b) (hw : ∀ b, ok b → w'.heap[b]? = w.heap[b]?)
    (hg : ∀ k o g sz N, look H k = some o → φ k = some (g, sz, N) → w'.heap[g]? = w.heap[g]? ∧ ¬ ok' g) : HeapOK ok' φ H w' B := by
  refine ⟨fun k o ho => ?_, h.inj⟩
  rcases h.at_ k o ho with h1 | ⟨g, N, h1, h2, h3, h4⟩
  · exact .inl h1
  · exact .inr ⟨g, N, h1, h2, (hg k o g _ N ho h1).2, h4.mono hok hw (hg k o g _ N ho h1).1⟩

theorem HeapOK.lt {B : Nat → Prop} (h : HeapOK ok φ H w B) {k : Nat} {o : HO} {g sz N : Nat} (ho : look H k = some o) (hk : φ k = some (g, sz, N)) : g < w.heap.size ∧ B g ∧ ¬ ok g := by
  rcases h.at_ k o ho with ⟨h1, _⟩ | ⟨g', N', h1, h2, h3, cur, fz, h4, _⟩
  · rw [hk] at h1; cases h1
  · rw [hk] at h1; cases h1
    exact ⟨(Array.getElem?_eq_some_iff.1 h4).1, h2, h3⟩

/-- A new block that nobody will write to. -/
theorem Goes.alloc (h : Holds1 c ok φ σ a w) (cur : Array Value) (e : TypeId) :
    Goes c ok φ w (fun b => ok b ∨ b = w.heap.size) φ σ.h (w.alloc (.cells cur e (0, 0))) none none := by
  have hsame : ∀ b, b < w.heap.size → (w.alloc (.cells cur e (0, 0))).heap[b]? = w.heap[b]? := fun b hb => Below.heap_alloc w _ b hb
  have hB : c.w0.heap.size ≤ w.heap.size := h.below.size
  refine ⟨fun b hb => .inl hb, fun b hb => hsame b (h.okLt b hb), fun _ _ => rfl, ?_, ?_, ?_, h.below.alloc _, fun b hb _ => hsame b hb⟩
  · refine h.heap.mono (fun b hb => .inl hb) (fun b hb => hsame b (h.okLt b hb)) fun k o g sz N ho hk => ?_
    obtain ⟨h1, h2, h3⟩ := h.heap.lt ho hk
    exact ⟨hsame g h1, fun hh => hh.elim h3 (fun e => by omega)⟩
  · intro b hb
    have : (w.alloc (.cells cur e (0, 0))).heap.size = w.heap.size + 1 := Array.size_push _
    rcases hb with hb | hb
    · have := h.okLt b hb; omega
    · omega
  · intro b hb
    rcases hb with hb | hb
    · exact h.okOr b hb
    · exact .inr (.inl (by omega))
end

/-! ### Contracts -/
def Callable (P : Program) (f : FuncId) : Prop := ∃ fn, P.funcs[f]? = some fn ∧ (fn.name == "runtime.NumGoroutine") = false ∧ fn.body.isNone = false

def AV.ren0 (k : Nat) : AV → AV
  | .osl _ o l => .osl k o l
  | .op _ i j => .op k i j
  | x => x
def AV.ren (k : Nat) : AV → AV
  | .tup xs => .tup (xs.map (AV.ren0 k))
  | .big xs => .big (xs.map (AV.ren0 k))
  | x => x.ren0 k

def oneH : Option HO → List (Nat × HO)
  | none => []
  | some o => [(0, o)]
/-- The function, called with such data, returns such a result: data, or owned memory under the name 0. -/
def Spec (P : Program) (f : FuncId) (ds : List AV) (r : AV) (ho : Option HO) : Prop :=
  Callable P f ∧ (∀ o, ho = some o → o.bx = false) ∧ ∀ (ok : Nat → Prop) (w : World) (vs : List Value), (∀ b, ok b → b < w.heap.size) → Pts (DRep ok w) vs ds →
    Calls P f vs.toArray w fun e w' => ∃ v ok' φ, e = .returned v ∧ Below w.heap.size w w' ∧ (∀ b, ok b → ok' b) ∧
      (∀ b, ok' b → b < w'.heap.size ∧ (ok b ∨ w.heap.size ≤ b)) ∧ R1 ok' φ w' v r ∧ (∀ k, r.names k = true → k = 0 ∧ ho.isSome = true) ∧
      HeapOK ok' φ (oneH ho) w' (fun g => w.heap.size ≤ g)


section
variable {ok ok' : Nat → Prop} {φ φ' : Names} {w w' : World} {v u : Value} {P : Program} {c : Ctx} {σ : St} {a : Act} {H H' : List (Nat × HO)} {kill : Option Nat} {y : AV}

theorem ren0_R0 {x : AV} {d : Nat} (h : R0 ok φ w v x) (hk : ∀ k, x.names0 k = true → φ' d = φ k) : R0 ok φ' w v (x.ren0 d) := by
  cases x <;> first | exact h | skip
  case osl k o l =>
    rcases h with h | ⟨g, sz, N, cap, h1, h2⟩
    · exact .inl h
    · exact .inr ⟨g, sz, N, cap, by rw [hk k (by simp [AV.names0])]; exact h1, h2⟩
  case op k i j =>
    obtain ⟨g, sz, N, h1, h2⟩ := h
    exact ⟨g, sz, N, by rw [hk k (by simp [AV.names0])]; exact h1, h2⟩

theorem ren_R1 {x : AV} {d : Nat} (h : R1 ok φ w v x) (hk : ∀ k, x.names k = true → φ' d = φ k) (hf : ∀ f caps, x = .fn f caps → ∀ k, x.names k = false) : R1 ok φ' w v (x.ren d) := by
  by_cases hg : ∃ xs, x = .big xs
  · obtain ⟨xs, rfl⟩ := hg
    obtain ⟨vs, rfl, h1, hp⟩ := h
    refine ⟨vs, rfl, h1, by simp [hp.1], fun i v x h1 h2 => ?_⟩
    rw [List.getElem?_map] at h2
    cases hx : xs[i]? with
    | none => simp [hx] at h2
    | some y =>
      simp [hx] at h2; subst h2
      exact ren0_R0 (hp.2 i v y h1 hx) fun k hy => hk k (List.any_eq_true.2 ⟨y, List.mem_of_getElem? hx, hy⟩)
  by_cases ht : ∃ xs, x = .tup xs
  · obtain ⟨xs, rfl⟩ := ht
    obtain ⟨vs, rfl, hp⟩ := h
    refine ⟨vs, rfl, by simp [hp.1], fun i v x h1 h2 => ?_⟩
    rw [List.getElem?_map] at h2
    cases hx : xs[i]? with
    | none => simp [hx] at h2
    | some y =>
      simp [hx] at h2; subst h2
      exact ren0_R0 (hp.2 i v y h1 hx) fun k hy => hk k (List.any_eq_true.2 ⟨y, List.mem_of_getElem? hx, hy⟩)
  · by_cases hfn : ∃ f caps, x = .fn f caps
    · obtain ⟨f, caps, rfl⟩ := hfn
      exact h.mono (fun _ h => h) (fun _ _ => rfl) fun k hk' => by
        have := hf f caps rfl k
        simp only [AV.names] at this; rw [this] at hk'; cases hk'
    · have e : ∀ φ : Names, R1 ok φ w v x = R0 ok φ w v x := by
        intro φ; cases x <;> first | rfl | (exact absurd ⟨_, _, rfl⟩ hfn) | (exact absurd ⟨_, rfl⟩ ht) | (exact absurd ⟨_, rfl⟩ hg)
      have e2 : x.ren d = x.ren0 d := by cases x <;> first | rfl | (exact absurd ⟨_, rfl⟩ ht) | (exact absurd ⟨_, rfl⟩ hg)
      have e3 : ∀ k, x.names0 k = true → x.names k = true := by
        intro k hk'; cases x <;> first | exact hk' | (simp [AV.names0] at hk')
      rw [e] at h
      rw [e2]
      exact R1.of_R0 (ren0_R0 h fun k hk' => hk k (e3 k hk'))

def retH (ho : Option HO) (d : Nat) (H : List (Nat × HO)) : List (Nat × HO) :=
  match ho with
  | none => H
  | some o => put (killH d H) d o
def retK (ho : Option HO) (d : Nat) : Option Nat :=
  match ho with
  | none => none
  | some _ => some d

theorem Holds1.call (h : Holds1 c ok φ σ a w) {f : FuncId} {ds : List AV} {r : AV} {ho : Option HO} (sp : Spec c.P f ds r ho) {vs : List Value} (hargs : Pts (DRep ok w) vs ds) (d : Nat)
    (hfn : ∀ f caps, r = .fn f caps → ∀ k, r.names k = false) :
    Calls c.P f vs.toArray w fun e w' => ∃ v ok' φ', e = .returned v ∧ Goes c ok φ w ok' φ' (retH ho d σ.h) w' (retK ho d) none ∧ R1 ok' φ' w' v (r.ren d) := by
  refine Calls.mono (sp.2.2 ok w vs h.okLt hargs) ?_
  rintro e w' ⟨v, ok', φ1, rfl, hb, hsub, hok', hr, hn, hh⟩
  have hsame : ∀ b, b < w.heap.size → w'.heap[b]? = w.heap[b]? := fun b hb' => hb.block b hb'
  have hB := h.below.size
  have hbel : FrB c.own c.w0 w' := h.below.trans (FrB.of_below hb) fun _ _ e => e.elim
  have hold : ∀ k o g sz N, look σ.h k = some o → φ k = some (g, sz, N) → w'.heap[g]? = w.heap[g]? ∧ ¬ ok' g := by
    intro k o g sz N ho hk
    obtain ⟨h1, h2, h3⟩ := h.heap.lt ho hk
    refine ⟨hsame g h1, fun hg => ?_⟩
    rcases (hok' g hg).2 with h4 | h4
    · exact h3 h4
    · omega
  have hor : ∀ b, ok' b → c.ok0 b ∨ c.mine b := fun b hb' => by
    rcases (hok' b hb').2 with h4 | h4
    · exact h.okOr b h4
    · exact .inr (.inl (by omega))
  have hheap0 := h.heap.mono hsub (fun b hb' => hsame b (h.okLt b hb')) hold
  cases ho with
  | none =>
    refine ⟨v, ok', φ, rfl, ⟨hsub, fun b hb' => hsame b (h.okLt b hb'), fun _ _ => rfl, hheap0, fun b hb' => (hok' b hb').1, hor, hbel, fun b hb _ => hsame b hb⟩, ?_⟩
    exact ren_R1 hr (fun k hk => by have := (hn k hk).2; simp at this) hfn
  | some o =>
    refine ⟨v, ok', fun k => if k = d then φ1 0 else φ k, rfl, ⟨hsub, fun b hb' => hsame b (h.okLt b hb'), fun k hk => ?_, ?_, fun b hb' => (hok' b hb').1, hor, hbel, fun b hb _ => hsame b hb⟩, ?_⟩
    · have : k ≠ d := fun e => hk (by simp [retK, e])
      simp [this]
    · have h00 := hh.at_ 0 o (by simp [oneH, look])
      have hbx := sp.2.1 o rfl
      have hφ' : ∀ j, j ≠ d → (fun k => if k = d then φ1 0 else φ k) j = φ j := fun j hj => by simp [hj]
      have hK := hheap0.killed (k := d) hφ'
      have hlk : ∀ j, j ≠ d → look (killH d σ.h) j = look (killH d (drop σ.h d)) j := fun j hj => by rw [look_killH, look_killH, look_drop_ne _ hj]
      have hobj : ∀ g N, ObjAt ok' φ1 w' g o.sz N o.e o.bx o.xs → ObjAt ok' (fun k => if k = d then φ1 0 else φ k) w' g o.sz N o.e o.bx o.xs := by
        intro g N hO
        rw [hbx] at hO ⊢
        obtain ⟨cur, fz, a1, a2, a3, a4, a5, a6, a7⟩ := hO
        exact ⟨cur, fz, a1, a2, a3, a4, a5, a6, a7⟩
      refine ⟨fun k o' hk => ?_, ?_⟩
      · by_cases e : k = d
        · subst e
          rw [retH, look_put_self] at hk; cases hk
          simp only [if_true]
          rcases h00 with h1 | ⟨g, N, h1, h2, h3, h4⟩
          · exact .inl h1
          · exact .inr ⟨g, N, h1, .inl (by omega), h3, hobj g N h4⟩
        · rw [retH, look_put_ne _ _ e, hlk k e] at hk
          exact hK.at_ k o' hk
      · intro k k' o1 o2 g sz N sz' N' h1 h2 h3 h4
        have new : ∀ {g sz N}, φ1 0 = some (g, sz, N) → w.heap.size ≤ g := by
          intro g sz N hg
          rcases h00 with ⟨h1, _⟩ | ⟨g', N', h1, h2, _⟩
          · rw [hg] at h1; cases h1
          · rw [hg] at h1; cases h1; exact h2
        by_cases e : k = d
        · by_cases e' : k' = d
          · rw [e, e']
          · exfalso
            simp only [e, if_true] at h3
            simp only [e', if_false] at h4
            rw [retH, look_put_ne _ _ e', look_killH] at h2
            cases h0 : look σ.h k' with
            | none => simp [h0] at h2
            | some q =>
              have := (h.heap.lt h0 h4).1
              have := new h3
              omega
        · by_cases e' : k' = d
          · exfalso
            simp only [e', if_true] at h4
            simp only [e, if_false] at h3
            rw [retH, look_put_ne _ _ e, look_killH] at h1
            cases h0 : look σ.h k with
            | none => simp [h0] at h1
            | some q =>
              have := (h.heap.lt h0 h3).1
              have := new h4
              omega
          · simp only [e, if_false] at h3
            simp only [e', if_false] at h4
            rw [retH, look_put_ne _ _ e, look_killH] at h1
            rw [retH, look_put_ne _ _ e', look_killH] at h2
            cases h0 : look σ.h k with
            | none => simp [h0] at h1
            | some q => cases h0' : look σ.h k' with
              | none => simp [h0'] at h2
              | some q' => exact h.heap.inj k k' q q' g sz N sz' N' h0 h0' h3 h4
    · exact ren_R1 hr (fun k hk => by rw [(hn k hk).1]; simp) hfn
end
end Go.Ideal
