/- States that name the slots that are known: sparse. -/
import Derived.Test.YthmeobfdmeepbaaCoreN
set_option linter.unusedVariables false
set_option linter.unusedSimpArgs false
namespace Go.Ideal
open Go.RowKit

def slook : List (Nat × AV) → Nat → AV
  | [], _ => .junk
  | (i, x) :: s, t => if i = t then x else slook s t
def dense (n : Nat) (s : List (Nat × AV)) : List AV := (List.range n).map (slook s)
def num : Nat → List AV → List (Nat × AV)
  | _, [] => []
  | k, x :: xs => (k, x) :: num (k + 1) xs
def St.keep (σ : St) (L : List Nat) (n : Nat) : St := ⟨dense n (L.map fun i => (i, σ.look1 i)), σ.h⟩

section
variable {n : Nat} {s : List (Nat × AV)} {H : List (Nat × HO)}
theorem dense_len : (dense n s).length = n := by simp [dense]
theorem dense_get {t : Nat} (h : t < n) : (dense n s)[t]? = some (slook s t) := by simp [dense, h]
theorem dense_look {t : Nat} (h : t < n) : St.look1 ⟨dense n s, H⟩ t = slook s t := by simp [St.look1, List.getD, dense_get h]
theorem dense_look_big {t : Nat} (h : ¬ t < n) : St.look1 ⟨dense n s, H⟩ t = .junk := by
  simp [St.look1, List.getD, dense, h]
theorem slook_cons {i t : Nat} {x : AV} : slook ((i, x) :: s) t = if i = t then x else slook s t := rfl
theorem slook_nil {t : Nat} : slook [] t = .junk := rfl
theorem dense_set {d : Nat} {y : AV} : (dense n s).set d y = dense n ((d, y) :: s) := by
  apply List.ext_getElem?
  intro j
  rw [List.getElem?_set]
  by_cases hj : j < n
  · rw [dense_get hj]
    by_cases e : d = j
    · subst e; rw [if_pos rfl, if_pos (by rw [dense_len]; exact hj), dense_get hj]; simp [slook]
    · simp [e, dense_get hj, slook]
  · have h1 : (dense n s)[j]? = none := by simp [dense, hj]
    have h2 : (dense n ((d, y) :: s))[j]? = none := by simp [dense, hj]
    rw [h1, h2]
    split
    · split
      · rename_i h3; rw [dense_len] at h3; omega
      · rfl
    · rfl
theorem slook_map (f : AV → AV) (hf : f .junk = .junk) (t : Nat) : slook (s.map fun p => (p.1, f p.2)) t = f (slook s t) := by
  induction s with
  | nil => simp [slook, hf]
  | cons p s ih =>
    obtain ⟨i, x⟩ := p
    simp only [List.map_cons, slook]
    split
    · rfl
    · exact ih
theorem dense_map (f : AV → AV) (hf : f .junk = .junk) : (dense n s).map f = dense n (s.map fun p => (p.1, f p.2)) := by
  apply List.ext_getElem?
  intro j
  by_cases hj : j < n
  · rw [List.getElem?_map, dense_get hj, dense_get hj, slook_map f hf]; rfl
  · simp [dense, hj]
theorem dense_kill {k : Nat} : (dense n s).map (AV.kill k) = dense n (s.map fun p => (p.1, p.2.kill k)) := dense_map _ rfl
theorem dense_frz {k sz : Nat} {xs : List AV} : (dense n s).map (frz2 k sz xs) = dense n (s.map fun p => (p.1, frz2 k sz xs p.2)) := dense_map _ rfl

/-- What is known of the second state holds of the first. -/
def DFit (s : List (Nat × AV)) : List (Nat × AV) → Prop
  | [] => True
  | (i, y) :: r => slook s i = y ∧ DFit s r
theorem DFit.nil : DFit s [] := trivial
theorem DFit.cons {i : Nat} {y : AV} {r : List (Nat × AV)} (h : slook s i = y) (t : DFit s r) : DFit s ((i, y) :: r) := ⟨h, t⟩
theorem DFit.look {r : List (Nat × AV)} (h : DFit s r) (t : Nat) : slook r t = .junk ∨ slook s t = slook r t := by
  induction r with
  | nil => exact .inl rfl
  | cons p r ih =>
    obtain ⟨i, y⟩ := p
    simp only [slook]
    split
    · rename_i e; subst e; exact .inr h.1
    · exact ih h.2
variable {c : Ctx} {N : St → Prop} {E : Nat → St → Prop} {R : St → Prop} {σ σ' : St} {x y : Code} {ops : Array Oper} {id : Nat}
theorem DFit.fits {r : List (Nat × AV)} (h : DFit s r) : Fits (dense n s) (dense n r) := by
  refine ⟨by simp [dense_len], fun i a b h1 h2 => ?_⟩
  have hi : i < n := by rw [← dense_len (n := n) (s := s)]; exact (List.getElem?_eq_some_iff.1 h1).1
  rw [dense_get hi] at h1 h2
  cases h1; cases h2
  rcases h.look i with e | e
  · exact .inr e
  · exact .inl e
theorem Le.fitD {r : List (Nat × AV)} {H' : List (Nat × HO)} (h : DFit s r) (e : H = H') : Le c ⟨dense n s, H⟩ ⟨dense n r, H'⟩ := Le.fit h.fits e
theorem Le.keep (L : List Nat) (hn : σ.s.length = n) : Le c σ (σ.keep L n) := by
  refine Le.fit (xs := σ.s) (h := σ.h) ⟨by simp [dense_len, hn], fun i a b h1 h2 => ?_⟩ rfl
  have hi : i < n := by rw [← hn]; exact (List.getElem?_eq_some_iff.1 h1).1
  rw [dense_get hi] at h2
  cases h2
  have : ∀ L : List Nat, slook (L.map fun i => (i, σ.look1 i)) i = .junk ∨ slook (L.map fun i => (i, σ.look1 i)) i = a := by
    intro L
    induction L with
    | nil => exact .inl rfl
    | cons j L ih =>
      simp only [List.map_cons, slook]
      split
      · rename_i e; subst e
        right; simp [St.look1, List.getD, h1]
      · exact ih
  rcases this L with e | e
  · exact .inr e
  · exact .inl e.symm

/-- The slots of the list stay known. -/
def Cut (n : Nat) (L : List Nat) (K : St → Prop) (σ : St) : Prop := σ.s.length = n ∧ K (σ.keep L n)
theorem Cut_dense {L : List Nat} {K : St → Prop} : Cut n L K ⟨dense n s, H⟩ = K (St.keep ⟨dense n s, H⟩ L n) := by simp [Cut, dense_len]

theorem T.cutN {L : List Nat} (h : T c x (Cut n L N) E R σ) : T c x N E R σ := fun a w ha =>
  wp_mono (h a w ha) fun e a' w' q => by
    cases e <;> first | exact q | skip
    obtain ⟨σ', ⟨h1, h2⟩, h3⟩ := q
    exact ⟨_, h2, Le.keep L h1 _ _ h3⟩
theorem T.sregD (n : Nat) (L : List Nat) (h : ∀ K : St → Prop, (∀ σ', T c y N E R σ' → K σ') → TS c ops (Cut n L K) ops.toList σ) : T c (.seq (.region id ops false) y) N E R σ :=
  T.seqK fun K hK => T.cutN (T.reg2 (h K hK))
theorem T.regD (n : Nat) (L : List Nat) (h : ∀ K : St → Prop, (∀ σ', N σ' → K σ') → TS c ops (Cut n L K) ops.toList σ) : T c (.region id ops false) N E R σ := T.cutN (T.reg2 (h N fun _ h => h))
theorem T.sdrawD (n : Nat) (L : List Nat) (p : Plan) (hm : c.P.follows .mixedOrders = true) (hsel : Region.noSelect ops = true) (hok : p.good ops ops.size (Array.replicate ops.size false) = true)
    (h : ∀ K : St → Prop, (∀ σ', T c y N E R σ' → K σ') → TP c ops (Cut n L K) p σ) : T c (.seq (.region id ops true) y) N E R σ := T.seqK fun K hK => T.cutN (T.drawn p hm hsel hok (h K hK))
theorem T.sdraw2D (n : Nat) (L : List Nat) (p : Plan) (hm : c.P.follows .mixedOrders = true) (hsel : Region.noSelect ops = true) (hok : p.good ops ops.size (Array.replicate ops.size false) = true) (s : St)
    (h : ∀ K : St → Prop, K s → TP c ops (Cut n L K) p σ) (rest : T c y N E R s) : T c (.seq (.region id ops true) y) N E R σ := T.sdrawD n L p hm hsel hok fun K hK => h K (hK _ rest)
theorem T.drawD (n : Nat) (L : List Nat) (p : Plan) (hm : c.P.follows .mixedOrders = true) (hsel : Region.noSelect ops = true) (hok : p.good ops ops.size (Array.replicate ops.size false) = true)
    (h : ∀ K : St → Prop, (∀ σ', N σ' → K σ') → TP c ops (Cut n L K) p σ) : T c (.region id ops true) N E R σ := T.cutN (T.drawn p hm hsel hok (h N fun _ h => h))

theorem T.draw2D (n : Nat) (L : List Nat) (p : Plan) (hm : c.P.follows .mixedOrders = true) (hsel : Region.noSelect ops = true) (hok : p.good ops ops.size (Array.replicate ops.size false) = true) (s : St)
    (h : ∀ K : St → Prop, K s → TP c ops (Cut n L K) p σ) (rest : N s) : T c (.region id ops true) N E R σ := T.drawD n L p hm hsel hok fun K hK => h K (hK _ rest)
theorem condD {t : Nat} {b : Bool} (h : Nat.blt t n = true) (hx : slook s t = .bool b) : St.look1 ⟨dense n s, H⟩ t = .bool b := by
  rw [dense_look (by simpa using h), hx]
theorem T.condTD {t : Nat} {b : Bool} {thn els : Code} (h : Nat.blt t n = true) (hx : slook s t = .bool b) (ht : b = true → T c thn N E R ⟨dense n s, H⟩) (hf : b = false → T c els N E R ⟨dense n s, H⟩) : T c (.cond (.tmp t) thn els) N E R ⟨dense n s, H⟩ := T.condT (condD h hx) ht hf
theorem T.condFD {t : Nat} {b : Bool} {thn els : Code} (h : Nat.blt t n = true) (hx : slook s t = .bool b) (hf : b = false → T c els N E R ⟨dense n s, H⟩) (ht : b = true → T c thn N E R ⟨dense n s, H⟩) : T c (.cond (.tmp t) thn els) N E R ⟨dense n s, H⟩ := T.condT (condD h hx) ht hf

theorem Fin.dataD {t : Nat} {x : AV} (hx : slook s t = x) (hlt : Nat.blt t n = true) (hf : x.fin = true) : Fin t x none ⟨dense n s, H⟩ :=
  Fin.data (by rw [dense_look (by simpa using hlt), hx]) (by simp only [dense_len]; exact hlt) hf
theorem Fin.oslD {t k len : Nat} {o : HO} (hx : slook s t = .osl k 0 len) (hlt : Nat.blt t n = true) (ho : look H k = some o) : Fin t (.osl 0 0 len) (some o) ⟨dense n s, H⟩ :=
  Fin.osl (by rw [dense_look (by simpa using hlt), hx]) (by simp only [dense_len]; exact hlt) ho
theorem AtD {t : Nat} {x : AV} (hx : slook s t = x) (hlt : Nat.blt t n = true) (hf : x.fin = true) : At t x ⟨dense n s, H⟩ :=
  ⟨by simp only [dense_len]; exact hlt, by rw [dense_look (by simpa using hlt), hx], hf⟩

theorem init_dense {m : Nat} : ∀ (ds : List AV) (k : Nat), k + ds.length ≤ m → ∀ t, t < m → k ≤ t → (ds ++ List.replicate (m - k - ds.length) .junk)[t - k]? = some (slook (num k ds) t)
  | [], k, h, t, ht, hk => by
    simp [num, slook, List.getElem?_replicate]; omega
  | d :: ds, k, h, t, ht, hk => by
    simp only [num, slook]
    by_cases e : k = t
    · subst e; simp
    · rw [if_neg e]
      have := init_dense ds (k + 1) (by simp at h ⊢; omega) t ht (by omega)
      rw [← this]
      have e1 : t - k = (t - (k + 1)) + 1 := by omega
      have e2 : m - k - (d :: ds).length = m - (k + 1) - ds.length := by simp; omega
      rw [e1, e2, List.cons_append, List.getElem?_cons_succ]
theorem init_eq {ds : List AV} (h : Nat.ble ds.length n = true) : ds ++ List.replicate (n - ds.length) .junk = dense n (num 0 ds) := by
  have h' : ds.length ≤ n := Nat.le_of_ble_eq_true h
  apply List.ext_getElem?
  intro j
  by_cases hj : j < n
  · rw [dense_get hj]
    have := init_dense ds 0 (by omega) j hj (Nat.zero_le _)
    simpa using this
  · rw [List.getElem?_eq_none (by simp; omega), List.getElem?_eq_none (by rw [dense_len]; omega)]

theorem Spec.of_TD {P : Program} {f : FuncId} {fn : Func} {code : Code} {t : Nat} {ds : List AV} {r : AV} {ho : Option HO} (hf : P.funcs[f]? = some fn) (hn : (fn.name == "runtime.NumGoroutine") = false)
    (hb : fn.body = some code) (hres : fn.results = #[.tmp t]) (hnt : fn.ntmps = n) (hle : Nat.ble ds.length n = true)
    (h : ∀ w ok, T ⟨P, w, ok⟩ code (Fin t r ho) (fun _ _ => False) (Fin t r ho) ⟨dense n (num 0 ds), []⟩) : Spec P f ds r ho :=
  Spec.of_T hf hn hb hres fun w ok => by rw [hnt, init_eq hle]; exact h w ok
theorem Spec.of_TD2 {P : Program} {f : FuncId} {fn : Func} {code : Code} {t u : Nat} {ds : List AV} {p q : AV} (hf : P.funcs[f]? = some fn) (hn : (fn.name == "runtime.NumGoroutine") = false)
    (hb : fn.body = some code) (hres : fn.results = #[.tmp t, .tmp u]) (hfin : [p, q].all AV.fin = true) (hnt : fn.ntmps = n) (hle : Nat.ble ds.length n = true)
    (h : ∀ w ok, T ⟨P, w, ok⟩ code (fun σ => At t p σ ∧ At u q σ) (fun _ _ => False) (fun σ => At t p σ ∧ At u q σ) ⟨dense n (num 0 ds), []⟩) : Spec P f ds (.tup [p, q]) none :=
  Spec.of_T2 hf hn hb hres hfin fun w ok => by rw [hnt, init_eq hle]; exact h w ok
theorem Spec.of_TD3 {P : Program} {f : FuncId} {fn : Func} {code : Code} {t u s : Nat} {ds : List AV} {p q r : AV} (hf : P.funcs[f]? = some fn) (hn : (fn.name == "runtime.NumGoroutine") = false)
    (hb : fn.body = some code) (hres : fn.results = #[.tmp t, .tmp u, .tmp s]) (hfin : [p, q, r].all AV.fin = true) (hnt : fn.ntmps = n) (hle : Nat.ble ds.length n = true)
    (h : ∀ w ok, T ⟨P, w, ok⟩ code (fun σ => At t p σ ∧ At u q σ ∧ At s r σ) (fun _ _ => False) (fun σ => At t p σ ∧ At u q σ ∧ At s r σ) ⟨dense n (num 0 ds), []⟩) : Spec P f ds (.tup [p, q, r]) none :=
  Spec.of_T3 hf hn hb hres hfin fun w ok => by rw [hnt, init_eq hle]; exact h w ok
end
attribute [go_sem] dense_look slook_cons slook_nil dense_set Cut_dense num
end Go.Ideal
