/- States that name the slots that are known: sparse. -/
import Derived.Test.YtdhkkdhooobdhaaGreatDoorCoreN
set_option linter.unusedVariables false
set_option linter.unusedSimpArgs false
namespace Go.Ideal
open Go.RowKit

def slook : List (Nat × AV) → Nat → AV
  | [], _ => .junk
  | (i, x) :: s, t => if i = t then x else slook s t
def dense (n : Nat) (s : List (Nat × AV)) : List AV := (List.range n).map (slook s)
def num : Nat → List AV → List (Nat × AV)
  | _, [] => []
  | k, x :: xs => (k, x) :: num (k + 1) xs
def St.keep (σ : St) (L : List Nat) (n : Nat) : St := ⟨dense n (L.map fun i => (i, σ.look1 i)), σ.h⟩

section
variable {n : Nat} {s : List (Nat × AV)} {H : List (Nat × HO)}
theorem dense_len : (dense n s).length = n := by simp [dense]
theorem dense_get {t : Nat} (h : t < n) : (dense n s)[t]? = some (slook s t) := by simp [dense, h]
theorem dense_look {t : Nat} (h : t < n) : St.look1 ⟨dense n s, H⟩ t = slook s t := by simp [St.look1, List.getD, dense_get h]
theorem slook_cons {i t : Nat} {x : AV} : slook ((i, x) :: s) t = if i = t then x else slook s t := rfl
theorem slook_nil {t : Nat} : slook [] t = .junk := rfl
theorem dense_set {d : Nat} {y : AV} : (dense n s).set d y = dense n ((d, y) :: s) := by
  apply List.ext_getElem?
  intro j
  rw [List.getElem?_set]
  by_cases hj : j < n
  · rw [dense_get hj]
    by_cases e : d = j
    · subst e; rw [if_pos rfl, if_pos (by rw [dense_len]; exact hj), dense_get hj]; simp [slook]
    · simp [e, dense_get hj, slook]
  · have h1 : (dense n s)[j]? = none := by simp [dense, hj]
    have h2 : (dense n ((d, y) :: s))[j]? = none := by simp [dense, hj]
    rw [h1, h2]
    split
    · split
      · rename_i h3; rw [dense_len] at h3; omega
      · rfl
    · rfl
theorem slook_map (f : AV → AV) (hf : f .junk = .junk) (t : Nat) : slook (s.map fun p => (p.1, f p.2)) t = f (slook s t) := by
  induction s with
  | nil => simp [slook, hf]
  | cons p s ih =>
    obtain ⟨i, x⟩ := p
    simp only [List.map_cons, slook]
    split
    · rfl
    · exact ih
theorem dense_map (f : AV → AV) (hf : f .junk = .junk) : (dense n s).map f = dense n (s.map fun p => (p.1, f p.2)) := by
  apply List.ext_getElem?
  intro j
  by_cases hj : j < n
  · rw [List.getElem?_map, dense_get hj, dense_get hj, slook_map f hf]; rfl
  · simp [dense, hj]
theorem dense_kill {k : Nat} : (dense n s).map (AV.kill k) = dense n (s.map fun p => (p.1, p.2.kill k)) := dense_map _ rfl
theorem dense_frz {k sz : Nat} {xs : List AV} : (dense n s).map (frz2 k sz xs) = dense n (s.map fun p => (p.1, frz2 k sz xs p.2)) := dense_map _ rfl

/-- What is known of the second state holds of the first. -/
def DFit (s : List (Nat × AV)) : List (Nat × AV) → Prop
  | [] => True
  | (i, y) :: r => slook s i = y ∧ DFit s r
theorem DFit.nil : DFit s [] := trivial
theorem DFit.cons {i : Nat} {y : AV} {r : List (Nat × AV)} (h : slook s i = y) (t : DFit s r) : DFit s ((i, y) :: r) := ⟨h, t⟩
theorem DFit.look {r : List (Nat × AV)} (h : DFit s r) (t : Nat) : slook r t = .junk ∨ slook s t = slook r t := by
  induction r with
  | nil => exact .inl rfl
  | cons p r ih =>
    obtain ⟨i, y⟩ := p
    simp only [slook]
    split
    · rename_i e; subst e; exact .inr h.1
    · exact ih h.2
variable {c : Ctx} {N : St → Prop} {E : Nat → St → Prop} {R : St → Prop} {σ σ' : St} {x y : Code} {ops : Array Oper} {id : Nat}
theorem DFit.fits {r : List (Nat × AV)} (h : DFit s r) : Fits (dense n s) (dense n r) := by
  refine ⟨by simp [dense_len], fun i a b h1 h2 => ?_⟩
  have hi : i < n := by rw [← dense_len (n := n) (s := s)]; exact (List.getElem?_eq_some_iff.1 h1).1
  rw [dense_get hi] at h1 h2
  cases h1; cases h2
  rcases h.look i with e | e
  · exact .inr e
  · exact .inl e
theorem Le.fitD {r : List (Nat × AV)} {H' : List (Nat × HO)} (h : DFit s r) (e : H = H') : Le c ⟨dense n s, H⟩ ⟨dense n r, H'⟩ := Le.fit h.fits e
/-- Every object of the second list is one of the first. -/
def HSub (H : List (Nat × HO)) : List (Nat × HO) → Prop
  | [] => True
  | (k, o) :: H' => look H k = some o ∧ HSub H H'
theorem HSub.look {H' : List (Nat × HO)} (h : HSub H H') {k : Nat} {o : HO} (hk : Ideal.look H' k = some o) : Ideal.look H k = some o := by
  induction H' with
  | nil => simp [Ideal.look] at hk
  | cons p t ih =>
    obtain ⟨j, o'⟩ := p
    simp only [Ideal.look] at hk
    split at hk
    · rename_i e; subst e; cases hk; exact h.1
    · exact ih h.2 hk
theorem Le.sub {xs : List AV} {H' : List (Nat × HO)} (h : HSub H H') : Le c ⟨xs, H⟩ ⟨xs, H'⟩ := by
  rintro a w ⟨ok, φ, hh⟩
  exact ⟨ok, φ, hh.defers, hh.slots, ⟨fun k o hk => hh.heap.at_ k o (h.look hk), fun k k' o o' g sz N sz' N' h1 h2 => hh.heap.inj k k' o o' g sz N sz' N' (h.look h1) (h.look h2)⟩, hh.okLt, hh.okOr, hh.ok0, hh.below⟩
theorem Le.fitS {r : List (Nat × AV)} {H' : List (Nat × HO)} (h : DFit s r) (e : HSub H H') : Le c ⟨dense n s, H⟩ ⟨dense n r, H'⟩ := (Le.fitD h rfl).trans (Le.sub e)
theorem Le.keep (L : List Nat) (hn : σ.s.length = n) : Le c σ (σ.keep L n) := by
  refine Le.fit (xs := σ.s) (h := σ.h) ⟨by simp [dense_len, hn], fun i a b h1 h2 => ?_⟩ rfl
  have hi : i < n := by rw [← hn]; exact (List.getElem?_eq_some_iff.1 h1).1
  rw [dense_get hi] at h2
  cases h2
  have : ∀ L : List Nat, slook (L.map fun i => (i, σ.look1 i)) i = .junk ∨ slook (L.map fun i => (i, σ.look1 i)) i = a := by
    intro L
    induction L with
    | nil => exact .inl rfl
    | cons j L ih =>
      simp only [List.map_cons, slook]
      split
      · rename_i e; subst e
        right; simp [St.look1, List.getD, h1]
      · exact ih
  rcases this L with e | e
  · exact .inr e
  · exact .inl e.symm

/-- The slots of the list stay known. -/
def Cut (n : Nat) (L : List Nat) (K : St → Prop) (σ : St) : Prop := σ.s.length = n ∧ K (σ.keep L n)
theorem Cut_dense {L : List Nat} {K : St → Prop} : Cut n L K ⟨dense n s, H⟩ = K (St.keep ⟨dense n s, H⟩ L n) := by simp [Cut, dense_len]

theorem T.cutN {L : List Nat} (h : T c x (Cut n L N) E R σ) : T c x N E R σ := fun a w ha =>
  wp_mono (h a w ha) fun e a' w' q => by
    cases e <;> first | exact q | skip
    obtain ⟨σ', ⟨h1, h2⟩, h3⟩ := q
    exact ⟨_, h2, Le.keep L h1 _ _ h3⟩
theorem T.sregD (n : Nat) (L : List Nat) (h : ∀ K : St → Prop, (∀ σ', T c y N E R σ' → K σ') → TS c ops (Cut n L K) ops.toList σ) : T c (.seq (.region id ops false) y) N E R σ :=
  T.seqK fun K hK => T.cutN (T.reg2 (h K hK))
theorem T.regD (n : Nat) (L : List Nat) (h : ∀ K : St → Prop, (∀ σ', N σ' → K σ') → TS c ops (Cut n L K) ops.toList σ) : T c (.region id ops false) N E R σ := T.cutN (T.reg2 (h N fun _ h => h))
theorem T.sdrawD (n : Nat) (L : List Nat) (p : Plan) (Kp : List Nat) (hm : c.P.follows .mixedOrders = true) (hsel : Region.noSelect ops = true) (hok : p.good ops ops.size (Array.replicate ops.size false) = true)
    (h : ∀ K : St → Prop, (∀ σ', T c y N E R σ' → K σ') → TP c ops Kp (Cut n L K) p σ) : T c (.seq (.region id ops true) y) N E R σ := T.seqK fun K hK => T.cutN (T.drawn p Kp hm hsel hok (h K hK))
theorem T.sdraw2D (n : Nat) (L : List Nat) (p : Plan) (Kp : List Nat) (hm : c.P.follows .mixedOrders = true) (hsel : Region.noSelect ops = true) (hok : p.good ops ops.size (Array.replicate ops.size false) = true) (xs : List AV) (Hs : List (Nat × HO))
    (h : ∀ K : St → Prop, (∀ H', H' = Hs ∨ HSub H' Hs → K ⟨xs, H'⟩) → TP c ops Kp (Cut n L K) p σ) (rest : T c y N E R ⟨xs, Hs⟩) : T c (.seq (.region id ops true) y) N E R σ :=
  T.sdrawD n L p Kp hm hsel hok fun K hK => h K fun H' hH => hK _ (by
    rcases hH with rfl | hH
    · exact rest
    · exact T.weaken (Le.sub hH) rest)
theorem T.drawD (n : Nat) (L : List Nat) (p : Plan) (Kp : List Nat) (hm : c.P.follows .mixedOrders = true) (hsel : Region.noSelect ops = true) (hok : p.good ops ops.size (Array.replicate ops.size false) = true)
    (h : ∀ K : St → Prop, (∀ σ', N σ' → K σ') → TP c ops Kp (Cut n L K) p σ) : T c (.region id ops true) N E R σ := T.cutN (T.drawn p Kp hm hsel hok (h N fun _ h => h))

theorem condD {t : Nat} {b : Bool} (h : Nat.blt t n = true) (hx : slook s t = .bool b) : St.look1 ⟨dense n s, H⟩ t = .bool b := by
  rw [dense_look (by simpa using h), hx]
theorem T.condTD {t : Nat} {b : Bool} {thn els : Code} (h : Nat.blt t n = true) (hx : slook s t = .bool b) (ht : b = true → T c thn N E R ⟨dense n s, H⟩) (hf : b = false → T c els N E R ⟨dense n s, H⟩) : T c (.cond (.tmp t) thn els) N E R ⟨dense n s, H⟩ := T.condT (condD h hx) ht hf
theorem T.condFD {t : Nat} {b : Bool} {thn els : Code} (h : Nat.blt t n = true) (hx : slook s t = .bool b) (hf : b = false → T c els N E R ⟨dense n s, H⟩) (ht : b = true → T c thn N E R ⟨dense n s, H⟩) : T c (.cond (.tmp t) thn els) N E R ⟨dense n s, H⟩ := T.condT (condD h hx) ht hf

theorem Fin.dataD {t : Nat} {x : AV} (hx : slook s t = x) (hlt : Nat.blt t n = true) (hf : x.fin = true) : Fin t x none ⟨dense n s, H⟩ :=
  Fin.data (by rw [dense_look (by simpa using hlt), hx]) (by simp only [dense_len]; exact hlt) hf
theorem Fin.oslD {t k len : Nat} {o : HO} (hx : slook s t = .osl k 0 len) (hlt : Nat.blt t n = true) (ho : look H k = some o) : Fin t (.osl 0 0 len) (some o) ⟨dense n s, H⟩ :=
  Fin.osl (by rw [dense_look (by simpa using hlt), hx]) (by simp only [dense_len]; exact hlt) ho
theorem AtD {t : Nat} {x : AV} (hx : slook s t = x) (hlt : Nat.blt t n = true) (hf : x.fin = true) : At t x ⟨dense n s, H⟩ :=
  ⟨by simp only [dense_len]; exact hlt, by rw [dense_look (by simpa using hlt), hx], hf⟩

theorem init_dense {m : Nat} : ∀ (ds : List AV) (k : Nat), k + ds.length ≤ m → ∀ t, t < m → k ≤ t → (ds ++ List.replicate (m - k - ds.length) .junk)[t - k]? = some (slook (num k ds) t)
  | [], k, h, t, ht, hk => by
    simp [num, slook, List.getElem?_replicate]; omega
  | d :: ds, k, h, t, ht, hk => by
    simp only [num, slook]
    by_cases e : k = t
    · subst e; simp
    · rw [if_neg e]
      have := init_dense ds (k + 1) (by simp at h ⊢; omega) t ht (by omega)
      rw [← this]
      have e1 : t - k = (t - (k + 1)) + 1 := by omega
      have e2 : m - k - (d :: ds).length = m - (k + 1) - ds.length := by simp; omega
      rw [e1, e2, List.cons_append, List.getElem?_cons_succ]
theorem init_eq {ds : List AV} (h : Nat.ble ds.length n = true) : ds ++ List.replicate (n - ds.length) .junk = dense n (num 0 ds) := by
  have h' : ds.length ≤ n := Nat.le_of_ble_eq_true h
  apply List.ext_getElem?
  intro j
  by_cases hj : j < n
  · rw [dense_get hj]
    have := init_dense ds 0 (by omega) j hj (Nat.zero_le _)
    simpa using this
  · rw [List.getElem?_eq_none (by simp; omega), List.getElem?_eq_none (by rw [dense_len]; omega)]

theorem Spec.of_TD {P : Program} {f : FuncId} {fn : Func} {code : Code} {t : Nat} {ds : List AV} {r : AV} {ho : Option HO} (hbx : hoOK ho = true) (hf : P.funcs[f]? = some fn) (hn : (fn.name == "runtime.NumGoroutine") = false)
    (hb : fn.body = some code) (hres : fn.results = #[.tmp t]) (hnt : fn.ntmps = n) (hle : Nat.ble ds.length n = true)
    (h : ∀ w ok, T ⟨P, w, ok, noB⟩ code (Fin t r ho) (fun _ _ => False) (Fin t r ho) ⟨dense n (num 0 ds), []⟩) : Spec P f ds r ho :=
  Spec.of_T hbx hf hn hb hres fun w ok => by rw [hnt, init_eq hle]; exact h w ok
theorem Spec.of_TD2 {P : Program} {f : FuncId} {fn : Func} {code : Code} {t u : Nat} {ds : List AV} {p q : AV} (hf : P.funcs[f]? = some fn) (hn : (fn.name == "runtime.NumGoroutine") = false)
    (hb : fn.body = some code) (hres : fn.results = #[.tmp t, .tmp u]) (hfin : [p, q].all AV.fin = true) (hnt : fn.ntmps = n) (hle : Nat.ble ds.length n = true)
    (h : ∀ w ok, T ⟨P, w, ok, noB⟩ code (fun σ => At t p σ ∧ At u q σ) (fun _ _ => False) (fun σ => At t p σ ∧ At u q σ) ⟨dense n (num 0 ds), []⟩) : Spec P f ds (.tup [p, q]) none :=
  Spec.of_T2 hf hn hb hres hfin fun w ok => by rw [hnt, init_eq hle]; exact h w ok
theorem Spec.of_TD3 {P : Program} {f : FuncId} {fn : Func} {code : Code} {t u s : Nat} {ds : List AV} {p q r : AV} (hf : P.funcs[f]? = some fn) (hn : (fn.name == "runtime.NumGoroutine") = false)
    (hb : fn.body = some code) (hres : fn.results = #[.tmp t, .tmp u, .tmp s]) (hfin : [p, q, r].all AV.fin = true) (hnt : fn.ntmps = n) (hle : Nat.ble ds.length n = true)
    (h : ∀ w ok, T ⟨P, w, ok, noB⟩ code (fun σ => At t p σ ∧ At u q σ ∧ At s r σ) (fun _ _ => False) (fun σ => At t p σ ∧ At u q σ ∧ At s r σ) ⟨dense n (num 0 ds), []⟩) : Spec P f ds (.tup [p, q, r]) none :=
  Spec.of_T3 hf hn hb hres hfin fun w ok => by rw [hnt, init_eq hle]; exact h w ok
theorem Spec.of_CD {P : Program} {f : FuncId} {fn : Func} {code : Code} {rs : List ResultVar} {ds : List AV} {x : AV} (hf : P.funcs[f]? = some fn) (hn : (fn.name == "runtime.NumGoroutine") = false)
    (hb : fn.body = some code) (hres : fn.results = rs.toArray) (hfin : x.fin = true) (hnt : fn.ntmps = n) (hle : Nat.ble ds.length n = true)
    (h : ∀ w ok, T ⟨P, w, ok, noB⟩ code (fun σ => ResAll P σ [x] rs) (fun _ _ => False) (fun σ => ResAll P σ [x] rs) ⟨dense n (num 0 ds), []⟩) : Spec P f ds x none :=
  Spec.of_C hf hn hb hres hfin fun w ok => by rw [hnt, init_eq hle]; exact h w ok
theorem Spec.of_MD {P : Program} {f : FuncId} {fn : Func} {code : Code} {rs : List ResultVar} {ds : List AV} {x y : AV} {xs : List AV} (hf : P.funcs[f]? = some fn) (hn : (fn.name == "runtime.NumGoroutine") = false)
    (hb : fn.body = some code) (hres : fn.results = rs.toArray) (hfin : (x :: y :: xs).all AV.fin = true) (hnt : fn.ntmps = n) (hle : Nat.ble ds.length n = true)
    (h : ∀ w ok, T ⟨P, w, ok, noB⟩ code (fun σ => ResAll P σ (x :: y :: xs) rs) (fun _ _ => False) (fun σ => ResAll P σ (x :: y :: xs) rs) ⟨dense n (num 0 ds), []⟩) : Spec P f ds (.tup (x :: y :: xs)) none :=
  Spec.of_M hf hn hb hres hfin fun w ok => by rw [hnt, init_eq hle]; exact h w ok
theorem ResAtD {P : Program} {t : Nat} {x : AV} (hx : slook s t = x) (hlt : Nat.blt t n = true) (hf : x.fin = true) : ResAt P ⟨dense n s, H⟩ x (.tmp t) := AtD hx hlt hf
theorem ResCellD {P : Program} {t ty : Nat} {x : AV} {cs : List AV} (hx : slook s t = .cp cs) (hlt : Nat.blt t n = true) (hu : (P.underlying ty).isSome = true) (hs : szIs P ty (P.cellsOf ty)) (h1 : (evLoad P [] ty (.cp cs)).1)
    (h2 : (evLoad P [] ty (.cp cs)).2 = x) (hf : x.fin = true) : ResAt P ⟨dense n s, H⟩ x (.cell t ty) :=
  ⟨cs, by rw [dense_len]; exact hlt, by rw [dense_look (by simpa using hlt)]; exact hx, hu, hs, h1, h2, hf⟩
end
/-! Arguments that are more than is asked. -/
def AvLe (x y : AV) : Prop := ∀ ok w v, DRep ok w v x → DRep ok w v y
theorem AvLe.refl {x : AV} : AvLe x x := fun _ _ _ h => h
theorem AvLe.loose {ex : Bool} {sz : Nat} {xs : List AV} : AvLe (.sl ex sz xs) (.sl false sz xs) := fun _ _ _ h => h.loose
theorem AvLe.nil {ex : Bool} {sz sz' : Nat} : AvLe (.sl ex sz []) (.sl false sz' []) := fun ok w v h => by
  cases h with
  | slNil _ _ a cap hc => exact .slNil false sz' a cap (by simp)
  | sl _ b o cap _ _ vs hb hne => exact absurd rfl hne
theorem AvLe.nilT {sz sz' : Nat} : AvLe (.sl true sz []) (.sl true sz' []) := fun ok w v h => by
  cases h with
  | slNil _ _ a cap hc => exact .slNil true sz' a cap hc
  | sl _ b o cap _ _ vs hb hne => exact absurd rfl hne
theorem AvLe.slk {sz : Nat} {xs : List AV} : AvLe (.sl true sz xs) (.slk xs.length sz xs) := fun ok w v h => by
  rcases h.sl_cases with ⟨rfl, a, cap, rfl, hc⟩ | ⟨b, o, cap, rfl, _, hc⟩
  · rw [hc rfl] at h ⊢
    exact .slk 0 sz 0 [] a h.loose
  · rw [hc rfl] at h ⊢
    exact .slk xs.length sz xs.length xs _ h.loose
def ArgsLe : List AV → List AV → Prop
  | [], [] => True
  | x :: xs, y :: ys => AvLe x y ∧ ArgsLe xs ys
  | _, _ => False
theorem ArgsLe.refl : ∀ {xs : List AV}, ArgsLe xs xs
  | [] => trivial
  | _ :: _ => ⟨AvLe.refl, ArgsLe.refl⟩
theorem ArgsLe.pts {ok : Nat → Prop} {w : World} : ∀ {xs ys : List AV} {vs : List Value}, ArgsLe xs ys → Pts (DRep ok w) vs xs → Pts (DRep ok w) vs ys
  | [], [], _, _, h => h
  | x :: xs, y :: ys, vs, h, hp => by
    obtain ⟨v, vs', rfl, h1, h2⟩ := hp.cons_inv
    exact Pts.cons (h.1 _ _ _ h1) (ArgsLe.pts h.2 h2)
  | [], _ :: _, _, h, _ => h.elim
  | _ :: _, [], _, h, _ => h.elim
theorem AvLe.agg {xs ys : List AV} (h : ArgsLe xs ys) : AvLe (.agg xs) (.agg ys) := fun ok w v hv => by
  cases hv with
  | agg vs _ hl h1 hh =>
    have := h.pts (ok := ok) (w := w) (vs := vs) ⟨hl, hh⟩
    exact .agg vs ys this.1 h1 this.2
theorem Spec.args {P : Program} {f : FuncId} {ds ds' : List AV} {r : AV} {ho : Option HO} (h : Spec P f ds r ho) (hd : ArgsLe ds' ds) : Spec P f ds' r ho :=
  ⟨h.1, h.2.1, fun ok w vs hlt hp => h.2.2 ok w vs hlt (hd.pts hp)⟩
theorem CallK.dataA {P : Program} {f : FuncId} {ds ds' : List AV} {g u : Bool} {K : AV → Option HO → Prop} {r : AV} (h : Spec P f ds r none) (hd : ArgsLe ds' ds) (hf : r.fin = true) (hk : K r none) : CallK P f ds' g u K :=
  CallK.data (fun _ => h.args hd) hf hk
theorem CallK.tupA {P : Program} {f : FuncId} {ds ds' : List AV} {g u : Bool} {K : AV → Option HO → Prop} {rs : List AV} (h : Spec P f ds (.tup rs) none) (hd : ArgsLe ds' ds) (hk : K (.tup rs) none) : CallK P f ds' g u K :=
  CallK.tup (fun _ => h.args hd) hk
theorem CallK.ownA {P : Program} {f : FuncId} {ds ds' : List AV} {g : Bool} {K : AV → Option HO → Prop} {a b c : Nat} {o : HO} (h : Spec P f ds (.osl a b c) (some o)) (hd : ArgsLe ds' ds) (hk : K (.osl a b c) (some o)) : CallK P f ds' g true K :=
  CallK.own (h.args hd) hk
/-! A box's cells, weakened; an empty row in a box becomes owned memory. -/
section
variable {ok ok' : Nat → Prop} {φ φ' : Names} {w w' : World} {c : Ctx} {σ : St}
theorem HeapOK.cells {H : List (Nat × HO)} {B : Nat → Prop} {b sz : Nat} {e : TypeId} {xs ys : List AV} (h : HeapOK ok φ H w B) (hb : look H b = some ⟨sz, e, true, xs⟩) (hl : ∀ y ∈ ys, y.cells.length = sz) (hfl : (flat ys).length = (flat xs).length) (hn : xs = [] → ys = [])
    (hr : ∀ (i : Nat) v x y, (flat xs)[i]? = some x → (flat ys)[i]? = some y → R0 ok φ w v x → R0 ok φ w v y) : HeapOK ok φ (upd H b ⟨sz, e, true, ys⟩) w B := by
  have hlk : ∀ j o, look (upd H b ⟨sz, e, true, ys⟩) j = some o → ∃ o0, look H j = some o0 ∧ (j = b → o = ⟨sz, e, true, ys⟩) ∧ (j ≠ b → o = o0) := by
    intro j o ho
    by_cases ej : j = b
    · subst ej
      rw [look_upd_self hb] at ho; cases ho
      exact ⟨_, hb, fun _ => rfl, fun h => absurd rfl h⟩
    · rw [look_upd_ne _ _ ej] at ho
      exact ⟨o, ho, fun h => absurd h ej, fun _ => rfl⟩
  refine ⟨fun j o ho => ?_, fun j j' o o' g sz N sz' N' h1 h2 => ?_⟩
  · obtain ⟨o0, h0, h1, h2⟩ := hlk j o ho
    by_cases ej : j = b
    · rw [h1 ej]
      subst ej
      rw [hb] at h0; cases h0
      rcases h.at_ j _ hb with ⟨a1, a2⟩ | ⟨g, N, a1, a2, a3, cur, fz, b1, b2, b3, b4, b5, b6, b7⟩
      · exact .inl ⟨a1, hn a2⟩
      · refine .inr ⟨g, N, a1, a2, a3, cur, fz, b1, b2, b3, by rw [hfl]; exact b4, hl, by rw [hfl]; exact b6, by rw [hfl, b7.1], fun i v y q1 q2 => ?_⟩
        rw [hfl] at q1
        have hi : i < (flat xs).length := by rw [← hfl]; exact (List.getElem?_eq_some_iff.1 q2).1
        exact hr i v (flat xs)[i] y (by simp) q2 (b7.2 i v _ q1 (by simp))
    · rw [h2 ej]; exact h.at_ j o0 h0
  · obtain ⟨p, h3, _⟩ := hlk j o h1
    obtain ⟨p', h4, _⟩ := hlk j' o' h2
    exact h.inj j j' p p' g sz N sz' N' h3 h4

def ownX (k j : Nat) : List AV → Option (List AV)
  | [.agg cs] => match cs.getD j .junk with
    | .sl true _ [] => some [.agg ((cs.map (AV.kill0 k)).set j (.osl k 0 0))]
    | _ => none
  | [.sl true _ []] => some [.osl k 0 0]
  | _ => none
def ownB (k j sz : Nat) (e : TypeId) (s : List AV) (H : List (Nat × HO)) (b : Nat) : Option HO → St
  | some ⟨s0, t, true, xs⟩ => match ownX k j xs with
    | some ys => if b = k then ⟨s, H⟩ else ⟨s.map (AV.kill k), upd (put (killH k H) k ⟨sz, e, false, []⟩) b ⟨s0, t, true, ys⟩⟩
    | none => ⟨s, H⟩
  | _ => ⟨s, H⟩
def St.ownC (σ : St) (b j k sz : Nat) (e : TypeId) : St := ownB k j sz e σ.s σ.h b (look σ.h b)
theorem Le.ownC (b j k sz : Nat) (e : TypeId) : Le c σ (σ.ownC b j k sz e) := by
  rintro a w ⟨ok, φ, h⟩
  unfold St.ownC
  generalize hb : look σ.h b = ob
  unfold ownB
  split
  rotate_left
  · exact ⟨ok, φ, h⟩
  rename_i s0 t xs
  split
  rotate_left
  · exact ⟨ok, φ, h⟩
  rename_i ys hys
  split
  · exact ⟨ok, φ, h⟩
  rename_i hne
  let φ' : Names := fun j => if j = k then none else φ j
  have hφ : ∀ j, j ≠ k → φ' j = φ j := fun j hj => by simp [φ', hj]
  have hN := h.heap.newNone (k := k) (sz := sz) (e := e) (bx := false) hφ (by simp [φ'])
  have hlk : look (put (killH k σ.h) k ⟨sz, e, false, []⟩) b = some ⟨s0, t, true, xs.map (killE k)⟩ := by
    rw [look_put_ne _ _ hne, look_killH, hb]; rfl
  have nilR : ∀ (v : Value) (z : Nat), R0 ok φ' w v (.sl true z []) → R0 ok φ' w v (.osl k 0 0) := by
    intro v z hv
    have hv : DRep ok w v (.sl true z []) := hv
    cases hv with
    | slNil _ _ a cap hc => exact .inl ⟨a, by rw [hc rfl], rfl⟩
    | sl _ b o cap _ _ vs hb hne => exact absurd rfl hne
  refine ⟨ok, φ', h.defers, h.slots.map fun v x hx => kill_R2 (k := k) hx (fun _ h => h) (fun _ _ => rfl) hφ, ?_, h.okLt, h.okOr, h.ok0, h.below⟩
  have hall : xs ≠ [] → ∀ x ∈ xs, x.cells.length = s0 := by
    intro hx0
    rcases h.heap.at_ b _ hb with ⟨_, a2⟩ | ⟨g, N, a1, a2, a3, cur, fz, b1, b2, b3, b4, b5, b6, b7⟩
    · exact absurd a2 hx0
    · exact b5
  unfold ownX at hys
  split at hys
  · rename_i cs
    split at hys
    rotate_left
    · cases hys
    rename_i z hj
    cases hys
    have hjl : j < cs.length := by
      by_cases hh : j < cs.length
      · exact hh
      · simp [List.getD, hh] at hj
    have hc := hall (by simp) (.agg cs) (by simp)
    refine hN.cells hlk ?_ ?_ (by simp) ?_
    · intro y hy
      simp at hy; subst hy
      simpa [AV.cells] using hc
    · simp [flat, AV.cells, killE]
    · intro i v x y h1 h2 h3
      simp only [flat, List.map_cons, List.map_nil, killE, AV.cells, List.flatMap_cons, List.flatMap_nil, List.append_nil] at h1 h2
      rw [List.getElem?_set] at h2
      split at h2
      · rename_i e1; subst e1
        have hjl' : j < (cs.map (AV.kill0 k)).length := by simpa using hjl
        rw [if_pos hjl'] at h2
        cases h2
        rw [List.getElem?_map] at h1
        have : cs[j]? = some (.sl true z []) := by rw [← hj]; exact getD_some hjl
        rw [this] at h1
        cases h1
        exact nilR v z h3
      · rw [h1] at h2; cases h2; exact h3
  · rename_i z
    cases hys
    have hc := hall (by simp) (.sl true z []) (by simp)
    refine hN.cells hlk ?_ ?_ (by simp) ?_
    · intro y hy
      simp at hy; subst hy
      simpa [AV.cells] using hc
    · simp [flat, AV.cells, killE, AV.kill0, AV.names0]
    · intro i v x y h1 h2 h3
      simp only [flat, List.map_cons, List.map_nil, killE, AV.kill0, AV.names0, AV.cells, List.flatMap_cons, List.flatMap_nil, List.append_nil, Bool.false_eq_true, if_false] at h1 h2
      cases i with
      | zero => simp at h1 h2; subst h1 h2; exact nilR v z h3
      | succ i => simp at h1
  · cases hys
end
attribute [go_sem] dense_look slook_cons slook_nil dense_set Cut_dense num
end Go.Ideal
