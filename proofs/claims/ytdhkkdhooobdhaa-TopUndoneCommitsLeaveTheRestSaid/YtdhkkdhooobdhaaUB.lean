/- Undo, plainly: documents without a mark; replaying the steps that remain. -/
import Derived.Test.YtdhkkdhooobdhaaUA
set_option linter.unusedVariables false
set_option linter.unusedSimpArgs false
namespace Go.Proofs
open Go Go.Ideal
set_option maxRecDepth 8000
set_option maxHeartbeats 4000000

/-! ### The text -/
theorem chg_mv {s : List UInt8} {e e' : Edit} {f t δ : Int} (hp : Pss e s.length) (hm : 0 ≤ f ∧ f < t ∧ t ≤ s.length) (h1 : CW e f t δ) (h3 : MV e f t e') :
    chg (cutN s f.toNat t.toNat) e' = cutN (chg s e) (f + δ).toNat (t + δ).toNat := by
  obtain ⟨k0, a0, i0, n0, t0⟩ := hp
  obtain ⟨k, a, n, u, x⟩ := e
  simp only at k0 a0 i0 n0 t0
  obtain ⟨a, rfl⟩ : ∃ y : Nat, a = y := ⟨a.toNat, by omega⟩
  obtain ⟨f, rfl⟩ : ∃ y : Nat, f = y := ⟨f.toNat, by omega⟩
  obtain ⟨t, rfl⟩ : ∃ y : Nat, t = y := ⟨t.toNat, by omega⟩
  simp only [Int.toNat_natCast]
  have zero : δ = 0 → ((f : Int) + δ).toNat = f ∧ ((t : Int) + δ).toNat = t := by intro h; subst h; simp
  by_cases hk1 : k = 1
  · subst hk1
    obtain ⟨c1, rfl⟩ := mv1 rfl h3
    simp only at c1 ⊢
    rw [chg_ins]
    cases h1 with
    | insL _ h =>
      simp only at h
      obtain ⟨e1, e2⟩ := zero rfl
      rw [e1, e2, show wo (f : Int) t a = ((a - (t - f) : Nat) : Int) by unfold wo; (repeat' split) <;> omega, chg_ins]
      exact cut_ins_l (by omega) (by omega) (by omega)
    | insR _ h =>
      simp only at h ⊢
      rw [show wo (f : Int) t a = (a : Int) by unfold wo; (repeat' split) <;> omega, chg_ins, show ((f : Int) + (x.length : Int)).toNat = f + x.length by omega, show ((t : Int) + (x.length : Int)).toNat = t + x.length by omega]
      exact cut_ins_r (by omega) (by omega) (by omega)
    | _ => first | (exfalso; simp only at *; done) | (exfalso; simp only at *; omega)
  have n0 := n0 hk1
  obtain ⟨n, rfl⟩ : ∃ y : Nat, n = y := ⟨n.toNat, by omega⟩
  by_cases hk2 : k = 2
  · subst hk2
    obtain ⟨c1, rfl⟩ := mv2 rfl h3
    simp only at c1 ⊢
    rw [chg_del]
    cases h1 with
    | del0 _ h =>
      simp only at h
      have hn0 : n = 0 := by omega
      subst hn0
      obtain ⟨e1, e2⟩ := zero rfl
      rw [e1, e2]
      obtain ⟨q, hq⟩ : ∃ q : Nat, wo (f : Int) t a = q := ⟨(wo (f : Int) t a).toNat, by unfold wo; (repeat' split) <;> omega⟩
      rw [hq, chg_del]
      simp
    | delL _ h0 h =>
      simp only at h h0
      obtain ⟨e1, e2⟩ := zero rfl
      rw [e1, e2, show wo (f : Int) t a = ((a - (t - f) : Nat) : Int) by unfold wo; (repeat' split) <;> omega, chg_del]
      exact cut_del_l (by omega) (by omega) (by omega)
    | delR _ h0 h =>
      simp only at h h0 ⊢
      rw [show wo (f : Int) t a = (a : Int) by unfold wo; (repeat' split) <;> omega, chg_del, show ((f : Int) + (-(n : Int))).toNat = f - n by omega, show ((t : Int) + (-(n : Int))).toNat = t - n by omega]
      exact cut_del_r (by omega) (by omega) (by omega)
    | _ => first | (exfalso; simp only at *; done) | (exfalso; simp only at *; omega)
  by_cases hk4 : k = 4
  · subst hk4
    have c1 := mv4 rfl h3
    subst c1
    cases h1 with
    | sty _ =>
      obtain ⟨e1, e2⟩ := zero rfl
      rw [e1, e2]
      simp [chg]
    | _ => first | (exfalso; simp only at *; done) | (exfalso; simp only at *; omega)
  have hk3 : k = 3 := by omega
  subst hk3
  have t0 := t0 rfl
  obtain ⟨u, rfl⟩ : ∃ y : Nat, u = y := ⟨u.toNat, by omega⟩
  obtain ⟨A, N, U, rfl, c⟩ := mv3 rfl h3
  simp only at c ⊢
  have hcl := cut_len (s := s) (f := f) (t := t) ⟨by omega, by omega⟩
  have same : ∀ (z : List UInt8) (a u : Nat), u ≤ z.length → chg z ⟨3, (a : Int), (0 : Int), (u : Int), x⟩ = z := by
    intro z a u hu
    have := chg_mov (s := z) (x := x) (a := a) (n := 0) (t := u)
    rw [show ((0 : Nat) : Int) = 0 from rfl] at this
    rw [this]; simp
  by_cases hn : n = 0
  · subst hn
    have hδ : δ = 0 := by cases h1 <;> first | rfl | (exfalso; simp only at *; done) | (exfalso; simp only at *; omega)
    obtain ⟨e1, e2⟩ := zero hδ
    rw [e1, e2]
    obtain ⟨A', hA⟩ : ∃ q : Nat, A = q := ⟨A.toNat, by rcases c with c | c | c | c <;> (try omega) ; obtain ⟨_, rfl, _, _⟩ := c; unfold wo; (repeat' split) <;> omega⟩
    obtain ⟨U', hU, hUl⟩ : ∃ q : Nat, U = q ∧ q ≤ (cutN s f t).length := ⟨U.toNat, by rcases c with c | c | c | c <;> (try omega) ; obtain ⟨_, _, _, rfl⟩ := c; unfold wo; (repeat' split) <;> omega⟩
    have hN : N = 0 := by omega
    subst hA hU hN
    rw [same _ _ _ hUl, show ((0 : Nat) : Int) = 0 from rfl, same _ _ _ (by omega)]
  have mv : ∀ (z : List UInt8) (a n u : Nat), chg z ⟨3, (a : Int), (n : Int), (u : Int), x⟩ = movN z a n u := fun z a n u => chg_mov
  rw [mv]
  have fin : ∀ (a' n' u' f' t' : Nat), A = a' → N = n' → U = u' → ((f : Int) + δ).toNat = f' → ((t : Int) + δ).toNat = t' →
      ((a ≤ f ∧ t ≤ a + n ∧ a' = a ∧ n' = n - (t - f) ∧ u' = u ∧ f' = f + u - a ∧ t' = t + u - a) ∨
      (t ≤ a ∧ a' = a - (t - f) ∧ n' = n ∧ (t ≤ u ∧ u' = u - (t - f) ∧ f' = f ∧ t' = t ∨ u ≤ f ∧ u' = u ∧ f' = f + n ∧ t' = t + n)) ∨
      (a + n ≤ f ∧ a' = a ∧ n' = n ∧ (t - n ≤ u ∧ u' = u - (t - f) ∧ f' = f - n ∧ t' = t - n ∨ u ≤ f - n ∧ u' = u ∧ f' = f ∧ t' = t))) →
      chg (cutN s f t) ⟨3, A, N, U, x⟩ = cutN (movN s a n u) ((f : Int) + δ).toNat ((t : Int) + δ).toNat := by
    rintro a' n' u' f' t' rfl rfl rfl rfl rfl h
    rw [mv]
    exact cut_mov (by omega) (by omega) (by omega) (by omega) (by omega) h
  cases h1 with
  | movI _ h0 h1 h2 =>
    simp only at h0 h1 h2
    rcases c with c | c | c | c
    · omega
    · obtain ⟨_, _, _, rfl, rfl, rfl⟩ := c
      exact fin a (n - (t - f)) u (f + u - a) (t + u - a) rfl (by omega) rfl (by simp only; omega) (by simp only; omega) (.inl ⟨by omega, by omega, rfl, rfl, rfl, rfl, rfl⟩)
    · omega
    · omega
  | movLL _ h0 h1 h2 =>
    simp only at h0 h1 h2
    rcases c with c | c | c | c
    · omega
    · omega
    · obtain ⟨_, _, _, rfl, rfl, rfl⟩ := c
      exact fin (a - (t - f)) n (u - (t - f)) f t (by omega) rfl (by unfold wo; (repeat' split) <;> omega) (by omega) (by omega) (.inr (.inl ⟨by omega, rfl, rfl, .inl ⟨by omega, rfl, rfl, rfl⟩⟩))
    · omega
  | movLR _ h0 h1 h2 =>
    simp only at h0 h1 h2
    rcases c with c | c | c | c
    · omega
    · omega
    · obtain ⟨_, _, _, rfl, rfl, rfl⟩ := c
      exact fin (a - (t - f)) n u (f + n) (t + n) (by omega) rfl (by unfold wo; (repeat' split) <;> omega) (by simp only; omega) (by simp only; omega) (.inr (.inl ⟨by omega, rfl, rfl, .inr ⟨by omega, rfl, rfl, rfl⟩⟩))
    · omega
  | movRL _ h0 h1 h2 =>
    simp only at h0 h1 h2
    rcases c with c | c | c | c
    · omega
    · omega
    · omega
    · obtain ⟨_, _, _, rfl, rfl, rfl⟩ := c
      exact fin a n (u - (t - f)) (f - n) (t - n) rfl rfl (by unfold wo; (repeat' split) <;> omega) (by simp only; omega) (by simp only; omega) (.inr (.inr ⟨by omega, rfl, rfl, .inl ⟨by omega, rfl, rfl, rfl⟩⟩))
  | movRR _ h0 h1 h2 =>
    simp only at h0 h1 h2
    rcases c with c | c | c | c
    · omega
    · omega
    · omega
    · obtain ⟨_, _, _, rfl, rfl, rfl⟩ := c
      exact fin a n u f t rfl rfl (by unfold wo; (repeat' split) <;> omega) (by omega) (by omega) (.inr (.inr ⟨by omega, rfl, rfl, .inr ⟨by omega, rfl, rfl, rfl⟩⟩))
  | mov0 _ h => simp only at h; omega
  | _ => first | (exfalso; simp only at *; done) | (exfalso; simp only at *; omega)

/-! ### What a step does -/
theorem put_eff {e : Edit} (h : e.k = 1) : (∀ n, possB (putE e.a e.s) n = possB e n) ∧ (∀ s, chg s (putE e.a e.s) = chg s e) ∧ ∀ l, carL l (putE e.a e.s) = carL l e := by
  refine ⟨fun n => ?_, fun s => ?_, fun l => ?_⟩
  · unfold possB putE; rw [if_pos rfl, if_pos h]
  · unfold chg putE; rw [if_pos rfl, if_pos h]
  · rw [carL_ins rfl, carL_ins h]; rfl
structure Eff (D : Doc) (s : Stp) : Prop where
  poss : possB s.e D.s.length = true
  txt : (actF D s).1.s = chg D.s s.e
  ok : OkD (actF D s).1
  car : ∀ x ∈ D.m, ∀ x', carM s.e x = some x' → x' ∈ (actF D s).1.m
  inv : ∀ x' ∈ (actF D s).1.m, (∃ x ∈ D.m, carM s.e x = some x') ∨ (s.id ≥ 0 ∧ x' = fstM s)
  put : s.id ≥ 0 → fstM s ∈ (actF D s).1.m ∧ hasId D.m s.id = false
  cnt : (actF D s).1.m.length ≤ D.m.length + 1
theorem act_eff {D : Doc} {s : Stp} (hD : OkD D) (hk : s.id ≥ 0 → s.e.k = 1) (h0 : (actF D s).2 = 0) : Eff D s := by
  have hok := actF_ok hD h0
  unfold actF at h0 hok
  by_cases hid : s.id ≥ 0
  · have hk := hk hid
    obtain ⟨p1, p2, p3⟩ := put_eff hk
    rw [if_pos hid] at h0 hok
    have hna : actF D s = putF D s.id s.e.a s.e.s := by unfold actF; rw [if_pos hid]
    unfold putF at h0
    split at h0
    · cases h0
    rename_i hno
    split at h0
    · cases h0
    rename_i hbig
    have e : putF D s.id s.e.a s.e.s = (⟨chg D.s s.e, insL (carL D.m s.e) (idx D.m s.id) (fstM s)⟩, 0) := by
      unfold putF; rw [if_neg hno, if_neg hbig, p2, p3]; rfl
    simp only [not_or, Bool.not_eq_false, Bool.not_eq_true] at hno
    rw [e] at hok
    rw [p1] at hno
    refine ⟨hno.1, by rw [hna, e], by rw [hna, e]; exact hok, ?_, ?_, ?_, ?_⟩
    · intro x hx x' h
      rw [hna, e]
      exact mem_insL.2 (.inr (List.mem_filterMap.2 ⟨x, hx, h⟩))
    · intro x' hx
      rw [hna, e] at hx
      rcases mem_insL.1 hx with h | h
      · exact .inr ⟨hid, h⟩
      · exact .inl (carL_mem h)
    · intro _
      rw [hna, e]
      exact ⟨mem_insL.2 (.inl rfl), hno.2.2⟩
    · rw [hna, e]
      have := carL_len D.m s.e
      simp only [insL, List.length_append, List.length_take, List.length_cons, List.length_drop]; omega
  · rw [if_neg hid] at h0 hok
    have hna : actF D s = doF D s.e := by unfold actF; rw [if_neg hid]
    unfold doF at h0
    split at h0
    · cases h0
    rename_i hp
    split at h0
    · cases h0
    rename_i hbig
    have e : doF D s.e = (⟨chg D.s s.e, carL D.m s.e⟩, 0) := by unfold doF; rw [if_neg hp, if_neg hbig]
    rw [e] at hok
    refine ⟨by simpa using hp, by rw [hna, e], by rw [hna, e]; exact hok, ?_, ?_, fun h => absurd h hid, ?_⟩
    · intro x hx x' h
      rw [hna, e]
      exact List.mem_filterMap.2 ⟨x, hx, h⟩
    · intro x' hx
      rw [hna, e] at hx
      exact .inl (carL_mem hx)
    · rw [hna, e]
      have := carL_len D.m s.e
      simp only; omega
theorem act_zero {D : Doc} {s : Stp} (hk : s.id ≥ 0 → s.e.k = 1) (hp : possB s.e D.s.length = true) (hb : s.e.k = 1 → (D.s.length : Int) + s.e.s.length ≤ 400) (hi : s.id ≥ 0 → hasId D.m s.id = false ∧ D.m.length < 100) : (actF D s).2 = 0 := by
  unfold actF
  by_cases hid : s.id ≥ 0
  · rw [if_pos hid]
    obtain ⟨p1, p2, p3⟩ := put_eff (hk hid)
    have := hb (hk hid)
    have h2 := hi hid
    unfold putF
    rw [if_neg (by rw [p1, hp, h2.1]; simp; omega), if_neg (by omega)]
  · rw [if_neg hid]
    unfold doF
    rw [if_neg (by rw [hp]; decide), if_neg (by rintro ⟨h1, h2⟩; have := hb h1; omega)]

/-! ### A document without a mark -/
def wxM (m x : Mark) : Mark := ⟨x.id, x.f + wx m.f m.t x.f, x.t + wx m.f m.t x.f, true⟩
structure Rel (D D' : Doc) (m : Mark) : Prop where
  ok : OkD D
  ok' : OkD D'
  mem : m ∈ D.m
  w : m.w = true
  txt : D'.s = cutN D.s m.f.toNat m.t.toNat
  oth : ∀ x ∈ D.m, x.w = true → x.id ≠ m.id → Dsj m.f m.t x.f x.t ∧ wxM m x ∈ D'.m
def outS (s : Stp) (m : Mark) : Stp := ⟨s.app, s.id, movU s.e m, s.und⟩
theorem rel_step {D D' : Doc} {m m' : Mark} {s : Stp} (h : Rel D D' m) (hk : s.id ≥ 0 → s.e.k = 1) (h0 : (actF D s).2 = 0) (hc : carM s.e m = some m') (hw : m'.w = true)
    (hi : s.id ≥ 0 → hasId D'.m s.id = false ∧ D'.m.length < 100) : (actF D' (outS s m)).2 = 0 ∧ Rel (actF D s).1 (actF D' (outS s m)).1 m' ∧ m'.id = m.id := by
  have E := act_eff h.ok hk h0
  have hmk := (h.ok.mks m h.mem).2
  have hlen := h.ok.len
  have P := (pss_iff _ _).1 E.poss
  obtain ⟨_, hid, δ, C, hf, ht⟩ := cw_of P hmk hc hw
  have hm : m = ⟨m.id, m.f, m.t, true⟩ := by have := h.w; cases m; simp_all
  have M : MV s.e m.f m.t (movU s.e m) := by
    have := mv_of (id := m.id) P hmk C
    rw [← hm] at this; exact this
  have hcl := cut_len (s := D.s) (f := m.f.toNat) (t := m.t.toNat) ⟨by omega, by omega⟩
  have P' : possB (movU s.e m) D'.s.length = true := by
    rw [pss_iff]
    have := pss_mv P hmk M
    rw [h.txt, hcl, show ((D.s.length - (m.t.toNat - m.f.toNat) : Nat) : Int) = D.s.length - (m.t - m.f) by omega]
    exact this
  have hk' : (outS s m).id ≥ 0 → (outS s m).e.k = 1 := fun g => by show (movU s.e m).k = 1; rw [movU_k]; exact hk g
  have hcl2 := chg_len E.poss
  have hok1 := E.ok.len
  rw [E.txt] at hok1
  have z : (actF D' (outS s m)).2 = 0 := by
    refine act_zero hk' P' ?_ hi
    intro g
    have g' : s.e.k = 1 := by have : (movU s.e m).k = 1 := g; rwa [movU_k] at this
    rw [if_pos g'] at hcl2
    have : (outS s m).e.s = s.e.s := movU_s s.e m
    rw [this, h.txt, hcl]; omega
  have E' := act_eff h.ok' hk' z
  refine ⟨z, ⟨E.ok, E'.ok, E.car m h.mem m' hc, hw, ?_, ?_⟩, hid⟩
  · rw [E'.txt, E.txt, h.txt, hf, ht]
    exact chg_mv P hmk C M
  · intro x1 hx1 hw1 hne
    rcases E.inv x1 hx1 with ⟨x, hx, hcx⟩ | ⟨g, rfl⟩
    · have hxk := (h.ok.mks x hx).2
      obtain ⟨xw, xid, η, Cx, xf, xt⟩ := cw_of P hxk hcx hw1
      obtain ⟨hd, hin⟩ := h.oth x hx xw (by rw [← xid, ← hid]; exact hne)
      obtain ⟨hd', Cx'⟩ := cw_mv P hmk hxk hd C Cx M
      rw [hf, ht, xf, xt]
      refine ⟨hd', ?_⟩
      have hpx' := (h.ok'.mks _ hin).2
      have := of_cw (id := x.id) ((pss_iff _ _).1 P') hpx' Cx'
      have := E'.car _ hin _ this
      have e : wxM m' x1 = ⟨x.id, x.f + wx m.f m.t x.f + (η + wx (m.f + δ) (m.t + δ) (x.f + η) - wx m.f m.t x.f), x.t + wx m.f m.t x.f + (η + wx (m.f + δ) (m.t + δ) (x.f + η) - wx m.f m.t x.f), true⟩ := by
        unfold wxM
        rw [hf, ht, xf, xt, xid]
        congr 1 <;> omega
      rw [e]; exact this
    · have hk1 := hk g
      have hin := (E'.put g).1
      have hfe : fstM (outS s m) = ⟨s.id, wo m.f m.t s.e.a, wo m.f m.t s.e.a + s.e.s.length, true⟩ := by
        obtain ⟨c1, c2⟩ := mv1 hk1 M
        show (⟨s.id, (movU s.e m).a, (movU s.e m).a + (movU s.e m).s.length, true⟩ : Mark) = _
        rw [c2]
      have hlen1 := (P.i hk1).1
      have e : Dsj m'.f m'.t s.e.a (s.e.a + s.e.s.length) ∧ wxM m' (fstM s) = fstM (outS s m) := by
        rw [hfe]
        unfold wxM fstM
        rw [hf, ht]
        cases C with
        | insL _ h2 =>
          refine ⟨.inr (by omega), ?_⟩
          simp only [wx, wo]
          congr 1 <;> ((repeat' split) <;> omega)
        | insR _ h2 =>
          refine ⟨.inl (by omega), ?_⟩
          simp only [wx, wo]
          congr 1 <;> ((repeat' split) <;> omega)
        | _ => exfalso; omega
      exact ⟨e.1, by rw [e.2]; exact hin⟩

/-! ### Replaying -/
theorem repF_app (app : Int) : ∀ (A B : List Stp) (d : Doc), repF app (A ++ B) d = if (repF app A d).2 ≠ 0 then (noDoc, (repF app A d).2) else repF app B (repF app A d).1
  | [], B, d => rfl
  | s :: A, B, d => by
    rw [List.cons_append]
    by_cases h1 : s.app ≠ app ∨ s.und = true
    · have e : ∀ l, repF app (s :: l) d = repF app l d := fun l => by simp only [repF]; rw [if_pos h1]
      rw [e, e]; exact repF_app app A B d
    · by_cases h2 : (actF d s).2 ≠ 0
      · have e : ∀ l, repF app (s :: l) d = (noDoc, (actF d s).2) := fun l => by simp only [repF]; rw [if_neg h1, if_pos h2]
        rw [e, e, if_pos h2]
      · have e : ∀ l, repF app (s :: l) d = repF app l (actF d s).1 := fun l => by simp only [repF]; rw [if_neg h1, if_neg h2]
        rw [e, e]; exact repF_app app A B _
def goneS (app : Int) (s : Stp) : Prop := s.app ≠ app ∨ s.und = true
instance (app : Int) (s : Stp) : Decidable (goneS app s) := inferInstanceAs (Decidable (_ ∨ _))
def remU (app : Int) : Mark → List Stp → List Stp
  | _, [] => []
  | m, s :: l => if goneS app s then s :: remU app m l else outS s m :: remU app ((carM s.e m).getD noMark) l
/-- The mark stays whole. -/
def ChW (app : Int) : Mark → List Stp → Prop
  | _, [] => True
  | m, s :: l => if goneS app s then ChW app m l else ∃ m', carM s.e m = some m' ∧ m'.w = true ∧ ChW app m' l
/-- The mark behind these steps. -/
def endM (app : Int) : Mark → List Stp → Mark
  | m, [] => m
  | m, s :: l => if goneS app s then endM app m l else endM app ((carM s.e m).getD noMark) l
def Comm (l : List Stp) : Prop := ∀ s ∈ l, s.id ≥ 0 → s.e.k = 1
def Dst (l : List Stp) : Prop := l.Pairwise fun a b => a.id ≥ 0 → b.id ≠ a.id
theorem repF_rel (app : Int) : ∀ (l : List Stp) (D D' : Doc) (m : Mark) (Dn : Doc), Rel D D' m → Comm l → Dst l → ChW app m l → repF app l D = (Dn, 0) →
    (∀ s ∈ l, s.id ≥ 0 → hasId D'.m s.id = false ∧ s.id ≠ m.id) → D'.m.length + l.length ≤ 99 →
    ∃ Dn', repF app (remU app m l) D' = (Dn', 0) ∧ Rel Dn Dn' (endM app m l) ∧ (endM app m l).id = m.id ∧ ∀ x ∈ Dn'.m, (∃ y ∈ D'.m, y.id = x.id) ∨ (∃ s ∈ l, s.id ≥ 0 ∧ s.id = x.id)
  | [], D, D', m, Dn, h, _, _, _, hr, _, _ => by
    cases hr
    exact ⟨D', rfl, h, rfl, fun x hx => .inl ⟨x, hx, rfl⟩⟩
  | s :: l, D, D', m, Dn, h, hc, hd, hw, hr, hi, hl => by
    have hc' : Comm l := fun x hx => hc x (by simp [hx])
    have hd' : Dst l := List.Pairwise.of_cons hd
    simp only [List.length_cons] at hl
    simp only [remU, ChW, endM, repF] at hw hr ⊢
    by_cases g : goneS app s
    · have g' : s.app ≠ app ∨ s.und = true := g
      rw [if_pos g] at hw ⊢
      rw [if_pos g'] at hr
      rw [if_pos g]
      obtain ⟨Dn', r1, r2, r3, r4⟩ := repF_rel app l D D' m Dn h hc' hd' hw hr (fun x hx => hi x (by simp [hx])) (by omega)
      refine ⟨Dn', ?_, r2, r3, fun x hx => ?_⟩
      · simp only [repF]; rw [if_pos g']; exact r1
      · rcases r4 x hx with h1 | ⟨y, hy, h2⟩
        · exact .inl h1
        · exact .inr ⟨y, by simp [hy], h2⟩
    · have g' : ¬ (s.app ≠ app ∨ s.und = true) := g
      rw [if_neg g] at hw ⊢
      rw [if_neg g'] at hr
      rw [if_neg g]
      obtain ⟨m', hcm, hmw, hw⟩ := hw
      by_cases h0 : (actF D s).2 = 0
      rotate_left
      · rw [if_pos h0] at hr; exact absurd (congrArg Prod.snd hr) h0
      rw [if_neg (by omega)] at hr
      obtain ⟨z, hrel, hid⟩ := rel_step h (hc s (by simp)) h0 hcm hmw (fun q => ⟨(hi s (by simp) q).1, by omega⟩)
      have hk' : (outS s m).id ≥ 0 → (outS s m).e.k = 1 := fun q => by show (movU s.e m).k = 1; rw [movU_k]; exact hc s (by simp) q
      have E' := act_eff h.ok' hk' z
      have Pp := E'.poss
      have ids : ∀ x ∈ (actF D' (outS s m)).1.m, (∃ y ∈ D'.m, y.id = x.id) ∨ (s.id ≥ 0 ∧ s.id = x.id) := by
        intro x hx
        rcases E'.inv x hx with ⟨y, hy, hcy⟩ | ⟨g1, rfl⟩
        · exact .inl ⟨y, hy, ((carM_ok Pp (h.ok'.mks y hy).2 hcy).1).symm⟩
        · exact .inr ⟨g1, rfl⟩
      rw [hcm]
      simp only [Option.getD_some]
      obtain ⟨Dn', r1, r2, r3, r4⟩ := repF_rel app l _ _ m' Dn hrel hc' hd' hw hr (fun x hx hx0 => by
        refine ⟨?_, by rw [hid]; exact (hi x (by simp [hx]) hx0).2⟩
        cases hh : hasId (actF D' (outS s m)).1.m x.id with
        | false => rfl
        | true =>
          obtain ⟨y, hy, he⟩ : ∃ y ∈ (actF D' (outS s m)).1.m, y.id = x.id := by simpa [hasId] using hh
          rcases ids y hy with ⟨u, hu, hue⟩ | ⟨q1, q2⟩
          · have := (hi x (by simp [hx]) hx0).1
            have h2 : hasId D'.m x.id = true := by simp only [hasId, List.any_eq_true, decide_eq_true_eq]; exact ⟨u, hu, by rw [hue, he]⟩
            rw [this] at h2; cases h2
          · have := List.rel_of_pairwise_cons hd hx q1
            omega) (by have := E'.cnt; omega)
      refine ⟨Dn', ?_, r2, by rw [r3, hid], fun x hx => ?_⟩
      · simp only [repF]
        rw [if_neg (by exact g'), if_neg (by rw [z]; simp)]
        exact r1
      · rcases r4 x hx with ⟨y, hy, h2⟩ | ⟨y, hy, h2⟩
        · rcases ids y hy with ⟨u, hu, hue⟩ | ⟨q1, q2⟩
          · exact .inl ⟨u, hu, by rw [hue, h2]⟩
          · exact .inr ⟨s, by simp, q1, by rw [q2, h2]⟩
        · exact .inr ⟨y, by simp [hy], h2⟩
end Go.Proofs
