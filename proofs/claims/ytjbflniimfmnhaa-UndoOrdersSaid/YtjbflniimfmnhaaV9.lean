/- Undo, plainly: undoing two commits in either order. -/
import Derived.Test.YtjbflniimfmnhaaV6
set_option linter.unusedVariables false
set_option linter.unusedSimpArgs false
namespace Go.Proofs
open Go Go.Ideal
set_option maxRecDepth 8000
set_option maxHeartbeats 4000000

/-! ### Two whole marks -/
theorem mark_true {m : Mark} (h : m.w = true) : m = ⟨m.id, m.f, m.t, true⟩ := by
  obtain ⟨i, f, t, w⟩ := m
  simp only at h
  subst h; rfl
theorem dsj_comm {f t x y : Int} (h : Dsj f t x y) : Dsj x y f t := Or.symm h
theorem two_step {e : Edit} {m x m' x' : Mark} {n : Int} (hp : Pss e n) (hm : 0 ≤ m.f ∧ m.f < m.t ∧ m.t ≤ n) (hx : 0 ≤ x.f ∧ x.f < x.t ∧ x.t ≤ n) (hd : Dsj m.f m.t x.f x.t)
    (h1 : carM e m = some m') (hw1 : m'.w = true) (h2 : carM e x = some x') (hw2 : x'.w = true) :
    Dsj m'.f m'.t x'.f x'.t ∧ carM (movU e m) (wxM m x) = some (wxM m' x') ∧ movU (movU e m) (wxM m x) = movU (movU e x) (wxM x m) := by
  obtain ⟨mw, mid, δ, C, mf, mt⟩ := cw_of hp hm h1 hw1
  obtain ⟨xw, xid, η, Cx, xf, xt⟩ := cw_of hp hx h2 hw2
  have em : m = ⟨m.id, m.f, m.t, true⟩ := mark_true mw
  have ex : x = ⟨x.id, x.f, x.t, true⟩ := mark_true xw
  have M : MV e m.f m.t (movU e m) := by have := mv_of (id := m.id) hp hm C; rw [← em] at this; exact this
  have X : MV e x.f x.t (movU e x) := by have := mv_of (id := x.id) hp hx Cx; rw [← ex] at this; exact this
  obtain ⟨d1, C1⟩ := cw_mv hp hm hx hd C Cx M
  obtain ⟨d2, C2⟩ := cw_mv hp hx hm (dsj_comm hd) Cx C X
  have P1 := pss_mv hp hm M
  have P2 := pss_mv hp hx X
  have b1 : 0 ≤ x.f + wx m.f m.t x.f ∧ x.f + wx m.f m.t x.f < x.t + wx m.f m.t x.f ∧ x.t + wx m.f m.t x.f ≤ n - (m.t - m.f) := by
    unfold Dsj at hd; unfold wx; split <;> omega
  have b2 : 0 ≤ m.f + wx x.f x.t m.f ∧ m.f + wx x.f x.t m.f < m.t + wx x.f x.t m.f ∧ m.t + wx x.f x.t m.f ≤ n - (x.t - x.f) := by
    unfold Dsj at hd; unfold wx; split <;> omega
  refine ⟨by rw [mf, mt, xf, xt]; exact d1, ?_, ?_⟩
  · have := of_cw (id := x.id) P1 b1 C1
    unfold wxM
    rw [this, mf, mt, xf, xt, xid]
    congr 2 <;> omega
  · exact mv_mv hp hm hx hd M X (mv_of (id := x.id) P1 b1 C1) (mv_of (id := m.id) P2 b2 C2)
/-- A commit without a mark that stays whole. -/
theorem put_out {s : Stp} {m m' : Mark} {n : Int} (hp : Pss s.e n) (hm : 0 ≤ m.f ∧ m.f < m.t ∧ m.t ≤ n) (hk : s.e.k = 1) (h1 : carM s.e m = some m') (hw1 : m'.w = true) :
    Dsj m'.f m'.t s.e.a (s.e.a + s.e.s.length) ∧ wxM m' (fstM s) = fstM (outS s m) ∧ wxM (fstM s) m' = m := by
  obtain ⟨mw, mid, δ, C, mf, mt⟩ := cw_of hp hm h1 hw1
  have em : m = ⟨m.id, m.f, m.t, true⟩ := mark_true mw
  have M : MV s.e m.f m.t (movU s.e m) := by have := mv_of (id := m.id) hp hm C; rw [← em] at this; exact this
  have hlen1 := (hp.i hk).1
  have hfe : fstM (outS s m) = ⟨s.id, wo m.f m.t s.e.a, wo m.f m.t s.e.a + s.e.s.length, true⟩ := by
    obtain ⟨c1, c2⟩ := mv1 hk M
    show (⟨s.id, (movU s.e m).a, (movU s.e m).a + (movU s.e m).s.length, true⟩ : Mark) = _
    rw [c2]
  rw [hfe]
  cases C with
  | insL _ h2 =>
    refine ⟨?_, ?_, ?_⟩
    · unfold Dsj; omega
    · unfold wxM fstM
      rw [mf, mt]
      simp only [wx, wo]
      congr 1 <;> ((repeat' split) <;> omega)
    · conv => rhs; rw [em]
      unfold wxM fstM
      rw [mf, mt, mid]
      simp only [wx]
      congr 1 <;> ((repeat' split) <;> omega)
  | insR _ h2 =>
    refine ⟨?_, ?_, ?_⟩
    · unfold Dsj; omega
    · unfold wxM fstM
      rw [mf, mt]
      simp only [wx, wo]
      congr 1 <;> ((repeat' split) <;> omega)
    · conv => rhs; rw [em]
      unfold wxM fstM
      rw [mf, mt, mid]
      simp only [wx]
      congr 1 <;> ((repeat' split) <;> omega)
  | _ => exfalso; omega

/-! ### Two undoings over a list of steps -/
theorem remU_app (app : Int) : ∀ (A B : List Stp) (m : Mark), remU app m (A ++ B) = remU app m A ++ remU app (endM app m A) B
  | [], _, _ => rfl
  | s :: A, B, m => by
    rw [List.cons_append]
    simp only [remU, endM]
    split
    · rw [remU_app app A B m]; rfl
    · rw [remU_app app A B _]; rfl
theorem chW_app (app : Int) : ∀ (A B : List Stp) (m : Mark), ChW app m (A ++ B) ↔ ChW app m A ∧ ChW app (endM app m A) B
  | [], _, _ => by simp [ChW, endM]
  | s :: A, B, m => by
    rw [List.cons_append]
    simp only [ChW, endM]
    split
    · exact chW_app app A B m
    · constructor
      · rintro ⟨m', h1, h2, h3⟩
        rw [h1]
        obtain ⟨h4, h5⟩ := (chW_app app A B m').1 h3
        exact ⟨⟨m', rfl, h2, h4⟩, h5⟩
      · rintro ⟨⟨m', h1, h2, h3⟩, h4⟩
        rw [h1] at h4
        exact ⟨m', h1, h2, (chW_app app A B m').2 ⟨h3, h4⟩⟩
theorem gone_outS {app : Int} {s : Stp} {m : Mark} : goneS app (outS s m) ↔ goneS app s := Iff.rfl
theorem chW_other {a b : Int} (hab : b ≠ a) : ∀ (l : List Stp) (m x : Mark), ChW b x (remU a m l) ↔ ChW b x l
  | [], _, _ => Iff.rfl
  | s :: l, m, x => by
    simp only [remU]
    split
    · simp only [ChW]
      split
      · exact chW_other hab l m x
      · constructor
        · rintro ⟨m', h1, h2, h3⟩; exact ⟨m', h1, h2, (chW_other hab l m m').1 h3⟩
        · rintro ⟨m', h1, h2, h3⟩; exact ⟨m', h1, h2, (chW_other hab l m m').2 h3⟩
    · rename_i g
      have h1 : s.app = a := Decidable.byContradiction fun e => g (.inl e)
      have g1 : goneS b s := .inl (by omega)
      simp only [ChW]
      rw [if_pos (by exact g1), if_pos g1]
      exact chW_other hab l _ x
theorem rem_other {a b : Int} (hab : b ≠ a) : ∀ (l : List Stp) (m x : Mark), remU b x (remU a m l) = remU a m (remU b x l)
  | [], _, _ => rfl
  | s :: l, m, x => by
    by_cases ga : goneS a s
    · by_cases gb : goneS b s
      · have e1 : remU a m (s :: l) = s :: remU a m l := by simp only [remU]; rw [if_pos ga]
        have e2 : remU b x (s :: l) = s :: remU b x l := by simp only [remU]; rw [if_pos gb]
        rw [e1, e2]
        simp only [remU]
        rw [if_pos gb, if_pos ga, rem_other hab l m x]
      · have e1 : remU a m (s :: l) = s :: remU a m l := by simp only [remU]; rw [if_pos ga]
        have e2 : remU b x (s :: l) = outS s x :: remU b ((carM s.e x).getD noMark) l := by simp only [remU]; rw [if_neg gb]
        rw [e1, e2]
        simp only [remU]
        rw [if_neg gb, if_pos (gone_outS.2 ga), rem_other hab l m _]
    · have gb : goneS b s := .inl (by have : s.app = a := Decidable.byContradiction fun e => ga (.inl e); omega)
      have e1 : remU a m (s :: l) = outS s m :: remU a ((carM s.e m).getD noMark) l := by simp only [remU]; rw [if_neg ga]
      have e2 : remU b x (s :: l) = s :: remU b x l := by simp only [remU]; rw [if_pos gb]
      rw [e1, e2]
      simp only [remU]
      rw [if_pos (gone_outS.2 gb), if_neg ga, rem_other hab l _ x]
theorem rem_two (a : Int) : ∀ (l : List Stp) (D Dn : Doc) (m x : Mark), OkD D → Comm l → repF a l D = (Dn, 0) → 0 ≤ m.f ∧ m.f < m.t ∧ m.t ≤ D.s.length → 0 ≤ x.f ∧ x.f < x.t ∧ x.t ≤ D.s.length → Dsj m.f m.t x.f x.t →
    ChW a m l → ChW a x l → ChW a (wxM m x) (remU a m l) ∧ ChW a (wxM x m) (remU a x l) ∧ remU a (wxM m x) (remU a m l) = remU a (wxM x m) (remU a x l)
  | [], _, _, _, _, _, _, _, _, _, _, _, _ => ⟨trivial, trivial, rfl⟩
  | s :: l, D, Dn, m, x, hD, hc, hr, hm, hx, hd, c1, c2 => by
    have hc' : Comm l := fun y hy => hc y (by simp [hy])
    by_cases g : goneS a s
    · simp only [remU, ChW] at c1 c2 ⊢
      rw [rep_gone g] at hr
      rw [if_pos g] at c1 c2
      rw [if_pos g, if_pos g]
      obtain ⟨r1, r2, r3⟩ := rem_two a l D Dn m x hD hc' hr hm hx hd c1 c2
      simp only [remU, ChW]
      rw [if_pos g, if_pos g, if_pos g, if_pos g, r3]
      exact ⟨r1, r2, rfl⟩
    · obtain ⟨z, hr⟩ := rep_cons g hr
      have E := act_eff hD (hc s (by simp)) z
      have P := (pss_iff _ _).1 E.poss
      simp only [ChW] at c1 c2
      rw [if_neg g] at c1 c2
      obtain ⟨m', m1, m2, c1⟩ := c1
      obtain ⟨x', x1, x2, c2⟩ := c2
      obtain ⟨d', k1, k2⟩ := two_step P hm hx hd m1 m2 x1 x2
      obtain ⟨_, k3, _⟩ := two_step P hx hm (dsj_comm hd) x1 x2 m1 m2
      have hl := E.ok.len
      have bm := carM_ok E.poss hm m1
      have bx := carM_ok E.poss hx x1
      rw [← E.txt] at bm bx
      obtain ⟨r1, r2, r3⟩ := rem_two a l _ Dn m' x' E.ok hc' hr bm.2 bx.2 d' c1 c2
      have e1 : remU a m (s :: l) = outS s m :: remU a m' l := by simp only [remU]; rw [if_neg g, m1]; rfl
      have e2 : remU a x (s :: l) = outS s x :: remU a x' l := by simp only [remU]; rw [if_neg g, x1]; rfl
      have g1 : ¬ goneS a (outS s m) := g
      have g2 : ¬ goneS a (outS s x) := g
      have k1' : carM (outS s m).e (wxM m x) = some (wxM m' x') := k1
      have k3' : carM (outS s x).e (wxM x m) = some (wxM x' m') := k3
      rw [e1, e2]
      simp only [remU, ChW]
      rw [if_neg g1, if_neg g2, if_neg g1, if_neg g2, k1', k3']
      refine ⟨⟨_, rfl, rfl, r1⟩, ⟨_, rfl, rfl, r2⟩, ?_⟩
      simp only [Option.getD_some]
      rw [r3]
      congr 1
      unfold outS
      simp only
      rw [k2]
end Go.Proofs

/- Undo: two commits can be undone in either order. -/
set_option linter.unusedVariables false
set_option linter.unusedSimpArgs false
namespace Go.Proofs
open Go Go.Ideal
set_option maxRecDepth 8000
set_option maxHeartbeats 4000000

/-- Two steps that differ at most in the edit, if they were undone. -/
structure Sim (x y : Stp) : Prop where
  app : x.app = y.app
  id : x.id = y.id
  und : x.und = y.und
  e : x.und = false → x.e = y.e
theorem Sim.refl (x : Stp) : Sim x x := ⟨rfl, rfl, rfl, fun _ => rfl⟩
theorem Sim.symm {x y : Stp} (h : Sim x y) : Sim y x := ⟨h.app.symm, h.id.symm, h.und.symm, fun g => (h.e (by rw [h.und]; exact g)).symm⟩
def SimL : List Stp → List Stp → Prop
  | [], [] => True
  | x :: l, y :: l' => Sim x y ∧ SimL l l'
  | _, _ => False
theorem SimL.refl : ∀ l : List Stp, SimL l l
  | [] => trivial
  | x :: l => ⟨Sim.refl x, SimL.refl l⟩
theorem SimL.symm : ∀ {l l' : List Stp}, SimL l l' → SimL l' l
  | [], [], _ => trivial
  | x :: l, y :: l', h => ⟨h.1.symm, SimL.symm h.2⟩
  | [], _ :: _, h => h.elim
  | _ :: _, [], h => h.elim
theorem SimL.append : ∀ {A A' B B' : List Stp}, SimL A A' → SimL B B' → SimL (A ++ B) (A' ++ B')
  | [], [], _, _, _, h => h
  | x :: l, y :: l', _, _, h, h2 => ⟨h.1, SimL.append h.2 h2⟩
  | [], _ :: _, _, _, h, _ => h.elim
  | _ :: _, [], _, _, h, _ => h.elim
theorem SimL.get : ∀ {l l' : List Stp}, SimL l l' → ∀ j : Nat, Sim (l.getD j default) (l'.getD j default)
  | [], [], _, j => Sim.refl _
  | x :: l, y :: l', h, 0 => h.1
  | x :: l, y :: l', h, j + 1 => SimL.get h.2 j
  | [], _ :: _, h, _ => h.elim
  | _ :: _, [], h, _ => h.elim
theorem repF_sim (app : Int) : ∀ {l l' : List Stp}, SimL l l' → ∀ d, repF app l d = repF app l' d
  | [], [], _, d => rfl
  | [], _ :: _, h, _ => h.elim
  | _ :: _, [], h, _ => h.elim
  | x :: l, y :: l', h, d => by
    obtain ⟨s, h2⟩ := h
    by_cases g : goneS app x
    · have g2 : goneS app y := by
        rcases g with g | g
        · exact .inl (by rw [← s.app]; exact g)
        · exact .inr (by rw [← s.und]; exact g)
      rw [rep_gone g, rep_gone g2]
      exact repF_sim app h2 d
    · have hu : x.und = false := by cases hu : x.und; rfl; exact absurd (.inr hu) g
      have : x = y := by
        have h1 := s.app; have h2 := s.id; have h3 := s.und; have h4 := s.e hu
        cases x; cases y; simp_all
      subst this
      simp only [repF]
      split
      · exact repF_sim app h2 _
      · split
        · rfl
        · exact repF_sim app h2 _

theorem undS_app {p : Past} {i : Nat} {A R : List Stp} {s : Stp} (h : p.st = A ++ s :: R) (hi : A.length = i) : i < p.st.length ∧ p.st.getD i default = s ∧ p.st.drop (i + 1) = R ∧
    undS p i = A ++ ⟨s.app, s.id, s.e, true⟩ :: remU s.app (fstM s) R := by
  have hl : i < p.st.length := by rw [h]; simp; omega
  have hg : p.st.getD i default = s := by rw [h, List.getD, List.getElem?_append_right (by omega), hi]; simp
  have h1 : p.st.take i = A := by rw [h]; exact List.take_left' hi
  have h2 : p.st.drop (i + 1) = R := by
    rw [h, show A ++ s :: R = (A ++ [s]) ++ R by simp]
    exact List.drop_left' (by simp; omega)
  refine ⟨hl, hg, h2, ?_⟩
  rw [undS_eq p i hl, hg, h1, h2]
theorem cho_at {q : Past} {k b : Nat} {A R : List Stp} {s : Stp} (hq : q.st = A ++ s :: R) (hA : A.length = k) (hid : s.id ≥ 0) (hu : s.und = false) (ha : s.app = b) (hb : b < q.docs.length) (hc : ChW b (fstM s) R) :
    Cho q k b ∧ (depU q k).1 = [] ∧ undS q k = A ++ ⟨s.app, s.id, s.e, true⟩ :: remU b (fstM s) R := by
  obtain ⟨hl, hg, hd, hs⟩ := undS_app hq hA
  have com : isCom q (k : Int) = true := by
    unfold isCom
    simp only [Int.toNat_natCast]
    rw [if_neg (by omega)]
    simp only [hg, hu, Bool.not_false, Bool.true_and, Bool.and_eq_true, decide_eq_true_eq]
    omega
  refine ⟨⟨com, hl, by rw [hg]; exact hid, by rw [hg]; exact hu, by rw [hg]; exact ha, hb⟩, ?_, by rw [hs, ha]⟩
  rw [dep_iff com, hg, hd, ha]; exact hc
theorem orders_core {p : Past} (h : Good p) {i k a b : Nat} (hik : i < k) (ci : Cho p i a) (ck : Cho p k b) (di : (depU p i).1 = []) (dk : (depU p k).1 = []) {Di Dk : Doc} :
    Cho ⟨p.docs.set a Di, undS p i⟩ k b ∧ (depU ⟨p.docs.set a Di, undS p i⟩ k).1 = [] ∧ Cho ⟨p.docs.set b Dk, undS p k⟩ i a ∧ (depU ⟨p.docs.set b Dk, undS p k⟩ i).1 = [] ∧
    SimL (undS ⟨p.docs.set a Di, undS p i⟩ k) (undS ⟨p.docs.set b Dk, undS p k⟩ i) := by
  have hi := ci.lt
  have hk := ck.lt
  have hst : p.st = p.st.take i ++ p.st.getD i default :: ((p.st.drop (i + 1)).take (k - (i + 1)) ++ p.st.getD k default :: p.st.drop (k + 1)) := by
    conv => lhs; rw [← List.take_append_drop i p.st, drop_d hi, ← List.take_append_drop (k - (i + 1)) (p.st.drop (i + 1)), List.drop_drop, show i + 1 + (k - (i + 1)) = k by omega, drop_d hk]
  have hA : (p.st.take i).length = i := by simp; omega
  have hB : ((p.st.drop (i + 1)).take (k - (i + 1))).length = k - (i + 1) := by simp; omega
  have i1 := ci.id; have i2 := ci.und; have i3 := ci.app; have i4 := ci.al
  have k1 := ck.id; have k2 := ck.und; have k3 := ck.app; have k4 := ck.al
  have chI := (dep_iff ci.com).1 di
  have chK := (dep_iff ck.com).1 dk
  generalize p.st.getD i default = si at *
  generalize p.st.getD k default = sk at *
  have hdi : p.st.drop (i + 1) = (p.st.drop (i + 1)).take (k - (i + 1)) ++ sk :: p.st.drop (k + 1) := by
    have := (undS_app hst hA).2.2.1
    exact this
  generalize hAe : p.st.take i = A at *
  generalize hBe : (p.st.drop (i + 1)).take (k - (i + 1)) = B at *
  generalize p.st.drop (k + 1) = C at *
  rw [hdi, i3] at chI
  rw [k3] at chK
  have e1 := (undS_app hst hA).2.2.2
  have e2 := (undS_app (p := p) (i := k) (A := A ++ si :: B) (R := C) (s := sk) (by rw [hst]; simp) (by simp; omega)).2.2.2
  rw [i3, remU_app] at e1
  rw [k3] at e2
  obtain ⟨chB, chS⟩ := (chW_app _ _ _ _).1 chI
  have commS := h.com
  rw [hst] at commS
  have cB : Comm B := fun s hs => commS s (by simp [hs])
  have cC : Comm C := fun s hs => commS s (by simp [hs])
  have csi := commS si (by simp)
  have csk := commS sk (by simp)
  have hds : ∀ (x : Nat) (D : Doc), (p.docs.set x D).length = p.docs.length := fun x D => by simp
  by_cases hab : b = a
  · subst hab
    -- the same document
    have gk : ¬ goneS b sk := by rintro (g | g); exact g k3; rw [k2] at g; cases g
    have gi : ¬ goneS b si := by rintro (g | g); exact g i3; rw [i2] at g; cases g
    have hr := h.rep b i4
    rw [hst] at hr
    obtain ⟨D0, r0, r1⟩ := rep_split hr
    obtain ⟨z, r2⟩ := rep_cons gi r1
    have o0 := repF_ok _ _ _ _ noDoc_ok r0
    have E0 := act_eff o0 csi z
    obtain ⟨D2, r3, r4⟩ := rep_split r2
    have o2 := repF_ok _ _ _ _ E0.ok r3
    obtain ⟨zk, r5⟩ := rep_cons gk r4
    have E2 := act_eff o2 csk zk
    obtain ⟨b1, b2, b3, _⟩ := sub_end b B (fstM si) _ D2 E0.ok (E0.put i1).1 rfl cB chB r3
    generalize hmB : endM b (fstM si) B = mB at *
    simp only [ChW] at chS
    rw [if_neg gk] at chS
    obtain ⟨x, x1, x2, chC⟩ := chS
    have P := (pss_iff _ _).1 E2.poss
    have bB := (o2.mks mB b1).2
    obtain ⟨p1, p2, p3⟩ := put_out P bB (csk k1) x1 x2
    have bx := (carM_ok E2.poss bB x1).2
    rw [← E2.txt] at bx
    have bk := (E2.ok.mks _ (E2.put k1).1).2
    obtain ⟨w1, w2, w3⟩ := rem_two b C _ _ x (fstM sk) E2.ok cC r5 bx bk p1 chC chK
    rw [p2] at w1 w3
    rw [p3] at w2 w3
    have f1 : remU b mB (sk :: C) = outS sk mB :: remU b x C := by simp only [remU]; rw [if_neg gk, x1]; rfl
    rw [f1] at e1
    have g1 : goneS b (⟨sk.app, sk.id, sk.e, true⟩ : Stp) := .inr rfl
    obtain ⟨u1, u2, u3⟩ := cho_at (q := ⟨p.docs.set b Di, undS p i⟩) (k := k) (b := b) (A := A ++ ⟨si.app, si.id, si.e, true⟩ :: remU b (fstM si) B) (R := remU b x C) (s := outS sk mB)
      (by simp only; rw [e1]; simp [i3]) (by simp [remU_len]; omega) k1 k2 k3 (by rw [hds]; exact i4) w1
    have hwq : ChW b (fstM si) (B ++ ⟨sk.app, sk.id, sk.e, true⟩ :: remU b (fstM sk) C) := by
      rw [chW_app, hmB]
      refine ⟨chB, ?_⟩
      simp only [ChW]
      rw [if_pos g1]
      exact w2
    obtain ⟨v1, v2, v3⟩ := cho_at (q := ⟨p.docs.set b Dk, undS p k⟩) (k := i) (b := b) (A := A) (R := B ++ ⟨sk.app, sk.id, sk.e, true⟩ :: remU b (fstM sk) C) (s := si)
      (by simp only; rw [e2]; simp [k3]) hA i1 i2 i3 (by rw [hds]; exact i4) hwq
    refine ⟨u1, u2, v1, v2, ?_⟩
    rw [u3, v3, remU_app, hmB]
    simp only [remU]
    rw [if_pos g1, ← w3]
    simp only [List.append_assoc, List.cons_append]
    exact SimL.append (SimL.refl A) ⟨Sim.refl _, SimL.append (SimL.refl _) ⟨⟨rfl, rfl, rfl, fun h => by cases h⟩, SimL.refl _⟩⟩
  · have ga : goneS a sk := .inl (by omega)
    simp only [ChW] at chS
    rw [if_pos ga] at chS
    have f1 : remU a (endM a (fstM si) B) (sk :: C) = sk :: remU a (endM a (fstM si) B) C := by simp only [remU]; rw [if_pos ga]
    rw [f1] at e1
    have g1 : goneS a (⟨sk.app, sk.id, sk.e, true⟩ : Stp) := .inr rfl
    obtain ⟨u1, u2, u3⟩ := cho_at (q := ⟨p.docs.set a Di, undS p i⟩) (k := k) (b := b) (A := A ++ ⟨si.app, si.id, si.e, true⟩ :: remU a (fstM si) B) (R := remU a (endM a (fstM si) B) C) (s := sk)
      (by simp only; rw [e1]; simp [i3]) (by simp [remU_len]; omega) k1 k2 k3 (by rw [hds]; exact k4) ((chW_other (by omega) _ _ _).2 chK)
    have hwq : ChW a (fstM si) (B ++ ⟨sk.app, sk.id, sk.e, true⟩ :: remU b (fstM sk) C) := by
      rw [chW_app]
      refine ⟨chB, ?_⟩
      simp only [ChW]
      rw [if_pos g1]
      exact (chW_other (by omega) _ _ _).2 chS
    obtain ⟨v1, v2, v3⟩ := cho_at (q := ⟨p.docs.set b Dk, undS p k⟩) (k := i) (b := a) (A := A) (R := B ++ ⟨sk.app, sk.id, sk.e, true⟩ :: remU b (fstM sk) C) (s := si)
      (by simp only; rw [e2]; simp [k3]) hA i1 i2 i3 (by rw [hds]; exact i4) hwq
    refine ⟨u1, u2, v1, v2, ?_⟩
    rw [u3, v3, remU_app]
    simp only [remU]
    rw [if_pos g1, rem_other (by omega) C]
    simp only [List.append_assoc, List.cons_append]
    exact SimL.refl _
end Go.Proofs

/- Undo: two commits can be undone in either order: the statement. -/
set_option linter.unusedVariables false
set_option linter.unusedSimpArgs false
namespace Go.Proofs
open Go Go.Ideal
set_option maxRecDepth 8000
set_option maxHeartbeats 4000000

theorem orders_all {p : Past} (h : Good p) {i k a b : Nat} (hik : i ≠ k) (ci : Cho p i a) (ck : Cho p k b) (di : (depU p i).1 = []) (dk : (depU p k).1 = []) {Di Dk : Doc} :
    Cho ⟨p.docs.set a Di, undS p i⟩ k b ∧ (depU ⟨p.docs.set a Di, undS p i⟩ k).1 = [] ∧ Cho ⟨p.docs.set b Dk, undS p k⟩ i a ∧ (depU ⟨p.docs.set b Dk, undS p k⟩ i).1 = [] ∧
    SimL (undS ⟨p.docs.set a Di, undS p i⟩ k) (undS ⟨p.docs.set b Dk, undS p k⟩ i) := by
  by_cases hlt : i < k
  · exact orders_core h hlt ci ck di dk
  · obtain ⟨h1, h2, h3, h4, h5⟩ := orders_core h (by omega : k < i) ck ci dk di (Di := Dk) (Dk := Di)
    exact ⟨h3, h4, h1, h2, h5.symm⟩
theorem choU_two {p : Past} {n m : UInt8} {i : Nat} (h : choU p n = i) : choU p m ≠ -1 := by
  unfold choU at h ⊢
  split at h
  · omega
  · rename_i hn
    rw [if_neg hn]; omega
theorem orders_law (l : List URaw) (w0 w1 : UInt8) : Ideal.Spec Try.prog 6 [.sl false 7 (urawsOf l), .agg [.int .u8 w0.toNat, .int .u8 w1.toNat]] (.bool true) none := by
  have s1 := Made_specU l
  have hM := made_ok l
  generalize madeU l = p at *
  have hg := hM.good
  have hsl := hM.len
  have h2 := hM.two
  have hn0 := w0.toNat_lt
  have hn1 := w1.toNat_lt
  have s2 := Chosen_specU p w0 (by omega)
  have s3 := Chosen_specU p w1 (by omega)
  have s0 := sanityU_spec
  refine Ideal.Spec.of_TD (n := 202) (fn := Try.f6) rfl rfl rfl rfl rfl rfl rfl fun w ok => ?_
  refine T.sregD 202 [0, 1, 3, 4, 5, 6, 7, 8, 9, 10, 11, 12, 13, 14, 15, 16, 34, 49, 82, 132, 134, 150, 155, 200] fun Kr hKr => ?_
  simp only [go_sem]
  (repeat (refine ⟨by (first | exact True.intro | omega | rfl | (simp; done) | (simp; omega)), ?_⟩)); try (refine hKr _ ?_; clear hKr Kr)
  refine T.sregD 202 [0, 1, 3, 4, 5, 6, 7, 8, 9, 10, 11, 12, 13, 14, 15, 16, 34, 49, 82, 132, 134, 150, 155, 200] fun Kr hKr => ?_
  simp only [go_sem]
  (repeat (refine ⟨by (first | exact True.intro | omega | rfl | (simp; done) | (simp; omega)), ?_⟩)); try (refine hKr _ ?_; clear hKr Kr)
  refine CallK.data (fun _ => Spec.args (s0) (by (first | exact ArgsLe.refl | (repeat (first | exact True.intro | refine And.intro (by first | exact AvLe.refl | exact AvLe.loose | exact AvLe.nil | exact AvLe.nilT | exact AvLe.slk | (refine AvLe.agg ?_; exact ArgsLe.refl) | (refine AvLe.agg ?_; (repeat (first | exact True.intro | refine And.intro (by first | exact AvLe.refl | exact AvLe.loose | exact AvLe.nil | exact AvLe.nilT | exact AvLe.slk) ?_)))) ?_))))) rfl ?_
  simp only [go_sem]
  (repeat (refine ⟨by (first | exact True.intro | omega | rfl | (simp; done) | (simp; omega)), ?_⟩)); try (refine hKr _ ?_; clear hKr Kr)
  refine T.sregD 202 [0, 1, 3, 4, 5, 6, 7, 8, 9, 10, 11, 12, 13, 14, 15, 16, 34, 49, 82, 132, 134, 150, 155, 200] fun Kr hKr => ?_
  simp only [go_sem]
  (repeat (refine ⟨by (first | exact True.intro | omega | rfl | (simp; done) | (simp; omega)), ?_⟩)); try (refine hKr _ ?_; clear hKr Kr)
  refine CallK.data (fun _ => Spec.args (s1) (by (first | exact ArgsLe.refl | (repeat (first | exact True.intro | refine And.intro (by first | exact AvLe.refl | exact AvLe.loose | exact AvLe.nil | exact AvLe.nilT | exact AvLe.slk | (refine AvLe.agg ?_; exact ArgsLe.refl) | (refine AvLe.agg ?_; (repeat (first | exact True.intro | refine And.intro (by first | exact AvLe.refl | exact AvLe.loose | exact AvLe.nil | exact AvLe.nilT | exact AvLe.slk) ?_)))) ?_))))) rfl ?_
  simp only [go_sem]
  (repeat (refine ⟨by (first | exact True.intro | omega | rfl | (simp; done) | (simp; omega)), ?_⟩)); try (refine hKr _ ?_; clear hKr Kr)
  refine T.sdrawD 202 [0, 1, 3, 4, 5, 6, 7, 8, 9, 10, 11, 12, 13, 14, 15, 16, 34, 49, 82, 132, 134, 150, 155, 200] (.take 0 (.take 1 (.take 2 (.take 4 (.take 5 (.take 6 (.one 3 (.one 7 (.take 8 (.take 9 .done)))))))))) [3, 6] rfl (by decide +kernel) (by decide +kernel) fun Kr hKr => ?_
  simp only [go_sem]
  (repeat (refine ⟨by (first | exact True.intro | omega | rfl | (simp; done) | (simp; omega)), ?_⟩)); try (refine hKr _ ?_; clear hKr Kr)
  refine CallK.data (fun _ => Spec.args (s2) (by (first | exact ArgsLe.refl | (repeat (first | exact True.intro | refine And.intro (by first | exact AvLe.refl | exact AvLe.loose | exact AvLe.nil | exact AvLe.nilT | exact AvLe.slk | (refine AvLe.agg ?_; exact ArgsLe.refl) | (refine AvLe.agg ?_; (repeat (first | exact True.intro | refine And.intro (by first | exact AvLe.refl | exact AvLe.loose | exact AvLe.nil | exact AvLe.nilT | exact AvLe.slk) ?_)))) ?_))))) rfl ?_
  simp only [go_sem]
  (repeat (refine ⟨by (first | exact True.intro | omega | rfl | (simp; done) | (simp; omega)), ?_⟩)); try (refine hKr _ ?_; clear hKr Kr)
  refine CallK.data (fun _ => Spec.args (s3) (by (first | exact ArgsLe.refl | (repeat (first | exact True.intro | refine And.intro (by first | exact AvLe.refl | exact AvLe.loose | exact AvLe.nil | exact AvLe.nilT | exact AvLe.slk | (refine AvLe.agg ?_; exact ArgsLe.refl) | (refine AvLe.agg ?_; (repeat (first | exact True.intro | refine And.intro (by first | exact AvLe.refl | exact AvLe.loose | exact AvLe.nil | exact AvLe.nilT | exact AvLe.slk) ?_)))) ?_))))) rfl ?_
  simp only [go_sem]
  (repeat (refine ⟨by (first | exact True.intro | omega | rfl | (simp; done) | (simp; omega)), ?_⟩)); try (refine hKr _ ?_; clear hKr Kr)
  refine T.seqK fun K1 hK1 => ?_
  rcases choU_com p w0 with he | ⟨i, he, hc⟩
  · rw [he]
    refine T.sregD 202 [0, 1, 3, 4, 5, 6, 7, 8, 9, 10, 11, 12, 13, 14, 15, 16, 34, 49, 82, 132, 134, 150, 155, 200] fun Kr hKr => ?_
    simp only [go_sem]
    (repeat (refine ⟨by (first | exact True.intro | omega | rfl | (simp; done) | (simp; omega)), ?_⟩)); try (refine hKr _ ?_; clear hKr Kr)
    refine T.condTD rfl rfl (fun hb => ?_) (fun hb => ?_) <;> try simp at hb
    refine T.sregD 202 [0, 1, 3, 4, 5, 6, 7, 8, 9, 10, 11, 12, 13, 14, 15, 16, 34, 49, 82, 132, 134, 150, 155, 200] fun Kr hKr => ?_
    simp only [go_sem]
    (repeat (refine ⟨by (first | exact True.intro | omega | rfl | (simp; done) | (simp; omega)), ?_⟩)); try (refine hKr _ ?_; clear hKr Kr)
    refine T.ret (Fin.dataD rfl rfl rfl)
  rcases choU_com p w1 with he1 | ⟨k, he1, hc1⟩
  · exact absurd he1 (choU_two he)
  rw [he, he1]
  obtain ⟨a, ci⟩ := cho_of hg hc
  obtain ⟨b, ck⟩ := cho_of hg hc1
  have s4 := undone_spec hg i
  have s5 := undone_spec hg k
  have hi0 : ((i : Int) < 0) = False := eq_false (by omega)
  by_cases hik : i = k
  · have h1 : ((i : Int) = (k : Int)) = True := eq_true (by omega)
    refine T.sregD 202 [0, 1, 3, 4, 5, 6, 7, 8, 9, 10, 11, 12, 13, 14, 15, 16, 34, 49, 82, 132, 134, 150, 155, 200] fun Kr hKr => ?_
    simp only [go_sem, hi0, h1]
    (repeat (refine ⟨by (first | exact True.intro | omega | rfl | (simp; done) | (simp; omega)), ?_⟩)); try (refine hKr _ ?_; clear hKr Kr)
    refine T.condTD rfl rfl (fun hb => ?_) (fun hb => ?_) <;> try simp at hb
    refine T.sregD 202 [0, 1, 3, 4, 5, 6, 7, 8, 9, 10, 11, 12, 13, 14, 15, 16, 34, 49, 82, 132, 134, 150, 155, 200] fun Kr hKr => ?_
    simp only [go_sem]
    (repeat (refine ⟨by (first | exact True.intro | omega | rfl | (simp; done) | (simp; omega)), ?_⟩)); try (refine hKr _ ?_; clear hKr Kr)
    refine T.ret (Fin.dataD rfl rfl rfl)
  have h1 : ((i : Int) = (k : Int)) = False := eq_false (by omega)
  refine T.sregD 202 [0, 1, 3, 4, 5, 6, 7, 8, 9, 10, 11, 12, 13, 14, 15, 16, 34, 49, 82, 132, 134, 150, 155, 200] fun Kr hKr => ?_
  simp only [go_sem, hi0, h1]
  (repeat (refine ⟨by (first | exact True.intro | omega | rfl | (simp; done) | (simp; omega)), ?_⟩)); try (refine hKr _ ?_; clear hKr Kr)
  refine T.condTD rfl rfl (fun hb => ?_) (fun hb => ?_) <;> try simp at hb
  refine T.skip ?_
  refine hK1 _ ?_
  refine T.sdraw2D 202 [0, 1, 3, 4, 5, 6, 7, 8, 9, 10, 11, 12, 13, 14, 15, 16, 34, 49, 82, 132, 134, 150, 155, 200] (.take 0 (.take 1 (.take 3 (.take 4 (.three 2 (.three 5 (.two 6 (.one 7 (.one 8 (.one 9 .done))) 7 (.one 6 (.one 8 (.one 9 .done)))) 6 (.two 5 (.one 7 (.one 8 (.one 9 .done))) 7 (.one 5 (.one 8 (.one 9 .done)))) 7 (.two 5 (.one 6 (.one 8 (.one 9 .done))) 6 (.one 5 (.one 8 (.one 9 .done))))) 6 (.two 2 (.two 5 (.one 7 (.one 8 (.one 9 .done))) 7 (.one 5 (.one 8 (.one 9 .done)))) 7 (.one 2 (.one 5 (.one 8 (.one 9 .done))))) 7 (.two 2 (.two 5 (.one 6 (.one 8 (.one 9 .done))) 6 (.one 5 (.one 8 (.one 9 .done)))) 6 (.one 2 (.one 5 (.one 8 (.one 9 .done)))))))))) [6] rfl (by decide +kernel) (by decide +kernel) ?x1 ?h1 (fun Kr hKr => ?all1) ?rest1
  case all1 =>
    simp only [go_sem]
    (repeat (any_goals (first | exact hKr _ (.inl rfl) | exact hKr _ (.inr (by (repeat (first | exact True.intro | refine And.intro (by first | rfl | (simp [look]; done)) ?_)))) | ((first | refine CallK.dataA (s4) ?_ rfl ?_ | refine CallK.tupA (s4) ?_ ?_ | refine CallK.ownA (s4) ?_ ?_); (focus ((first | exact ArgsLe.refl | (repeat (first | exact True.intro | refine And.intro (by first | exact AvLe.refl | exact AvLe.loose | exact AvLe.nil | exact AvLe.nilT | exact AvLe.slk | (refine AvLe.agg ?_; exact ArgsLe.refl) | (refine AvLe.agg ?_; (repeat (first | exact True.intro | refine And.intro (by first | exact AvLe.refl | exact AvLe.loose | exact AvLe.nil | exact AvLe.nilT | exact AvLe.slk) ?_)))) ?_))); done)); simp only [go_sem]) | ((first | refine CallK.dataA (s5) ?_ rfl ?_ | refine CallK.tupA (s5) ?_ ?_ | refine CallK.ownA (s5) ?_ ?_); (focus ((first | exact ArgsLe.refl | (repeat (first | exact True.intro | refine And.intro (by first | exact AvLe.refl | exact AvLe.loose | exact AvLe.nil | exact AvLe.nilT | exact AvLe.slk | (refine AvLe.agg ?_; exact ArgsLe.refl) | (refine AvLe.agg ?_; (repeat (first | exact True.intro | refine And.intro (by first | exact AvLe.refl | exact AvLe.loose | exact AvLe.nil | exact AvLe.nilT | exact AvLe.slk) ?_)))) ?_))); done)); simp only [go_sem]) | (refine And.intro ?_ ?_) | (first | exact True.intro | omega | rfl | (simp; done) | (simp; omega)))))
    all_goals (first | exact hKr _ (.inl rfl) | exact hKr _ (.inr (by (repeat (first | exact True.intro | refine And.intro (by first | rfl | (simp [look]; done)) ?_)))))
  case rest1 =>
  have e0 : ∀ j : Nat, ∀ c, Cho p j c → (depU p j).1 ≠ [] → undU p j = (noPast, (depU p j).1, 320) := fun j c cj hj => by unfold undU; rw [if_neg (by rw [depU_inv.1.2 cj.com]; simp), if_pos hj]
  refine T.seqK fun K2 hK2 => ?_
  by_cases di : (depU p i).1 = []
  rotate_left
  · rw [e0 i a ci di]
    refine T.sregD 202 [0, 1, 3, 4, 5, 6, 7, 8, 9, 10, 11, 12, 13, 14, 15, 16, 34, 49, 82, 132, 134, 150, 155, 200] fun Kr hKr => ?_
    simp only [go_sem]
    (repeat (refine ⟨by (first | exact True.intro | omega | rfl | (simp; done) | (simp; omega)), ?_⟩)); try (refine hKr _ ?_; clear hKr Kr)
    refine T.condTD rfl rfl (fun hb => ?_) (fun hb => ?_) <;> try simp at hb
    refine T.sregD 202 [0, 1, 3, 4, 5, 6, 7, 8, 9, 10, 11, 12, 13, 14, 15, 16, 34, 49, 82, 132, 134, 150, 155, 200] fun Kr hKr => ?_
    simp only [go_sem]
    (repeat (refine ⟨by (first | exact True.intro | omega | rfl | (simp; done) | (simp; omega)), ?_⟩)); try (refine hKr _ ?_; clear hKr Kr)
    refine T.ret (Fin.dataD rfl rfl rfl)
  obtain ⟨Di, Ui⟩ := und_of hg ci di
  by_cases dk : (depU p k).1 = []
  rotate_left
  · rw [e0 k b ck dk, Ui.eq]
    refine T.sregD 202 [0, 1, 3, 4, 5, 6, 7, 8, 9, 10, 11, 12, 13, 14, 15, 16, 34, 49, 82, 132, 134, 150, 155, 200] fun Kr hKr => ?_
    simp only [go_sem]
    (repeat (refine ⟨by (first | exact True.intro | omega | rfl | (simp; done) | (simp; omega)), ?_⟩)); try (refine hKr _ ?_; clear hKr Kr)
    refine T.condTD rfl rfl (fun hb => ?_) (fun hb => ?_) <;> try simp at hb
    refine T.sregD 202 [0, 1, 3, 4, 5, 6, 7, 8, 9, 10, 11, 12, 13, 14, 15, 16, 34, 49, 82, 132, 134, 150, 155, 200] fun Kr hKr => ?_
    simp only [go_sem]
    (repeat (refine ⟨by (first | exact True.intro | omega | rfl | (simp; done) | (simp; omega)), ?_⟩)); try (refine hKr _ ?_; clear hKr Kr)
    refine T.ret (Fin.dataD rfl rfl rfl)
  obtain ⟨Dk, Uk⟩ := und_of hg ck dk
  obtain ⟨c1, d1, c2, d2, hsim⟩ := orders_all hg hik ci ck di dk (Di := Di) (Dk := Dk)
  obtain ⟨Dik, V1⟩ := und_of Ui.good c1 d1
  obtain ⟨Dki, V2⟩ := und_of Uk.good c2 d2
  have s6 := undone_spec Ui.good k
  have s7 := undone_spec Uk.good i
  have li := Ui.len
  have lk := Uk.len
  have l1 := V1.len
  have l2 := V2.len
  have g1 := V1.good
  have g2 := V2.good
  rw [V1.eq] at s6
  rw [V2.eq] at s7
  rw [Ui.eq, Uk.eq]
  simp only at s6 s7 l1 l2 g1 g2
  have hDD : ∀ x : Nat, x < 2 → ((p.docs.set a Di).set b Dik).getD x default = ((p.docs.set b Dk).set a Dki).getD x default := fun x hx => by
    have r1 := g1.rep x (by simp; omega)
    have r2 := g2.rep x (by simp; omega)
    simp only at r1 r2
    rw [repF_sim x hsim] at r1
    rw [r1] at r2
    exact (Prod.mk.inj r2).1
  have hok : ∀ x : Nat, x < 2 → OkD (((p.docs.set b Dk).set a Dki).getD x default) := fun x hx => g2.okD (by simp; omega)
  have n1 : (p.docs.set a Di).length = 2 := by simpa using h2
  have n2 : (p.docs.set b Dk).length = 2 := by simpa using h2
  have n3 : ((p.docs.set a Di).set b Dik).length = 2 := by simpa using h2
  have n4 : ((p.docs.set b Dk).set a Dki).length = 2 := by simpa using h2
  rw [li] at l1
  rw [lk] at l2
  clear V1 V2 Ui Uk g1 g2 c1 c2 d1 d2
  generalize undS ⟨p.docs.set a Di, undS p i⟩ k = Q1 at *
  generalize undS ⟨p.docs.set b Dk, undS p k⟩ i = Q2 at *
  generalize (p.docs.set a Di).set b Dik = S3 at *
  generalize (p.docs.set b Dk).set a Dki = S4 at *
  generalize p.docs.set a Di = S1 at *
  generalize p.docs.set b Dk = S2 at *
  generalize undS p i = P1 at *
  generalize undS p k = P2 at *
  refine T.sregD 202 [0, 1, 3, 4, 5, 6, 7, 8, 9, 10, 11, 12, 13, 14, 15, 16, 34, 49, 82, 132, 134, 150, 155, 200] fun Kr hKr => ?_
  simp only [go_sem]
  (repeat (refine ⟨by (first | exact True.intro | omega | rfl | (simp; done) | (simp; omega)), ?_⟩)); try (refine hKr _ ?_; clear hKr Kr)
  refine T.condTD rfl rfl (fun hb => ?_) (fun hb => ?_) <;> try simp at hb
  refine T.skip ?_
  refine hK2 _ ?_
  refine T.seqK fun K3 hK3 => ?_
  refine T.sregD 202 [0, 1, 3, 4, 5, 6, 7, 8, 9, 10, 11, 12, 13, 14, 15, 16, 34, 49, 82, 132, 134, 150, 155, 200] fun Kr hKr => ?_
  simp only [go_sem, n1, n2, li, lk]
  (repeat (refine ⟨by (first | exact True.intro | omega | rfl | (simp; done) | (simp; omega)), ?_⟩)); try (refine hKr _ ?_; clear hKr Kr)
  refine T.condTD rfl rfl (fun hb => ?_) (fun hb => ?_) <;> try simp at hb
  refine T.skip ?_
  refine hK3 _ ?_
  refine T.sdraw2D 202 [0, 1, 3, 4, 5, 6, 7, 8, 9, 10, 11, 12, 13, 14, 15, 16, 34, 49, 82, 132, 134, 150, 155, 200] (.take 0 (.take 1 (.take 2 (.take 4 (.take 5 (.take 6 (.three 3 (.three 7 (.two 8 (.one 9 (.one 10 (.one 11 .done))) 9 (.one 8 (.one 10 (.one 11 .done)))) 8 (.two 7 (.one 9 (.one 10 (.one 11 .done))) 9 (.one 7 (.one 10 (.one 11 .done)))) 9 (.two 7 (.one 8 (.one 10 (.one 11 .done))) 8 (.one 7 (.one 10 (.one 11 .done))))) 8 (.two 3 (.two 7 (.one 9 (.one 10 (.one 11 .done))) 9 (.one 7 (.one 10 (.one 11 .done)))) 9 (.one 3 (.one 7 (.one 10 (.one 11 .done))))) 9 (.two 3 (.two 7 (.one 8 (.one 10 (.one 11 .done))) 8 (.one 7 (.one 10 (.one 11 .done)))) 8 (.one 3 (.one 7 (.one 10 (.one 11 .done)))))))))))) [9, 10] rfl (by decide +kernel) (by decide +kernel) ?x2 ?h2 (fun Kr hKr => ?all2) ?rest2
  case all2 =>
    simp only [go_sem]
    (repeat (any_goals (first | exact hKr _ (.inl rfl) | exact hKr _ (.inr (by (repeat (first | exact True.intro | refine And.intro (by first | rfl | (simp [look]; done)) ?_)))) | ((first | refine CallK.dataA (s6) ?_ rfl ?_ | refine CallK.tupA (s6) ?_ ?_ | refine CallK.ownA (s6) ?_ ?_); (focus ((first | exact ArgsLe.refl | (repeat (first | exact True.intro | refine And.intro (by first | exact AvLe.refl | exact AvLe.loose | exact AvLe.nil | exact AvLe.nilT | exact AvLe.slk | (refine AvLe.agg ?_; exact ArgsLe.refl) | (refine AvLe.agg ?_; (repeat (first | exact True.intro | refine And.intro (by first | exact AvLe.refl | exact AvLe.loose | exact AvLe.nil | exact AvLe.nilT | exact AvLe.slk) ?_)))) ?_))); done)); simp only [go_sem]) | ((first | refine CallK.dataA (s7) ?_ rfl ?_ | refine CallK.tupA (s7) ?_ ?_ | refine CallK.ownA (s7) ?_ ?_); (focus ((first | exact ArgsLe.refl | (repeat (first | exact True.intro | refine And.intro (by first | exact AvLe.refl | exact AvLe.loose | exact AvLe.nil | exact AvLe.nilT | exact AvLe.slk | (refine AvLe.agg ?_; exact ArgsLe.refl) | (refine AvLe.agg ?_; (repeat (first | exact True.intro | refine And.intro (by first | exact AvLe.refl | exact AvLe.loose | exact AvLe.nil | exact AvLe.nilT | exact AvLe.slk) ?_)))) ?_))); done)); simp only [go_sem]) | (refine And.intro ?_ ?_) | (first | exact True.intro | omega | rfl | (simp; done) | (simp; omega)))))
    all_goals (first | exact hKr _ (.inl rfl) | exact hKr _ (.inr (by (repeat (first | exact True.intro | refine And.intro (by first | rfl | (simp [look]; done)) ?_)))))
  case rest2 =>
  refine T.seqK fun K4 hK4 => ?_
  refine T.sregD 202 [0, 1, 3, 4, 5, 6, 7, 8, 9, 10, 11, 12, 13, 14, 15, 16, 34, 49, 82, 132, 134, 150, 155, 200] fun Kr hKr => ?_
  simp only [go_sem, n3, n4, l1, l2]
  (repeat (refine ⟨by (first | exact True.intro | omega | rfl | (simp; done) | (simp; omega)), ?_⟩)); try (refine hKr _ ?_; clear hKr Kr)
  refine T.condTD rfl rfl (fun hb => ?_) (fun hb => ?_) <;> try simp at hb
  refine T.skip ?_
  refine hK4 _ ?_
  refine T.seqK fun K5 hK5 => ?_
  refine T.sregD 202 [0, 1, 3, 4, 5, 6, 7, 8, 9, 10, 11, 12, 13, 14, 15, 16, 34, 49, 82, 132, 134, 150, 155, 200] fun Kr hKr => ?_
  simp only [go_sem]
  (repeat (refine ⟨by (first | exact True.intro | omega | rfl | (simp; done) | (simp; omega)), ?_⟩)); try (refine hKr _ ?_; clear hKr Kr)
  refine T.bloop (fun x : Nat => ⟨dense 202 [(5, .bool true), (6, .op 6 0 0), (11, .op 11 0 0), (12, .op 12 0 0), (13, .int .i64 x)], [(12, ⟨4, 40, true, [undA (⟨S4, Q2⟩, [], 0)]⟩), (11, ⟨4, 40, true, [undA (⟨S3, Q1⟩, [], 0)]⟩), (6, ⟨2, 27, true, [pastA p]⟩)]⟩) (fun x => x ≤ 2) (fun x => 2 - x) 0 (by simp) ?_ fun x hx => ?_
  · refine Le.fitS (by (repeat (first | exact DFit.nil | refine DFit.cons (by first | rfl | (simp [slook]; done) | (simp [slook]; omega)) ?_))) (by (repeat (first | exact True.intro | refine And.intro (by first | rfl | (simp [look]; done)) ?_)))
  refine T.seqK fun K6 hK6 => ?_
  refine T.sregD 202 [0, 1, 3, 4, 5, 6, 7, 8, 9, 10, 11, 12, 13, 14, 15, 16, 34, 49, 82, 132, 134, 150, 155, 200] fun Kr hKr => ?_
  simp only [go_sem]
  (repeat (refine ⟨by (first | exact True.intro | omega | rfl | (simp; done) | (simp; omega)), ?_⟩)); try (refine hKr _ ?_; clear hKr Kr)
  refine T.condFD rfl rfl (fun hb => ?_) (fun hb => ?_) <;> simp only [decide_eq_true_eq, decide_eq_false_iff_not] at hb
  · -- no: exit
    refine T.exit ?_
    simp only [if_true]
    refine hK5 _ ?_
    refine T.seqK fun K7 hK7 => ?_
    refine T.sregD 202 [0, 1, 3, 4, 5, 6, 7, 8, 9, 10, 11, 12, 13, 14, 15, 16, 34, 49, 82, 132, 134, 150, 155, 200] fun Kr hKr => ?_
    simp only [go_sem]
    (repeat (refine ⟨by (first | exact True.intro | omega | rfl | (simp; done) | (simp; omega)), ?_⟩)); try (refine hKr _ ?_; clear hKr Kr)
    refine T.bloop (fun j : Nat => ⟨dense 202 [(5, .bool true), (6, .op 6 0 0), (11, .op 11 0 0), (12, .op 12 0 0), (14, .int .i64 j)], [(12, ⟨4, 40, true, [undA (⟨S4, Q2⟩, [], 0)]⟩), (11, ⟨4, 40, true, [undA (⟨S3, Q1⟩, [], 0)]⟩), (6, ⟨2, 27, true, [pastA p]⟩)]⟩) (fun j => j ≤ p.st.length) (fun j => p.st.length - j) 0 (by simp) ?_ fun j hj => ?_
    · refine Le.fitS (by (repeat (first | exact DFit.nil | refine DFit.cons (by first | rfl | (simp [slook]; done) | (simp [slook]; omega)) ?_))) (by (repeat (first | exact True.intro | refine And.intro (by first | rfl | (simp [look]; done)) ?_)))
    refine T.seqK fun K8 hK8 => ?_
    refine T.sregD 202 [0, 1, 3, 4, 5, 6, 7, 8, 9, 10, 11, 12, 13, 14, 15, 16, 34, 49, 82, 132, 134, 150, 155, 200] fun Kr hKr => ?_
    simp only [go_sem]
    (repeat (refine ⟨by (first | exact True.intro | omega | rfl | (simp; done) | (simp; omega)), ?_⟩)); try (refine hKr _ ?_; clear hKr Kr)
    refine T.condFD rfl rfl (fun hd => ?_) (fun hd => ?_) <;> simp only [decide_eq_true_eq, decide_eq_false_iff_not] at hd
    · -- no: exit
      refine T.exit ?_
      simp only [if_true]
      refine hK7 _ ?_
      refine T.sregD 202 [0, 1, 3, 4, 5, 6, 7, 8, 9, 10, 11, 12, 13, 14, 15, 16, 34, 49, 82, 132, 134, 150, 155, 200] fun Kr hKr => ?_
      simp only [go_sem]
      (repeat (refine ⟨by (first | exact True.intro | omega | rfl | (simp; done) | (simp; omega)), ?_⟩)); try (refine hKr _ ?_; clear hKr Kr)
      refine T.ret (Fin.dataD rfl rfl rfl)
    have j1 : j < Q1.length := by omega
    have j2 : j < Q2.length := by omega
    have hs := hsim.get j
    refine T.skip ?_
    refine hK8 _ ?_
    refine T.seqK fun K9 hK9 => ?_
    refine T.block ?_
    refine T.sdraw2D 202 [0, 1, 3, 4, 5, 6, 7, 8, 9, 10, 11, 12, 13, 14, 15, 16, 34, 49, 82, 132, 134, 150, 155, 200] (.take 0 (.take 1 (.take 2 (.take 3 (.take 4 (.take 5 (.take 6 (.take 7 (.take 8 (.take 9 (.take 10 (.take 11 (.two 12 (.one 13 (.one 14 (.one 15 .done))) 13 (.one 12 (.one 14 (.one 15 .done)))))))))))))))) [11, 12] rfl (by decide +kernel) (by decide +kernel) ?x3 ?h3 (fun Kr hKr => ?all3) ?rest3
    case all3 =>
      simp only [go_sem, j1, j2]
      (repeat (any_goals (first | exact hKr _ (.inl rfl) | exact hKr _ (.inr (by (repeat (first | exact True.intro | refine And.intro (by first | rfl | (simp [look]; done)) ?_)))) | (refine And.intro ?_ ?_) | (first | exact True.intro | omega | rfl | (simp; done) | (simp; omega)))))
      all_goals (first | exact hKr _ (.inl rfl) | exact hKr _ (.inr (by (repeat (first | exact True.intro | refine And.intro (by first | rfl | (simp [look]; done)) ?_)))))
    case rest3 =>
    generalize Q1.getD j default = X at *
    generalize Q2.getD j default = Y at *
    obtain ⟨xa, xi, ⟨xk, xx, xn, xt, xs⟩, xu⟩ := X
    obtain ⟨ya, yi, ⟨yk, yx, yn, yt, ys⟩, yu⟩ := Y
    have q1 := hs.app
    have q2 := hs.id
    have q3 := hs.und
    have q4 := hs.e
    simp only at q1 q2 q3 q4
    subst q1 q2 q3
    cases xu
    · have q4 := q4 rfl
      simp only [Edit.mk.injEq] at q4
      obtain ⟨rfl, rfl, rfl, rfl, rfl⟩ := q4
      refine T.sregD 202 [0, 1, 3, 4, 5, 6, 7, 8, 9, 10, 11, 12, 13, 14, 15, 16, 34, 49, 82, 132, 134, 150, 155, 200] fun Kr hKr => ?_
      simp only [go_sem, decide_true, beq_self_eq_true]
      (repeat (refine ⟨by (first | exact True.intro | omega | rfl | (simp; done) | (simp; omega)), ?_⟩)); try (refine hKr _ ?_; clear hKr Kr)
      refine T.condTD rfl rfl (fun hb => ?_) (fun hb => ?_)
      · exfalso; simp at hb
      refine T.skip ?_
      refine hK9 _ ?_
      refine T.regD 202 [0, 1, 3, 4, 5, 6, 7, 8, 9, 10, 11, 12, 13, 14, 15, 16, 34, 49, 82, 132, 134, 150, 155, 200] fun Kr hKr => ?_
      simp only [go_sem]
      (repeat (refine ⟨by (first | exact True.intro | omega | rfl | (simp; done) | (simp; omega)), ?_⟩)); try (refine hKr _ ?_; clear hKr Kr)
      refine ⟨j + 1, ?_, ?_, Le.fitS (by (repeat (first | exact DFit.nil | refine DFit.cons (by first | rfl | (simp [slook]; done) | (simp [slook]; omega)) ?_))) ?_⟩
      · omega
      · omega
      · (repeat (first | exact True.intro | refine And.intro (by first | rfl | (simp [look]; done)) ?_))
    · refine T.sregD 202 [0, 1, 3, 4, 5, 6, 7, 8, 9, 10, 11, 12, 13, 14, 15, 16, 34, 49, 82, 132, 134, 150, 155, 200] fun Kr hKr => ?_
      simp only [go_sem, decide_true, beq_self_eq_true]
      (repeat (refine ⟨by (first | exact True.intro | omega | rfl | (simp; done) | (simp; omega)), ?_⟩)); try (refine hKr _ ?_; clear hKr Kr)
      refine T.condTD rfl rfl (fun hb => ?_) (fun hb => ?_)
      · exfalso; simp at hb
      refine T.skip ?_
      refine hK9 _ ?_
      refine T.regD 202 [0, 1, 3, 4, 5, 6, 7, 8, 9, 10, 11, 12, 13, 14, 15, 16, 34, 49, 82, 132, 134, 150, 155, 200] fun Kr hKr => ?_
      simp only [go_sem]
      (repeat (refine ⟨by (first | exact True.intro | omega | rfl | (simp; done) | (simp; omega)), ?_⟩)); try (refine hKr _ ?_; clear hKr Kr)
      refine ⟨j + 1, ?_, ?_, Le.fitS (by (repeat (first | exact DFit.nil | refine DFit.cons (by first | rfl | (simp [slook]; done) | (simp [slook]; omega)) ?_))) ?_⟩
      · omega
      · omega
      · (repeat (first | exact True.intro | refine And.intro (by first | rfl | (simp [look]; done)) ?_))
  have hx2 : x < 2 := by omega
  have x3 : x < S3.length := by omega
  have x4 : x < S4.length := by omega
  have hDx := hDD x hx2
  have hokx := hok x hx2
  have hl1 := hokx.len
  have hl2 := hokx.cnt
  have sS := Same_spec (S4.getD x default) (S4.getD x default) (by omega) (by omega) (by omega) (by omega)
  rw [decide_eq_true rfl] at sS
  refine T.skip ?_
  refine hK6 _ ?_
  refine T.seqK fun K10 hK10 => ?_
  refine T.block ?_
  refine T.sdrawD 202 [0, 1, 3, 4, 5, 6, 7, 8, 9, 10, 11, 12, 13, 14, 15, 16, 34, 49, 82, 132, 134, 150, 155, 200] (.take 0 (.take 1 (.take 2 (.take 3 (.take 4 (.take 5 (.take 6 (.take 7 (.take 8 (.take 9 (.take 10 (.take 11 (.one 12 (.take 13 .done)))))))))))))) [11, 12] rfl (by decide +kernel) (by decide +kernel) fun Kr hKr => ?_
  simp only [go_sem, x3, x4, hDx]
  (repeat (refine ⟨by (first | exact True.intro | omega | rfl | (simp; done) | (simp; omega)), ?_⟩)); try (refine hKr _ ?_; clear hKr Kr)
  refine CallK.data (fun _ => Spec.args (sS) (by (first | exact ArgsLe.refl | (repeat (first | exact True.intro | refine And.intro (by first | exact AvLe.refl | exact AvLe.loose | exact AvLe.nil | exact AvLe.nilT | exact AvLe.slk | (refine AvLe.agg ?_; exact ArgsLe.refl) | (refine AvLe.agg ?_; (repeat (first | exact True.intro | refine And.intro (by first | exact AvLe.refl | exact AvLe.loose | exact AvLe.nil | exact AvLe.nilT | exact AvLe.slk) ?_)))) ?_))))) rfl ?_
  simp only [go_sem]
  (repeat (refine ⟨by (first | exact True.intro | omega | rfl | (simp; done) | (simp; omega)), ?_⟩)); try (refine hKr _ ?_; clear hKr Kr)
  refine T.condTD rfl rfl (fun hb => ?_) (fun hb => ?_)
  · exfalso; simp at hb
  refine T.skip ?_
  refine hK10 _ ?_
  refine T.regD 202 [0, 1, 3, 4, 5, 6, 7, 8, 9, 10, 11, 12, 13, 14, 15, 16, 34, 49, 82, 132, 134, 150, 155, 200] fun Kr hKr => ?_
  simp only [go_sem]
  (repeat (refine ⟨by (first | exact True.intro | omega | rfl | (simp; done) | (simp; omega)), ?_⟩)); try (refine hKr _ ?_; clear hKr Kr)
  refine ⟨x + 1, ?_, ?_, Le.fitS (by (repeat (first | exact DFit.nil | refine DFit.cons (by first | rfl | (simp [slook]; done) | (simp [slook]; omega)) ?_))) ?_⟩
  · omega
  · omega
  · (repeat (first | exact True.intro | refine And.intro (by first | rfl | (simp [look]; done)) ?_))
end Go.Proofs

