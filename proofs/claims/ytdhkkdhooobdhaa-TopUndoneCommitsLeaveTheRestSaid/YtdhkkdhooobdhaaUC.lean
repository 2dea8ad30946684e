/- Undo, plainly: good pasts; undoing works. -/
import Derived.Test.YtdhkkdhooobdhaaUB
set_option linter.unusedVariables false
set_option linter.unusedSimpArgs false
namespace Go.Proofs
open Go Go.Ideal
set_option maxRecDepth 8000
set_option maxHeartbeats 4000000

/-! ### From indices to lists -/
def gateP (st : List Stp) (app : Int) (q : Nat) : Bool := decide ((st.getD q default).app = app) && !(st.getD q default).und
theorem gateP_no {st : List Stp} {app : Int} {q : Nat} : gateP st app q = false ↔ goneS app (st.getD q default) := by
  unfold gateP goneS
  cases (st.getD q default).und <;> simp
theorem lat_eq (st : List Stp) (i : Nat) (hi : i < st.length) : latL st i st.length = (List.range' (i + 1) (st.length - (i + 1))).filter (gateP st (st.getD i default).app) := by
  unfold latL
  have e : List.range st.length = List.range' 0 (i + 1) ++ List.range' (i + 1) (st.length - (i + 1)) := by
    rw [List.range_eq_range']
    have := List.range'_append_1 (s := 0) (m := i + 1) (n := st.length - (i + 1))
    rw [Nat.zero_add] at this
    rw [this]; congr 1; omega
  rw [e, List.filter_append]
  have e1 : (List.range' 0 (i + 1)).filter (latP st i) = [] := by
    rw [List.filter_eq_nil_iff]
    intro q hq
    have := List.mem_range'_1.1 hq
    simp [latP]; omega
  rw [e1, List.nil_append]
  refine List.filter_congr fun q hq => ?_
  have := List.mem_range'_1.1 hq
  simp only [latP, gateP]
  rw [decide_eq_true (by omega : i < q), Bool.true_and]
theorem dep_ch (st : List Stp) (app : Int) : ∀ (n k : Nat) (m : Mark), k + n = st.length → m.w = true → (depF st m ((List.range' k n).filter (gateP st app)) = [] ↔ ChW app m (st.drop k))
  | 0, k, m, h, _ => by
    have : st.drop k = [] := List.drop_of_length_le (by omega)
    rw [this]; simp [depF, ChW]
  | n + 1, k, m, h, hw => by
    have hk : k < st.length := by omega
    have hwm : whM m = m := by cases m; simp_all [whM]
    rw [List.range'_succ, drop_d hk]
    simp only [ChW]
    cases hg : gateP st app k with
    | false =>
      rw [if_pos (gateP_no.1 hg), List.filter_cons, hg]
      simp only [Bool.false_eq_true, if_false]
      exact dep_ch st app n (k + 1) m (by omega) hw
    | true =>
      rw [if_neg (by rw [← gateP_no, hg]; simp), List.filter_cons, hg, if_pos rfl]
      simp only [depF, hwm]
      cases hc : carM (st.getD k default).e m with
      | none => simp
      | some m' =>
        simp only
        cases hw' : m'.w with
        | false => simp [hw']
        | true =>
          simp only [if_true, List.nil_append]
          rw [dep_ch st app n (k + 1) m' (by omega) hw']
          constructor
          · intro h; exact ⟨m', rfl, hw', h⟩
          · rintro ⟨x, hx, _, h⟩; cases hx; exact h
theorem upd_rem (st : List Stp) (app : Int) : ∀ (n k : Nat) (m : Mark) (out : List Stp), k + n = st.length → out.length = st.length → out.drop k = st.drop k →
    updF st ((List.range' k n).filter (gateP st app)) m out = out.take k ++ remU app m (st.drop k)
  | 0, k, m, out, h, hl, hd => by
    have : st.drop k = [] := List.drop_of_length_le (by omega)
    rw [this]; simp only [List.range'_zero, List.filter_nil, updF, remU, List.append_nil]
    rw [List.take_of_length_le (by omega)]
  | n + 1, k, m, out, h, hl, hd => by
    have hk : k < st.length := by omega
    have hko : k < out.length := by omega
    have hx : out.getD k default = st.getD k default ∧ out.drop (k + 1) = st.drop (k + 1) := by
      rw [drop_d hk, drop_d hko] at hd
      exact List.cons.inj hd
    rw [List.range'_succ]
    cases hg : gateP st app k with
    | false =>
      rw [List.filter_cons, hg]
      simp only [Bool.false_eq_true, if_false]
      rw [upd_rem st app n (k + 1) m out (by omega) hl hx.2, take_succ_d hko, hx.1, drop_d hk]
      simp only [remU]
      rw [if_pos (gateP_no.1 hg)]
      simp
    | true =>
      rw [List.filter_cons, hg, if_pos rfl]
      simp only [updF]
      rw [upd_rem st app n (k + 1) _ _ (by omega) (by simp [hl]) (by rw [List.drop_set_of_lt (by omega)]; exact hx.2), drop_d hk]
      simp only [remU]
      rw [if_neg (by rw [← gateP_no, hg]; simp)]
      have e : (out.set k ⟨(out.getD k default).app, (out.getD k default).id, movU (st.getD k default).e m, (out.getD k default).und⟩).take (k + 1) = out.take k ++ [outS (st.getD k default) m] := by
        rw [take_succ_d (by simp; exact hko), List.take_set_of_le (by omega)]
        congr 2
        simp only [List.getD, List.getElem?_set_self hko, Option.getD_some]
        have := hx.1
        simp only [List.getD] at this
        rw [this]; rfl
      rw [e]; simp
/-- The steps behind an undoing. -/
theorem undS_eq (p : Past) (i : Nat) (hi : i < p.st.length) : undS p i = p.st.take i ++ ⟨(p.st.getD i default).app, (p.st.getD i default).id, (p.st.getD i default).e, true⟩ :: remU (p.st.getD i default).app (fstM (p.st.getD i default)) (p.st.drop (i + 1)) := by
  unfold undS
  rw [lat_eq _ _ hi, upd_rem p.st _ _ _ _ _ (by omega) (by simp [offS]) (by unfold offS; rw [List.drop_set_of_lt (by omega)])]
  have e : (offS p.st i).take (i + 1) = p.st.take i ++ [⟨(p.st.getD i default).app, (p.st.getD i default).id, (p.st.getD i default).e, true⟩] := by
    unfold offS
    rw [take_succ_d (by simp; exact hi), List.take_set_of_le (by omega)]
    congr 2
    simp [List.getD, hi]
  rw [e]; simp

/-! ### Good pasts -/
structure Good (p : Past) : Prop where
  dl : p.docs.length ≤ 8
  sl : p.st.length ≤ 90
  rep : ∀ a : Nat, a < p.docs.length → repF a p.st noDoc = (p.docs.getD a default, 0)
  com : Comm p.st
  dst : Dst p.st
  app : ∀ s ∈ p.st, 0 ≤ s.app ∧ s.app < p.docs.length
  txt : ∀ s ∈ p.st, s.e.s.length ≤ 1000
  idr : ∀ s ∈ p.st, -1 ≤ s.id
theorem repF_ok (app : Int) : ∀ (l : List Stp) (d Dn : Doc), OkD d → repF app l d = (Dn, 0) → OkD Dn
  | [], d, Dn, h, hr => by cases hr; exact h
  | s :: l, d, Dn, h, hr => by
    simp only [repF] at hr
    split at hr
    · exact repF_ok app l d Dn h hr
    · split at hr
      · rename_i h0; exact absurd (congrArg Prod.snd hr) h0
      · rename_i h0; exact repF_ok app l _ Dn (actF_ok h (by omega)) hr
theorem Good.okD {p : Past} (h : Good p) {a : Nat} (ha : a < p.docs.length) : OkD (p.docs.getD a default) := repF_ok _ _ _ _ noDoc_ok (h.rep a ha)
theorem Good.okP {p : Past} (h : Good p) : OkP p := by
  refine ⟨fun d hd => ?_, by have := h.dl; omega, by have := h.sl; omega⟩
  obtain ⟨a, ha⟩ := List.getElem?_of_mem hd
  obtain ⟨ha1, ha2⟩ := List.getElem?_eq_some_iff.1 ha
  have := h.okD ha1
  rw [show p.docs.getD a default = d by simp [List.getD, ha]] at this
  exact this
/-- Replaying up to some step. -/
theorem rep_split {app : Int} {A B : List Stp} {d Dn : Doc} (h : repF app (A ++ B) d = (Dn, 0)) : ∃ D, repF app A d = (D, 0) ∧ repF app B D = (Dn, 0) := by
  rw [repF_app] at h
  split at h
  · rename_i h0; exact absurd (congrArg Prod.snd h) h0
  · rename_i h0
    have h0 : (repF app A d).2 = 0 := by omega
    exact ⟨(repF app A d).1, Prod.ext rfl h0, h⟩
theorem rep_join {app : Int} {A B : List Stp} {d D : Doc} (h : repF app A d = (D, 0)) : repF app (A ++ B) d = repF app B D := by
  rw [repF_app, h]; simp
theorem rep_cons {app : Int} {s : Stp} {B : List Stp} {d Dn : Doc} (hg : ¬ goneS app s) (h : repF app (s :: B) d = (Dn, 0)) : (actF d s).2 = 0 ∧ repF app B (actF d s).1 = (Dn, 0) := by
  simp only [repF] at h
  rw [if_neg (show ¬ (s.app ≠ app ∨ s.und = true) from hg)] at h
  split at h
  · rename_i h0; exact absurd (congrArg Prod.snd h) h0
  · rename_i h0; exact ⟨by omega, h⟩
theorem rep_gone {app : Int} {s : Stp} {B : List Stp} {d : Doc} (hg : goneS app s) : repF app (s :: B) d = repF app B d := by
  simp only [repF]; rw [if_pos (show s.app ≠ app ∨ s.und = true from hg)]
/-- The ids of a document's marks are those of its commits; there are no more marks than steps. -/
theorem rep_ids (app : Int) : ∀ (l : List Stp) (d Dn : Doc), OkD d → Comm l → repF app l d = (Dn, 0) → (∀ x ∈ Dn.m, (∃ y ∈ d.m, y.id = x.id) ∨ ∃ s ∈ l, s.id ≥ 0 ∧ s.id = x.id) ∧ Dn.m.length ≤ d.m.length + l.length
  | [], d, Dn, _, _, hr => by cases hr; exact ⟨fun x hx => .inl ⟨x, hx, rfl⟩, by simp⟩
  | s :: l, d, Dn, h, hc, hr => by
    have hc' : Comm l := fun x hx => hc x (by simp [hx])
    by_cases g : goneS app s
    · rw [rep_gone g] at hr
      obtain ⟨r1, r2⟩ := rep_ids app l d Dn h hc' hr
      refine ⟨fun x hx => ?_, by simp only [List.length_cons]; omega⟩
      rcases r1 x hx with h1 | ⟨y, hy, h2⟩
      · exact .inl h1
      · exact .inr ⟨y, by simp [hy], h2⟩
    · obtain ⟨h0, hr⟩ := rep_cons g hr
      have E := act_eff h (hc s (by simp)) h0
      obtain ⟨r1, r2⟩ := rep_ids app l _ Dn E.ok hc' hr
      have := E.cnt
      refine ⟨fun x hx => ?_, by simp only [List.length_cons]; omega⟩
      rcases r1 x hx with ⟨y, hy, h2⟩ | ⟨y, hy, h2⟩
      · rcases E.inv y hy with ⟨u, hu, hcu⟩ | ⟨q1, rfl⟩
        · exact .inl ⟨u, hu, by rw [← h2]; exact ((carM_ok E.poss (h.mks u hu).2 hcu).1).symm⟩
        · exact .inr ⟨s, by simp, q1, h2⟩
      · exact .inr ⟨y, by simp [hy], h2⟩
/-- A commit, right after it, against the document before it. -/
theorem rel_first {D : Doc} {s : Stp} (hD : OkD D) (hid : s.id ≥ 0) (hk : s.e.k = 1) (h0 : (actF D s).2 = 0) : Rel (actF D s).1 D (fstM s) := by
  have E := act_eff hD (fun _ => hk) h0
  have P := (pss_iff _ _).1 E.poss
  obtain ⟨a1, a2⟩ := P.a
  obtain ⟨l1, l2, l3⟩ := P.i hk
  refine ⟨E.ok, hD, (E.put hid).1, rfl, ?_, ?_⟩
  · rw [E.txt]
    obtain ⟨sa, si, ⟨k, a, n, t, x⟩, su⟩ := s
    simp only at hk a1 a2 l1 ⊢
    subst hk
    obtain ⟨a, rfl⟩ : ∃ y : Nat, a = y := ⟨a.toNat, by omega⟩
    show D.s = cutN (chg D.s ⟨1, a, n, t, x⟩) ((a : Int)).toNat ((a : Int) + (x.length : Int)).toNat
    rw [chg_ins, Int.toNat_natCast, show ((a : Int) + (x.length : Int)).toNat = a + x.length by omega]
    unfold cutN
    apply List.ext_getElem?
    intro i
    rw [del_get _ _ _ _ (by simp; omega)]
    rw [ins_get _ _ _ _ (by omega), ins_get _ _ _ _ (by omega)]
    (repeat' split) <;> first | rfl | (exfalso; omega) | (congr 1; omega)
  · intro x hx hw hne
    rcases E.inv x hx with ⟨y, hy, hcy⟩ | ⟨_, rfl⟩
    · obtain ⟨yw, yid, η, C, xf, xt⟩ := cw_of P (hD.mks y hy).2 hcy hw
      obtain ⟨yf0, yf1, yf2⟩ := (hD.mks y hy).2
      have hY : y = ⟨y.id, y.f, y.t, true⟩ := by cases y; simp_all
      have e : Dsj s.e.a (s.e.a + s.e.s.length) x.f x.t ∧ wxM (fstM s) x = y := by
        rw [hY]
        unfold wxM fstM
        rw [xf, xt, yid]
        cases C with
        | insL _ h2 =>
          refine ⟨.inl (by omega), ?_⟩
          simp only [wx]
          congr 1 <;> ((repeat' split) <;> omega)
        | insR _ h2 =>
          refine ⟨.inr (by omega), ?_⟩
          simp only [wx]
          congr 1 <;> ((repeat' split) <;> omega)
        | _ => exfalso; omega
      exact ⟨e.1, by rw [e.2]; exact hy⟩
    · exact absurd rfl hne
/-- Undoing a commit that no later step has torn. -/
theorem undo_works {p : Past} (h : Good p) {i : Nat} (hi : i < p.st.length) (hid : (p.st.getD i default).id ≥ 0) (hu : (p.st.getD i default).und = false) {a : Nat} (ha : (p.st.getD i default).app = a)
    (hw : ChW a (fstM (p.st.getD i default)) (p.st.drop (i + 1))) :
    ∃ D', repF a (undS p i) noDoc = (D', 0) ∧ Rel (p.docs.getD a default) D' (endM a (fstM (p.st.getD i default)) (p.st.drop (i + 1))) ∧ (endM a (fstM (p.st.getD i default)) (p.st.drop (i + 1))).id = (p.st.getD i default).id ∧
      (∀ x ∈ D'.m, x.id ≠ (p.st.getD i default).id ∧ ∃ s ∈ p.st, s.id ≥ 0 ∧ s.id = x.id) := by
  have hmem : p.st.getD i default ∈ p.st := by simp [List.getD, hi]
  have hal : a < p.docs.length := by have := h.app _ hmem; omega
  have hr := h.rep a hal
  have hs : p.st = p.st.take i ++ p.st.getD i default :: p.st.drop (i + 1) := by rw [← drop_d hi]; simp
  have hcom := h.com
  have hdst := h.dst
  rw [hs] at hr hcom hdst
  obtain ⟨D0, r0, r1⟩ := rep_split hr
  have hg : ¬ goneS a (p.st.getD i default) := by rintro (h1 | h1); exact h1 ha; rw [hu] at h1; cases h1
  obtain ⟨z, r2⟩ := rep_cons hg r1
  have c0 : Comm (p.st.take i) := fun x hx => hcom x (by simp [hx])
  have c1 : Comm (p.st.drop (i + 1)) := fun x hx => hcom x (by simp [hx])
  have d0 := (List.pairwise_append.1 hdst).2.2
  have d1 : Dst (p.st.drop (i + 1)) := List.Pairwise.of_cons (List.pairwise_append.1 hdst).2.1
  have d2 : ∀ s ∈ p.st.drop (i + 1), (p.st.getD i default).id ≥ 0 → s.id ≠ (p.st.getD i default).id := fun s hs => List.rel_of_pairwise_cons (List.pairwise_append.1 hdst).2.1 hs
  have o0 := repF_ok _ _ _ _ noDoc_ok r0
  have R := rel_first o0 hid (hcom _ (by simp) hid) z
  obtain ⟨i0, i1⟩ := rep_ids a _ _ _ noDoc_ok c0 r0
  have hsl := h.sl
  have hl0 : (p.st.take i).length ≤ i := by simp; omega
  have hl1 : (p.st.drop (i + 1)).length = p.st.length - (i + 1) := by simp
  have hn0 : (noDoc).m.length = 0 := rfl
  obtain ⟨Dn', q1, q2, q3, q4⟩ := repF_rel a _ _ _ _ _ R c1 d1 hw r2 (fun s hs0 hs1 => by
    refine ⟨?_, d2 s hs0 hid⟩
    cases hh : hasId D0.m s.id with
    | false => rfl
    | true =>
      obtain ⟨y, hy, he⟩ : ∃ y ∈ D0.m, y.id = s.id := by simpa [hasId] using hh
      rcases i0 y hy with ⟨u, hu, _⟩ | ⟨u, hu, hu1, hu2⟩
      · cases hu
      · exact absurd (by rw [hu2, he]) (d0 u hu s (by simp [hs0]) hu1)) (by omega)
  refine ⟨Dn', ?_, q2, by rw [q3]; rfl, fun x hx => ?_⟩
  · rw [undS_eq p i hi, ha, rep_join r0, rep_gone (.inr rfl)]; exact q1
  · rcases q4 x hx with ⟨y, hy, he⟩ | ⟨y, hy, h1, he⟩
    · rcases i0 y hy with ⟨u, hu, _⟩ | ⟨u, hu, hu1, hu2⟩
      · cases hu
      · refine ⟨?_, u, List.mem_of_mem_take hu, hu1, by rw [hu2, he]⟩
        intro e
        exact d0 u hu (p.st.getD i default) (by simp) hu1 (by rw [← e, ← he, hu2])
    · refine ⟨?_, y, List.mem_of_mem_drop hy, h1, he⟩
      intro e
      exact d2 y hy hid (by rw [he, e])

/-! ### What the contracts ask for -/
theorem chn_of (st : List Stp) (a : Int) (hc : Comm st) (ht : ∀ s ∈ st, s.e.s.length ≤ 1000) : ∀ (n k : Nat) (m : Mark) (D Dn : Doc), k + n = st.length → OkD D → repF a (st.drop k) D = (Dn, 0) → 0 ≤ m.f ∧ m.f < m.t ∧ m.t ≤ D.s.length →
    Chn st m ((List.range' k n).filter (gateP st a))
  | 0, k, m, D, Dn, h, _, _, _ => trivial
  | n + 1, k, m, D, Dn, h, hD, hr, hm => by
    have hk : k < st.length := by omega
    have hmem : st.getD k default ∈ st := by simp [List.getD, hk]
    rw [drop_d hk] at hr
    rw [List.range'_succ]
    have hlen := hD.len
    cases hg : gateP st a k with
    | false =>
      rw [rep_gone (gateP_no.1 hg)] at hr
      rw [List.filter_cons, hg]
      simp only [Bool.false_eq_true, if_false]
      exact chn_of st a hc ht n (k + 1) m D Dn (by omega) hD hr hm
    | true =>
      obtain ⟨z, hr⟩ := rep_cons (by rw [← gateP_no, hg]; simp) hr
      have E := act_eff hD (hc _ hmem) z
      rw [List.filter_cons, hg, if_pos rfl]
      refine ⟨⟨⟨by omega, by omega⟩, by omega, by omega⟩, SmW_of hlen E.poss (by have := ht _ hmem; omega), ?_⟩
      cases hcm : carM (st.getD k default).e (whM m) with
      | none => trivial
      | some m' =>
        have := carM_ok (m := whM m) E.poss hm hcm
        exact chn_of st a hc ht n (k + 1) m' _ Dn (by omega) E.ok hr (by rw [E.txt]; exact this.2)
theorem chu_of (st : List Stp) : ∀ (L : List Nat) (m : Mark), Chn st m L → depF st m L = [] → m.w = true → Chu st m L
  | [], _, _, _, _ => trivial
  | j :: L, m, hc, hd, hw => by
    obtain ⟨h1, h2, h3⟩ := hc
    have hwm : whM m = m := by cases m; simp_all [whM]
    simp only [depF] at hd
    rw [hwm] at hd h3
    refine ⟨h1, h2, ?_⟩
    cases hcm : carM (st.getD j default).e m with
    | none => rw [hcm] at hd; simp at hd
    | some m' =>
      rw [hcm] at hd h3
      simp only at hd h3
      cases hw' : m'.w with
      | false => rw [hw'] at hd; simp at hd
      | true =>
        rw [hw'] at hd
        simp only [if_true, List.nil_append] at hd
        exact ⟨m', rfl, chu_of st L m' h3 hd hw'⟩
theorem isCom_inv {p : Past} {i : Int} (h : isCom p i = true) : 0 ≤ i ∧ i.toNat < p.st.length ∧ (p.st.getD i.toNat default).id ≥ 0 ∧ (p.st.getD i.toNat default).und = false ∧ 0 ≤ (p.st.getD i.toNat default).app ∧ (p.st.getD i.toNat default).app < p.docs.length := by
  unfold isCom at h
  split at h
  · cases h
  · simp only [Bool.and_eq_true, Bool.not_eq_true', decide_eq_true_eq] at h
    rename_i hn
    exact ⟨by omega, by omega, h.1, h.2.1, h.2.2.1, h.2.2.2⟩
theorem depU_inv {p : Past} {i : Int} : ((depU p i).2 = 0 ↔ isCom p i = true) ∧ ((depU p i).2 = 0 ∨ (depU p i).2 = 1) := by
  unfold depU
  cases isCom p i <;> simp
/-- The document right behind a commit. -/
theorem com_at {p : Past} (h : Good p) {i : Int} (hc : isCom p i = true) : ∃ D, OkD D ∧ (∃ Dn, repF (p.st.getD i.toNat default).app (p.st.drop (i.toNat + 1)) D = (Dn, 0)) ∧ 0 ≤ (fstM (p.st.getD i.toNat default)).f ∧ (fstM (p.st.getD i.toNat default)).f < (fstM (p.st.getD i.toNat default)).t ∧ (fstM (p.st.getD i.toNat default)).t ≤ D.s.length ∧ D.s.length ≤ 400 := by
  obtain ⟨h1, hi, hid, hu, ha, hal⟩ := isCom_inv hc
  generalize i.toNat = n at *
  obtain ⟨a, haa⟩ : ∃ a : Nat, (p.st.getD n default).app = a := ⟨(p.st.getD n default).app.toNat, by omega⟩
  rw [haa]
  have hmem : p.st.getD n default ∈ p.st := by simp [List.getD, hi]
  have hr := h.rep a (by omega)
  have hs : p.st = p.st.take n ++ p.st.getD n default :: p.st.drop (n + 1) := by rw [← drop_d hi]; simp
  rw [hs] at hr
  obtain ⟨D0, r0, r1⟩ := rep_split hr
  obtain ⟨z, r2⟩ := rep_cons (by rintro (h1 | h1); exact h1 haa; rw [hu] at h1; cases h1) r1
  have o0 := repF_ok _ _ _ _ noDoc_ok r0
  have E := act_eff o0 (h.com _ hmem) z
  obtain ⟨g0, g1, g2, g3⟩ := E.ok.mks _ (E.put hid).1
  exact ⟨_, E.ok, ⟨_, r2⟩, g1, g2, g3, E.ok.len⟩
theorem Good.dep {p : Past} (h : Good p) (i : Int) (hc : isCom p i = true) : Sm (p.st.getD i.toNat default).e.a ∧ Chn p.st (fstM (p.st.getD i.toNat default)) (latL p.st i.toNat p.st.length) := by
  obtain ⟨D, hD, ⟨Dn, hr⟩, h1, h2, h3, h4⟩ := com_at h hc
  obtain ⟨_, hi, _⟩ := isCom_inv hc
  refine ⟨⟨h1, ?_⟩, ?_⟩
  · have : (fstM (p.st.getD i.toNat default)).f = (p.st.getD i.toNat default).e.a := rfl
    omega
  · rw [lat_eq _ _ hi]
    exact chn_of p.st _ h.com h.txt _ _ _ D Dn (by omega) hD hr ⟨h1, h2, h3⟩
theorem Good.und {p : Past} (h : Good p) (i : Int) (h0 : (depU p i).2 = 0) (hn : (depU p i).1 = []) : Chu p.st (fstM (p.st.getD i.toNat default)) (latL p.st i.toNat p.st.length) := by
  have hc := depU_inv.1.1 h0
  obtain ⟨_, h2⟩ := h.dep i hc
  refine chu_of _ _ _ h2 ?_ rfl
  unfold depU at hn
  rw [if_pos hc] at hn
  exact hn
/-- It can be undone exactly if no later step tears it. -/
theorem dep_iff {p : Past} {i : Nat} (hc : isCom p i = true) : (depU p i).1 = [] ↔ ChW (p.st.getD i default).app (fstM (p.st.getD i default)) (p.st.drop (i + 1)) := by
  obtain ⟨_, hi, _⟩ := isCom_inv hc
  unfold depU
  rw [if_pos hc]
  simp only [Int.toNat_natCast] at hi ⊢
  rw [lat_eq _ _ hi]
  exact dep_ch p.st _ _ _ _ (by omega) rfl
theorem Good.Depends_spec {p : Past} (h : Good p) (i : Int) : Ideal.Spec Try.prog 15 [pastA p, .int .i64 i] (.tup [.sl false 1 (intsOf (ofN (depU p i).1)), .int .i64 (depU p i).2]) none :=
  Go.Proofs.Depends_spec p i h.okP (fun s hs => by have := h.txt s hs; omega) (h.dep i)
theorem Good.Undo_spec {p : Past} (h : Good p) (i : Int) : Ideal.Spec Try.prog 11 [pastA p, .int .i64 i] (.tup [pastA (undU p i).1, .sl false 1 (intsOf (ofN (undU p i).2.1)), .int .i64 (undU p i).2.2]) none :=
  Go.Proofs.Undo_spec p i h.okP (fun s hs => by have := h.txt s hs; omega) (h.dep i) (h.und i)
theorem Good.Do_spec {p : Past} (h : Good p) (s : Stp) (hl : s.e.s.length ≤ 100000) : Ideal.Spec Try.prog 9 [pastA p, stA s] (.tup [pastA (doU p s).1, .int .i64 (doU p s).2]) none := Go.Proofs.Do_spec_U p s h.okP hl
/-- What undoing answers. -/
theorem undU_eq {p : Past} (h : Good p) {i : Nat} (hc : isCom p i = true) (hw : (depU p i).1 = []) : ∃ (a : Nat) (D' : Doc), (p.st.getD i default).app = a ∧ a < p.docs.length ∧ undU p i = (⟨p.docs.set a D', undS p i⟩, [], 0) ∧
    repF a (undS p i) noDoc = (D', 0) ∧ Rel (p.docs.getD a default) D' (endM a (fstM (p.st.getD i default)) (p.st.drop (i + 1))) ∧ (endM a (fstM (p.st.getD i default)) (p.st.drop (i + 1))).id = (p.st.getD i default).id ∧
      (∀ x ∈ D'.m, x.id ≠ (p.st.getD i default).id ∧ ∃ s ∈ p.st, s.id ≥ 0 ∧ s.id = x.id) := by
  obtain ⟨_, hi, hid, hu, ha, hal⟩ := isCom_inv hc
  simp only [Int.toNat_natCast] at hi hid hu ha hal
  obtain ⟨a, haa⟩ : ∃ a : Nat, (p.st.getD i default).app = a := ⟨(p.st.getD i default).app.toNat, by omega⟩
  have hch := (dep_iff hc).1 hw
  rw [haa] at hch
  obtain ⟨D', r1, r2, r3, r4⟩ := undo_works h hi hid hu haa hch
  refine ⟨a, D', haa, by omega, ?_, r1, r2, r3, r4⟩
  unfold undU
  simp only [Int.toNat_natCast]
  rw [haa, Int.toNat_natCast, if_neg (by rw [depU_inv.1.2 hc]; simp), if_neg (by rw [hw]; simp), if_neg (by rw [r1]; simp), r1]
end Go.Proofs
