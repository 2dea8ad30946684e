/- Undo: contracts of the reference: what depends on a commit. -/
import Derived.Test.YtdhkkdhooobdhaaU7
import Derived.Test.YtdhkkdhooobdhaaUD
set_option linter.unusedVariables false
set_option linter.unusedSimpArgs false
namespace Go.Proofs
open Go Go.Ideal
set_option maxRecDepth 8000
set_option maxHeartbeats 4000000

/-! ### Chains -/
def gL (st : List Stp) (a : Int) (k : Nat) : List Nat := (List.range' k (st.length - k)).filter (gateP st a)
theorem gL_yes {st : List Stp} {a : Int} {k : Nat} (h : k < st.length) (hg : gateP st a k = true) : gL st a k = k :: gL st a (k + 1) := by
  unfold gL
  rw [show st.length - k = (st.length - (k + 1)) + 1 by omega, List.range'_succ, List.filter_cons, hg, if_pos rfl]
theorem gL_no {st : List Stp} {a : Int} {k : Nat} (h : k < st.length) (hg : gateP st a k = false) : gL st a k = gL st a (k + 1) := by
  unfold gL
  rw [show st.length - k = (st.length - (k + 1)) + 1 by omega, List.range'_succ, List.filter_cons, hg]
  simp
theorem gL_end {st : List Stp} {a : Int} {k : Nat} (h : st.length ≤ k) : gL st a k = [] := by
  unfold gL
  rw [show st.length - k = 0 by omega]; rfl
theorem lat_gL {st : List Stp} {i : Nat} (h : i < st.length) : latL st i st.length = gL st (st.getD i default).app (i + 1) := lat_eq st i h
/-- The mark is small and right along these steps, which are possible. -/
def ChX (st : List Stp) : Mark → List Nat → Prop
  | _, [] => True
  | m, j :: l => (SmM m ∧ m.f < m.t ∧ SmW (st.getD j default).e ∧ (1 ≤ (st.getD j default).e.k ∧ (st.getD j default).e.k ≤ 4) ∧ ((st.getD j default).e.k ≠ 1 → 0 ≤ (st.getD j default).e.n)) ∧
    match carM (st.getD j default).e (whM m) with
    | none => True
    | some m' => ChX st m' l
theorem chx_of (st : List Stp) (a : Int) (hc : Comm st) (ht : ∀ s ∈ st, s.e.s.length ≤ 1000) : ∀ (n k : Nat) (m : Mark) (D Dn : Doc), k + n = st.length → OkD D → repF a (st.drop k) D = (Dn, 0) → 0 ≤ m.f ∧ m.f < m.t ∧ m.t ≤ D.s.length →
    ChX st m (gL st a k)
  | 0, k, m, D, Dn, h, _, _, _ => by rw [gL_end (by omega)]; trivial
  | n + 1, k, m, D, Dn, h, hD, hr, hm => by
    have hk : k < st.length := by omega
    have hmem : st.getD k default ∈ st := by simp [List.getD, hk]
    rw [drop_d hk] at hr
    have hlen := hD.len
    cases hg : gateP st a k with
    | false =>
      rw [rep_gone (gateP_no.1 hg)] at hr
      rw [gL_no hk hg]
      exact chx_of st a hc ht n (k + 1) m D Dn (by omega) hD hr hm
    | true =>
      obtain ⟨z, hr⟩ := rep_cons (by rw [← gateP_no, hg]; simp) hr
      have E := act_eff hD (hc _ hmem) z
      have P := (pss_iff _ _).1 E.poss
      rw [gL_yes hk hg]
      refine ⟨⟨⟨⟨by omega, by omega⟩, by omega, by omega⟩, hm.2.1, SmW_of hlen E.poss (by have := ht _ hmem; omega), by have := P.k; omega, fun h1 => (P.p h1).1⟩, ?_⟩
      cases hcm : carM (st.getD k default).e (whM m) with
      | none => trivial
      | some m' =>
        have := carM_ok (m := whM m) E.poss hm hcm
        exact chx_of st a hc ht n (k + 1) m' _ Dn (by omega) E.ok hr (by rw [E.txt]; exact this.2)
theorem Good.chx {p : Past} (h : Good p) {i : Nat} (hc : isCom p i = true) : Sm (p.st.getD i default).e.a ∧ ChX p.st (fstM (p.st.getD i default)) (gL p.st (p.st.getD i default).app (i + 1)) := by
  obtain ⟨D, hD, ⟨Dn, hr⟩, h1, h2, h3, h4⟩ := com_at h hc
  obtain ⟨_, hi, _⟩ := isCom_inv hc
  simp only [Int.toNat_natCast] at hr h1 h2 h3 hi
  refine ⟨⟨h1, ?_⟩, ?_⟩
  · have : (fstM (p.st.getD i default)).f = (p.st.getD i default).e.a := rfl
    omega
  · exact chx_of p.st _ h.com h.txt (p.st.length - (i + 1)) _ _ D Dn (by omega) hD hr ⟨h1, h2, h3⟩
/-! ### Marks without a name -/
def zM (m : Mark) : Mark := ⟨0, m.f, m.t, m.w⟩
theorem carM_z (e : Edit) (m : Mark) : carM e (zM m) = (carM e m).map zM := by
  have ins : ∀ (a n : Int) (x : Mark), insM a n (zM x) = zM (insM a n x) := by
    intro a n x
    by_cases h1 : x.t ≤ a
    · simp [insM, zM, h1]
    · by_cases h2 : x.f ≥ a <;> simp [insM, zM, h1, h2]
  have dl : ∀ (a n : Int) (x : Mark), delM a n (zM x) = (delM a n x).map zM := by
    intro a n x; unfold delM
    show (if shutP x.t a n ≤ shutP x.f a n then none else some (delW a n (zM x))) = _
    split <;> rfl
  unfold carM
  split
  · rw [ins]; rfl
  · split
    · rw [dl]
    · split
      · unfold movM
        show (if x1 : m.f ≥ e.a ∧ m.t - e.a ≤ e.n then _ else _) = _
        split
        · rfl
        · rw [dl]
          cases delM e.a e.n m with
          | none => rfl
          | some y => simp only [Option.map_some, ins]
      · rfl
theorem carR_z {e : Edit} {m : Mark} (hk : 1 ≤ e.k ∧ e.k ≤ 4) (hn : e.k ≠ 1 → 0 ≤ e.n) (hm : m.f < m.t) : carR e (zM m) = (carM e m).map zM := by
  by_cases h1 : e.k = 1
  · rw [← carM_z]
    unfold carR carM
    rw [if_pos h1, if_pos h1]
  · rw [carR_eq (m := zM m) hk (hn h1) hm, carM_z]
theorem movU_z (e : Edit) (m : Mark) : movU e (zM m) = movU e m := by
  have hw : ∀ (x : Mark) (q : Int), woF (zM x) q = woF x q := fun x q => rfl
  have ht : tgtF e (zM m) = tgtF e m := by
    unfold tgtF
    rw [carM_z]
    show (if e.n > 0 ∧ m.f ≥ e.a ∧ m.t ≤ e.a + e.n then e.t else _) = _
    split
    · rfl
    · cases carM ⟨2, e.a, e.n, 0, []⟩ m with
      | none => rfl
      | some r => rfl
  unfold movU
  rw [ht]; rfl
theorem depF_wh (st : List Stp) (m : Mark) (L : List Nat) : depF st (whM m) L = depF st m L := by cases L <;> rfl
theorem chX_wh (st : List Stp) (m : Mark) (L : List Nat) (h : ChX st m L) : ChX st (whM m) L := by cases L <;> exact h
/-! ### What depends -/
theorem DependsR_spec {p : Past} (h : Good p) (i : Int) : Ideal.Spec Try.prog 62 [pastA p, .int .i64 i] (.tup [.sl false 1 (intsOf (ofN (depU p i).1)), .int .i64 (depU p i).2]) none := by
  have h1 := h.dl
  have h2 := h.sl
  have s1 := Commit_spec p i (by omega)
  rw [comR_eq h] at s1
  refine Spec.weakT (rs := [.sl (decide ((depU p i).2 ≠ 0)) 1 (intsOf (ofN (depU p i).1)), .int .i64 (depU p i).2]) ?_ rfl rfl ⟨AvLe.loose, AvLe.refl, trivial⟩
  refine Ideal.Spec.of_TD2 (n := 99) (fn := Try.f62) rfl rfl rfl rfl rfl rfl rfl fun w ok => ?_
  refine T.post [.tmp 4] ?_
  refine T.sregD 99 [0, 1, 2, 4, 5, 6, 7, 8, 9, 10, 11, 15, 53, 71, 84, 91] fun Kr hKr => ?_
  simp only [go_sem]
  (repeat (refine ⟨by (first | exact True.intro | omega | rfl | (simp; done) | (simp; omega)), ?_⟩)); try (refine hKr _ ?_; clear hKr Kr)
  refine T.seqK fun K73 hK73 => ?_
  refine T.sregD 99 [0, 1, 2, 4, 5, 6, 7, 8, 9, 10, 11, 15, 53, 71, 84, 91] fun Kr hKr => ?_
  simp only [go_sem]
  (repeat (refine ⟨by (first | exact True.intro | omega | rfl | (simp; done) | (simp; omega)), ?_⟩)); try (refine hKr _ ?_; clear hKr Kr)
  refine CallK.data (fun _ => Spec.args (s1) (by (first | exact ArgsLe.refl | (repeat (first | exact True.intro | refine And.intro (by first | exact AvLe.refl | exact AvLe.loose | exact AvLe.nil | exact AvLe.nilT | exact AvLe.slk | (refine AvLe.agg ?_; exact ArgsLe.refl) | (refine AvLe.agg ?_; (repeat (first | exact True.intro | refine And.intro (by first | exact AvLe.refl | exact AvLe.loose | exact AvLe.nil | exact AvLe.nilT | exact AvLe.slk) ?_)))) ?_))))) rfl ?_
  simp only [go_sem]
  (repeat (refine ⟨by (first | exact True.intro | omega | rfl | (simp; done) | (simp; omega)), ?_⟩)); try (refine hKr _ ?_; clear hKr Kr)
  refine T.condTD rfl rfl (fun hb => ?_) (fun hb => ?_) <;> try simp at hb
  · -- no commit
    have ee : depU p i = ([], 1) := by unfold depU; rw [if_neg (by rw [hb]; decide)]
    refine T.sregD 99 [0, 1, 2, 4, 5, 6, 7, 8, 9, 10, 11, 15, 53, 71, 84, 91] fun Kr hKr => ?_
    simp only [go_sem]
    (repeat (refine ⟨by (first | exact True.intro | omega | rfl | (simp; done) | (simp; omega)), ?_⟩)); try (refine hKr _ ?_; clear hKr Kr)
    refine T.ret ?_
    simp only [go_sem]
    rw [ee]
    exact ⟨AtD (by simp only [go_sem]) rfl rfl, AtD (by simp only [go_sem]) rfl rfl⟩
  obtain ⟨hi0, hi, hid, hu, ha, hal⟩ := isCom_inv hb
  obtain ⟨n, rfl⟩ : ∃ n : Nat, i = n := ⟨i.toNat, by omega⟩
  obtain ⟨⟨ha0, ha1⟩, hch⟩ := h.chx hb
  simp only [Int.toNat_natCast] at hi hid hu ha hal
  have ee : depU p n = (depF p.st (fstM (p.st.getD n default)) (gL p.st (p.st.getD n default).app (n + 1)), 0) := by
    unfold depU; rw [if_pos hb]; simp only [Int.toNat_natCast]; rw [lat_gL hi]
  have hmem : p.st.getD n default ∈ p.st := by simp [List.getD, hi]
  have htx := h.txt _ hmem
  have hz : zM (fstM (p.st.getD n default)) = ⟨0, (p.st.getD n default).e.a, (p.st.getD n default).e.a + (p.st.getD n default).e.s.length, true⟩ := rfl
  refine T.skip ?_
  refine hK73 _ ?_
  refine T.sdrawD 99 [0, 1, 2, 4, 5, 6, 7, 8, 9, 10, 11, 15, 53, 71, 84, 91] (.take 1 (.take 2 (.take 3 (.take 4 (.take 5 (.take 6 (.one 0 (.take 7 (.take 8 .done))))))))) [2] rfl (by decide +kernel) (by decide +kernel) fun Kr hKr => ?_
  simp only [go_sem, hi]
  (repeat (refine ⟨by (first | exact True.intro | omega | rfl | (simp; done) | (simp; omega)), ?_⟩)); try (refine hKr _ ?_; clear hKr Kr)
  refine T.sdrawD 99 [0, 1, 2, 4, 5, 6, 7, 8, 9, 10, 11, 15, 53, 71, 84, 91] (.take 0 (.take 1 (.take 2 (.take 3 (.take 4 (.take 5 (.take 6 (.take 7 (.take 8 (.take 9 (.take 10 (.take 11 (.take 12 (.take 13 (.take 14 (.take 15 (.take 16 (.take 17 (.take 18 (.take 19 (.take 20 (.take 21 (.take 22 (.take 23 (.one 24 (.one 25 .done)))))))))))))))))))))))))) [2] rfl (by decide +kernel) (by decide +kernel) fun Kr hKr => ?_
  simp only [go_sem, hi]
  (repeat (refine ⟨by (first | exact True.intro | omega | rfl | (simp; done) | (simp; omega)), ?_⟩)); try (refine hKr _ ?_; clear hKr Kr)
  have hmw : (fstM (p.st.getD n default)).w = true := rfl
  have hbx : (.agg [.int .i64 0, .int .i64 (p.st.getD n default).e.a, .int .i64 ((p.st.getD n default).e.a + (p.st.getD n default).e.s.length), .bool true] : AV) = mkA (zM (fstM (p.st.getD n default))) := rfl
  rw [hbx]
  generalize hap : (p.st.getD n default).app = a at *
  generalize fstM (p.st.getD n default) = m0 at *
  refine T.seqK fun K74 hK74 => ?_
  refine T.sregD 99 [0, 1, 2, 4, 5, 6, 7, 8, 9, 10, 11, 15, 53, 71, 84, 91] fun Kr hKr => ?_
  simp only [go_sem]
  (repeat (refine ⟨by (first | exact True.intro | omega | rfl | (simp; done) | (simp; omega)), ?_⟩)); try (refine hKr _ ?_; clear hKr Kr)
  refine T.bloop (fun x : Nat × Mark × List Nat => ⟨dense 99 [(2, .op 2 0 0), (6, .osl 16 0 x.2.2.length), (7, .int .i64 a), (8, .op 8 0 0), (9, .int .i64 x.1)], [(8, ⟨4, 65, true, [mkA (zM x.2.1)]⟩), (16, ⟨1, 3, false, intsOf (ofN x.2.2)⟩), (2, ⟨2, 33, true, [pastA p]⟩)]⟩)
    (fun x => x.1 ≤ p.st.length ∧ x.2.2 ++ depF p.st x.2.1 (gL p.st a x.1) = depF p.st m0 (gL p.st a (n + 1)) ∧ ChX p.st x.2.1 (gL p.st a x.1) ∧ x.2.2.length ≤ x.1 ∧ x.2.1.w = true) (fun x => p.st.length - x.1) (n + 1, m0, []) ⟨by simp only; omega, by simp, hch, by simp, hmw⟩ ?_ fun x hx => ?_
  · refine Le.fitS (by (repeat (first | exact DFit.nil | refine DFit.cons (by first | rfl | (simp [slook]; done) | (simp [slook]; omega)) ?_))) (by (repeat (first | exact True.intro | refine And.intro (by first | rfl | (simp [look]; done)) ?_)))
  obtain ⟨k, m, out⟩ := x
  obtain ⟨hk, hd, hcn, hol, hw⟩ := hx
  simp only at hk hd hcn hol hw ⊢
  refine T.seqK fun K75 hK75 => ?_
  refine T.sregD 99 [0, 1, 2, 4, 5, 6, 7, 8, 9, 10, 11, 15, 53, 71, 84, 91] fun Kr hKr => ?_
  simp only [go_sem]
  (repeat (refine ⟨by (first | exact True.intro | omega | rfl | (simp; done) | (simp; omega)), ?_⟩)); try (refine hKr _ ?_; clear hKr Kr)
  refine T.condFD rfl rfl (fun hb2 => ?_) (fun hb2 => ?_) <;> simp at hb2
  · -- no: exit
    refine T.exit ?_
    simp only [if_true]
    refine hK74 _ ?_
    rw [gL_end (by omega)] at hd
    have hd : out = depF p.st m0 (gL p.st a (n + 1)) := by rw [← hd]; simp [depF]
    have ht : (ofN out).take out.length = ofN out := List.take_of_length_le (by simp [ofN])
    refine T.sregD 99 [0, 1, 2, 4, 5, 6, 7, 8, 9, 10, 11, 15, 53, 71, 84, 91] fun Kr hKr => ?_
    simp only [go_sem]
    (repeat (refine ⟨by (first | exact True.intro | omega | rfl | (simp; done) | (simp; omega)), ?_⟩)); try (refine hKr _ ?_; clear hKr Kr)
    refine T.ret ?_
    simp only [go_sem, Nat.le_refl, ht]
    rw [ee, ← hd]
    exact ⟨AtD rfl rfl rfl, AtD rfl rfl rfl⟩
  have hkm : p.st.getD k default ∈ p.st := by simp [List.getD, hb2]
  refine T.skip ?_
  refine hK75 _ ?_
  refine T.seqK fun K76 hK76 => ?_
  refine T.block ?_
  refine T.seqK fun K77 hK77 => ?_
  refine T.sregD 99 [0, 1, 2, 4, 5, 6, 7, 8, 9, 10, 11, 15, 53, 71, 84, 91] fun Kr hKr => ?_
  simp only [go_sem, hb2, cond_or]
  (repeat (refine ⟨by (first | exact True.intro | omega | rfl | (simp; done) | (simp; omega)), ?_⟩)); try (refine hKr _ ?_; clear hKr Kr)
  refine T.condTD rfl rfl (fun hc2 => ?_) (fun hc2 => ?_) <;> simp only [Bool.or_eq_true, Bool.or_eq_false_iff, decide_eq_true_eq, decide_eq_false_iff_not, Bool.not_eq_true', Bool.not_eq_false'] at hc2
  · -- not of this document
    have hg : gateP p.st a k = false := gateP_no.2 hc2
    rw [gL_no hb2 hg] at hd hcn
    refine T.exit ?_
    simp only [if_true]
    refine hK76 _ ?_
    refine T.regD 99 [0, 1, 2, 4, 5, 6, 7, 8, 9, 10, 11, 15, 53, 71, 84, 91] fun Kr hKr => ?_
    simp only [go_sem]
    (repeat (refine ⟨by (first | exact True.intro | omega | rfl | (simp; done) | (simp; omega)), ?_⟩)); try (refine hKr _ ?_; clear hKr Kr)
    refine ⟨(k + 1, m, out), ?_, ?_, Le.fitS (by (repeat (first | exact DFit.nil | refine DFit.cons (by first | rfl | (simp [slook]; done) | (simp [slook]; omega)) ?_))) ?_⟩
    · exact ⟨by simp only; omega, hd, hcn, by simp only; omega, hw⟩
    · simp only; omega
    · (repeat (first | exact True.intro | refine And.intro (by first | rfl | (simp [look]; done)) ?_))
  have hg : gateP p.st a k = true := by
    cases hh : gateP p.st a k with
    | true => rfl
    | false => rcases gateP_no.1 hh with h3 | h3; exact absurd hc2.1 h3; rw [hc2.2] at h3; cases h3
  rw [gL_yes hb2 hg] at hd hcn
  obtain ⟨⟨c1, c2, c3, c4, c5⟩, c6⟩ := hcn
  have hwm : whM m = m := by cases m; simp only [whM] at *; rw [hw]
  have sC := CarryR_spec (p.st.getD k default).e (zM m) c1 c3
  rw [carR_z c4 c5 c2] at sC
  simp only [depF] at hd
  rw [hwm] at hd c6
  have hol2 : out.length ≤ 100000 := by omega
  have happ : intsOf (ofN (out ++ [k])) = intsOf (ofN out) ++ [.int .i64 k] := by simp [intsOf, ofN]
  have hlen1 : (out ++ [k]).length = out.length + 1 := by simp
  refine T.skip ?_
  refine hK77 _ ?_
  cases hcm : carM (p.st.getD k default).e m with
  | none =>
    rw [hcm] at sC hd
    simp only [Option.map_none] at sC
    have ht : (ofN (out ++ [k])).take (out.length + 1) = ofN (out ++ [k]) := List.take_of_length_le (by simp [ofN])
    refine T.sdraw2D 99 [0, 1, 2, 4, 5, 6, 7, 8, 9, 10, 11, 15, 53, 71, 84, 91] (.take 0 (.take 1 (.take 2 (.take 3 (.take 4 (.take 5 (.take 6 (.two 7 (.take 8 (.take 9 (.take 10 (.one 11 (.one 12 (.take 13 .done)))))) 11 (.one 7 (.take 8 (.take 9 (.take 10 (.one 12 (.take 13 .done)))))))))))))) [2, 8] rfl (by decide +kernel) (by decide +kernel) ?x1 ?h1 (fun Kr hKr => ?all1) ?rest1
    case all1 =>
      simp only [go_sem, hb2]
      (repeat (any_goals (first | exact hKr _ (.inl rfl) | exact hKr _ (.inr (by (repeat (first | exact True.intro | refine And.intro (by first | rfl | (simp [look]; done)) ?_)))) | ((first | refine CallK.dataA (sC) ?_ rfl ?_ | refine CallK.tupA (sC) ?_ ?_ | refine CallK.ownA (sC) ?_ ?_); (focus ((first | exact ArgsLe.refl | (repeat (first | exact True.intro | refine And.intro (by first | exact AvLe.refl | exact AvLe.loose | exact AvLe.nil | exact AvLe.nilT | exact AvLe.slk | (refine AvLe.agg ?_; exact ArgsLe.refl) | (refine AvLe.agg ?_; (repeat (first | exact True.intro | refine And.intro (by first | exact AvLe.refl | exact AvLe.loose | exact AvLe.nil | exact AvLe.nilT | exact AvLe.slk) ?_)))) ?_))); done)); simp only [go_sem, hb2]) | (refine And.intro ?_ ?_) | (first | exact True.intro | omega | rfl | (simp; done) | (simp; omega)))))
      all_goals (first | exact hKr _ (.inl rfl) | exact hKr _ (.inr (by (repeat (first | exact True.intro | refine And.intro (by first | rfl | (simp [look]; done)) ?_)))))
    case rest1 =>
    refine T.seqK fun K78 hK78 => ?_
    refine T.sregD 99 [0, 1, 2, 4, 5, 6, 7, 8, 9, 10, 11, 15, 53, 71, 84, 91] fun Kr hKr => ?_
    simp only [go_sem]
    (repeat (refine ⟨by (first | exact True.intro | omega | rfl | (simp; done) | (simp; omega)), ?_⟩)); try (refine hKr _ ?_; clear hKr Kr)
    refine T.condTD rfl rfl (fun hx => ?_) (fun hx => ?_) <;> try simp at hx
    refine T.sregD 99 [0, 1, 2, 4, 5, 6, 7, 8, 9, 10, 11, 15, 53, 71, 84, 91] fun Kr hKr => ?_
    simp only [go_sem]
    (repeat (refine ⟨by (first | exact True.intro | omega | rfl | (simp; done) | (simp; omega)), ?_⟩)); try (refine hKr _ ?_; clear hKr Kr)
    rw [← happ]
    refine T.ret ?_
    simp only [go_sem, Nat.le_refl, ht]
    rw [ee, ← hd]
    exact ⟨AtD rfl rfl rfl, AtD rfl rfl rfl⟩
  | some m' =>
    rw [hcm] at sC hd c6
    simp only [Option.map_some] at sC
    simp only at hd c6
    have hwz : whM m' = ⟨m'.id, m'.f, m'.t, true⟩ := rfl
    refine T.sdraw2D 99 [0, 1, 2, 4, 5, 6, 7, 8, 9, 10, 11, 15, 53, 71, 84, 91] (.take 0 (.take 1 (.take 2 (.take 3 (.take 4 (.take 5 (.take 6 (.two 7 (.take 8 (.take 9 (.take 10 (.one 11 (.one 12 (.take 13 .done)))))) 11 (.one 7 (.take 8 (.take 9 (.take 10 (.one 12 (.take 13 .done)))))))))))))) [2, 8] rfl (by decide +kernel) (by decide +kernel) ?x2 ?h2 (fun Kr hKr => ?all2) ?rest2
    case all2 =>
      simp only [go_sem, hb2]
      (repeat (any_goals (first | exact hKr _ (.inl rfl) | exact hKr _ (.inr (by (repeat (first | exact True.intro | refine And.intro (by first | rfl | (simp [look]; done)) ?_)))) | ((first | refine CallK.dataA (sC) ?_ rfl ?_ | refine CallK.tupA (sC) ?_ ?_ | refine CallK.ownA (sC) ?_ ?_); (focus ((first | exact ArgsLe.refl | (repeat (first | exact True.intro | refine And.intro (by first | exact AvLe.refl | exact AvLe.loose | exact AvLe.nil | exact AvLe.nilT | exact AvLe.slk | (refine AvLe.agg ?_; exact ArgsLe.refl) | (refine AvLe.agg ?_; (repeat (first | exact True.intro | refine And.intro (by first | exact AvLe.refl | exact AvLe.loose | exact AvLe.nil | exact AvLe.nilT | exact AvLe.slk) ?_)))) ?_))); done)); simp only [go_sem, hb2]) | (refine And.intro ?_ ?_) | (first | exact True.intro | omega | rfl | (simp; done) | (simp; omega)))))
      all_goals (first | exact hKr _ (.inl rfl) | exact hKr _ (.inr (by (repeat (first | exact True.intro | refine And.intro (by first | rfl | (simp [look]; done)) ?_)))))
    case rest2 =>
    refine T.seqK fun K78 hK78 => ?_
    refine T.sregD 99 [0, 1, 2, 4, 5, 6, 7, 8, 9, 10, 11, 15, 53, 71, 84, 91] fun Kr hKr => ?_
    simp only [go_sem]
    (repeat (refine ⟨by (first | exact True.intro | omega | rfl | (simp; done) | (simp; omega)), ?_⟩)); try (refine hKr _ ?_; clear hKr Kr)
    refine T.condTD rfl rfl (fun hx => ?_) (fun hx => ?_) <;> try simp at hx
    refine T.skip ?_
    refine hK78 _ ?_
    refine T.seqK fun K79 hK79 => ?_
    cases hw' : m'.w with
    | false =>
      rw [hw'] at hd
      simp only [Bool.false_eq_true, if_false] at hd
      have hw2 : (zM m').w = false := hw'
      refine T.sregD 99 [0, 1, 2, 4, 5, 6, 7, 8, 9, 10, 11, 15, 53, 71, 84, 91] fun Kr hKr => ?_
      simp only [go_sem, hw2]
      (repeat (refine ⟨by (first | exact True.intro | omega | rfl | (simp; done) | (simp; omega)), ?_⟩)); try (refine hKr _ ?_; clear hKr Kr)
      refine T.condTD rfl rfl (fun hx => ?_) (fun hx => ?_) <;> try simp at hx
      refine T.regD 99 [0, 1, 2, 4, 5, 6, 7, 8, 9, 10, 11, 15, 53, 71, 84, 91] fun Kr hKr => ?_
      simp only [go_sem]
      (repeat (refine ⟨by (first | exact True.intro | omega | rfl | (simp; done) | (simp; omega)), ?_⟩)); try (refine hKr _ ?_; clear hKr Kr)
      refine hK79 _ ?_
      rw [← happ]
      refine T.sregD 99 [0, 1, 2, 4, 5, 6, 7, 8, 9, 10, 11, 15, 53, 71, 84, 91] fun Kr hKr => ?_
      simp only [go_sem]
      (repeat (refine ⟨by (first | exact True.intro | omega | rfl | (simp; done) | (simp; omega)), ?_⟩)); try (refine hKr _ ?_; clear hKr Kr)
      refine T.regD 99 [0, 1, 2, 4, 5, 6, 7, 8, 9, 10, 11, 15, 53, 71, 84, 91] fun Kr hKr => ?_
      simp only [go_sem]
      (repeat (refine ⟨by (first | exact True.intro | omega | rfl | (simp; done) | (simp; omega)), ?_⟩)); try (refine hKr _ ?_; clear hKr Kr)
      refine hK76 _ ?_
      refine T.regD 99 [0, 1, 2, 4, 5, 6, 7, 8, 9, 10, 11, 15, 53, 71, 84, 91] fun Kr hKr => ?_
      simp only [go_sem]
      (repeat (refine ⟨by (first | exact True.intro | omega | rfl | (simp; done) | (simp; omega)), ?_⟩)); try (refine hKr _ ?_; clear hKr Kr)
      refine ⟨(k + 1, whM m', out ++ [k]), ?_, ?_, Le.fitS (by (repeat (first | exact DFit.nil | refine DFit.cons (by first | rfl | (simp [slook, hlen1]; done) | (simp [slook, hlen1]; omega)) ?_))) ?_⟩
      · exact ⟨by simp only; omega, by simp only; rw [depF_wh, List.append_assoc]; exact hd, chX_wh _ _ _ c6, by simp; omega, rfl⟩
      · simp only; omega
      · (repeat (first | exact True.intro | refine And.intro (by first | rfl | (simp [look]; done)) ?_))
    | true =>
      rw [hw'] at hd
      simp only [if_true, List.nil_append] at hd
      have hw2 : (zM m').w = true := hw'
      refine T.sregD 99 [0, 1, 2, 4, 5, 6, 7, 8, 9, 10, 11, 15, 53, 71, 84, 91] fun Kr hKr => ?_
      simp only [go_sem, hw2]
      (repeat (refine ⟨by (first | exact True.intro | omega | rfl | (simp; done) | (simp; omega)), ?_⟩)); try (refine hKr _ ?_; clear hKr Kr)
      refine T.condTD rfl rfl (fun hx => ?_) (fun hx => ?_) <;> try simp at hx
      refine T.skip ?_
      refine hK79 _ ?_
      refine T.sregD 99 [0, 1, 2, 4, 5, 6, 7, 8, 9, 10, 11, 15, 53, 71, 84, 91] fun Kr hKr => ?_
      simp only [go_sem]
      (repeat (refine ⟨by (first | exact True.intro | omega | rfl | (simp; done) | (simp; omega)), ?_⟩)); try (refine hKr _ ?_; clear hKr Kr)
      refine T.regD 99 [0, 1, 2, 4, 5, 6, 7, 8, 9, 10, 11, 15, 53, 71, 84, 91] fun Kr hKr => ?_
      simp only [go_sem]
      (repeat (refine ⟨by (first | exact True.intro | omega | rfl | (simp; done) | (simp; omega)), ?_⟩)); try (refine hKr _ ?_; clear hKr Kr)
      refine hK76 _ ?_
      refine T.regD 99 [0, 1, 2, 4, 5, 6, 7, 8, 9, 10, 11, 15, 53, 71, 84, 91] fun Kr hKr => ?_
      simp only [go_sem]
      (repeat (refine ⟨by (first | exact True.intro | omega | rfl | (simp; done) | (simp; omega)), ?_⟩)); try (refine hKr _ ?_; clear hKr Kr)
      refine ⟨(k + 1, whM m', out), ?_, ?_, Le.fitS (by (repeat (first | exact DFit.nil | refine DFit.cons (by first | rfl | (simp [slook]; done) | (simp [slook]; omega)) ?_))) ?_⟩
      · exact ⟨by simp only; omega, by simp only; rw [depF_wh]; exact hd, chX_wh _ _ _ c6, by simp only; omega, rfl⟩
      · simp only; omega
      · (repeat (first | exact True.intro | refine And.intro (by first | rfl | (simp [look]; done)) ?_))
end Go.Proofs
