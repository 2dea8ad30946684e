/- Undo: contracts of the reference: numbers, commits, replaying, what depends, edits without a mark. Written by mku7.py. -/
import Derived.Test.YtdhkkdhooobdhaaU6
import Derived.Test.YtdhkkdhooobdhaaUC
set_option linter.unusedVariables false
set_option linter.unusedSimpArgs false
namespace Go.Proofs
open Go Go.Ideal
set_option maxRecDepth 8000
set_option maxHeartbeats 4000000

theorem IntsU_spec (a b : List Int) (ha : a.length ≤ 100000) (hb : b.length ≤ 100000) : Ideal.Spec Try.prog 16 [.sl false 1 (intsOf a), .sl false 1 (intsOf b)] (.bool (decide (a = b))) none := by
  refine Ideal.Spec.of_TD (n := 26) (fn := Try.f16) rfl rfl rfl rfl rfl rfl rfl fun w ok => ?_
  refine T.sregD 26 [0, 1, 4, 5, 10, 14, 25] fun Kr hKr => ?_
  simp only [go_sem]
  (repeat (refine ⟨by (first | exact True.intro | omega | rfl | (simp; done) | (simp; omega)), ?_⟩)); try (refine hKr _ ?_; clear hKr Kr)
  refine T.seqK fun K1 hK1 => ?_
  refine T.sregD 26 [0, 1, 4, 5, 10, 14, 25] fun Kr hKr => ?_
  simp only [go_sem]
  (repeat (refine ⟨by (first | exact True.intro | omega | rfl | (simp; done) | (simp; omega)), ?_⟩)); try (refine hKr _ ?_; clear hKr Kr)
  refine T.condTD rfl rfl (fun hc => ?_) (fun hc => ?_) <;> simp at hc
  · have : ¬ a = b := by intro e; subst e; simp at hc
    refine T.sregD 26 [0, 1, 4, 5, 10, 14, 25] fun Kr hKr => ?_
    simp only [go_sem]
    (repeat (refine ⟨by (first | exact True.intro | omega | rfl | (simp; done) | (simp; omega)), ?_⟩)); try (refine hKr _ ?_; clear hKr Kr)
    refine T.ret (Fin.dataD (by simp [slook, this]) rfl rfl)
  have hle : a.length = b.length := by omega
  refine T.skip ?_
  refine hK1 _ ?_
  refine T.seqK fun K2 hK2 => ?_
  refine T.sregD 26 [0, 1, 4, 5, 10, 14, 25] fun Kr hKr => ?_
  simp only [go_sem]
  (repeat (refine ⟨by (first | exact True.intro | omega | rfl | (simp; done) | (simp; omega)), ?_⟩)); try (refine hKr _ ?_; clear hKr Kr)
  refine T.bloop (fun i : Nat => ⟨dense 26 [(0, .sl false 1 (intsOf a)), (1, .sl false 1 (intsOf b)), (5, .int .i64 i)], []⟩) (fun i => i ≤ a.length ∧ a.take i = b.take i) (fun i => a.length - i) 0 (by simp) ?_ fun i hi => ?_
  · refine Le.fitS (by (repeat (first | exact DFit.nil | refine DFit.cons (by first | rfl | (simp [slook]; done) | (simp [slook]; omega)) ?_))) (by (repeat (first | exact True.intro | refine And.intro (by first | rfl | (simp [look]; done)) ?_)))
  obtain ⟨hi, hn⟩ := hi
  refine T.seqK fun K3 hK3 => ?_
  refine T.sregD 26 [0, 1, 4, 5, 10, 14, 25] fun Kr hKr => ?_
  simp only [go_sem]
  (repeat (refine ⟨by (first | exact True.intro | omega | rfl | (simp; done) | (simp; omega)), ?_⟩)); try (refine hKr _ ?_; clear hKr Kr)
  refine T.condFD rfl rfl (fun hd => ?_) (fun hd => ?_) <;> simp at hd
  · -- no: exit
    refine T.exit ?_
    simp only [if_true]
    refine hK2 _ ?_
    refine T.sregD 26 [0, 1, 4, 5, 10, 14, 25] fun Kr hKr => ?_
    simp only [go_sem]
    (repeat (refine ⟨by (first | exact True.intro | omega | rfl | (simp; done) | (simp; omega)), ?_⟩)); try (refine hKr _ ?_; clear hKr Kr)
    have : i = a.length := by omega
    subst this
    rw [List.take_length, hle, List.take_length] at hn
    refine T.ret (Fin.dataD (by simp [slook, hn]) rfl rfl)
  refine T.skip ?_
  refine hK3 _ ?_
  refine T.seqK fun K4 hK4 => ?_
  refine T.block ?_
  have hd2 : i < b.length := by omega
  refine T.sdrawD 26 [0, 1, 4, 5, 10, 14, 25] (.take 0 (.take 1 (.take 2 (.take 3 (.take 4 (.take 5 (.take 6 (.take 7 (.take 8 .done))))))))) [] rfl (by decide +kernel) (by decide +kernel) fun Kr hKr => ?_
  simp only [go_sem, hd, hd2]
  (repeat (refine ⟨by (first | exact True.intro | omega | rfl | (simp; done) | (simp; omega)), ?_⟩)); try (refine hKr _ ?_; clear hKr Kr)
  refine T.condTD rfl rfl (fun hx => ?_) (fun hx => ?_) <;> simp [-List.getD_eq_getElem?_getD] at hx
  · -- yes
    refine T.sregD 26 [0, 1, 4, 5, 10, 14, 25] fun Kr hKr => ?_
    simp only [go_sem]
    (repeat (refine ⟨by (first | exact True.intro | omega | rfl | (simp; done) | (simp; omega)), ?_⟩)); try (refine hKr _ ?_; clear hKr Kr)
    have : ¬ a = b := fun e => by subst e; simp at hx
    refine T.ret (Fin.dataD (by simp [slook, this]) rfl rfl)
  refine T.skip ?_
  refine hK4 _ ?_
  refine T.regD 26 [0, 1, 4, 5, 10, 14, 25] fun Kr hKr => ?_
  simp only [go_sem]
  (repeat (refine ⟨by (first | exact True.intro | omega | rfl | (simp; done) | (simp; omega)), ?_⟩)); try (refine hKr _ ?_; clear hKr Kr)
  refine ⟨i + 1, ?_, ?_, Le.fitS (by (repeat (first | exact DFit.nil | refine DFit.cons (by first | rfl | (simp [slook]; done) | (simp [slook]; omega)) ?_))) ?_⟩
  · refine ⟨by omega, ?_⟩
    rw [take_succ_d hd, take_succ_d hd2, hn]
    have : a.getD i default = b.getD i default := by
      generalize a.getD i default = q at hx ⊢
      generalize b.getD i default = q' at hx ⊢
      exact hx
    rw [this]
  · omega
  · (repeat (first | exact True.intro | refine And.intro (by first | rfl | (simp [look]; done)) ?_))

/-! ### Commits, new pasts -/
def comR (p : Past) (i : Int) : Bool := if i < 0 ∨ i ≥ p.st.length then false else decide ((p.st.getD i.toNat default).id ≥ 0) && !(p.st.getD i.toNat default).und
theorem comR_eq {p : Past} (h : Good p) (i : Int) : comR p i = isCom p i := by
  unfold comR isCom
  split
  · rfl
  · rename_i hi
    have hmem : p.st.getD i.toNat default ∈ p.st := by simp [List.getD, show i.toNat < p.st.length by omega]
    obtain ⟨h1, h2⟩ := h.app _ hmem
    rw [decide_eq_true (by omega : (p.st.getD i.toNat default).app ≥ 0), decide_eq_true h2]; simp
theorem Commit_spec (p : Past) (i : Int) (hs : p.st.length ≤ 100000) : Ideal.Spec Try.prog 35 [pastA p, .int .i64 i] (.bool (comR p i)) none := by
  refine Ideal.Spec.of_TD (n := 32) (fn := Try.f35) rfl rfl rfl rfl rfl rfl rfl fun w ok => ?_
  refine T.sregD 32 [0, 1, 2, 4] fun Kr hKr => ?_
  simp only [go_sem]
  (repeat (refine ⟨by (first | exact True.intro | omega | rfl | (simp; done) | (simp; omega)), ?_⟩)); try (refine hKr _ ?_; clear hKr Kr)
  by_cases h0 : i < 0
  · have e : comR p i = false := by unfold comR; rw [if_pos (.inl h0)]
    have h0' : (i ≥ 0) = False := eq_false (by omega)
    refine T.sregD 32 [0, 1, 2, 4] fun Kr hKr => ?_
    simp only [go_sem, h0']
    (repeat (refine ⟨by (first | exact True.intro | omega | rfl | (simp; done) | (simp; omega)), ?_⟩)); try (refine hKr _ ?_; clear hKr Kr)
    refine T.ret (Fin.dataD (by rw [e]; rfl) rfl rfl)
  have h0' : (i ≥ 0) = True := eq_true (by omega)
  by_cases h1 : i < p.st.length
  · obtain ⟨n, rfl⟩ : ∃ n : Nat, i = n := ⟨i.toNat, by omega⟩
    have hn : n < p.st.length := by omega
    have h1' : ((n : Int) < (p.st.length : Int)) = True := eq_true h1
    have e : comR p n = (decide ((p.st.getD n default).id ≥ 0) && !(p.st.getD n default).und) := by
      unfold comR; rw [if_neg (by omega)]; rfl
    refine T.sregD 32 [0, 1, 2, 4] fun Kr hKr => ?_
    simp only [go_sem, h0', h1', hn]
    (repeat (refine ⟨by (first | exact True.intro | omega | rfl | (simp; done) | (simp; omega)), ?_⟩)); try (refine hKr _ ?_; clear hKr Kr)
    refine T.ret (Fin.dataD (by rw [e]; simp only [slook, cond_and]; rfl) rfl rfl)
  · have e : comR p i = false := by unfold comR; rw [if_pos (by omega)]
    have h1' : (i < (p.st.length : Int)) = False := eq_false h1
    refine T.sregD 32 [0, 1, 2, 4] fun Kr hKr => ?_
    simp only [go_sem, h0', h1']
    (repeat (refine ⟨by (first | exact True.intro | omega | rfl | (simp; done) | (simp; omega)), ?_⟩)); try (refine hKr _ ?_; clear hKr Kr)
    refine T.ret (Fin.dataD (by rw [e]; rfl) rfl rfl)
theorem NewR_spec (n : Nat) (hn : n ≤ 8) : Ideal.Spec Try.prog 33 [.int .i64 n] (pastA ⟨List.replicate n noDoc, []⟩) none := by
  refine Spec.weak (r := .agg [.sl false 2 (List.replicate n (.agg [.str [], .sl true 1 []])), .sl true 1 []]) ?_ rfl rfl (AvLe.agg ⟨new_le n, AvLe.nil, trivial⟩)
  refine Ideal.Spec.of_CD (n := 6) (fn := Try.f33) rfl rfl rfl rfl rfl rfl rfl fun w ok => ?_
  refine T.post [.tmp 2] ?_
  have hT : ∀ x : AV, (List.replicate n x).take n = List.replicate n x := fun x => List.take_of_length_le (by simp)
  have hL : ∀ x : AV, (List.replicate n x).length = n := fun x => by simp
  refine T.sregD 6 [0, 2] fun Kr hKr => ?_
  simp only [go_sem]
  (repeat (refine ⟨by (first | exact True.intro | omega | rfl | (simp; done) | (simp; omega)), ?_⟩)); try (refine hKr _ ?_; clear hKr Kr)
  refine T.sregD 6 [0, 2] fun Kr hKr => ?_
  simp only [go_sem, Int.toNat_natCast, hT, hL, Nat.le_refl]
  (repeat (refine ⟨by (first | exact True.intro | omega | rfl | (simp; done) | (simp; omega)), ?_⟩)); try (refine hKr _ ?_; clear hKr Kr)
  refine T.ret ?_
  simp only [go_sem, hT, hL, Nat.le_refl]
  exact ⟨ResCellD rfl rfl rfl rfl (by simp only [go_sem]) (by simp only [go_sem]) rfl, trivial⟩

/-! ### Replaying -/
def appF (d : Doc) (s : Stp) : Doc × Int := if s.id < 0 then doF d s.e else if s.e.k ≠ 1 then (noDoc, 290) else putF d s.id s.e.a s.e.s
theorem appF_eq {d : Doc} {s : Stp} (hk : s.id ≥ 0 → s.e.k = 1) : appF d s = actF d s := by
  unfold appF actF
  by_cases h : s.id < 0
  · rw [if_pos h, if_neg (by omega)]
  · rw [if_neg h, if_pos (by omega : s.id ≥ 0), if_neg (by have := hk (by omega); simpa using this)]
theorem appF_ok {d : Doc} {s : Stp} (hd : OkD d) (h0 : (appF d s).2 = 0) : OkD (appF d s).1 := by
  by_cases h : s.id ≥ 0 → s.e.k = 1
  · rw [appF_eq h] at h0 ⊢; exact actF_ok hd h0
  · have hh : ¬ s.id < 0 ∧ s.e.k ≠ 1 := ⟨fun e => h fun g => absurd g (by omega), fun e => h fun _ => e⟩
    unfold appF at h0
    rw [if_neg hh.1, if_pos hh.2] at h0
    cases h0
def repR (app : Int) : List Stp → Doc → Doc
  | [], d => d
  | s :: l, d => if s.app = app ∧ s.und = false then (if (appF d s).2 = 0 then repR app l (appF d s).1 else repR app l d) else repR app l d
theorem repR_eq (app : Int) : ∀ (l : List Stp) (d D : Doc), Comm l → repF app l d = (D, 0) → repR app l d = D
  | [], d, D, _, h => by cases h; rfl
  | s :: l, d, D, hc, h => by
    have hc' : Comm l := fun x hx => hc x (by simp [hx])
    simp only [repF, repR] at h ⊢
    by_cases g : s.app ≠ app ∨ s.und = true
    · rw [if_pos g] at h
      rw [if_neg (by rintro ⟨h1, h2⟩; rcases g with g | g; exact g h1; rw [h2] at g; cases g)]
      exact repR_eq app l d D hc' h
    · rw [if_neg g] at h
      rw [if_pos (by constructor; exact Decidable.byContradiction fun e => g (.inl e); cases hu : s.und; rfl; exact absurd (.inr hu) g), appF_eq (hc s (by simp))]
      split at h
      · rename_i h0; exact absurd (congrArg Prod.snd h) h0
      · rename_i h0
        rw [if_pos (by omega)]
        exact repR_eq app l _ D hc' h
/-! ### Edits without a mark -/
theorem rest_ok {e : Edit} {m r : Mark} (h : SmM m) (ha : Sm e.a) (hn : Sm e.n) (hf : m.f < m.t) (hr : carM ⟨2, e.a, e.n, 0, []⟩ m = some r) : SmM r ∧ r.f ≤ r.t := by
  simp only [carM] at hr
  rw [if_neg (by decide), if_pos trivial, delM] at hr
  split at hr
  · cases hr
  · cases hr
    have hm : (delW e.a e.n m).f = shutP m.f e.a e.n ∧ (delW e.a e.n m).t = shutP m.t e.a e.n := ⟨rfl, rfl⟩
    refine ⟨⟨shutP_sm h.1 ha hn, shutP_sm h.2 ha hn⟩, ?_⟩
    rw [hm.1, hm.2]
    have := hn.1
    unfold shutP
    (repeat' split) <;> omega
theorem movedR_spec (e : Edit) (m : Mark) (hm : SmM m) (hf : m.f < m.t) (he : SmW e) : Ideal.Spec Try.prog 63 [editA e, mkA m] (editA (movU e m)) none := by
  obtain ⟨⟨a1, a2⟩, hn, ht, hl⟩ := he
  have sP1 := place_spec e.a m hm ⟨a1, by omega⟩
  rw [plaF_wo (by omega)] at sP1
  have hwa := woF_sm hm (p := e.a) ⟨a1, by omega⟩
  refine Ideal.Spec.of_CD (n := 71) (fn := Try.f63) rfl rfl rfl rfl rfl rfl rfl fun w ok => ?_
  refine T.post [.tmp 4] ?_
  refine T.sregD 71 [0, 1, 2, 3, 4, 5, 6, 7, 11, 44] fun Kr hKr => ?_
  simp only [go_sem]
  (repeat (refine ⟨by (first | exact True.intro | omega | rfl | (simp; done) | (simp; omega)), ?_⟩)); try (refine hKr _ ?_; clear hKr Kr)
  refine T.seqK fun K107 hK107 => ?_
  refine T.sregD 71 [0, 1, 2, 3, 4, 5, 6, 7, 11, 44] fun Kr hKr => ?_
  simp only [go_sem]
  (repeat (refine ⟨by (first | exact True.intro | omega | rfl | (simp; done) | (simp; omega)), ?_⟩)); try (refine hKr _ ?_; clear hKr Kr)
  refine T.condTD rfl rfl (fun hb => ?_) (fun hb => ?_) <;> try simp at hb
  · have ee : movU e m = ⟨e.k, woF m e.a, e.n, e.t, e.s⟩ := by unfold movU; rw [if_pos hb]
    generalize woF m e.a = A0 at *
    refine T.sregD 71 [0, 1, 2, 3, 4, 5, 6, 7, 11, 44] fun Kr hKr => ?_
    simp only [go_sem]
    (repeat (refine ⟨by (first | exact True.intro | omega | rfl | (simp; done) | (simp; omega)), ?_⟩)); try (refine hKr _ ?_; clear hKr Kr)
    refine CallK.data (fun _ => Spec.args (sP1) (by (first | exact ArgsLe.refl | (repeat (first | exact True.intro | refine And.intro (by first | exact AvLe.refl | exact AvLe.loose | exact AvLe.nil | exact AvLe.nilT | exact AvLe.slk | (refine AvLe.agg ?_; exact ArgsLe.refl) | (refine AvLe.agg ?_; (repeat (first | exact True.intro | refine And.intro (by first | exact AvLe.refl | exact AvLe.loose | exact AvLe.nil | exact AvLe.nilT | exact AvLe.slk) ?_)))) ?_))))) rfl ?_
    simp only [go_sem]
    (repeat (refine ⟨by (first | exact True.intro | omega | rfl | (simp; done) | (simp; omega)), ?_⟩)); try (refine hKr _ ?_; clear hKr Kr)
    refine T.sregD 71 [0, 1, 2, 3, 4, 5, 6, 7, 11, 44] fun Kr hKr => ?_
    simp only [go_sem]
    (repeat (refine ⟨by (first | exact True.intro | omega | rfl | (simp; done) | (simp; omega)), ?_⟩)); try (refine hKr _ ?_; clear hKr Kr)
    refine T.ret ?_
    simp only [go_sem]
    exact ⟨ResCellD rfl rfl rfl rfl (by simp only [go_sem]) (by rw [ee]; simp only [go_sem]) rfl, trivial⟩
  obtain ⟨n1, n2⟩ := hn hb
  have sP2 := place_spec (e.a + e.n) m hm ⟨by omega, by omega⟩
  rw [plaF_wo (by omega)] at sP2
  have hwn := woF_sm hm (p := e.a + e.n) ⟨by omega, by omega⟩
  have e1 : movU e m = ⟨e.k, woF m e.a, woF m (e.a + e.n) - woF m e.a, if e.k = 3 then tgtF e m else e.t, e.s⟩ := by unfold movU; rw [if_neg hb]
  refine T.skip ?_
  refine hK107 _ ?_
  refine T.sdrawD 71 [0, 1, 2, 3, 4, 5, 6, 7, 11, 44] (.take 0 (.take 1 (.take 2 (.take 3 (.take 4 (.take 5 (.take 6 (.take 7 (.take 8 .done))))))))) [2] rfl (by decide +kernel) (by decide +kernel) fun Kr hKr => ?_
  simp only [go_sem]
  (repeat (refine ⟨by (first | exact True.intro | omega | rfl | (simp; done) | (simp; omega)), ?_⟩)); try (refine hKr _ ?_; clear hKr Kr)
  refine T.seqK fun K108 hK108 => ?_
  by_cases hk : e.k = 3
  · obtain ⟨t1, t2⟩ := ht hk
    have hk' : (e.k = 3) = True := eq_true hk
    rw [if_pos hk] at e1
    refine T.sregD 71 [0, 1, 2, 3, 4, 5, 6, 7, 11, 44] fun Kr hKr => ?_
    simp only [go_sem, hk', cond_or]
    (repeat (refine ⟨by (first | exact True.intro | omega | rfl | (simp; done) | (simp; omega)), ?_⟩)); try (refine hKr _ ?_; clear hKr Kr)
    refine T.condTD rfl rfl (fun hc => ?_) (fun hc => ?_) <;> simp only [Bool.or_eq_true, Bool.or_eq_false_iff, decide_eq_true_eq, decide_eq_false_iff_not] at hc
    · -- the rest
      have sC := CarryR_spec ⟨2, e.a, e.n, 0, []⟩ m hm ⟨⟨a1, a2⟩, fun _ => ⟨n1, n2⟩, fun h => by simp at h, by simp⟩
      rw [carR_eq (e := ⟨2, e.a, e.n, 0, []⟩) (by simp) n1 hf] at sC
      have et : tgtF e m = match carM ⟨2, e.a, e.n, 0, []⟩ m with | none => e.t | some r => woF r e.t := by unfold tgtF; rw [if_neg (by omega)]; cases carM ⟨2, e.a, e.n, 0, []⟩ m <;> rfl
      have hrest : ∀ r, carM ⟨2, e.a, e.n, 0, []⟩ m = some r → SmM r ∧ r.f ≤ r.t := fun r hr => rest_ok hm ⟨a1, a2⟩ ⟨n1, n2⟩ hf hr
      have sP3 : Ideal.Spec Try.prog 77 [.int .i64 e.t, mkA ((carM ⟨2, e.a, e.n, 0, []⟩ m).getD noMark)] (.int .i64 (tgtF e m)) none := by
        rw [et]
        cases hr : carM ⟨2, e.a, e.n, 0, []⟩ m with
        | none =>
          have := place_spec e.t noMark ⟨⟨by decide, by decide⟩, by decide, by decide⟩ ⟨t1, by omega⟩
          have e0 : plaF e.t noMark = e.t := by unfold plaF noMark; simp only; split <;> omega
          rw [e0] at this
          exact this
        | some r =>
          obtain ⟨r1, r2⟩ := hrest r hr
          have := place_spec e.t r r1 ⟨t1, by omega⟩
          rw [plaF_wo r2] at this
          exact this
      have ee := e1
      generalize carM ⟨2, e.a, e.n, 0, []⟩ m = r at *
      generalize tgtF e m = T0 at *
      generalize woF m e.a = A0 at *
      generalize woF m (e.a + e.n) = N0 at *
      refine T.sregD 71 [0, 1, 2, 3, 4, 5, 6, 7, 11, 44] fun Kr hKr => ?_
      simp only [go_sem]
      (repeat (refine ⟨by (first | exact True.intro | omega | rfl | (simp; done) | (simp; omega)), ?_⟩)); try (refine hKr _ ?_; clear hKr Kr)
      refine CallK.tup (fun _ => Spec.args (sC) (by (first | exact ArgsLe.refl | (repeat (first | exact True.intro | refine And.intro (by first | exact AvLe.refl | exact AvLe.loose | exact AvLe.nil | exact AvLe.nilT | exact AvLe.slk | (refine AvLe.agg ?_; exact ArgsLe.refl) | (refine AvLe.agg ?_; (repeat (first | exact True.intro | refine And.intro (by first | exact AvLe.refl | exact AvLe.loose | exact AvLe.nil | exact AvLe.nilT | exact AvLe.slk) ?_)))) ?_))))) ?_
      simp only [go_sem]
      (repeat (refine ⟨by (first | exact True.intro | omega | rfl | (simp; done) | (simp; omega)), ?_⟩)); try (refine hKr _ ?_; clear hKr Kr)
      refine T.regD 71 [0, 1, 2, 3, 4, 5, 6, 7, 11, 44] fun Kr hKr => ?_
      simp only [go_sem]
      (repeat (refine ⟨by (first | exact True.intro | omega | rfl | (simp; done) | (simp; omega)), ?_⟩)); try (refine hKr _ ?_; clear hKr Kr)
      refine CallK.data (fun _ => Spec.args (sP3) (by (first | exact ArgsLe.refl | (repeat (first | exact True.intro | refine And.intro (by first | exact AvLe.refl | exact AvLe.loose | exact AvLe.nil | exact AvLe.nilT | exact AvLe.slk | (refine AvLe.agg ?_; exact ArgsLe.refl) | (refine AvLe.agg ?_; (repeat (first | exact True.intro | refine And.intro (by first | exact AvLe.refl | exact AvLe.loose | exact AvLe.nil | exact AvLe.nilT | exact AvLe.slk) ?_)))) ?_))))) rfl ?_
      simp only [go_sem]
      (repeat (refine ⟨by (first | exact True.intro | omega | rfl | (simp; done) | (simp; omega)), ?_⟩)); try (refine hKr _ ?_; clear hKr Kr)
      refine hK108 _ ?_
      refine T.sregD 71 [0, 1, 2, 3, 4, 5, 6, 7, 11, 44] fun Kr hKr => ?_
      simp only [go_sem]
      (repeat (refine ⟨by (first | exact True.intro | omega | rfl | (simp; done) | (simp; omega)), ?_⟩)); try (refine hKr _ ?_; clear hKr Kr)
      refine CallK.data (fun _ => Spec.args (sP1) (by (first | exact ArgsLe.refl | (repeat (first | exact True.intro | refine And.intro (by first | exact AvLe.refl | exact AvLe.loose | exact AvLe.nil | exact AvLe.nilT | exact AvLe.slk | (refine AvLe.agg ?_; exact ArgsLe.refl) | (refine AvLe.agg ?_; (repeat (first | exact True.intro | refine And.intro (by first | exact AvLe.refl | exact AvLe.loose | exact AvLe.nil | exact AvLe.nilT | exact AvLe.slk) ?_)))) ?_))))) rfl ?_
      simp only [go_sem]
      (repeat (refine ⟨by (first | exact True.intro | omega | rfl | (simp; done) | (simp; omega)), ?_⟩)); try (refine hKr _ ?_; clear hKr Kr)
      refine T.sdraw2D 71 [0, 1, 2, 3, 4, 5, 6, 7, 11, 44] (.take 0 (.take 1 (.take 3 (.two 2 (.one 4 (.take 5 (.take 6 (.one 7 .done)))) 4 (.one 2 (.take 5 (.take 6 (.one 7 .done)))))))) [3] rfl (by decide +kernel) (by decide +kernel) ?x2 ?h2 (fun Kr hKr => ?all2) ?rest2
      case all2 =>
        simp only [go_sem]
        (repeat (any_goals (first | exact hKr _ (.inl rfl) | exact hKr _ (.inr (by (repeat (first | exact True.intro | refine And.intro (by first | rfl | (simp [look]; done)) ?_)))) | ((first | refine CallK.dataA (sP2) ?_ rfl ?_ | refine CallK.tupA (sP2) ?_ ?_ | refine CallK.ownA (sP2) ?_ ?_); (focus ((first | exact ArgsLe.refl | (repeat (first | exact True.intro | refine And.intro (by first | exact AvLe.refl | exact AvLe.loose | exact AvLe.nil | exact AvLe.nilT | exact AvLe.slk | (refine AvLe.agg ?_; exact ArgsLe.refl) | (refine AvLe.agg ?_; (repeat (first | exact True.intro | refine And.intro (by first | exact AvLe.refl | exact AvLe.loose | exact AvLe.nil | exact AvLe.nilT | exact AvLe.slk) ?_)))) ?_))); done)); simp only [go_sem]) | (refine And.intro ?_ ?_) | (first | exact True.intro | omega | rfl | (simp; done) | (simp; omega)))))
        all_goals (first | exact hKr _ (.inl rfl) | exact hKr _ (.inr (by (repeat (first | exact True.intro | refine And.intro (by first | rfl | (simp [look]; done)) ?_)))))
      case rest2 =>
      refine T.sregD 71 [0, 1, 2, 3, 4, 5, 6, 7, 11, 44] fun Kr hKr => ?_
      simp only [go_sem]
      (repeat (refine ⟨by (first | exact True.intro | omega | rfl | (simp; done) | (simp; omega)), ?_⟩)); try (refine hKr _ ?_; clear hKr Kr)
      refine T.ret ?_
      simp only [go_sem]
      exact ⟨ResCellD rfl rfl rfl rfl (by simp only [go_sem]) (by rw [ee]; simp only [go_sem]) rfl, trivial⟩
    have ee := e1
    rw [show tgtF e m = e.t by unfold tgtF; rw [if_pos (by omega)]] at ee
    generalize woF m e.a = A0 at *
    generalize woF m (e.a + e.n) = N0 at *
    refine T.skip ?_
    refine hK108 _ ?_
    refine T.sregD 71 [0, 1, 2, 3, 4, 5, 6, 7, 11, 44] fun Kr hKr => ?_
    simp only [go_sem]
    (repeat (refine ⟨by (first | exact True.intro | omega | rfl | (simp; done) | (simp; omega)), ?_⟩)); try (refine hKr _ ?_; clear hKr Kr)
    refine CallK.data (fun _ => Spec.args (sP1) (by (first | exact ArgsLe.refl | (repeat (first | exact True.intro | refine And.intro (by first | exact AvLe.refl | exact AvLe.loose | exact AvLe.nil | exact AvLe.nilT | exact AvLe.slk | (refine AvLe.agg ?_; exact ArgsLe.refl) | (refine AvLe.agg ?_; (repeat (first | exact True.intro | refine And.intro (by first | exact AvLe.refl | exact AvLe.loose | exact AvLe.nil | exact AvLe.nilT | exact AvLe.slk) ?_)))) ?_))))) rfl ?_
    simp only [go_sem]
    (repeat (refine ⟨by (first | exact True.intro | omega | rfl | (simp; done) | (simp; omega)), ?_⟩)); try (refine hKr _ ?_; clear hKr Kr)
    refine T.sdraw2D 71 [0, 1, 2, 3, 4, 5, 6, 7, 11, 44] (.take 0 (.take 1 (.take 3 (.two 2 (.one 4 (.take 5 (.take 6 (.one 7 .done)))) 4 (.one 2 (.take 5 (.take 6 (.one 7 .done)))))))) [3] rfl (by decide +kernel) (by decide +kernel) ?x3 ?h3 (fun Kr hKr => ?all3) ?rest3
    case all3 =>
      simp only [go_sem]
      (repeat (any_goals (first | exact hKr _ (.inl rfl) | exact hKr _ (.inr (by (repeat (first | exact True.intro | refine And.intro (by first | rfl | (simp [look]; done)) ?_)))) | ((first | refine CallK.dataA (sP2) ?_ rfl ?_ | refine CallK.tupA (sP2) ?_ ?_ | refine CallK.ownA (sP2) ?_ ?_); (focus ((first | exact ArgsLe.refl | (repeat (first | exact True.intro | refine And.intro (by first | exact AvLe.refl | exact AvLe.loose | exact AvLe.nil | exact AvLe.nilT | exact AvLe.slk | (refine AvLe.agg ?_; exact ArgsLe.refl) | (refine AvLe.agg ?_; (repeat (first | exact True.intro | refine And.intro (by first | exact AvLe.refl | exact AvLe.loose | exact AvLe.nil | exact AvLe.nilT | exact AvLe.slk) ?_)))) ?_))); done)); simp only [go_sem]) | (refine And.intro ?_ ?_) | (first | exact True.intro | omega | rfl | (simp; done) | (simp; omega)))))
      all_goals (first | exact hKr _ (.inl rfl) | exact hKr _ (.inr (by (repeat (first | exact True.intro | refine And.intro (by first | rfl | (simp [look]; done)) ?_)))))
    case rest3 =>
    refine T.sregD 71 [0, 1, 2, 3, 4, 5, 6, 7, 11, 44] fun Kr hKr => ?_
    simp only [go_sem]
    (repeat (refine ⟨by (first | exact True.intro | omega | rfl | (simp; done) | (simp; omega)), ?_⟩)); try (refine hKr _ ?_; clear hKr Kr)
    refine T.ret ?_
    simp only [go_sem]
    exact ⟨ResCellD rfl rfl rfl rfl (by simp only [go_sem]) (by rw [ee]; simp only [go_sem]) rfl, trivial⟩
  have hk' : (e.k = 3) = False := eq_false hk
  have ee := e1
  rw [if_neg hk] at ee
  generalize woF m e.a = A0 at *
  generalize woF m (e.a + e.n) = N0 at *
  refine T.sregD 71 [0, 1, 2, 3, 4, 5, 6, 7, 11, 44] fun Kr hKr => ?_
  simp only [go_sem, hk']
  (repeat (refine ⟨by (first | exact True.intro | omega | rfl | (simp; done) | (simp; omega)), ?_⟩)); try (refine hKr _ ?_; clear hKr Kr)
  refine T.condTD rfl rfl (fun hc => ?_) (fun hc => ?_) <;> try simp at hc
  refine T.skip ?_
  refine hK108 _ ?_
  refine T.sregD 71 [0, 1, 2, 3, 4, 5, 6, 7, 11, 44] fun Kr hKr => ?_
  simp only [go_sem]
  (repeat (refine ⟨by (first | exact True.intro | omega | rfl | (simp; done) | (simp; omega)), ?_⟩)); try (refine hKr _ ?_; clear hKr Kr)
  refine CallK.data (fun _ => Spec.args (sP1) (by (first | exact ArgsLe.refl | (repeat (first | exact True.intro | refine And.intro (by first | exact AvLe.refl | exact AvLe.loose | exact AvLe.nil | exact AvLe.nilT | exact AvLe.slk | (refine AvLe.agg ?_; exact ArgsLe.refl) | (refine AvLe.agg ?_; (repeat (first | exact True.intro | refine And.intro (by first | exact AvLe.refl | exact AvLe.loose | exact AvLe.nil | exact AvLe.nilT | exact AvLe.slk) ?_)))) ?_))))) rfl ?_
  simp only [go_sem]
  (repeat (refine ⟨by (first | exact True.intro | omega | rfl | (simp; done) | (simp; omega)), ?_⟩)); try (refine hKr _ ?_; clear hKr Kr)
  refine T.sdraw2D 71 [0, 1, 2, 3, 4, 5, 6, 7, 11, 44] (.take 0 (.take 1 (.take 3 (.two 2 (.one 4 (.take 5 (.take 6 (.one 7 .done)))) 4 (.one 2 (.take 5 (.take 6 (.one 7 .done)))))))) [3] rfl (by decide +kernel) (by decide +kernel) ?x4 ?h4 (fun Kr hKr => ?all4) ?rest4
  case all4 =>
    simp only [go_sem]
    (repeat (any_goals (first | exact hKr _ (.inl rfl) | exact hKr _ (.inr (by (repeat (first | exact True.intro | refine And.intro (by first | rfl | (simp [look]; done)) ?_)))) | ((first | refine CallK.dataA (sP2) ?_ rfl ?_ | refine CallK.tupA (sP2) ?_ ?_ | refine CallK.ownA (sP2) ?_ ?_); (focus ((first | exact ArgsLe.refl | (repeat (first | exact True.intro | refine And.intro (by first | exact AvLe.refl | exact AvLe.loose | exact AvLe.nil | exact AvLe.nilT | exact AvLe.slk | (refine AvLe.agg ?_; exact ArgsLe.refl) | (refine AvLe.agg ?_; (repeat (first | exact True.intro | refine And.intro (by first | exact AvLe.refl | exact AvLe.loose | exact AvLe.nil | exact AvLe.nilT | exact AvLe.slk) ?_)))) ?_))); done)); simp only [go_sem]) | (refine And.intro ?_ ?_) | (first | exact True.intro | omega | rfl | (simp; done) | (simp; omega)))))
    all_goals (first | exact hKr _ (.inl rfl) | exact hKr _ (.inr (by (repeat (first | exact True.intro | refine And.intro (by first | rfl | (simp [look]; done)) ?_)))))
  case rest4 =>
  refine T.sregD 71 [0, 1, 2, 3, 4, 5, 6, 7, 11, 44] fun Kr hKr => ?_
  simp only [go_sem]
  (repeat (refine ⟨by (first | exact True.intro | omega | rfl | (simp; done) | (simp; omega)), ?_⟩)); try (refine hKr _ ?_; clear hKr Kr)
  refine T.ret ?_
  simp only [go_sem]
  exact ⟨ResCellD rfl rfl rfl rfl (by simp only [go_sem]) (by rw [ee]; simp only [go_sem]) rfl, trivial⟩
end Go.Proofs
