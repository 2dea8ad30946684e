/- Undo: undoing a commit takes its text out; undoing the last step. -/
import Derived.Test.YtjbflniimfmnhaaV2
import Derived.Test.YtjbflniimfmnhaaD11
set_option linter.unusedVariables false
set_option linter.unusedSimpArgs false
namespace Go.Proofs
open Go Go.Ideal
set_option maxRecDepth 8000
set_option maxHeartbeats 4000000

/-- A commit that was chosen. -/
structure Cho (p : Past) (i a : Nat) : Prop where
  com : isCom p i = true
  lt : i < p.st.length
  id : (p.st.getD i default).id ≥ 0
  und : (p.st.getD i default).und = false
  app : (p.st.getD i default).app = a
  al : a < p.docs.length
theorem cho_of {p : Past} (h : Good p) {i : Nat} (hc : comR p i = true) : ∃ a, Cho p i a := by
  rw [comR_eq h] at hc
  obtain ⟨h0, hi, hid, hu, ha, hal⟩ := isCom_inv hc
  simp only [Int.toNat_natCast] at hi hid hu ha hal
  exact ⟨(p.st.getD i default).app.toNat, hc, hi, hid, hu, by omega, by omega⟩
/-- The mark of a commit that can be undone, with its text. -/
theorem mark_of {p : Past} (h : Good p) {i a : Nat} (c : Cho p i a) (hw : (depU p i).1 = []) : ∃ m ∈ (p.docs.getD a default).m, m.id = (p.st.getD i default).id ∧ m.w = true ∧
    sub (p.docs.getD a default).s m.f m.t = (p.st.getD i default).e.s ∧ ∃ D', undU p i = (⟨p.docs.set a D', undS p i⟩, [], 0) ∧ OkD D' ∧ D'.s = cutN (p.docs.getD a default).s m.f.toNat m.t.toNat ∧
      (∀ x ∈ D'.m, x.id ≠ (p.st.getD i default).id) ∧ repF a (undS p i) noDoc = (D', 0) ∧ Rel (p.docs.getD a default) D' m := by
  obtain ⟨a', D', h1, h2, h3, h4, h5, h6, h7⟩ := undU_eq h c.com hw
  have : a' = a := by have := c.app; omega
  subst this
  have hch := (dep_iff c.com).1 hw
  rw [h1] at hch
  -- the document right behind the commit
  have hmem : p.st.getD i default ∈ p.st := by have := c.lt; simp [List.getD, this]
  have hr := h.rep a' h2
  have hs : p.st = p.st.take i ++ p.st.getD i default :: p.st.drop (i + 1) := by rw [← drop_d c.lt]; simp
  rw [hs] at hr
  obtain ⟨D0, r0, r1⟩ := rep_split hr
  obtain ⟨z, r2⟩ := rep_cons (by rintro (h1' | h1'); exact h1' h1; rw [c.und] at h1'; cases h1') r1
  have o0 := repF_ok _ _ _ _ noDoc_ok r0
  have E := act_eff o0 (h.com _ hmem) z
  have hk := h.com _ hmem c.id
  obtain ⟨e1, e2, e3, e4⟩ := sub_end a' _ _ _ _ E.ok (E.put c.id).1 rfl (fun s hs => h.com s (List.mem_of_mem_drop hs)) hch r2
  refine ⟨_, h5.mem, h6, h5.w, ?_, D', h3, h5.ok', h5.txt, fun x hx => (h7 x hx).1, h4, h5⟩
  rw [e4, E.txt]
  have P := (pss_iff _ _).1 E.poss
  have hpa := P.a
  generalize hq : p.st.getD i default = q at *
  obtain ⟨app, id, ⟨k, x, n, t, s⟩, und⟩ := q
  simp only at hk hpa
  subst hk
  obtain ⟨y, rfl⟩ : ∃ y : Nat, x = y := ⟨x.toNat, by omega⟩
  simp only [fstM]
  rw [chg_ins]
  refine List.ext_getElem? fun j => ?_
  have e : ((y : Int) + (s.length : Int)) = ((y + s.length : Nat) : Int) := by omega
  rw [e, sub_get, ins_get _ _ _ _ (by omega)]
  by_cases hj : y + j < y + s.length
  · rw [if_pos hj, if_neg (by omega), if_pos (by omega)]
    congr 1; omega
  · rw [if_neg hj, List.getElem?_eq_none (by omega)]
theorem takes_law (l : List URaw) (n : UInt8) : Ideal.Spec Try.prog 3 [.sl false 7 (urawsOf l), .int .u8 n.toNat] (.bool true) none := by
  have s1 := Made_specU l
  have hM := made_ok l
  generalize madeU l = p at *
  have hg := hM.good
  have hsl := hM.len
  have hnn := n.toNat_lt
  have s2 := Chosen_specU p n (by omega)
  have s0 := sanityU_spec
  refine Ideal.Spec.of_TD (n := 121) (fn := Try.f3) rfl rfl rfl rfl rfl rfl rfl fun w ok => ?_
  refine T.sregD 121 [0, 1, 4, 5, 6, 7, 8, 9, 10, 11, 12, 13, 21, 39, 67] fun Kr hKr => ?_
  simp only [go_sem]
  (repeat (refine ⟨by (first | exact True.intro | omega | rfl | (simp; done) | (simp; omega)), ?_⟩)); try (refine hKr _ ?_; clear hKr Kr)
  refine T.sregD 121 [0, 1, 4, 5, 6, 7, 8, 9, 10, 11, 12, 13, 21, 39, 67] fun Kr hKr => ?_
  simp only [go_sem]
  (repeat (refine ⟨by (first | exact True.intro | omega | rfl | (simp; done) | (simp; omega)), ?_⟩)); try (refine hKr _ ?_; clear hKr Kr)
  refine CallK.data (fun _ => Spec.args (s0) (by (first | exact ArgsLe.refl | (repeat (first | exact True.intro | refine And.intro (by first | exact AvLe.refl | exact AvLe.loose | exact AvLe.nil | exact AvLe.nilT | exact AvLe.slk | (refine AvLe.agg ?_; exact ArgsLe.refl) | (refine AvLe.agg ?_; (repeat (first | exact True.intro | refine And.intro (by first | exact AvLe.refl | exact AvLe.loose | exact AvLe.nil | exact AvLe.nilT | exact AvLe.slk) ?_)))) ?_))))) rfl ?_
  simp only [go_sem]
  (repeat (refine ⟨by (first | exact True.intro | omega | rfl | (simp; done) | (simp; omega)), ?_⟩)); try (refine hKr _ ?_; clear hKr Kr)
  refine T.sregD 121 [0, 1, 4, 5, 6, 7, 8, 9, 10, 11, 12, 13, 21, 39, 67] fun Kr hKr => ?_
  simp only [go_sem]
  (repeat (refine ⟨by (first | exact True.intro | omega | rfl | (simp; done) | (simp; omega)), ?_⟩)); try (refine hKr _ ?_; clear hKr Kr)
  refine CallK.data (fun _ => Spec.args (s1) (by (first | exact ArgsLe.refl | (repeat (first | exact True.intro | refine And.intro (by first | exact AvLe.refl | exact AvLe.loose | exact AvLe.nil | exact AvLe.nilT | exact AvLe.slk | (refine AvLe.agg ?_; exact ArgsLe.refl) | (refine AvLe.agg ?_; (repeat (first | exact True.intro | refine And.intro (by first | exact AvLe.refl | exact AvLe.loose | exact AvLe.nil | exact AvLe.nilT | exact AvLe.slk) ?_)))) ?_))))) rfl ?_
  simp only [go_sem]
  (repeat (refine ⟨by (first | exact True.intro | omega | rfl | (simp; done) | (simp; omega)), ?_⟩)); try (refine hKr _ ?_; clear hKr Kr)
  refine T.sregD 121 [0, 1, 4, 5, 6, 7, 8, 9, 10, 11, 12, 13, 21, 39, 67] fun Kr hKr => ?_
  simp only [go_sem]
  (repeat (refine ⟨by (first | exact True.intro | omega | rfl | (simp; done) | (simp; omega)), ?_⟩)); try (refine hKr _ ?_; clear hKr Kr)
  refine CallK.data (fun _ => Spec.args (s2) (by (first | exact ArgsLe.refl | (repeat (first | exact True.intro | refine And.intro (by first | exact AvLe.refl | exact AvLe.loose | exact AvLe.nil | exact AvLe.nilT | exact AvLe.slk | (refine AvLe.agg ?_; exact ArgsLe.refl) | (refine AvLe.agg ?_; (repeat (first | exact True.intro | refine And.intro (by first | exact AvLe.refl | exact AvLe.loose | exact AvLe.nil | exact AvLe.nilT | exact AvLe.slk) ?_)))) ?_))))) rfl ?_
  simp only [go_sem]
  (repeat (refine ⟨by (first | exact True.intro | omega | rfl | (simp; done) | (simp; omega)), ?_⟩)); try (refine hKr _ ?_; clear hKr Kr)
  refine T.seqK fun K1 hK1 => ?_
  rcases choU_com p n with he | ⟨i, he, hc⟩
  · rw [he]
    refine T.sregD 121 [0, 1, 4, 5, 6, 7, 8, 9, 10, 11, 12, 13, 21, 39, 67] fun Kr hKr => ?_
    simp only [go_sem]
    (repeat (refine ⟨by (first | exact True.intro | omega | rfl | (simp; done) | (simp; omega)), ?_⟩)); try (refine hKr _ ?_; clear hKr Kr)
    refine T.condTD rfl rfl (fun hb => ?_) (fun hb => ?_) <;> try simp at hb
    refine T.sregD 121 [0, 1, 4, 5, 6, 7, 8, 9, 10, 11, 12, 13, 21, 39, 67] fun Kr hKr => ?_
    simp only [go_sem]
    (repeat (refine ⟨by (first | exact True.intro | omega | rfl | (simp; done) | (simp; omega)), ?_⟩)); try (refine hKr _ ?_; clear hKr Kr)
    refine T.ret (Fin.dataD rfl rfl rfl)
  rw [he]
  obtain ⟨a, c⟩ := cho_of hg hc
  have s3 := undone_spec hg i
  have hi := c.lt
  have ha := c.app
  have hal := c.al
  have hi0 : ((i : Int) < 0) = False := eq_false (by omega)
  refine T.sregD 121 [0, 1, 4, 5, 6, 7, 8, 9, 10, 11, 12, 13, 21, 39, 67] fun Kr hKr => ?_
  simp only [go_sem, hi0]
  (repeat (refine ⟨by (first | exact True.intro | omega | rfl | (simp; done) | (simp; omega)), ?_⟩)); try (refine hKr _ ?_; clear hKr Kr)
  refine T.condTD rfl rfl (fun hb => ?_) (fun hb => ?_) <;> try simp at hb
  refine T.skip ?_
  refine hK1 _ ?_
  refine T.sregD 121 [0, 1, 4, 5, 6, 7, 8, 9, 10, 11, 12, 13, 21, 39, 67] fun Kr hKr => ?_
  simp only [go_sem, hi]
  (repeat (refine ⟨by (first | exact True.intro | omega | rfl | (simp; done) | (simp; omega)), ?_⟩)); try (refine hKr _ ?_; clear hKr Kr)
  refine T.sregD 121 [0, 1, 4, 5, 6, 7, 8, 9, 10, 11, 12, 13, 21, 39, 67] fun Kr hKr => ?_
  simp only [go_sem, ha, hal]
  (repeat (refine ⟨by (first | exact True.intro | omega | rfl | (simp; done) | (simp; omega)), ?_⟩)); try (refine hKr _ ?_; clear hKr Kr)
  refine T.sregD 121 [0, 1, 4, 5, 6, 7, 8, 9, 10, 11, 12, 13, 21, 39, 67] fun Kr hKr => ?_
  simp only [go_sem]
  (repeat (refine ⟨by (first | exact True.intro | omega | rfl | (simp; done) | (simp; omega)), ?_⟩)); try (refine hKr _ ?_; clear hKr Kr)
  refine CallK.data (fun _ => Spec.args (s3) (by (first | exact ArgsLe.refl | (repeat (first | exact True.intro | refine And.intro (by first | exact AvLe.refl | exact AvLe.loose | exact AvLe.nil | exact AvLe.nilT | exact AvLe.slk | (refine AvLe.agg ?_; exact ArgsLe.refl) | (refine AvLe.agg ?_; (repeat (first | exact True.intro | refine And.intro (by first | exact AvLe.refl | exact AvLe.loose | exact AvLe.nil | exact AvLe.nilT | exact AvLe.slk) ?_)))) ?_))))) rfl ?_
  simp only [go_sem]
  (repeat (refine ⟨by (first | exact True.intro | omega | rfl | (simp; done) | (simp; omega)), ?_⟩)); try (refine hKr _ ?_; clear hKr Kr)
  refine T.seqK fun K2 hK2 => ?_
  by_cases hw : (depU p i).1 = []
  rotate_left
  · have ee : undU p i = (noPast, (depU p i).1, 320) := by unfold undU; rw [if_neg (by rw [depU_inv.1.2 c.com]; simp), if_pos hw]
    rw [ee]
    have hp0 : ((((depU p i).1).length : Int) > 0) = True := eq_true (by have := List.length_pos_iff.2 hw; omega)
    refine T.sregD 121 [0, 1, 4, 5, 6, 7, 8, 9, 10, 11, 12, 13, 21, 39, 67] fun Kr hKr => ?_
    simp only [go_sem]
    (repeat (refine ⟨by (first | exact True.intro | omega | rfl | (simp; done) | (simp; omega)), ?_⟩)); try (refine hKr _ ?_; clear hKr Kr)
    refine T.condTD rfl rfl (fun hb => ?_) (fun hb => ?_) <;> try simp at hb
    refine T.sregD 121 [0, 1, 4, 5, 6, 7, 8, 9, 10, 11, 12, 13, 21, 39, 67] fun Kr hKr => ?_
    simp only [go_sem, hp0]
    (repeat (refine ⟨by (first | exact True.intro | omega | rfl | (simp; done) | (simp; omega)), ?_⟩)); try (refine hKr _ ?_; clear hKr Kr)
    refine T.ret (Fin.dataD rfl rfl rfl)
  obtain ⟨m, hm, hmi, hmw, hmt, D', ee, hok, htx, hgo, _, _⟩ := mark_of hg c hw
  rw [ee]
  have hdd := hg.okD hal
  have hdl := hdd.len
  have hdc := hdd.cnt
  have hol := hok.len
  have hoc := hok.cnt
  obtain ⟨_, q1, q2, q3⟩ := hdd.mks m hm
  obtain ⟨f1, f2⟩ := findIdx_of_mem hdd.srt hm
  rw [hmi] at f1 f2
  have s4 := Find_spec (p.docs.getD a default) (p.st.getD i default).id (by omega)
  have s5 := Find_spec D' (p.st.getD i default).id (by omega)
  have s6 := ValidR_spec D' (by omega) (by omega)
  rw [validB_of hok] at s6
  have f3 : fndF D'.m (p.st.getD i default).id < 0 := by
    have : ¬ (0 ≤ fndF D'.m (p.st.getD i default).id) := by
      intro h2
      obtain ⟨x, hx, hxi⟩ := hasId_mem.1 (hasId_fnd.1 h2)
      exact hgo x hx hxi
    omega
  have hkl : (fndF (p.docs.getD a default).m (p.st.getD i default).id).toNat < (p.docs.getD a default).m.length := by
    have h2 := hasId_fnd.2 (hasId_mem.2 ⟨m, hm, hmi⟩)
    unfold fndF at h2 ⊢
    cases hf : (p.docs.getD a default).m.findIdx? (fun x => decide (x.id = (p.st.getD i default).id)) with
    | none => rw [hf] at h2; simp at h2
    | some i => obtain ⟨h1, _⟩ := findIdx_some hf; simpa using h1
  obtain ⟨k, hk⟩ : ∃ k : Nat, fndF (p.docs.getD a default).m (p.st.getD i default).id = k := ⟨_, (Int.toNat_of_nonneg f1).symm⟩
  rw [hk] at s4 hkl f2
  simp only [Int.toNat_natCast] at hkl f2
  have hset : (p.docs.set a D').getD a default = D' := by simp [List.getD, hal]
  have halS : a < (p.docs.set a D').length := by simpa using hal
  have hlen : (p.docs.set a D').length = p.docs.length := by simp
  have hk0 : ((k : Int) < 0) = False := eq_false (by omega)
  generalize (p.st.getD i default).id = id at *
  generalize hD : p.docs.getD a default = D at *
  refine T.sregD 121 [0, 1, 4, 5, 6, 7, 8, 9, 10, 11, 12, 13, 21, 39, 67] fun Kr hKr => ?_
  simp only [go_sem]
  (repeat (refine ⟨by (first | exact True.intro | omega | rfl | (simp; done) | (simp; omega)), ?_⟩)); try (refine hKr _ ?_; clear hKr Kr)
  refine T.condTD rfl rfl (fun hb => ?_) (fun hb => ?_) <;> try simp at hb
  refine T.skip ?_
  refine hK2 _ ?_
  refine T.sregD 121 [0, 1, 4, 5, 6, 7, 8, 9, 10, 11, 12, 13, 21, 39, 67] fun Kr hKr => ?_
  simp only [go_sem]
  (repeat (refine ⟨by (first | exact True.intro | omega | rfl | (simp; done) | (simp; omega)), ?_⟩)); try (refine hKr _ ?_; clear hKr Kr)
  refine CallK.data (fun _ => Spec.args (s4) (by (first | exact ArgsLe.refl | (repeat (first | exact True.intro | refine And.intro (by first | exact AvLe.refl | exact AvLe.loose | exact AvLe.nil | exact AvLe.nilT | exact AvLe.slk | (refine AvLe.agg ?_; exact ArgsLe.refl) | (refine AvLe.agg ?_; (repeat (first | exact True.intro | refine And.intro (by first | exact AvLe.refl | exact AvLe.loose | exact AvLe.nil | exact AvLe.nilT | exact AvLe.slk) ?_)))) ?_))))) rfl ?_
  simp only [go_sem]
  (repeat (refine ⟨by (first | exact True.intro | omega | rfl | (simp; done) | (simp; omega)), ?_⟩)); try (refine hKr _ ?_; clear hKr Kr)
  refine T.seqK fun K3 hK3 => ?_
  refine T.sregD 121 [0, 1, 4, 5, 6, 7, 8, 9, 10, 11, 12, 13, 21, 39, 67] fun Kr hKr => ?_
  simp only [go_sem, hk0, hlen]
  (repeat (refine ⟨by (first | exact True.intro | omega | rfl | (simp; done) | (simp; omega)), ?_⟩)); try (refine hKr _ ?_; clear hKr Kr)
  refine T.condTD rfl rfl (fun hb => ?_) (fun hb => ?_) <;> try simp at hb
  refine T.skip ?_
  refine hK3 _ ?_
  refine T.sregD 121 [0, 1, 4, 5, 6, 7, 8, 9, 10, 11, 12, 13, 21, 39, 67] fun Kr hKr => ?_
  simp only [go_sem, hkl, f2]
  (repeat (refine ⟨by (first | exact True.intro | omega | rfl | (simp; done) | (simp; omega)), ?_⟩)); try (refine hKr _ ?_; clear hKr Kr)
  refine T.sregD 121 [0, 1, 4, 5, 6, 7, 8, 9, 10, 11, 12, 13, 21, 39, 67] fun Kr hKr => ?_
  simp only [go_sem, ha, halS, hset]
  (repeat (refine ⟨by (first | exact True.intro | omega | rfl | (simp; done) | (simp; omega)), ?_⟩)); try (refine hKr _ ?_; clear hKr Kr)
  obtain ⟨fm, hfm⟩ : ∃ f : Nat, m.f = f := ⟨m.f.toNat, by omega⟩
  obtain ⟨tm, htm⟩ : ∃ t : Nat, m.t = t := ⟨m.t.toNat, by omega⟩
  have hmt' : (D.s.take tm).drop fm = (p.st.getD i default).e.s := by
    have := hmt
    rw [hfm, htm] at this
    simpa [sub] using this
  have htx' : D.s.take fm ++ D.s.drop tm = D'.s := by
    rw [htx, hfm, htm]; simp [cutN]
  have q1' : fm ≤ tm := by omega
  have q2' : tm ≤ D.s.length := by omega
  refine T.sdrawD 121 [0, 1, 4, 5, 6, 7, 8, 9, 10, 11, 12, 13, 21, 39, 67] (.take 0 (.take 1 (.take 2 (.take 3 (.take 4 (.take 5 (.take 6 (.take 7 (.take 8 (.take 9 (.take 10 (.take 11 (.take 12 (.take 13 (.take 14 (.take 15 (.take 16 (.take 17 (.take 18 (.take 19 (.take 20 (.take 21 (.take 22 (.take 23 (.take 24 (.take 25 (.take 26 (.take 27 (.take 28 (.one 29 (.take 30 (.take 31 (.take 32 (.take 33 (.take 34 (.one 35 (.take 36 (.take 37 (.take 38 (.take 39 (.take 40 (.take 41 .done)))))))))))))))))))))))))))))))))))))))))) [8, 9, 12, 13] rfl (by decide +kernel) (by decide +kernel) fun Kr hKr => ?_
  simp only [go_sem, hfm, htm, hmt', htx']
  (repeat (refine ⟨by (first | exact True.intro | omega | rfl | (simp; done) | (simp; omega)), ?_⟩)); try (refine hKr _ ?_; clear hKr Kr)
  refine CallK.data (fun _ => Spec.args (s6) (by (first | exact ArgsLe.refl | (repeat (first | exact True.intro | refine And.intro (by first | exact AvLe.refl | exact AvLe.loose | exact AvLe.nil | exact AvLe.nilT | exact AvLe.slk | (refine AvLe.agg ?_; exact ArgsLe.refl) | (refine AvLe.agg ?_; (repeat (first | exact True.intro | refine And.intro (by first | exact AvLe.refl | exact AvLe.loose | exact AvLe.nil | exact AvLe.nilT | exact AvLe.slk) ?_)))) ?_))))) rfl ?_
  simp only [go_sem, hfm, htm, hmt', htx']
  (repeat (refine ⟨by (first | exact True.intro | omega | rfl | (simp; done) | (simp; omega)), ?_⟩)); try (refine hKr _ ?_; clear hKr Kr)
  refine CallK.data (fun _ => Spec.args (s5) (by (first | exact ArgsLe.refl | (repeat (first | exact True.intro | refine And.intro (by first | exact AvLe.refl | exact AvLe.loose | exact AvLe.nil | exact AvLe.nilT | exact AvLe.slk | (refine AvLe.agg ?_; exact ArgsLe.refl) | (refine AvLe.agg ?_; (repeat (first | exact True.intro | refine And.intro (by first | exact AvLe.refl | exact AvLe.loose | exact AvLe.nil | exact AvLe.nilT | exact AvLe.slk) ?_)))) ?_))))) rfl ?_
  simp only [go_sem, f3, hfm, htm, hmt', htx']
  (repeat (refine ⟨by (first | exact True.intro | omega | rfl | (simp; done) | (simp; omega)), ?_⟩)); try (refine hKr _ ?_; clear hKr Kr)
  refine T.ret (Fin.dataD rfl rfl rfl)
end Go.Proofs
