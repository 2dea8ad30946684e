/- Undo: what depends on a commit; the plain part. -/
import Derived.Test.YtjbflniimfmnhaaV3
set_option linter.unusedVariables false
set_option linter.unusedSimpArgs false
namespace Go.Proofs
open Go Go.Ideal
set_option maxRecDepth 8000
set_option maxHeartbeats 4000000

theorem depF_sub (st : List Stp) : ∀ (L : List Nat) (m : Mark), (depF st m L).Sublist L
  | [], _ => List.Sublist.refl _
  | j :: L, m => by
    simp only [depF]
    cases carM (st.getD j default).e (whM m) with
    | none => exact List.Sublist.cons_cons _ (List.nil_sublist _)
    | some m' =>
      simp only
      split
      · exact List.Sublist.cons _ (depF_sub st L m')
      · exact List.Sublist.cons_cons _ (depF_sub st L m')
structure DepL (p : Past) (i a : Nat) (L : List Nat) : Prop where
  inc : L.Pairwise fun (x y : Nat) => x < y
  mem : ∀ x ∈ L, i < x ∧ x < p.st.length ∧ (p.st.getD x default).app = a ∧ (p.st.getD x default).und = false
theorem dep_l {p : Past} {i a : Nat} (c : Cho p i a) : DepL p i a (depU p i).1 := by
  have hi := c.lt
  have hsub : ((depU p i).1).Sublist (latL p.st i p.st.length) := by
    unfold depU
    rw [if_pos c.com]
    simp only [Int.toNat_natCast]
    exact depF_sub _ _ _
  have hp : (latL p.st i p.st.length).Pairwise fun (x y : Nat) => x < y := List.pairwise_lt_range.filter _
  refine ⟨hp.sublist hsub, fun x hx => ?_⟩
  have hm := hsub.subset hx
  obtain ⟨h1, h2⟩ := List.mem_filter.1 hm
  simp only [latP, Bool.and_eq_true, decide_eq_true_eq, Bool.not_eq_true'] at h2
  have h1 := List.mem_range.1 h1
  have := c.app
  exact ⟨h2.1, h1, by omega, h2.2.2⟩
theorem getD_lt {L : List Nat} (h : L.Pairwise fun (x y : Nat) => x < y) {i j : Nat} (hij : i < j) (hj : j < L.length) : L.getD i default < L.getD j default := by
  have := List.pairwise_iff_getElem.1 h i j (by omega) hj hij
  simpa [List.getD, hj, show i < L.length by omega] using this
theorem take_at {α : Type} [Inhabited α] {l : List α} {i j : Nat} (h : i < j) (hi : i < l.length) : l.take j = l.take i ++ l.getD i default :: (l.drop (i + 1)).take (j - (i + 1)) := by
  conv => lhs; rw [← List.take_append_drop i (l.take j)]
  rw [List.take_take, List.drop_take, drop_d hi, show j - i = (j - (i + 1)) + 1 by omega, List.take_succ_cons, Nat.min_eq_left (by omega)]
/-- The documents right before and right behind the first step that tears the mark. -/
theorem dep_first {p : Past} (h : Good p) {i a j : Nat} {L' : List Nat} (c : Cho p i a) (hd : (depU p i).1 = j :: L') :
    Torn (p.docs.getD a default) (p.st.getD i default).id ∧ ∃ D1 D2, repR a (p.st.take j) noDoc = D1 ∧ repR a (p.st.take (j + 1)) noDoc = D2 ∧ OkD D1 ∧ OkD D2 ∧ (∃ m1 ∈ D1.m, m1.id = (p.st.getD i default).id ∧ m1.w = true) ∧ Torn D2 (p.st.getD i default).id := by
  have hi := c.lt
  have hmem : p.st.getD i default ∈ p.st := by simp [List.getD, hi]
  have hr := h.rep a c.al
  have hs : p.st = p.st.take i ++ p.st.getD i default :: p.st.drop (i + 1) := by rw [← drop_d hi]; simp
  have hr0 := hr
  rw [hs] at hr
  obtain ⟨D0, r0, r1⟩ := rep_split hr
  have hng : ¬ goneS a (p.st.getD i default) := by rintro (h1 | h1); exact h1 c.app; rw [c.und] at h1; cases h1
  obtain ⟨z, r2⟩ := rep_cons hng r1
  have o0 := repF_ok _ _ _ _ noDoc_ok r0
  have E := act_eff o0 (h.com _ hmem) z
  have hdf : depF p.st (fstM (p.st.getD i default)) ((List.range' (i + 1) (p.st.length - (i + 1))).filter (gateP p.st a)) = j :: L' := by
    unfold depU at hd
    rw [if_pos c.com] at hd
    simp only [Int.toNat_natCast] at hd
    rw [lat_eq _ _ hi, c.app] at hd
    exact hd
  obtain ⟨q1, q2, q3, D1, q4, q5, m1, q6, q7, q8, q9⟩ := first_tear p.st a h.com (p.st.length - (i + 1)) (i + 1) _ _ _ (by omega) E.ok r2 (E.put c.id).1 rfl j L' hdf
  have hmi : m1.id = (p.st.getD i default).id := q7
  -- the step j
  have hjmem : p.st.getD j default ∈ p.st := by simp [List.getD, q2]
  have hdr : p.st.drop (i + 1) = (p.st.drop (i + 1)).take (j - (i + 1)) ++ p.st.getD j default :: p.st.drop (j + 1) := by
    conv => lhs; rw [← List.take_append_drop (j - (i + 1)) (p.st.drop (i + 1))]
    congr 1
    rw [List.drop_drop, ← drop_d q2]
    congr 1; omega
  have hngj : ¬ goneS a (p.st.getD j default) := by rw [← gateP_no, q3]; simp
  rw [hdr] at r2
  rw [rep_join q4] at r2
  obtain ⟨zj, r3⟩ := rep_cons hngj r2
  have E2 := act_eff q5 (h.com _ hjmem) zj
  have hdst := h.dst
  rw [hs] at hdst
  have d2 : ∀ s ∈ p.st.drop (i + 1), s.id ≠ (p.st.getD i default).id := fun s hs => List.rel_of_pairwise_cons (List.pairwise_append.1 hdst).2.1 hs c.id
  have hjd : p.st.getD j default ∈ p.st.drop (i + 1) := by rw [hdr]; simp
  have ht := torn_at q5 E2 q6 (by rw [hmi]; exact d2 _ hjd) q9
  rw [hmi] at ht
  have htf := torn_rep (p.st.drop (j + 1)) _ _ E2.ok (fun s hs => h.com s (List.mem_of_mem_drop hs)) (fun s hs => d2 s (by rw [hdr]; simp [hs])) r3 ht
  have hfst : repF a (p.st.take j) noDoc = (D1, 0) := by
    rw [take_at (by omega) hi, rep_join r0]
    simp only [repF]
    unfold goneS at hng
    rw [if_neg hng, if_neg (by omega)]
    exact q4
  refine ⟨htf, D1, (actF D1 (p.st.getD j default)).1, ?_, ?_, q5, E2.ok, ⟨m1, q6, hmi, q8⟩, ht⟩
  · exact repR_eq a _ _ _ (fun s hs => h.com s (List.mem_of_mem_take hs)) hfst
  · refine repR_eq a _ _ _ (fun s hs => h.com s (List.mem_of_mem_take hs)) ?_
    rw [take_succ_d q2, rep_join hfst]
    simp only [repF]
    unfold goneS at hngj
    rw [if_neg hngj, if_neg (by omega)]
theorem fnd_cases (l : List Mark) (id : Int) : (fndF l id < 0 ∧ ∀ m ∈ l, m.id ≠ id) ∨ ∃ k : Nat, fndF l id = k ∧ k < l.length ∧ (l.getD k default).id = id := by
  by_cases h : 0 ≤ fndF l id
  · right
    unfold fndF at h ⊢
    cases hf : l.findIdx? (fun m => decide (m.id = id)) with
    | none => rw [hf] at h; simp at h
    | some i => obtain ⟨h1, h2, _⟩ := findIdx_some hf; exact ⟨i, rfl, h1, h2⟩
  · left
    refine ⟨by omega, fun m hm he => h (hasId_fnd.2 (hasId_mem.2 ⟨m, hm, he⟩))⟩
theorem fnd_whole {d : Doc} (hs : Srt d.m) {m : Mark} (hm : m ∈ d.m) : ∃ k : Nat, fndF d.m m.id = k ∧ k < d.m.length ∧ d.m.getD k default = m := by
  obtain ⟨f1, f2⟩ := findIdx_of_mem hs hm
  rcases fnd_cases d.m m.id with ⟨h, _⟩ | ⟨k, h1, h2, h3⟩
  · omega
  · rw [h1] at f2; exact ⟨k, h1, h2, f2⟩
theorem fnd_torn {d : Doc} {id : Int} (ht : Torn d id) : ∃ z : Int, fndF d.m id = z ∧ ((z < 0) ∨ ∃ k : Nat, z = k ∧ k < d.m.length ∧ (d.m.getD k default).w = false) := by
  rcases fnd_cases d.m id with ⟨h, _⟩ | ⟨k, h1, h2, h3⟩
  · exact ⟨_, rfl, .inl h⟩
  · exact ⟨_, rfl, .inr ⟨k, h1, h2, ht _ (by simp [List.getD, h2]) h3⟩⟩
theorem ofN_getD {L : List Nat} {j : Nat} (h : j < L.length) : (ofN L).getD j default = ((L.getD j default : Nat) : Int) := by simp [ofN, List.getD, h]
theorem T.seqTo {c : Ctx} {N : St → Prop} {E : Nat → St → Prop} {R : St → Prop} {σ : St} {x y : Code} (σ2 : St) (h1 : T c x (fun σ' => Le c σ' σ2) E R σ) (h2 : T c y N E R σ2) : T c (.seq x y) N E R σ :=
  T.seq (h1.mono (fun _ hl => T.weaken hl h2) (fun _ _ h => h) (fun _ h => h))
theorem depends_law (l : List URaw) (n : UInt8) : Ideal.Spec Try.prog 5 [.sl false 7 (urawsOf l), .int .u8 n.toNat] (.bool true) none := by
  have s1 := Made_specU l
  have hM := made_ok l
  generalize madeU l = p at *
  have hg := hM.good
  have hsl := hM.len
  have hnn := n.toNat_lt
  have s2 := Chosen_specU p n (by omega)
  have s0 := sanityU_spec
  refine Ideal.Spec.of_TD (n := 215) (fn := Try.f5) rfl rfl rfl rfl rfl rfl rfl fun w ok => ?_
  refine T.sregD 215 [0, 1, 4, 5, 6, 7, 8, 9, 10, 11, 12, 13, 14, 15, 16, 17, 18, 19, 27, 101, 105, 152, 158] fun Kr hKr => ?_
  simp only [go_sem]
  (repeat (refine ⟨by (first | exact True.intro | omega | rfl | (simp; done) | (simp; omega)), ?_⟩)); try (refine hKr _ ?_; clear hKr Kr)
  refine T.sregD 215 [0, 1, 4, 5, 6, 7, 8, 9, 10, 11, 12, 13, 14, 15, 16, 17, 18, 19, 27, 101, 105, 152, 158] fun Kr hKr => ?_
  simp only [go_sem]
  (repeat (refine ⟨by (first | exact True.intro | omega | rfl | (simp; done) | (simp; omega)), ?_⟩)); try (refine hKr _ ?_; clear hKr Kr)
  refine CallK.data (fun _ => Spec.args (s0) (by (first | exact ArgsLe.refl | (repeat (first | exact True.intro | refine And.intro (by first | exact AvLe.refl | exact AvLe.loose | exact AvLe.nil | exact AvLe.nilT | exact AvLe.slk | (refine AvLe.agg ?_; exact ArgsLe.refl) | (refine AvLe.agg ?_; (repeat (first | exact True.intro | refine And.intro (by first | exact AvLe.refl | exact AvLe.loose | exact AvLe.nil | exact AvLe.nilT | exact AvLe.slk) ?_)))) ?_))))) rfl ?_
  simp only [go_sem]
  (repeat (refine ⟨by (first | exact True.intro | omega | rfl | (simp; done) | (simp; omega)), ?_⟩)); try (refine hKr _ ?_; clear hKr Kr)
  refine T.sregD 215 [0, 1, 4, 5, 6, 7, 8, 9, 10, 11, 12, 13, 14, 15, 16, 17, 18, 19, 27, 101, 105, 152, 158] fun Kr hKr => ?_
  simp only [go_sem]
  (repeat (refine ⟨by (first | exact True.intro | omega | rfl | (simp; done) | (simp; omega)), ?_⟩)); try (refine hKr _ ?_; clear hKr Kr)
  refine CallK.data (fun _ => Spec.args (s1) (by (first | exact ArgsLe.refl | (repeat (first | exact True.intro | refine And.intro (by first | exact AvLe.refl | exact AvLe.loose | exact AvLe.nil | exact AvLe.nilT | exact AvLe.slk | (refine AvLe.agg ?_; exact ArgsLe.refl) | (refine AvLe.agg ?_; (repeat (first | exact True.intro | refine And.intro (by first | exact AvLe.refl | exact AvLe.loose | exact AvLe.nil | exact AvLe.nilT | exact AvLe.slk) ?_)))) ?_))))) rfl ?_
  simp only [go_sem]
  (repeat (refine ⟨by (first | exact True.intro | omega | rfl | (simp; done) | (simp; omega)), ?_⟩)); try (refine hKr _ ?_; clear hKr Kr)
  refine T.sregD 215 [0, 1, 4, 5, 6, 7, 8, 9, 10, 11, 12, 13, 14, 15, 16, 17, 18, 19, 27, 101, 105, 152, 158] fun Kr hKr => ?_
  simp only [go_sem]
  (repeat (refine ⟨by (first | exact True.intro | omega | rfl | (simp; done) | (simp; omega)), ?_⟩)); try (refine hKr _ ?_; clear hKr Kr)
  refine CallK.data (fun _ => Spec.args (s2) (by (first | exact ArgsLe.refl | (repeat (first | exact True.intro | refine And.intro (by first | exact AvLe.refl | exact AvLe.loose | exact AvLe.nil | exact AvLe.nilT | exact AvLe.slk | (refine AvLe.agg ?_; exact ArgsLe.refl) | (refine AvLe.agg ?_; (repeat (first | exact True.intro | refine And.intro (by first | exact AvLe.refl | exact AvLe.loose | exact AvLe.nil | exact AvLe.nilT | exact AvLe.slk) ?_)))) ?_))))) rfl ?_
  simp only [go_sem]
  (repeat (refine ⟨by (first | exact True.intro | omega | rfl | (simp; done) | (simp; omega)), ?_⟩)); try (refine hKr _ ?_; clear hKr Kr)
  refine T.seqK fun K1 hK1 => ?_
  rcases choU_com p n with he | ⟨i, he, hc⟩
  · rw [he]
    refine T.sregD 215 [0, 1, 4, 5, 6, 7, 8, 9, 10, 11, 12, 13, 14, 15, 16, 17, 18, 19, 27, 101, 105, 152, 158] fun Kr hKr => ?_
    simp only [go_sem]
    (repeat (refine ⟨by (first | exact True.intro | omega | rfl | (simp; done) | (simp; omega)), ?_⟩)); try (refine hKr _ ?_; clear hKr Kr)
    refine T.condTD rfl rfl (fun hb => ?_) (fun hb => ?_) <;> try simp at hb
    refine T.sregD 215 [0, 1, 4, 5, 6, 7, 8, 9, 10, 11, 12, 13, 14, 15, 16, 17, 18, 19, 27, 101, 105, 152, 158] fun Kr hKr => ?_
    simp only [go_sem]
    (repeat (refine ⟨by (first | exact True.intro | omega | rfl | (simp; done) | (simp; omega)), ?_⟩)); try (refine hKr _ ?_; clear hKr Kr)
    refine T.ret (Fin.dataD rfl rfl rfl)
  rw [he]
  obtain ⟨a, c⟩ := cho_of hg hc
  have s3 := undone_spec hg i
  have s4 := hg.Depends_spec i
  have hi := c.lt
  have ha := c.app
  have hal := c.al
  have hd0 : (depU p i).2 = 0 := depU_inv.1.2 c.com
  rw [hd0] at s4
  have hdd := hg.okD hal
  have hdc := hdd.cnt
  have s5 := Find_spec (p.docs.getD a default) (p.st.getD i default).id (by omega)
  have hi0 : ((i : Int) < 0) = False := eq_false (by omega)
  refine T.sregD 215 [0, 1, 4, 5, 6, 7, 8, 9, 10, 11, 12, 13, 14, 15, 16, 17, 18, 19, 27, 101, 105, 152, 158] fun Kr hKr => ?_
  simp only [go_sem, hi0]
  (repeat (refine ⟨by (first | exact True.intro | omega | rfl | (simp; done) | (simp; omega)), ?_⟩)); try (refine hKr _ ?_; clear hKr Kr)
  refine T.condTD rfl rfl (fun hb => ?_) (fun hb => ?_) <;> try simp at hb
  refine T.skip ?_
  refine hK1 _ ?_
  refine T.sregD 215 [0, 1, 4, 5, 6, 7, 8, 9, 10, 11, 12, 13, 14, 15, 16, 17, 18, 19, 27, 101, 105, 152, 158] fun Kr hKr => ?_
  simp only [go_sem, hi, ha]
  (repeat (refine ⟨by (first | exact True.intro | omega | rfl | (simp; done) | (simp; omega)), ?_⟩)); try (refine hKr _ ?_; clear hKr Kr)
  refine T.sdrawD 215 [0, 1, 4, 5, 6, 7, 8, 9, 10, 11, 12, 13, 14, 15, 16, 17, 18, 19, 27, 101, 105, 152, 158] (.take 0 (.take 1 (.take 2 (.take 3 (.take 4 (.take 5 (.take 6 (.take 7 (.take 8 (.take 9 (.take 10 (.one 11 (.take 12 .done))))))))))))) [6] rfl (by decide +kernel) (by decide +kernel) fun Kr hKr => ?_
  simp only [go_sem, hi, hal]
  (repeat (refine ⟨by (first | exact True.intro | omega | rfl | (simp; done) | (simp; omega)), ?_⟩)); try (refine hKr _ ?_; clear hKr Kr)
  refine CallK.data (fun _ => Spec.args (s5) (by (first | exact ArgsLe.refl | (repeat (first | exact True.intro | refine And.intro (by first | exact AvLe.refl | exact AvLe.loose | exact AvLe.nil | exact AvLe.nilT | exact AvLe.slk | (refine AvLe.agg ?_; exact ArgsLe.refl) | (refine AvLe.agg ?_; (repeat (first | exact True.intro | refine And.intro (by first | exact AvLe.refl | exact AvLe.loose | exact AvLe.nil | exact AvLe.nilT | exact AvLe.slk) ?_)))) ?_))))) rfl ?_
  simp only [go_sem]
  (repeat (refine ⟨by (first | exact True.intro | omega | rfl | (simp; done) | (simp; omega)), ?_⟩)); try (refine hKr _ ?_; clear hKr Kr)
  refine T.sregD 215 [0, 1, 4, 5, 6, 7, 8, 9, 10, 11, 12, 13, 14, 15, 16, 17, 18, 19, 27, 101, 105, 152, 158] fun Kr hKr => ?_
  simp only [go_sem]
  (repeat (refine ⟨by (first | exact True.intro | omega | rfl | (simp; done) | (simp; omega)), ?_⟩)); try (refine hKr _ ?_; clear hKr Kr)
  refine CallK.tup (fun _ => Spec.args (s4) (by (first | exact ArgsLe.refl | (repeat (first | exact True.intro | refine And.intro (by first | exact AvLe.refl | exact AvLe.loose | exact AvLe.nil | exact AvLe.nilT | exact AvLe.slk | (refine AvLe.agg ?_; exact ArgsLe.refl) | (refine AvLe.agg ?_; (repeat (first | exact True.intro | refine And.intro (by first | exact AvLe.refl | exact AvLe.loose | exact AvLe.nil | exact AvLe.nilT | exact AvLe.slk) ?_)))) ?_))))) ?_
  simp only [go_sem]
  (repeat (refine ⟨by (first | exact True.intro | omega | rfl | (simp; done) | (simp; omega)), ?_⟩)); try (refine hKr _ ?_; clear hKr Kr)
  refine T.sregD 215 [0, 1, 4, 5, 6, 7, 8, 9, 10, 11, 12, 13, 14, 15, 16, 17, 18, 19, 27, 101, 105, 152, 158] fun Kr hKr => ?_
  simp only [go_sem]
  (repeat (refine ⟨by (first | exact True.intro | omega | rfl | (simp; done) | (simp; omega)), ?_⟩)); try (refine hKr _ ?_; clear hKr Kr)
  refine CallK.data (fun _ => Spec.args (s3) (by (first | exact ArgsLe.refl | (repeat (first | exact True.intro | refine And.intro (by first | exact AvLe.refl | exact AvLe.loose | exact AvLe.nil | exact AvLe.nilT | exact AvLe.slk | (refine AvLe.agg ?_; exact ArgsLe.refl) | (refine AvLe.agg ?_; (repeat (first | exact True.intro | refine And.intro (by first | exact AvLe.refl | exact AvLe.loose | exact AvLe.nil | exact AvLe.nilT | exact AvLe.slk) ?_)))) ?_))))) rfl ?_
  simp only [go_sem]
  (repeat (refine ⟨by (first | exact True.intro | omega | rfl | (simp; done) | (simp; omega)), ?_⟩)); try (refine hKr _ ?_; clear hKr Kr)
  by_cases hw : (depU p i).1 = []
  · obtain ⟨m, hm, hmi, hmw, _, D', ee, _⟩ := mark_of hg c hw
    obtain ⟨k, k1, k2, k3⟩ := fnd_whole hdd.srt hm
    rw [hmi] at k1
    rw [k1, ee, hw]
    have hk0 : ((k : Int) ≥ 0) = True := eq_true (by omega)
    have fN : ofN [] = [] := rfl
    refine T.sregD 215 [0, 1, 4, 5, 6, 7, 8, 9, 10, 11, 12, 13, 14, 15, 16, 17, 18, 19, 27, 101, 105, 152, 158] fun Kr hKr => ?_
    simp only [go_sem, hal, hk0, k2, k3, hmw]
    (repeat (refine ⟨by (first | exact True.intro | omega | rfl | (simp; done) | (simp; omega)), ?_⟩)); try (refine hKr _ ?_; clear hKr Kr)
    refine T.seqK fun K2 hK2 => ?_
    refine T.sregD 215 [0, 1, 4, 5, 6, 7, 8, 9, 10, 11, 12, 13, 14, 15, 16, 17, 18, 19, 27, 101, 105, 152, 158] fun Kr hKr => ?_
    simp only [go_sem, fN]
    (repeat (refine ⟨by (first | exact True.intro | omega | rfl | (simp; done) | (simp; omega)), ?_⟩)); try (refine hKr _ ?_; clear hKr Kr)
    refine CallK.data (r := .bool true) (fun h => by cases h) rfl ?_
    simp only [go_sem, fN]
    (repeat (refine ⟨by (first | exact True.intro | omega | rfl | (simp; done) | (simp; omega)), ?_⟩)); try (refine hKr _ ?_; clear hKr Kr)
    refine T.condTD rfl rfl (fun hb => ?_) (fun hb => ?_) <;> try simp at hb
    refine T.skip ?_
    refine hK2 _ ?_
    refine T.seqK fun K3 hK3 => ?_
    refine T.sregD 215 [0, 1, 4, 5, 6, 7, 8, 9, 10, 11, 12, 13, 14, 15, 16, 17, 18, 19, 27, 101, 105, 152, 158] fun Kr hKr => ?_
    simp only [go_sem]
    (repeat (refine ⟨by (first | exact True.intro | omega | rfl | (simp; done) | (simp; omega)), ?_⟩)); try (refine hKr _ ?_; clear hKr Kr)
    refine T.bloop (fun x : Nat => ⟨dense 215 [(5, .bool true), (6, .op 6 0 0), (10, .sl false 1 []), (13, .bool true), (14, .int .i64 x)], []⟩) (fun x => x = 0) (fun x => 0) 0 rfl ?_ fun x hx => ?_
    · refine Le.fitS (by (repeat (first | exact DFit.nil | refine DFit.cons (by first | rfl | (simp [slook]; done) | (simp [slook]; omega)) ?_))) (by (repeat (first | exact True.intro | refine And.intro (by first | rfl | (simp [look]; done)) ?_)))
    refine T.seqK fun K4 hK4 => ?_
    refine T.sregD 215 [0, 1, 4, 5, 6, 7, 8, 9, 10, 11, 12, 13, 14, 15, 16, 17, 18, 19, 27, 101, 105, 152, 158] fun Kr hKr => ?_
    simp only [go_sem, hx]
    (repeat (refine ⟨by (first | exact True.intro | omega | rfl | (simp; done) | (simp; omega)), ?_⟩)); try (refine hKr _ ?_; clear hKr Kr)
    refine T.condFD rfl rfl (fun hb => ?_) (fun hb => ?_) <;> try simp at hb
    refine T.exit ?_
    simp only [if_true]
    refine hK3 _ ?_
    refine T.seqK fun K5 hK5 => ?_
    refine T.sregD 215 [0, 1, 4, 5, 6, 7, 8, 9, 10, 11, 12, 13, 14, 15, 16, 17, 18, 19, 27, 101, 105, 152, 158] fun Kr hKr => ?_
    simp only [go_sem]
    (repeat (refine ⟨by (first | exact True.intro | omega | rfl | (simp; done) | (simp; omega)), ?_⟩)); try (refine hKr _ ?_; clear hKr Kr)
    refine T.condTD rfl rfl (fun hb => ?_) (fun hb => ?_) <;> try simp at hb
    refine T.sregD 215 [0, 1, 4, 5, 6, 7, 8, 9, 10, 11, 12, 13, 14, 15, 16, 17, 18, 19, 27, 101, 105, 152, 158] fun Kr hKr => ?_
    simp only [go_sem]
    (repeat (refine ⟨by (first | exact True.intro | omega | rfl | (simp; done) | (simp; omega)), ?_⟩)); try (refine hKr _ ?_; clear hKr Kr)
    refine T.ret (Fin.dataD rfl rfl rfl)
  obtain ⟨j0, L', hL⟩ : ∃ j0 L', (depU p i).1 = j0 :: L' := by
    cases hq : (depU p i).1 with
    | nil => exact absurd hq hw
    | cons x y => exact ⟨x, y, rfl⟩
  have ee : undU p i = (noPast, (depU p i).1, 320) := by unfold undU; rw [if_neg (by rw [hd0]; simp), if_pos hw]
  have dl := dep_l c
  obtain ⟨htF, D1, D2, r1, r2, o1, o2, ⟨m1, hm1, hm1i, hm1w⟩, ht2⟩ := dep_first hg c hL
  rw [ee]
  have hN0 : 0 < (depU p i).1.length := by rw [hL]; simp
  have hg0 : (depU p i).1.getD 0 default = j0 := by rw [hL]; rfl
  have hNN : (ofN (depU p i).1).length = (depU p i).1.length := by simp [ofN]
  have hNl : (depU p i).1.length ≤ 100 := by
    have h1 : ((depU p i).1).Sublist (latL p.st i p.st.length) := by
      unfold depU
      rw [if_pos c.com]
      simp only [Int.toNat_natCast]
      exact depF_sub _ _ _
    have h2 := h1.length_le
    have h3 : (latL p.st i p.st.length).length ≤ p.st.length := Nat.le_trans (List.length_filter_le _ _) (by simp)
    omega
  have s6 := IntsU_spec (ofN (depU p i).1) (ofN (depU p i).1) (by omega) (by omega)
  rw [decide_eq_true rfl] at s6
  have hall : ∀ s ∈ p.st, s.e.s.length ≤ 100000 := fun s hs => by have := hg.txt s hs; omega
  have hj0 := dl.mem j0 (by rw [hL]; simp)
  have s8 := Replay_spec p a j0 (by omega) (by omega) hall
  rw [r1] at s8
  have s9 := Replay_spec p a (j0 + 1) (by omega) (by omega) hall
  rw [r2, show (((j0 + 1 : Nat)) : Int) = (j0 : Int) + 1 by omega] at s9
  have hg0' : (ofN (depU p i).1).getD 0 default = (j0 : Int) := by rw [ofN_getD hN0, hg0]
  have hof : ∀ x, x < (depU p i).1.length → (ofN (depU p i).1).getD x default = (((depU p i).1.getD x default : Nat) : Int) := fun x hx => ofN_getD hx
  have hdlm : ∀ x, x < (depU p i).1.length → i < (depU p i).1.getD x default ∧ (depU p i).1.getD x default < p.st.length ∧ (p.st.getD ((depU p i).1.getD x default) default).app = a ∧ (p.st.getD ((depU p i).1.getD x default) default).und = false :=
    fun x hx => dl.mem _ (by simp [List.getD, hx])
  have hinc : ∀ x y, x < y → y < (depU p i).1.length → (depU p i).1.getD x default < (depU p i).1.getD y default := fun x y h1 h2 => getD_lt dl.inc h1 h2
  generalize (depU p i).1 = N at *
  obtain ⟨z, hz, hzc⟩ := fnd_torn htF
  rw [hz]
  refine T.seqTo ⟨dense 215 [(5, .bool true), (6, .op 6 0 0), (7, .int .i64 i), (8, .int .i64 a), (10, .sl false 1 (intsOf (ofN N))), (11, .int .i64 0), (12, .op 12 0 0), (13, .bool false)],
    [(12, ⟨4, 40, true, [undA (noPast, N, 320)]⟩), (6, ⟨2, 27, true, [pastA p]⟩)]⟩ ?_ ?_
  · rcases hzc with h | ⟨q, rfl, h2, h3⟩
    · have hk0 : (z ≥ 0) = False := eq_false (by omega)
      refine T.regD 215 [0, 1, 4, 5, 6, 7, 8, 9, 10, 11, 12, 13, 14, 15, 16, 17, 18, 19, 27, 101, 105, 152, 158] fun Kr hKr => ?_
      simp only [go_sem, hk0]
      (repeat (refine ⟨by (first | exact True.intro | omega | rfl | (simp; done) | (simp; omega)), ?_⟩)); try (refine hKr _ ?_; clear hKr Kr)
      refine Le.fitS (by (repeat (first | exact DFit.nil | refine DFit.cons (by first | rfl | (simp [slook]; done) | (simp [slook]; omega)) ?_))) (by (repeat (first | exact True.intro | refine And.intro (by first | rfl | (simp [look]; done)) ?_)))
    · have hk0 : ((q : Int) ≥ 0) = True := eq_true (by omega)
      refine T.regD 215 [0, 1, 4, 5, 6, 7, 8, 9, 10, 11, 12, 13, 14, 15, 16, 17, 18, 19, 27, 101, 105, 152, 158] fun Kr hKr => ?_
      simp only [go_sem, hk0, hal, h2, h3]
      (repeat (refine ⟨by (first | exact True.intro | omega | rfl | (simp; done) | (simp; omega)), ?_⟩)); try (refine hKr _ ?_; clear hKr Kr)
      refine Le.fitS (by (repeat (first | exact DFit.nil | refine DFit.cons (by first | rfl | (simp [slook]; done) | (simp [slook]; omega)) ?_))) (by (repeat (first | exact True.intro | refine And.intro (by first | rfl | (simp [look]; done)) ?_)))
  have hNz : ((N.length : Int) = 0) = False := eq_false (by omega)
  refine T.seqK fun K2 hK2 => ?_
  refine T.sregD 215 [0, 1, 4, 5, 6, 7, 8, 9, 10, 11, 12, 13, 14, 15, 16, 17, 18, 19, 27, 101, 105, 152, 158] fun Kr hKr => ?_
  simp only [go_sem, hNN, hNz]
  (repeat (refine ⟨by (first | exact True.intro | omega | rfl | (simp; done) | (simp; omega)), ?_⟩)); try (refine hKr _ ?_; clear hKr Kr)
  refine CallK.data (fun _ => Spec.args (s6) (by (first | exact ArgsLe.refl | (repeat (first | exact True.intro | refine And.intro (by first | exact AvLe.refl | exact AvLe.loose | exact AvLe.nil | exact AvLe.nilT | exact AvLe.slk | (refine AvLe.agg ?_; exact ArgsLe.refl) | (refine AvLe.agg ?_; (repeat (first | exact True.intro | refine And.intro (by first | exact AvLe.refl | exact AvLe.loose | exact AvLe.nil | exact AvLe.nilT | exact AvLe.slk) ?_)))) ?_))))) rfl ?_
  simp only [go_sem, hNN, hNz]
  (repeat (refine ⟨by (first | exact True.intro | omega | rfl | (simp; done) | (simp; omega)), ?_⟩)); try (refine hKr _ ?_; clear hKr Kr)
  refine T.condTD rfl rfl (fun hb => ?_) (fun hb => ?_) <;> try simp at hb
  refine T.skip ?_
  refine hK2 _ ?_
  refine T.seqK fun K3 hK3 => ?_
  refine T.sregD 215 [0, 1, 4, 5, 6, 7, 8, 9, 10, 11, 12, 13, 14, 15, 16, 17, 18, 19, 27, 101, 105, 152, 158] fun Kr hKr => ?_
  simp only [go_sem]
  (repeat (refine ⟨by (first | exact True.intro | omega | rfl | (simp; done) | (simp; omega)), ?_⟩)); try (refine hKr _ ?_; clear hKr Kr)
  refine T.bloop (fun x : Nat => ⟨dense 215 [(5, .bool true), (6, .op 6 0 0), (7, .int .i64 i), (8, .int .i64 a), (10, .sl false 1 (intsOf (ofN N))), (13, .bool false), (14, .int .i64 x)], [(6, ⟨2, 27, true, [pastA p]⟩)]⟩) (fun x => x ≤ N.length) (fun x => N.length - x) 0 (Nat.zero_le _) ?_ fun x hx => ?_
  · refine Le.fitS (by (repeat (first | exact DFit.nil | refine DFit.cons (by first | rfl | (simp [slook]; done) | (simp [slook]; omega)) ?_))) (by (repeat (first | exact True.intro | refine And.intro (by first | rfl | (simp [look]; done)) ?_)))
  refine T.seqK fun K4 hK4 => ?_
  refine T.sregD 215 [0, 1, 4, 5, 6, 7, 8, 9, 10, 11, 12, 13, 14, 15, 16, 17, 18, 19, 27, 101, 105, 152, 158] fun Kr hKr => ?_
  simp only [go_sem, hNN]
  (repeat (refine ⟨by (first | exact True.intro | omega | rfl | (simp; done) | (simp; omega)), ?_⟩)); try (refine hKr _ ?_; clear hKr Kr)
  refine T.condFD rfl rfl (fun hb => ?_) (fun hb => ?_) <;> simp only [decide_eq_true_eq, decide_eq_false_iff_not] at hb
  · -- all names are right
    refine T.exit ?_
    simp only [if_true]
    refine hK3 _ ?_
    refine T.seqK fun K5 hK5 => ?_
    refine T.sregD 215 [0, 1, 4, 5, 6, 7, 8, 9, 10, 11, 12, 13, 14, 15, 16, 17, 18, 19, 27, 101, 105, 152, 158] fun Kr hKr => ?_
    simp only [go_sem, hNN, hNz]
    (repeat (refine ⟨by (first | exact True.intro | omega | rfl | (simp; done) | (simp; omega)), ?_⟩)); try (refine hKr _ ?_; clear hKr Kr)
    refine T.condTD rfl rfl (fun hb => ?_) (fun hb => ?_) <;> try simp at hb
    refine T.skip ?_
    refine hK5 _ ?_
    have hN0' : 0 < (ofN N).length := by omega
    obtain ⟨k1, u1, u2, u3⟩ := fnd_whole o1.srt hm1
    rw [hm1i] at u1
    obtain ⟨z2, v1, v2⟩ := fnd_torn ht2
    have sA := Find_spec D1 (p.st.getD i default).id (by have := o1.cnt; omega)
    have sB := Find_spec D2 (p.st.getD i default).id (by have := o2.cnt; omega)
    rw [u1] at sA
    rw [v1] at sB
    refine T.sdraw2D 215 [0, 1, 4, 5, 6, 7, 8, 9, 10, 11, 12, 13, 14, 15, 16, 17, 18, 19, 27, 101, 105, 152, 158] (.take 0 (.take 1 (.take 2 (.take 3 (.take 4 (.two 5 (.one 6 (.one 7 .done)) 6 (.one 5 (.one 7 .done)))))))) [6] rfl (by decide +kernel) (by decide +kernel) ?x1 ?h1 (fun Kr hKr => ?all1) ?rest1
    case all1 =>
      simp only [go_sem, hN0, hN0', hg0']
      (repeat (any_goals (first | exact hKr _ (.inl rfl) | exact hKr _ (.inr (by (repeat (first | exact True.intro | refine And.intro (by first | rfl | (simp [look]; done)) ?_)))) | ((first | refine CallK.dataA (s8) ?_ rfl ?_ | refine CallK.tupA (s8) ?_ ?_ | refine CallK.ownA (s8) ?_ ?_); (focus ((first | exact ArgsLe.refl | (repeat (first | exact True.intro | refine And.intro (by first | exact AvLe.refl | exact AvLe.loose | exact AvLe.nil | exact AvLe.nilT | exact AvLe.slk | (refine AvLe.agg ?_; exact ArgsLe.refl) | (refine AvLe.agg ?_; (repeat (first | exact True.intro | refine And.intro (by first | exact AvLe.refl | exact AvLe.loose | exact AvLe.nil | exact AvLe.nilT | exact AvLe.slk) ?_)))) ?_))); done)); simp only [go_sem, hN0, hN0', hg0']) | (refine And.intro ?_ ?_) | (first | exact True.intro | omega | rfl | (simp; done) | (simp; omega)))))
      all_goals (first | exact hKr _ (.inl rfl) | exact hKr _ (.inr (by (repeat (first | exact True.intro | refine And.intro (by first | rfl | (simp [look]; done)) ?_)))))
    case rest1 =>
    refine T.sdraw2D 215 [0, 1, 4, 5, 6, 7, 8, 9, 10, 11, 12, 13, 14, 15, 16, 17, 18, 19, 27, 101, 105, 152, 158] (.take 0 (.take 1 (.take 2 (.take 3 (.take 4 (.take 5 (.two 6 (.one 7 (.one 8 .done)) 7 (.one 6 (.one 8 .done))))))))) [6] rfl (by decide +kernel) (by decide +kernel) ?x2 ?h2 (fun Kr hKr => ?all2) ?rest2
    case all2 =>
      simp only [go_sem, hN0, hN0', hg0']
      (repeat (any_goals (first | exact hKr _ (.inl rfl) | exact hKr _ (.inr (by (repeat (first | exact True.intro | refine And.intro (by first | rfl | (simp [look]; done)) ?_)))) | ((first | refine CallK.dataA (s9) ?_ rfl ?_ | refine CallK.tupA (s9) ?_ ?_ | refine CallK.ownA (s9) ?_ ?_); (focus ((first | exact ArgsLe.refl | (repeat (first | exact True.intro | refine And.intro (by first | exact AvLe.refl | exact AvLe.loose | exact AvLe.nil | exact AvLe.nilT | exact AvLe.slk | (refine AvLe.agg ?_; exact ArgsLe.refl) | (refine AvLe.agg ?_; (repeat (first | exact True.intro | refine And.intro (by first | exact AvLe.refl | exact AvLe.loose | exact AvLe.nil | exact AvLe.nilT | exact AvLe.slk) ?_)))) ?_))); done)); simp only [go_sem, hN0, hN0', hg0']) | (refine And.intro ?_ ?_) | (first | exact True.intro | omega | rfl | (simp; done) | (simp; omega)))))
      all_goals (first | exact hKr _ (.inl rfl) | exact hKr _ (.inr (by (repeat (first | exact True.intro | refine And.intro (by first | rfl | (simp [look]; done)) ?_)))))
    case rest2 =>
    refine T.sdrawD 215 [0, 1, 4, 5, 6, 7, 8, 9, 10, 11, 12, 13, 14, 15, 16, 17, 18, 19, 27, 101, 105, 152, 158] (.take 0 (.take 1 (.take 2 (.take 3 (.take 4 (.take 5 (.take 6 (.take 8 (.take 9 (.take 10 (.take 11 (.take 12 (.take 13 (.take 14 (.one 7 (.one 15 (.take 16 (.take 17 .done)))))))))))))))))) [6, 16, 17] rfl (by decide +kernel) (by decide +kernel) fun Kr hKr => ?_
    simp only [go_sem, hi]
    (repeat (refine ⟨by (first | exact True.intro | omega | rfl | (simp; done) | (simp; omega)), ?_⟩)); try (refine hKr _ ?_; clear hKr Kr)
    refine CallK.data (fun _ => Spec.args (sA) (by (first | exact ArgsLe.refl | (repeat (first | exact True.intro | refine And.intro (by first | exact AvLe.refl | exact AvLe.loose | exact AvLe.nil | exact AvLe.nilT | exact AvLe.slk | (refine AvLe.agg ?_; exact ArgsLe.refl) | (refine AvLe.agg ?_; (repeat (first | exact True.intro | refine And.intro (by first | exact AvLe.refl | exact AvLe.loose | exact AvLe.nil | exact AvLe.nilT | exact AvLe.slk) ?_)))) ?_))))) rfl ?_
    simp only [go_sem, hi]
    (repeat (refine ⟨by (first | exact True.intro | omega | rfl | (simp; done) | (simp; omega)), ?_⟩)); try (refine hKr _ ?_; clear hKr Kr)
    refine CallK.data (fun _ => Spec.args (sB) (by (first | exact ArgsLe.refl | (repeat (first | exact True.intro | refine And.intro (by first | exact AvLe.refl | exact AvLe.loose | exact AvLe.nil | exact AvLe.nilT | exact AvLe.slk | (refine AvLe.agg ?_; exact ArgsLe.refl) | (refine AvLe.agg ?_; (repeat (first | exact True.intro | refine And.intro (by first | exact AvLe.refl | exact AvLe.loose | exact AvLe.nil | exact AvLe.nilT | exact AvLe.slk) ?_)))) ?_))))) rfl ?_
    simp only [go_sem, hi]
    (repeat (refine ⟨by (first | exact True.intro | omega | rfl | (simp; done) | (simp; omega)), ?_⟩)); try (refine hKr _ ?_; clear hKr Kr)
    have hk1 : ((k1 : Int) ≥ 0) = True := eq_true (by omega)
    rcases v2 with h | ⟨q, rfl, h2, h3⟩
    · have hz2 : (z2 < 0) = True := eq_true h
      refine T.sregD 215 [0, 1, 4, 5, 6, 7, 8, 9, 10, 11, 12, 13, 14, 15, 16, 17, 18, 19, 27, 101, 105, 152, 158] fun Kr hKr => ?_
      simp only [go_sem, hk1, u2, u3, hm1w, hz2]
      (repeat (refine ⟨by (first | exact True.intro | omega | rfl | (simp; done) | (simp; omega)), ?_⟩)); try (refine hKr _ ?_; clear hKr Kr)
      refine T.ret (Fin.dataD rfl rfl rfl)
    · have hz2 : ((q : Int) < 0) = False := eq_false (by omega)
      refine T.sregD 215 [0, 1, 4, 5, 6, 7, 8, 9, 10, 11, 12, 13, 14, 15, 16, 17, 18, 19, 27, 101, 105, 152, 158] fun Kr hKr => ?_
      simp only [go_sem, hk1, u2, u3, hm1w, hz2, h2, h3]
      (repeat (refine ⟨by (first | exact True.intro | omega | rfl | (simp; done) | (simp; omega)), ?_⟩)); try (refine hKr _ ?_; clear hKr Kr)
      refine T.ret (Fin.dataD rfl rfl rfl)
  have hb' : x < N.length := by omega
  have hb2 : x < (ofN N).length := by omega
  have hgo := hof x hb'
  obtain ⟨d1, d2, d3, d4⟩ := hdlm x hb'
  have hinc1 := hinc
  refine T.skip ?_
  refine hK4 _ ?_
  refine T.seqK fun K6 hK6 => ?_
  refine T.block ?_
  refine T.sregD 215 [0, 1, 4, 5, 6, 7, 8, 9, 10, 11, 12, 13, 14, 15, 16, 17, 18, 19, 27, 101, 105, 152, 158] fun Kr hKr => ?_
  simp only [go_sem, hb', hb2, hgo]
  (repeat (refine ⟨by (first | exact True.intro | omega | rfl | (simp; done) | (simp; omega)), ?_⟩)); try (refine hKr _ ?_; clear hKr Kr)
  have hle : (((N.getD x default : Nat) : Int) ≤ i) = False := eq_false (by omega)
  have hge : (((N.getD x default : Nat) : Int) ≥ p.st.length) = False := eq_false (by omega)
  by_cases hx0 : x = 0
  · have hpos : ((x : Int) > 0) = False := eq_false (by omega)
    refine T.sregD 215 [0, 1, 4, 5, 6, 7, 8, 9, 10, 11, 12, 13, 14, 15, 16, 17, 18, 19, 27, 101, 105, 152, 158] fun Kr hKr => ?_
    simp only [go_sem, hle, hge, d2, d3, d4, hpos]
    (repeat (refine ⟨by (first | exact True.intro | omega | rfl | (simp; done) | (simp; omega)), ?_⟩)); try (refine hKr _ ?_; clear hKr Kr)
    refine T.condTD rfl rfl (fun hb => ?_) (fun hb => ?_) <;> try simp at hb
    refine T.skip ?_
    refine hK6 _ ?_
    refine T.regD 215 [0, 1, 4, 5, 6, 7, 8, 9, 10, 11, 12, 13, 14, 15, 16, 17, 18, 19, 27, 101, 105, 152, 158] fun Kr hKr => ?_
    simp only [go_sem]
    (repeat (refine ⟨by (first | exact True.intro | omega | rfl | (simp; done) | (simp; omega)), ?_⟩)); try (refine hKr _ ?_; clear hKr Kr)
    refine ⟨x + 1, ?_, ?_, Le.fitS (by (repeat (first | exact DFit.nil | refine DFit.cons (by first | rfl | (simp [slook]; done) | (simp [slook]; omega)) ?_))) ?_⟩
    · omega
    · omega
    · (repeat (first | exact True.intro | refine And.intro (by first | rfl | (simp [look]; done)) ?_))
  · obtain ⟨y, rfl⟩ : ∃ y, x = y + 1 := ⟨x - 1, by omega⟩
    have hpos : (((y + 1 : Nat) : Int) > 0) = True := eq_true (by omega)
    have hy1 : ((y + 1 : Nat) : Int) - 1 = y := by omega
    have hy2 : y < (ofN N).length := by omega
    have hy2' : y < N.length := by omega
    have hgy := hof y (by omega)
    have hlt : (((N.getD (y + 1) default : Nat) : Int) ≤ ((N.getD y default : Nat) : Int)) = False := eq_false (by have := hinc1 y (y + 1) (by omega) hb'; omega)
    generalize N.getD (y + 1) default = W at *
    generalize N.getD y default = W' at *
    generalize hY : ((y + 1 : Nat) : Int) = Y at *
    refine T.sregD 215 [0, 1, 4, 5, 6, 7, 8, 9, 10, 11, 12, 13, 14, 15, 16, 17, 18, 19, 27, 101, 105, 152, 158] fun Kr hKr => ?_
    simp only [go_sem, hle, hge, d2, d3, d4, hpos, hy1, hy2, hy2', hgy, hlt]
    (repeat (refine ⟨by (first | exact True.intro | omega | rfl | (simp; done) | (simp; omega)), ?_⟩)); try (refine hKr _ ?_; clear hKr Kr)
    refine T.condTD rfl rfl (fun hb => ?_) (fun hb => ?_) <;> try simp at hb
    refine T.skip ?_
    refine hK6 _ ?_
    refine T.regD 215 [0, 1, 4, 5, 6, 7, 8, 9, 10, 11, 12, 13, 14, 15, 16, 17, 18, 19, 27, 101, 105, 152, 158] fun Kr hKr => ?_
    simp only [go_sem]
    (repeat (refine ⟨by (first | exact True.intro | omega | rfl | (simp; done) | (simp; omega)), ?_⟩)); try (refine hKr _ ?_; clear hKr Kr)
    refine ⟨y + 1 + 1, ?_, ?_, Le.fitS (by (repeat (first | exact DFit.nil | refine DFit.cons (by first | rfl | (simp [slook]; done) | (simp [slook]; omega)) ?_))) ?_⟩
    · omega
    · omega
    · (repeat (first | exact True.intro | refine And.intro (by first | rfl | (simp [look]; done)) ?_))
end Go.Proofs
