/- Devices: package learn: what an order means. -/
import Derived.Test.YtdhkkdhooobdhaaGreatDoorG3
set_option linter.unusedVariables false
set_option linter.unusedSimpArgs false
namespace Go.Proofs
open Go Go.Ideal
set_option maxRecDepth 8000
set_option maxHeartbeats 4000000

@[go_sem] theorem Tryz.gM : aggT Tryz.prog 87 = false := rfl
@[go_sem] theorem Tryz.iM : (Tryz.prog.underlying 87).isSome = true := rfl
theorem car_all {l : List AV} (h : ∀ x ∈ l, ∃ cs, x = .cp cs) : l.all AV.data0 = true := by
  rw [List.all_eq_true]; intro x hx; obtain ⟨cs, rfl⟩ := h x hx; rfl
theorem car_any {l : List AV} (h : ∀ x ∈ l, ∃ cs, x = .cp cs) (k : Nat) : l.any (AV.names0 k) = false := by
  rw [List.any_eq_false]; intro x hx; obtain ⟨cs, rfl⟩ := h x hx; simp [AV.names0]
theorem car_nm {l : List AV} (h : ∀ x ∈ l, ∃ cs, x = .cp cs) : l.flatMap AV.nm0 = [] := by
  rw [List.flatMap_eq_nil_iff]; intro x hx; obtain ⟨cs, rfl⟩ := h x hx; rfl
theorem car_frz {l : List AV} (h : ∀ x ∈ l, ∃ cs, x = .cp cs) (k sz : Nat) (xs : List AV) : l.map (frz0 k sz xs) = l := by
  conv => rhs; rw [← List.map_id l]
  refine List.map_congr_left fun x hx => ?_
  obtain ⟨cs, rfl⟩ := h x hx; rfl
/-! ### Searching orders -/
def fndO (q : Ord → Bool) (l : List Ord) : Int := match l.findIdx? q with | some i => i | none => -1
theorem fndO_none {l : List Ord} {q : Ord → Bool} (h : l.any q = false) : fndO q l = -1 := by
  have : l.findIdx? q = none := by
    rw [List.findIdx?_eq_none_iff]; intro x hx
    simpa using List.any_eq_false.1 h x hx
  simp only [fndO, this]
theorem fndO_at {l : List Ord} {q : Ord → Bool} {i : Nat} (hi : i < l.length) (hn : (l.take i).any q = false) (h : q (l.getD i default) = true) : fndO q l = i := by
  have : l.findIdx? q = some i := by
    rw [List.findIdx?_eq_some_iff_getElem]
    refine ⟨hi, by simpa [List.getD, hi] using h, fun j hj => ?_⟩
    have hjl : j < l.length := by omega
    have := List.any_eq_false.1 hn l[j] (by
      rw [List.mem_take_iff_getElem]; exact ⟨j, by omega, rfl⟩)
    simpa using this
  simp only [fndO, this]
theorem fndO_has (q : Ord → Bool) (l : List Ord) : decide (fndO q l ≥ 0) = l.any q := by
  unfold fndO
  cases h : l.findIdx? q with
  | none =>
    rw [List.findIdx?_eq_none_iff] at h
    have : l.any q = false := List.any_eq_false.2 fun x hx => by simpa using h x hx
    rw [this]; rfl
  | some i =>
    obtain ⟨h1, h2, _⟩ := List.findIdx?_eq_some_iff_getElem.1 h
    have : l.any q = true := List.any_eq_true.2 ⟨l[i], List.getElem_mem h1, h2⟩
    rw [this]; simp
theorem indexO_spec (l : List Ord) (q : Ord → Bool) (f : Nat) (caps : List AV) (hc : ∀ x ∈ caps, ∃ cs, x = .cp cs) (hl : l.length ≤ 100000)
    (sp : ∀ o ∈ l, Ideal.Spec Tryz.prog f (ordA o :: caps) (.bool (q o)) none) : Ideal.Spec Tryz.prog 44 [.sl false 7 (ordsOf l), .fn f caps] (.int .i64 (fndO q l)) none := by
  have a1 := car_all hc
  have a2 := car_any hc
  have a3 := car_nm hc
  have a4 := car_frz hc
  refine Ideal.Spec.of_TD (n := 19) (fn := Tryz.f44) rfl rfl rfl rfl rfl rfl rfl fun w ok => ?_
  refine T.sregD 19 [0, 1, 4, 5, 7, 8, 9, 16] fun Kr hKr => ?_
  simp only [go_sem, a1, a2, a3, a4]
  (repeat (refine ⟨by (first | exact True.intro | omega | rfl | (simp; done) | (simp; omega)), ?_⟩)); try (refine hKr _ ?_; clear hKr Kr)
  refine T.seqK fun K1 hK1 => ?_
  refine T.sregD 19 [0, 1, 4, 5, 7, 8, 9, 16] fun Kr hKr => ?_
  simp only [go_sem, a1, a2, a3, a4]
  (repeat (refine ⟨by (first | exact True.intro | omega | rfl | (simp; done) | (simp; omega)), ?_⟩)); try (refine hKr _ ?_; clear hKr Kr)
  refine T.bloop (fun i : Nat => ⟨dense 19 [(0, .sl false 7 (ordsOf l)), (1, .fn f caps), (7, .int .i64 l.length), (8, .int .i64 i)], []⟩) (fun i => i ≤ l.length ∧ (l.take i).any q = false) (fun i => l.length - i) 0 (by simp) ?_ fun i hi => ?_
  · refine Le.fitS (by (repeat (first | exact DFit.nil | refine DFit.cons (by first | rfl | (simp [slook]; done) | (simp [slook]; omega)) ?_))) (by (repeat (first | exact True.intro | refine And.intro (by first | rfl | (simp [look]; done)) ?_)))
  obtain ⟨hi, hn⟩ := hi
  refine T.sregD 19 [0, 1, 4, 5, 7, 8, 9, 16] fun Kr hKr => ?_
  simp only [go_sem, a1, a2, a3, a4]
  (repeat (refine ⟨by (first | exact True.intro | omega | rfl | (simp; done) | (simp; omega)), ?_⟩)); try (refine hKr _ ?_; clear hKr Kr)
  refine T.seqK fun K2 hK2 => ?_
  refine T.condFD rfl rfl (fun hb => ?_) (fun hb => ?_) <;> simp at hb
  · -- no: exit
    refine T.exit ?_
    simp only [if_true]
    refine hK1 _ ?_
    have : i = l.length := by omega
    subst this
    rw [List.take_length] at hn
    have ee : fndO q l = -1 := fndO_none hn
    refine T.sregD 19 [0, 1, 4, 5, 7, 8, 9, 16] fun Kr hKr => ?_
    simp only [go_sem, a1, a2, a3, a4]
    (repeat (refine ⟨by (first | exact True.intro | omega | rfl | (simp; done) | (simp; omega)), ?_⟩)); try (refine hKr _ ?_; clear hKr Kr)
    refine T.ret (Fin.dataD (by rw [ee]; rfl) rfl rfl)
  refine T.skip ?_
  refine hK2 _ ?_
  refine T.seqK fun K3 hK3 => ?_
  refine T.block ?_
  have h1 := sp (l.getD i default) (by simp [List.getD, hb])
  refine T.sregD 19 [0, 1, 4, 5, 7, 8, 9, 16] fun Kr hKr => ?_
  simp only [go_sem, hb, a1, a2, a3, a4]
  (repeat (refine ⟨by (first | exact True.intro | omega | rfl | (simp; done) | (simp; omega)), ?_⟩)); try (refine hKr _ ?_; clear hKr Kr)
  refine T.sregD 19 [0, 1, 4, 5, 7, 8, 9, 16] fun Kr hKr => ?_
  simp only [go_sem, hb, a1, a2, a3, a4]
  (repeat (refine ⟨by (first | exact True.intro | omega | rfl | (simp; done) | (simp; omega)), ?_⟩)); try (refine hKr _ ?_; clear hKr Kr)
  refine CallK.data (fun _ => Spec.args (h1) (by (first | exact ArgsLe.refl | (repeat (first | exact True.intro | refine And.intro (by first | exact AvLe.refl | exact AvLe.loose | exact AvLe.nil | exact AvLe.nilT | exact AvLe.slk | (refine AvLe.agg ?_; exact ArgsLe.refl) | (refine AvLe.agg ?_; (repeat (first | exact True.intro | refine And.intro (by first | exact AvLe.refl | exact AvLe.loose | exact AvLe.nil | exact AvLe.nilT | exact AvLe.slk) ?_)))) ?_))))) rfl ?_
  simp only [go_sem, a1, a2, a3, a4]
  (repeat (refine ⟨by (first | exact True.intro | omega | rfl | (simp; done) | (simp; omega)), ?_⟩)); try (refine hKr _ ?_; clear hKr Kr)
  refine T.condTD rfl rfl (fun hd => ?_) (fun hd => ?_)
  · -- yes
    have ee : fndO q l = i := fndO_at hb hn hd
    refine T.sregD 19 [0, 1, 4, 5, 7, 8, 9, 16] fun Kr hKr => ?_
    simp only [go_sem, a1, a2, a3, a4]
    (repeat (refine ⟨by (first | exact True.intro | omega | rfl | (simp; done) | (simp; omega)), ?_⟩)); try (refine hKr _ ?_; clear hKr Kr)
    refine T.ret (Fin.dataD (by rw [ee]; rfl) rfl rfl)
  refine T.skip ?_
  refine hK3 _ ?_
  refine T.regD 19 [0, 1, 4, 5, 7, 8, 9, 16] fun Kr hKr => ?_
  simp only [go_sem, a1, a2, a3, a4]
  (repeat (refine ⟨by (first | exact True.intro | omega | rfl | (simp; done) | (simp; omega)), ?_⟩)); try (refine hKr _ ?_; clear hKr Kr)
  refine ⟨i + 1, ?_, ?_, Le.fitS (by (repeat (first | exact DFit.nil | refine DFit.cons (by first | rfl | (simp [slook]; done) | (simp [slook]; omega)) ?_))) ?_⟩
  · refine ⟨by omega, ?_⟩
    rw [take_succ_d hb, List.any_append, hn]
    simp only [List.any_cons, List.any_nil, Bool.or_false, Bool.false_or]
    exact hd
  · omega
  · (repeat (first | exact True.intro | refine And.intro (by first | rfl | (simp [look]; done)) ?_))
theorem containsO_spec (l : List Ord) (q : Ord → Bool) (f : Nat) (caps : List AV) (hc : ∀ x ∈ caps, ∃ cs, x = .cp cs) (hl : l.length ≤ 100000)
    (sp : ∀ o ∈ l, Ideal.Spec Tryz.prog f (ordA o :: caps) (.bool (q o)) none) : Ideal.Spec Tryz.prog 25 [.sl false 7 (ordsOf l), .fn f caps] (.bool (l.any q)) none := by
  have a1 := car_all hc
  have a2 := car_any hc
  have a3 := car_nm hc
  have a4 := car_frz hc
  have s := indexO_spec l q f caps hc hl sp
  refine Ideal.Spec.of_TD (n := 9) (fn := Tryz.f25) rfl rfl rfl rfl rfl rfl rfl fun w ok => ?_
  refine T.sregD 9 [0, 1, 4] fun Kr hKr => ?_
  simp only [go_sem, a1, a2, a3, a4]
  (repeat (refine ⟨by (first | exact True.intro | omega | rfl | (simp; done) | (simp; omega)), ?_⟩)); try (refine hKr _ ?_; clear hKr Kr)
  refine T.sregD 9 [0, 1, 4] fun Kr hKr => ?_
  simp only [go_sem, a1, a2, a3, a4]
  (repeat (refine ⟨by (first | exact True.intro | omega | rfl | (simp; done) | (simp; omega)), ?_⟩)); try (refine hKr _ ?_; clear hKr Kr)
  refine CallK.data (fun _ => Spec.args (s) (by (first | exact ArgsLe.refl | (repeat (first | exact True.intro | refine And.intro (by first | exact AvLe.refl | exact AvLe.loose | exact AvLe.nil | exact AvLe.nilT | exact AvLe.slk | (refine AvLe.agg ?_; exact ArgsLe.refl) | (refine AvLe.agg ?_; (repeat (first | exact True.intro | refine And.intro (by first | exact AvLe.refl | exact AvLe.loose | exact AvLe.nil | exact AvLe.nilT | exact AvLe.slk) ?_)))) ?_))))) rfl ?_
  simp only [go_sem, a1, a2, a3, a4]
  (repeat (refine ⟨by (first | exact True.intro | omega | rfl | (simp; done) | (simp; omega)), ?_⟩)); try (refine hKr _ ?_; clear hKr Kr)
  refine T.ret (Fin.dataD (by rw [← fndO_has]; rfl) rfl rfl)

/-! ### Right records and orders -/
theorem ofRecordL_spec (r : Rec) : Ideal.Spec Tryz.prog 36 [recA r] (plA r.d r.s) none := by
  refine Ideal.Spec.of_CD (n := 8) (fn := Tryz.f36) rfl rfl rfl rfl rfl rfl rfl fun w ok => ?_
  refine T.post [.tmp 2] ?_
  refine T.sregD 8 [0, 1, 2] fun Kr hKr => ?_
  simp only [go_sem]
  (repeat (refine ⟨by (first | exact True.intro | omega | rfl | (simp; done) | (simp; omega)), ?_⟩)); try (refine hKr _ ?_; clear hKr Kr)
  refine T.sregD 8 [0, 1, 2] fun Kr hKr => ?_
  simp only [go_sem]
  (repeat (refine ⟨by (first | exact True.intro | omega | rfl | (simp; done) | (simp; omega)), ?_⟩)); try (refine hKr _ ?_; clear hKr Kr)
  refine T.ret ?_
  simp only [go_sem]
  exact ⟨ResCellD rfl rfl rfl rfl (by simp only [go_sem]) (by simp only [go_sem]) rfl, trivial⟩
theorem ofOrderL_spec (r : Ord) : Ideal.Spec Tryz.prog 82 [ordA r] (plA r.d r.s) none := by
  refine Ideal.Spec.of_CD (n := 8) (fn := Tryz.f82) rfl rfl rfl rfl rfl rfl rfl fun w ok => ?_
  refine T.post [.tmp 2] ?_
  refine T.sregD 8 [0, 1, 2] fun Kr hKr => ?_
  simp only [go_sem]
  (repeat (refine ⟨by (first | exact True.intro | omega | rfl | (simp; done) | (simp; omega)), ?_⟩)); try (refine hKr _ ?_; clear hKr Kr)
  refine T.sregD 8 [0, 1, 2] fun Kr hKr => ?_
  simp only [go_sem]
  (repeat (refine ⟨by (first | exact True.intro | omega | rfl | (simp; done) | (simp; omega)), ?_⟩)); try (refine hKr _ ?_; clear hKr Kr)
  refine T.ret ?_
  simp only [go_sem]
  exact ⟨ResCellD rfl rfl rfl rfl (by simp only [go_sem]) (by simp only [go_sem]) rfl, trivial⟩
theorem madeL_spec {d s e : Int} (h1 : 0 ≤ d ∧ d ≤ 7) (h2 : 1 ≤ s ∧ s ≤ 1000000) (h3 : 0 ≤ e ∧ e ≤ 10000) : Ideal.Spec Tryz.prog 49 [plA d s, .int .i64 e] (.bool true) none := by
  have s1 := within_t h1
  have s2 := within_t h2
  have s3 := within_t h3
  refine Ideal.Spec.of_TD (n := 17) (fn := Tryz.f49) rfl rfl rfl rfl rfl rfl rfl fun w ok => ?_
  refine T.sregD 17 [0, 1, 2, 4] fun Kr hKr => ?_
  simp only [go_sem]
  (repeat (refine ⟨by (first | exact True.intro | omega | rfl | (simp; done) | (simp; omega)), ?_⟩)); try (refine hKr _ ?_; clear hKr Kr)
  refine T.sregD 17 [0, 1, 2, 4] fun Kr hKr => ?_
  simp only [go_sem]
  (repeat (refine ⟨by (first | exact True.intro | omega | rfl | (simp; done) | (simp; omega)), ?_⟩)); try (refine hKr _ ?_; clear hKr Kr)
  refine CallK.data (fun _ => Spec.args (s1) (by (first | exact ArgsLe.refl | (repeat (first | exact True.intro | refine And.intro (by first | exact AvLe.refl | exact AvLe.loose | exact AvLe.nil | exact AvLe.nilT | exact AvLe.slk | (refine AvLe.agg ?_; exact ArgsLe.refl) | (refine AvLe.agg ?_; (repeat (first | exact True.intro | refine And.intro (by first | exact AvLe.refl | exact AvLe.loose | exact AvLe.nil | exact AvLe.nilT | exact AvLe.slk) ?_)))) ?_))))) rfl ?_
  simp only [go_sem]
  (repeat (refine ⟨by (first | exact True.intro | omega | rfl | (simp; done) | (simp; omega)), ?_⟩)); try (refine hKr _ ?_; clear hKr Kr)
  refine CallK.data (fun _ => Spec.args (s2) (by (first | exact ArgsLe.refl | (repeat (first | exact True.intro | refine And.intro (by first | exact AvLe.refl | exact AvLe.loose | exact AvLe.nil | exact AvLe.nilT | exact AvLe.slk | (refine AvLe.agg ?_; exact ArgsLe.refl) | (refine AvLe.agg ?_; (repeat (first | exact True.intro | refine And.intro (by first | exact AvLe.refl | exact AvLe.loose | exact AvLe.nil | exact AvLe.nilT | exact AvLe.slk) ?_)))) ?_))))) rfl ?_
  simp only [go_sem]
  (repeat (refine ⟨by (first | exact True.intro | omega | rfl | (simp; done) | (simp; omega)), ?_⟩)); try (refine hKr _ ?_; clear hKr Kr)
  refine CallK.data (fun _ => Spec.args (s3) (by (first | exact ArgsLe.refl | (repeat (first | exact True.intro | refine And.intro (by first | exact AvLe.refl | exact AvLe.loose | exact AvLe.nil | exact AvLe.nilT | exact AvLe.slk | (refine AvLe.agg ?_; exact ArgsLe.refl) | (refine AvLe.agg ?_; (repeat (first | exact True.intro | refine And.intro (by first | exact AvLe.refl | exact AvLe.loose | exact AvLe.nil | exact AvLe.nilT | exact AvLe.slk) ?_)))) ?_))))) rfl ?_
  simp only [go_sem]
  (repeat (refine ⟨by (first | exact True.intro | omega | rfl | (simp; done) | (simp; omega)), ?_⟩)); try (refine hKr _ ?_; clear hKr Kr)
  refine T.ret (Fin.dataD rfl rfl rfl)
theorem rightRecord_spec (r : Rec) (h : RightR r) : Ideal.Spec Tryz.prog 32 [recA r] (.bool true) none := by
  have s1 := ofRecordL_spec r
  have s2 := madeL_spec h.d h.s h.e
  have s3 := WordS_spec r.w h.w
  have s4 := within_t h.a
  have s5 := within_t h.n
  refine Ideal.Spec.of_TD (n := 23) (fn := Tryz.f32) rfl rfl rfl rfl rfl rfl rfl fun w ok => ?_
  refine T.sregD 23 [0, 1, 2] fun Kr hKr => ?_
  simp only [go_sem]
  (repeat (refine ⟨by (first | exact True.intro | omega | rfl | (simp; done) | (simp; omega)), ?_⟩)); try (refine hKr _ ?_; clear hKr Kr)
  refine T.sdrawD 23 [0, 1, 2] (.take 0 (.take 2 (.take 3 (.one 1 (.one 4 (.take 5 (.take 6 (.take 7 (.one 8 (.take 9 (.take 10 (.take 11 (.take 12 (.one 13 (.take 14 (.take 15 (.take 16 (.take 17 (.one 18 (.take 19 (.take 20 .done))))))))))))))))))))) [1] rfl (by decide +kernel) (by decide +kernel) fun Kr hKr => ?_
  simp only [go_sem]
  (repeat (refine ⟨by (first | exact True.intro | omega | rfl | (simp; done) | (simp; omega)), ?_⟩)); try (refine hKr _ ?_; clear hKr Kr)
  refine CallK.data (fun _ => Spec.args (s1) (by (first | exact ArgsLe.refl | (repeat (first | exact True.intro | refine And.intro (by first | exact AvLe.refl | exact AvLe.loose | exact AvLe.nil | exact AvLe.nilT | exact AvLe.slk | (refine AvLe.agg ?_; exact ArgsLe.refl) | (refine AvLe.agg ?_; (repeat (first | exact True.intro | refine And.intro (by first | exact AvLe.refl | exact AvLe.loose | exact AvLe.nil | exact AvLe.nilT | exact AvLe.slk) ?_)))) ?_))))) rfl ?_
  simp only [go_sem]
  (repeat (refine ⟨by (first | exact True.intro | omega | rfl | (simp; done) | (simp; omega)), ?_⟩)); try (refine hKr _ ?_; clear hKr Kr)
  refine CallK.data (fun _ => Spec.args (s2) (by (first | exact ArgsLe.refl | (repeat (first | exact True.intro | refine And.intro (by first | exact AvLe.refl | exact AvLe.loose | exact AvLe.nil | exact AvLe.nilT | exact AvLe.slk | (refine AvLe.agg ?_; exact ArgsLe.refl) | (refine AvLe.agg ?_; (repeat (first | exact True.intro | refine And.intro (by first | exact AvLe.refl | exact AvLe.loose | exact AvLe.nil | exact AvLe.nilT | exact AvLe.slk) ?_)))) ?_))))) rfl ?_
  simp only [go_sem]
  (repeat (refine ⟨by (first | exact True.intro | omega | rfl | (simp; done) | (simp; omega)), ?_⟩)); try (refine hKr _ ?_; clear hKr Kr)
  refine CallK.data (fun _ => Spec.args (s3) (by (first | exact ArgsLe.refl | (repeat (first | exact True.intro | refine And.intro (by first | exact AvLe.refl | exact AvLe.loose | exact AvLe.nil | exact AvLe.nilT | exact AvLe.slk | (refine AvLe.agg ?_; exact ArgsLe.refl) | (refine AvLe.agg ?_; (repeat (first | exact True.intro | refine And.intro (by first | exact AvLe.refl | exact AvLe.loose | exact AvLe.nil | exact AvLe.nilT | exact AvLe.slk) ?_)))) ?_))))) rfl ?_
  simp only [go_sem]
  (repeat (refine ⟨by (first | exact True.intro | omega | rfl | (simp; done) | (simp; omega)), ?_⟩)); try (refine hKr _ ?_; clear hKr Kr)
  refine CallK.data (fun _ => Spec.args (s4) (by (first | exact ArgsLe.refl | (repeat (first | exact True.intro | refine And.intro (by first | exact AvLe.refl | exact AvLe.loose | exact AvLe.nil | exact AvLe.nilT | exact AvLe.slk | (refine AvLe.agg ?_; exact ArgsLe.refl) | (refine AvLe.agg ?_; (repeat (first | exact True.intro | refine And.intro (by first | exact AvLe.refl | exact AvLe.loose | exact AvLe.nil | exact AvLe.nilT | exact AvLe.slk) ?_)))) ?_))))) rfl ?_
  simp only [go_sem]
  (repeat (refine ⟨by (first | exact True.intro | omega | rfl | (simp; done) | (simp; omega)), ?_⟩)); try (refine hKr _ ?_; clear hKr Kr)
  refine CallK.data (fun _ => Spec.args (s5) (by (first | exact ArgsLe.refl | (repeat (first | exact True.intro | refine And.intro (by first | exact AvLe.refl | exact AvLe.loose | exact AvLe.nil | exact AvLe.nilT | exact AvLe.slk | (refine AvLe.agg ?_; exact ArgsLe.refl) | (refine AvLe.agg ?_; (repeat (first | exact True.intro | refine And.intro (by first | exact AvLe.refl | exact AvLe.loose | exact AvLe.nil | exact AvLe.nilT | exact AvLe.slk) ?_)))) ?_))))) rfl ?_
  simp only [go_sem]
  (repeat (refine ⟨by (first | exact True.intro | omega | rfl | (simp; done) | (simp; omega)), ?_⟩)); try (refine hKr _ ?_; clear hKr Kr)
  refine T.ret (Fin.dataD rfl rfl rfl)
/-- The closures of the table. -/
def rgtF (k : Int) : Nat := if k = 1 then 53 else if k = 2 then 55 else if k = 3 then 57 else if k = 4 then 59 else 61
def mnsF (k : Int) : Nat := if k = 1 then 54 else if k = 2 then 56 else if k = 3 then 58 else if k = 4 then 60 else 62
theorem tab_get {k : Int} (h : k = 1 ∨ k = 2 ∨ k = 3 ∨ k = 4 ∨ k = 5) : mpGet [1, 2, 3, 4, 5] [frmA 53 54, frmA 55 56, frmA 57 58, frmA 59 60, frmA 61 62] k = some (.agg [.fn (rgtF k) [], .fn (mnsF k) []]) := by
  rcases h with rfl | rfl | rfl | rfl | rfl <;> rfl
theorem rgt_spec (o : Ord) (h : RightO o) : Ideal.Spec Tryz.prog (rgtF o.k) [ordA o] (.bool true) none := by
  obtain ⟨_, _, _, hk⟩ := h
  obtain ⟨d, s, e, k, wd, n, f⟩ := o
  simp only at hk
  rcases hk with ⟨rfl, h1, rfl, rfl⟩ | ⟨rfl, rfl, rfl, h1⟩ | ⟨rfl, rfl, rfl, h1⟩ | ⟨rfl, rfl, rfl, h1⟩ | ⟨rfl, rfl, h1, h2, h3⟩
  · have s1 := WordS_spec wd h1
    refine Ideal.Spec.of_TD (n := 16) (fn := Tryz.f53) rfl rfl rfl rfl rfl rfl rfl fun w ok => ?_
    refine T.sregD 16 [0, 1, 2] fun Kr hKr => ?_
    simp only [go_sem]
    (repeat (refine ⟨by (first | exact True.intro | omega | rfl | (simp; done) | (simp; omega)), ?_⟩)); try (refine hKr _ ?_; clear hKr Kr)
    refine T.sregD 16 [0, 1, 2] fun Kr hKr => ?_
    simp only [go_sem]
    (repeat (refine ⟨by (first | exact True.intro | omega | rfl | (simp; done) | (simp; omega)), ?_⟩)); try (refine hKr _ ?_; clear hKr Kr)
    refine CallK.data (fun _ => Spec.args (s1) (by (first | exact ArgsLe.refl | (repeat (first | exact True.intro | refine And.intro (by first | exact AvLe.refl | exact AvLe.loose | exact AvLe.nil | exact AvLe.nilT | exact AvLe.slk | (refine AvLe.agg ?_; exact ArgsLe.refl) | (refine AvLe.agg ?_; (repeat (first | exact True.intro | refine And.intro (by first | exact AvLe.refl | exact AvLe.loose | exact AvLe.nil | exact AvLe.nilT | exact AvLe.slk) ?_)))) ?_))))) rfl ?_
    simp only [go_sem]
    (repeat (refine ⟨by (first | exact True.intro | omega | rfl | (simp; done) | (simp; omega)), ?_⟩)); try (refine hKr _ ?_; clear hKr Kr)
    refine T.ret (Fin.dataD rfl rfl rfl)
  · have s1 := within_t h1
    refine Ideal.Spec.of_TD (n := 16) (fn := Tryz.f55) rfl rfl rfl rfl rfl rfl rfl fun w ok => ?_
    refine T.sregD 16 [0, 1, 2] fun Kr hKr => ?_
    simp only [go_sem]
    (repeat (refine ⟨by (first | exact True.intro | omega | rfl | (simp; done) | (simp; omega)), ?_⟩)); try (refine hKr _ ?_; clear hKr Kr)
    refine T.sregD 16 [0, 1, 2] fun Kr hKr => ?_
    simp only [go_sem, beq_self_eq_true]
    (repeat (refine ⟨by (first | exact True.intro | omega | rfl | (simp; done) | (simp; omega)), ?_⟩)); try (refine hKr _ ?_; clear hKr Kr)
    refine CallK.data (fun _ => Spec.args (s1) (by (first | exact ArgsLe.refl | (repeat (first | exact True.intro | refine And.intro (by first | exact AvLe.refl | exact AvLe.loose | exact AvLe.nil | exact AvLe.nilT | exact AvLe.slk | (refine AvLe.agg ?_; exact ArgsLe.refl) | (refine AvLe.agg ?_; (repeat (first | exact True.intro | refine And.intro (by first | exact AvLe.refl | exact AvLe.loose | exact AvLe.nil | exact AvLe.nilT | exact AvLe.slk) ?_)))) ?_))))) rfl ?_
    simp only [go_sem]
    (repeat (refine ⟨by (first | exact True.intro | omega | rfl | (simp; done) | (simp; omega)), ?_⟩)); try (refine hKr _ ?_; clear hKr Kr)
    refine T.ret (Fin.dataD rfl rfl rfl)
  · have s1 := within_t h1
    refine Ideal.Spec.of_TD (n := 16) (fn := Tryz.f57) rfl rfl rfl rfl rfl rfl rfl fun w ok => ?_
    refine T.sregD 16 [0, 1, 2] fun Kr hKr => ?_
    simp only [go_sem]
    (repeat (refine ⟨by (first | exact True.intro | omega | rfl | (simp; done) | (simp; omega)), ?_⟩)); try (refine hKr _ ?_; clear hKr Kr)
    refine T.sregD 16 [0, 1, 2] fun Kr hKr => ?_
    simp only [go_sem, beq_self_eq_true]
    (repeat (refine ⟨by (first | exact True.intro | omega | rfl | (simp; done) | (simp; omega)), ?_⟩)); try (refine hKr _ ?_; clear hKr Kr)
    refine CallK.data (fun _ => Spec.args (s1) (by (first | exact ArgsLe.refl | (repeat (first | exact True.intro | refine And.intro (by first | exact AvLe.refl | exact AvLe.loose | exact AvLe.nil | exact AvLe.nilT | exact AvLe.slk | (refine AvLe.agg ?_; exact ArgsLe.refl) | (refine AvLe.agg ?_; (repeat (first | exact True.intro | refine And.intro (by first | exact AvLe.refl | exact AvLe.loose | exact AvLe.nil | exact AvLe.nilT | exact AvLe.slk) ?_)))) ?_))))) rfl ?_
    simp only [go_sem]
    (repeat (refine ⟨by (first | exact True.intro | omega | rfl | (simp; done) | (simp; omega)), ?_⟩)); try (refine hKr _ ?_; clear hKr Kr)
    refine T.ret (Fin.dataD rfl rfl rfl)
  · have s1 := within_t h1
    refine Ideal.Spec.of_TD (n := 18) (fn := Tryz.f59) rfl rfl rfl rfl rfl rfl rfl fun w ok => ?_
    refine T.sregD 18 [0, 1, 2] fun Kr hKr => ?_
    simp only [go_sem]
    (repeat (refine ⟨by (first | exact True.intro | omega | rfl | (simp; done) | (simp; omega)), ?_⟩)); try (refine hKr _ ?_; clear hKr Kr)
    refine T.sregD 18 [0, 1, 2] fun Kr hKr => ?_
    simp only [go_sem, beq_self_eq_true]
    (repeat (refine ⟨by (first | exact True.intro | omega | rfl | (simp; done) | (simp; omega)), ?_⟩)); try (refine hKr _ ?_; clear hKr Kr)
    refine CallK.data (fun _ => Spec.args (s1) (by (first | exact ArgsLe.refl | (repeat (first | exact True.intro | refine And.intro (by first | exact AvLe.refl | exact AvLe.loose | exact AvLe.nil | exact AvLe.nilT | exact AvLe.slk | (refine AvLe.agg ?_; exact ArgsLe.refl) | (refine AvLe.agg ?_; (repeat (first | exact True.intro | refine And.intro (by first | exact AvLe.refl | exact AvLe.loose | exact AvLe.nil | exact AvLe.nilT | exact AvLe.slk) ?_)))) ?_))))) rfl ?_
    simp only [go_sem]
    (repeat (refine ⟨by (first | exact True.intro | omega | rfl | (simp; done) | (simp; omega)), ?_⟩)); try (refine hKr _ ?_; clear hKr Kr)
    refine T.ret (Fin.dataD rfl rfl rfl)
  · have s1 := within_t (n := n) (lo := 1) (hi := 1000000) ⟨h1, h2⟩
    have s2 := within_t h3
    refine Ideal.Spec.of_TD (n := 16) (fn := Tryz.f61) rfl rfl rfl rfl rfl rfl rfl fun w ok => ?_
    refine T.sregD 16 [0, 1, 2] fun Kr hKr => ?_
    simp only [go_sem]
    (repeat (refine ⟨by (first | exact True.intro | omega | rfl | (simp; done) | (simp; omega)), ?_⟩)); try (refine hKr _ ?_; clear hKr Kr)
    refine T.sregD 16 [0, 1, 2] fun Kr hKr => ?_
    simp only [go_sem, beq_self_eq_true]
    (repeat (refine ⟨by (first | exact True.intro | omega | rfl | (simp; done) | (simp; omega)), ?_⟩)); try (refine hKr _ ?_; clear hKr Kr)
    refine CallK.data (fun _ => Spec.args (s1) (by (first | exact ArgsLe.refl | (repeat (first | exact True.intro | refine And.intro (by first | exact AvLe.refl | exact AvLe.loose | exact AvLe.nil | exact AvLe.nilT | exact AvLe.slk | (refine AvLe.agg ?_; exact ArgsLe.refl) | (refine AvLe.agg ?_; (repeat (first | exact True.intro | refine And.intro (by first | exact AvLe.refl | exact AvLe.loose | exact AvLe.nil | exact AvLe.nilT | exact AvLe.slk) ?_)))) ?_))))) rfl ?_
    simp only [go_sem]
    (repeat (refine ⟨by (first | exact True.intro | omega | rfl | (simp; done) | (simp; omega)), ?_⟩)); try (refine hKr _ ?_; clear hKr Kr)
    refine CallK.data (fun _ => Spec.args (s2) (by (first | exact ArgsLe.refl | (repeat (first | exact True.intro | refine And.intro (by first | exact AvLe.refl | exact AvLe.loose | exact AvLe.nil | exact AvLe.nilT | exact AvLe.slk | (refine AvLe.agg ?_; exact ArgsLe.refl) | (refine AvLe.agg ?_; (repeat (first | exact True.intro | refine And.intro (by first | exact AvLe.refl | exact AvLe.loose | exact AvLe.nil | exact AvLe.nilT | exact AvLe.slk) ?_)))) ?_))))) rfl ?_
    simp only [go_sem]
    (repeat (refine ⟨by (first | exact True.intro | omega | rfl | (simp; done) | (simp; omega)), ?_⟩)); try (refine hKr _ ?_; clear hKr Kr)
    refine T.ret (Fin.dataD rfl rfl rfl)
def mnsB (o : Ord) (r : Rec) : Bool := if o.k = 1 then r.w == o.w else if o.k = 2 then decide (r.a = o.n) else if o.k = 3 then decide (r.d = o.n) else if o.k = 4 then decide (r.e ≥ o.n) else (decide (r.d = o.f) && decide (r.s = o.n))
theorem mns_spec (o : Ord) (r : Rec) (h : RightO o) : Ideal.Spec Tryz.prog (mnsF o.k) [ordA o, recA r] (.bool (mnsB o r)) none := by
  obtain ⟨_, _, _, hk⟩ := h
  obtain ⟨d, s, e, k, wd, n, f⟩ := o
  simp only at hk
  rcases hk with ⟨rfl, h1, rfl, rfl⟩ | ⟨rfl, rfl, rfl, h1⟩ | ⟨rfl, rfl, rfl, h1⟩ | ⟨rfl, rfl, rfl, h1⟩ | ⟨rfl, rfl, h1, h2, h3⟩
  · refine Ideal.Spec.of_TD (n := 10) (fn := Tryz.f54) rfl rfl rfl rfl rfl rfl rfl fun w ok => ?_
    refine T.sregD 10 [0, 1, 2, 3, 4] fun Kr hKr => ?_
    simp only [go_sem]
    (repeat (refine ⟨by (first | exact True.intro | omega | rfl | (simp; done) | (simp; omega)), ?_⟩)); try (refine hKr _ ?_; clear hKr Kr)
    refine T.sregD 10 [0, 1, 2, 3, 4] fun Kr hKr => ?_
    simp only [go_sem]
    (repeat (refine ⟨by (first | exact True.intro | omega | rfl | (simp; done) | (simp; omega)), ?_⟩)); try (refine hKr _ ?_; clear hKr Kr)
    refine T.ret (Fin.dataD rfl rfl rfl)
  · refine Ideal.Spec.of_TD (n := 10) (fn := Tryz.f56) rfl rfl rfl rfl rfl rfl rfl fun w ok => ?_
    refine T.sregD 10 [0, 1, 2, 3, 4] fun Kr hKr => ?_
    simp only [go_sem]
    (repeat (refine ⟨by (first | exact True.intro | omega | rfl | (simp; done) | (simp; omega)), ?_⟩)); try (refine hKr _ ?_; clear hKr Kr)
    refine T.sregD 10 [0, 1, 2, 3, 4] fun Kr hKr => ?_
    simp only [go_sem]
    (repeat (refine ⟨by (first | exact True.intro | omega | rfl | (simp; done) | (simp; omega)), ?_⟩)); try (refine hKr _ ?_; clear hKr Kr)
    refine T.ret (Fin.dataD rfl rfl rfl)
  · refine Ideal.Spec.of_TD (n := 10) (fn := Tryz.f58) rfl rfl rfl rfl rfl rfl rfl fun w ok => ?_
    refine T.sregD 10 [0, 1, 2, 3, 4] fun Kr hKr => ?_
    simp only [go_sem]
    (repeat (refine ⟨by (first | exact True.intro | omega | rfl | (simp; done) | (simp; omega)), ?_⟩)); try (refine hKr _ ?_; clear hKr Kr)
    refine T.sregD 10 [0, 1, 2, 3, 4] fun Kr hKr => ?_
    simp only [go_sem]
    (repeat (refine ⟨by (first | exact True.intro | omega | rfl | (simp; done) | (simp; omega)), ?_⟩)); try (refine hKr _ ?_; clear hKr Kr)
    refine T.ret (Fin.dataD rfl rfl rfl)
  · refine Ideal.Spec.of_TD (n := 10) (fn := Tryz.f60) rfl rfl rfl rfl rfl rfl rfl fun w ok => ?_
    refine T.sregD 10 [0, 1, 2, 3, 4] fun Kr hKr => ?_
    simp only [go_sem]
    (repeat (refine ⟨by (first | exact True.intro | omega | rfl | (simp; done) | (simp; omega)), ?_⟩)); try (refine hKr _ ?_; clear hKr Kr)
    refine T.sregD 10 [0, 1, 2, 3, 4] fun Kr hKr => ?_
    simp only [go_sem]
    (repeat (refine ⟨by (first | exact True.intro | omega | rfl | (simp; done) | (simp; omega)), ?_⟩)); try (refine hKr _ ?_; clear hKr Kr)
    refine T.ret (Fin.dataD rfl rfl rfl)
  · refine Ideal.Spec.of_TD (n := 17) (fn := Tryz.f62) rfl rfl rfl rfl rfl rfl rfl fun w ok => ?_
    refine T.sregD 17 [0, 1, 2, 3, 4] fun Kr hKr => ?_
    simp only [go_sem]
    (repeat (refine ⟨by (first | exact True.intro | omega | rfl | (simp; done) | (simp; omega)), ?_⟩)); try (refine hKr _ ?_; clear hKr Kr)
    refine T.sregD 17 [0, 1, 2, 3, 4] fun Kr hKr => ?_
    simp only [go_sem]
    (repeat (refine ⟨by (first | exact True.intro | omega | rfl | (simp; done) | (simp; omega)), ?_⟩)); try (refine hKr _ ?_; clear hKr Kr)
    refine T.ret (Fin.dataD (by simp only [slook, cond_and]; rfl) rfl rfl)
theorem kind_of {o : Ord} (h : RightO o) : o.k = 1 ∨ o.k = 2 ∨ o.k = 3 ∨ o.k = 4 ∨ o.k = 5 := by
  rcases h.k with h | h | h | h | h <;> omega
theorem rightOrderL_spec (o : Ord) (h : RightO o) : Ideal.Spec Tryz.prog 45 [tabA, ordA o] (.bool true) none := by
  have s1 := ofOrderL_spec o
  have s2 := madeL_spec h.d h.s h.e
  have s3 := rgt_spec o h
  have hg := tab_get (kind_of h)
  refine Ideal.Spec.of_TD (n := 27) (fn := Tryz.f45) rfl rfl rfl rfl rfl rfl rfl fun w ok => ?_
  simp only [tabA]
  refine T.sregD 27 [0, 1, 3, 4, 5, 6, 12] fun Kr hKr => ?_
  simp only [go_sem]
  (repeat (refine ⟨by (first | exact True.intro | omega | rfl | (simp; done) | (simp; omega)), ?_⟩)); try (refine hKr _ ?_; clear hKr Kr)
  refine T.seqK fun K1 hK1 => ?_
  refine T.sdrawD 27 [0, 1, 3, 4, 5, 6, 12] (.take 0 (.take 2 (.take 3 (.one 1 (.one 4 (.take 5 .done)))))) [3] rfl (by decide +kernel) (by decide +kernel) fun Kr hKr => ?_
  simp only [go_sem]
  (repeat (refine ⟨by (first | exact True.intro | omega | rfl | (simp; done) | (simp; omega)), ?_⟩)); try (refine hKr _ ?_; clear hKr Kr)
  refine CallK.data (fun _ => Spec.args (s1) (by (first | exact ArgsLe.refl | (repeat (first | exact True.intro | refine And.intro (by first | exact AvLe.refl | exact AvLe.loose | exact AvLe.nil | exact AvLe.nilT | exact AvLe.slk | (refine AvLe.agg ?_; exact ArgsLe.refl) | (refine AvLe.agg ?_; (repeat (first | exact True.intro | refine And.intro (by first | exact AvLe.refl | exact AvLe.loose | exact AvLe.nil | exact AvLe.nilT | exact AvLe.slk) ?_)))) ?_))))) rfl ?_
  simp only [go_sem]
  (repeat (refine ⟨by (first | exact True.intro | omega | rfl | (simp; done) | (simp; omega)), ?_⟩)); try (refine hKr _ ?_; clear hKr Kr)
  refine CallK.data (fun _ => Spec.args (s2) (by (first | exact ArgsLe.refl | (repeat (first | exact True.intro | refine And.intro (by first | exact AvLe.refl | exact AvLe.loose | exact AvLe.nil | exact AvLe.nilT | exact AvLe.slk | (refine AvLe.agg ?_; exact ArgsLe.refl) | (refine AvLe.agg ?_; (repeat (first | exact True.intro | refine And.intro (by first | exact AvLe.refl | exact AvLe.loose | exact AvLe.nil | exact AvLe.nilT | exact AvLe.slk) ?_)))) ?_))))) rfl ?_
  simp only [go_sem]
  (repeat (refine ⟨by (first | exact True.intro | omega | rfl | (simp; done) | (simp; omega)), ?_⟩)); try (refine hKr _ ?_; clear hKr Kr)
  refine T.condTD rfl rfl (fun hb => ?_) (fun hb => ?_) <;> try simp at hb
  refine T.skip ?_
  refine hK1 _ ?_
  refine T.sregM 27 [3, 4, 5, 6] 3 (by decide) fun Kr hKr => ?_
  simp only [go_sem, List.take_succ_cons, List.take_zero, List.drop_succ_cons, List.drop_zero]
  refine ⟨_, _, _, _, _, _, _, _, _, _, _, o.k, _, rfl, rfl, rfl, by simp only [go_sem], by simp only [go_sem], by simp only [go_sem], by simp only [go_sem], hg, ?_⟩
  simp only [go_sem, List.take_succ_cons, List.take_zero, List.drop_succ_cons, List.drop_zero]
  refine hKr _ ?_
  refine T.sregD 27 [0, 1, 3, 4, 5, 6, 12] fun Kr hKr => ?_
  simp only [go_sem]
  (repeat (refine ⟨by (first | exact True.intro | omega | rfl | (simp; done) | (simp; omega)), ?_⟩)); try (refine hKr _ ?_; clear hKr Kr)
  refine CallK.data (fun _ => Spec.args (s3) (by (first | exact ArgsLe.refl | (repeat (first | exact True.intro | refine And.intro (by first | exact AvLe.refl | exact AvLe.loose | exact AvLe.nil | exact AvLe.nilT | exact AvLe.slk | (refine AvLe.agg ?_; exact ArgsLe.refl) | (refine AvLe.agg ?_; (repeat (first | exact True.intro | refine And.intro (by first | exact AvLe.refl | exact AvLe.loose | exact AvLe.nil | exact AvLe.nilT | exact AvLe.slk) ?_)))) ?_))))) rfl ?_
  simp only [go_sem]
  (repeat (refine ⟨by (first | exact True.intro | omega | rfl | (simp; done) | (simp; omega)), ?_⟩)); try (refine hKr _ ?_; clear hKr Kr)
  refine T.ret (Fin.dataD rfl rfl rfl)
theorem means_mns (o : Ord) (r : Rec) : meansB o r = (decide (r.e ≤ o.e) && mnsB o r) := rfl
theorem meant1_spec (o : Ord) (r : Rec) (h : RightO o) : Ideal.Spec Tryz.prog 52 [ordA o, .cp [tabA], recC r] (.bool (meansB o r)) none := by
  have s3 := mns_spec o r h
  have hg := tab_get (kind_of h)
  have em := means_mns o r
  refine Ideal.Spec.of_TD (n := 29) (fn := Tryz.f52) rfl rfl rfl rfl rfl rfl rfl fun w ok => ?_
  simp only [tabA]
  refine T.sregD 29 [0, 1, 2, 3, 4, 5, 6] fun Kr hKr => ?_
  simp only [go_sem]
  (repeat (refine ⟨by (first | exact True.intro | omega | rfl | (simp; done) | (simp; omega)), ?_⟩)); try (refine hKr _ ?_; clear hKr Kr)
  refine T.sregM 29 [1, 2, 3, 4, 5, 6] 3 (by decide) fun Kr hKr => ?_
  simp only [go_sem, List.take_succ_cons, List.take_zero, List.drop_succ_cons, List.drop_zero]
  refine ⟨_, _, _, _, _, _, _, _, _, _, _, o.k, _, rfl, rfl, rfl, by simp only [go_sem], by simp only [go_sem], by simp only [go_sem], by simp only [go_sem], hg, ?_⟩
  simp only [go_sem, List.take_succ_cons, List.take_zero, List.drop_succ_cons, List.drop_zero]
  refine hKr _ ?_
  by_cases he : r.e ≤ o.e
  · have he' : (r.e ≤ o.e) = True := eq_true he
    rw [decide_eq_true he, Bool.true_and] at em
    refine T.sregD 29 [0, 1, 2, 3, 4, 5, 6] fun Kr hKr => ?_
    simp only [go_sem, he']
    (repeat (refine ⟨by (first | exact True.intro | omega | rfl | (simp; done) | (simp; omega)), ?_⟩)); try (refine hKr _ ?_; clear hKr Kr)
    refine CallK.data (fun _ => Spec.args (s3) (by (first | exact ArgsLe.refl | (repeat (first | exact True.intro | refine And.intro (by first | exact AvLe.refl | exact AvLe.loose | exact AvLe.nil | exact AvLe.nilT | exact AvLe.slk | (refine AvLe.agg ?_; exact ArgsLe.refl) | (refine AvLe.agg ?_; (repeat (first | exact True.intro | refine And.intro (by first | exact AvLe.refl | exact AvLe.loose | exact AvLe.nil | exact AvLe.nilT | exact AvLe.slk) ?_)))) ?_))))) rfl ?_
    simp only [go_sem]
    (repeat (refine ⟨by (first | exact True.intro | omega | rfl | (simp; done) | (simp; omega)), ?_⟩)); try (refine hKr _ ?_; clear hKr Kr)
    refine T.ret (Fin.dataD (by rw [em]; rfl) rfl rfl)
  · have he' : (r.e ≤ o.e) = False := eq_false he
    rw [decide_eq_false he, Bool.false_and] at em
    refine T.sregD 29 [0, 1, 2, 3, 4, 5, 6] fun Kr hKr => ?_
    simp only [go_sem, he']
    (repeat (refine ⟨by (first | exact True.intro | omega | rfl | (simp; done) | (simp; omega)), ?_⟩)); try (refine hKr _ ?_; clear hKr Kr)
    refine CallK.data (r := .bool true) (fun h => by cases h) rfl ?_
    simp only [go_sem, he']
    (repeat (refine ⟨by (first | exact True.intro | omega | rfl | (simp; done) | (simp; omega)), ?_⟩)); try (refine hKr _ ?_; clear hKr Kr)
    refine T.ret (Fin.dataD (by rw [em]; rfl) rfl rfl)
theorem meantL_spec (l : List Ord) (r : Rec) (ho : ∀ o ∈ l, RightO o) (hl : l.length ≤ 100000) : Ideal.Spec Tryz.prog 33 [tabA, .sl false 7 (ordsOf l), recA r] (.bool (meantB l r)) none := by
  have s1 := containsO_spec l (fun o => meansB o r) 52 [.cp [tabA], recC r] (by intro x hx; simp only [List.mem_cons, List.not_mem_nil, or_false] at hx; rcases hx with rfl | rfl <;> exact ⟨_, rfl⟩) hl (fun o h => meant1_spec o r (ho o h))
  refine Ideal.Spec.of_TD (n := 10) (fn := Tryz.f33) rfl rfl rfl rfl rfl rfl rfl fun w ok => ?_
  simp only [tabA] at s1 ⊢
  refine T.sregD 10 [0, 1, 2, 3, 5, 6] fun Kr hKr => ?_
  simp only [go_sem]
  (repeat (refine ⟨by (first | exact True.intro | omega | rfl | (simp; done) | (simp; omega)), ?_⟩)); try (refine hKr _ ?_; clear hKr Kr)
  refine T.sregD 10 [0, 1, 2, 3, 5, 6] fun Kr hKr => ?_
  simp only [go_sem]
  (repeat (refine ⟨by (first | exact True.intro | omega | rfl | (simp; done) | (simp; omega)), ?_⟩)); try (refine hKr _ ?_; clear hKr Kr)
  refine CallK.data (fun _ => Spec.args (s1) (by (first | exact ArgsLe.refl | (repeat (first | exact True.intro | refine And.intro (by first | exact AvLe.refl | exact AvLe.loose | exact AvLe.nil | exact AvLe.nilT | exact AvLe.slk | (refine AvLe.agg ?_; exact ArgsLe.refl) | (refine AvLe.agg ?_; (repeat (first | exact True.intro | refine And.intro (by first | exact AvLe.refl | exact AvLe.loose | exact AvLe.nil | exact AvLe.nilT | exact AvLe.slk) ?_)))) ?_))))) rfl ?_
  simp only [go_sem]
  (repeat (refine ⟨by (first | exact True.intro | omega | rfl | (simp; done) | (simp; omega)), ?_⟩)); try (refine hKr _ ?_; clear hKr Kr)
  refine T.ret (Fin.dataD rfl rfl rfl)
theorem Means_spec (o : Ord) (r : Rec) (ho : RightO o) (hr : RightR r) : Ideal.Spec Tryz.prog 27 [ordA o, recA r] (.bool (meansB o r)) none := by
  have s1 := rightRecord_spec r hr
  have s2 := forms_spec
  have s3 := rightOrderL_spec o ho
  have s4 := meantL_spec [o] r (by simpa using ho) (by simp)
  have e1 : ordsOf [o] = [ordA o] := rfl
  have e2 : meantB [o] r = meansB o r := by simp [meantB]
  rw [e1, e2] at s4
  refine Ideal.Spec.of_TD (n := 27) (fn := Tryz.f27) rfl rfl rfl rfl rfl rfl rfl fun w ok => ?_
  simp only [tabA] at s2 s3 s4
  refine T.sregD 27 [0, 1, 2, 3, 4, 5, 15] fun Kr hKr => ?_
  simp only [go_sem]
  (repeat (refine ⟨by (first | exact True.intro | omega | rfl | (simp; done) | (simp; omega)), ?_⟩)); try (refine hKr _ ?_; clear hKr Kr)
  refine T.seqK fun K1 hK1 => ?_
  by_cases he : r.e ≤ o.e
  rotate_left
  · have he' : (r.e > o.e) = True := eq_true (by omega)
    have ee : meansB o r = false := by rw [means_mns, decide_eq_false he]; rfl
    refine T.sregD 27 [0, 1, 2, 3, 4, 5, 15] fun Kr hKr => ?_
    simp only [go_sem, he']
    (repeat (refine ⟨by (first | exact True.intro | omega | rfl | (simp; done) | (simp; omega)), ?_⟩)); try (refine hKr _ ?_; clear hKr Kr)
    refine CallK.data (r := .bool true) (fun h => by cases h) rfl ?_
    simp only [go_sem, he']
    (repeat (refine ⟨by (first | exact True.intro | omega | rfl | (simp; done) | (simp; omega)), ?_⟩)); try (refine hKr _ ?_; clear hKr Kr)
    refine T.condTD rfl rfl (fun hb => ?_) (fun hb => ?_) <;> try simp at hb
    refine T.sregD 27 [0, 1, 2, 3, 4, 5, 15] fun Kr hKr => ?_
    simp only [go_sem]
    (repeat (refine ⟨by (first | exact True.intro | omega | rfl | (simp; done) | (simp; omega)), ?_⟩)); try (refine hKr _ ?_; clear hKr Kr)
    refine T.ret (Fin.dataD (by rw [ee]; rfl) rfl rfl)
  have he' : (r.e > o.e) = False := eq_false (by omega)
  refine T.sregD 27 [0, 1, 2, 3, 4, 5, 15] fun Kr hKr => ?_
  simp only [go_sem, he']
  (repeat (refine ⟨by (first | exact True.intro | omega | rfl | (simp; done) | (simp; omega)), ?_⟩)); try (refine hKr _ ?_; clear hKr Kr)
  refine CallK.data (fun _ => Spec.args (s1) (by (first | exact ArgsLe.refl | (repeat (first | exact True.intro | refine And.intro (by first | exact AvLe.refl | exact AvLe.loose | exact AvLe.nil | exact AvLe.nilT | exact AvLe.slk | (refine AvLe.agg ?_; exact ArgsLe.refl) | (refine AvLe.agg ?_; (repeat (first | exact True.intro | refine And.intro (by first | exact AvLe.refl | exact AvLe.loose | exact AvLe.nil | exact AvLe.nilT | exact AvLe.slk) ?_)))) ?_))))) rfl ?_
  simp only [go_sem, he']
  (repeat (refine ⟨by (first | exact True.intro | omega | rfl | (simp; done) | (simp; omega)), ?_⟩)); try (refine hKr _ ?_; clear hKr Kr)
  refine T.condTD rfl rfl (fun hb => ?_) (fun hb => ?_) <;> try simp at hb
  refine T.skip ?_
  refine hK1 _ ?_
  refine T.sregD 27 [0, 1, 2, 3, 4, 5, 15] fun Kr hKr => ?_
  simp only [go_sem]
  (repeat (refine ⟨by (first | exact True.intro | omega | rfl | (simp; done) | (simp; omega)), ?_⟩)); try (refine hKr _ ?_; clear hKr Kr)
  refine CallK.data (fun _ => Spec.args (s2) (by (first | exact ArgsLe.refl | (repeat (first | exact True.intro | refine And.intro (by first | exact AvLe.refl | exact AvLe.loose | exact AvLe.nil | exact AvLe.nilT | exact AvLe.slk | (refine AvLe.agg ?_; exact ArgsLe.refl) | (refine AvLe.agg ?_; (repeat (first | exact True.intro | refine And.intro (by first | exact AvLe.refl | exact AvLe.loose | exact AvLe.nil | exact AvLe.nilT | exact AvLe.slk) ?_)))) ?_))))) rfl ?_
  simp only [go_sem]
  (repeat (refine ⟨by (first | exact True.intro | omega | rfl | (simp; done) | (simp; omega)), ?_⟩)); try (refine hKr _ ?_; clear hKr Kr)
  refine T.sregD 27 [0, 1, 2, 3, 4, 5, 15] fun Kr hKr => ?_
  simp only [go_sem]
  (repeat (refine ⟨by (first | exact True.intro | omega | rfl | (simp; done) | (simp; omega)), ?_⟩)); try (refine hKr _ ?_; clear hKr Kr)
  refine CallK.data (fun _ => Spec.args (s3) (by (first | exact ArgsLe.refl | (repeat (first | exact True.intro | refine And.intro (by first | exact AvLe.refl | exact AvLe.loose | exact AvLe.nil | exact AvLe.nilT | exact AvLe.slk | (refine AvLe.agg ?_; exact ArgsLe.refl) | (refine AvLe.agg ?_; (repeat (first | exact True.intro | refine And.intro (by first | exact AvLe.refl | exact AvLe.loose | exact AvLe.nil | exact AvLe.nilT | exact AvLe.slk) ?_)))) ?_))))) rfl ?_
  simp only [go_sem]
  (repeat (refine ⟨by (first | exact True.intro | omega | rfl | (simp; done) | (simp; omega)), ?_⟩)); try (refine hKr _ ?_; clear hKr Kr)
  refine CallK.data (fun _ => Spec.args (s4) (by (first | exact ArgsLe.refl | (repeat (first | exact True.intro | refine And.intro (by first | exact AvLe.refl | exact AvLe.loose | exact AvLe.nil | exact AvLe.nilT | exact AvLe.slk | (refine AvLe.agg ?_; exact ArgsLe.refl) | (refine AvLe.agg ?_; (repeat (first | exact True.intro | refine And.intro (by first | exact AvLe.refl | exact AvLe.loose | exact AvLe.nil | exact AvLe.nilT | exact AvLe.slk) ?_)))) ?_))))) rfl ?_
  simp only [go_sem]
  (repeat (refine ⟨by (first | exact True.intro | omega | rfl | (simp; done) | (simp; omega)), ?_⟩)); try (refine hKr _ ?_; clear hKr Kr)
  refine T.ret (Fin.dataD rfl rfl rfl)
end Go.Proofs
