/- Documents: contracts of the reference's choice of edits, steps and documents. -/
import Derived.Test.YtdhkkdhooobdhaaD7
set_option linter.unusedVariables false
set_option linter.unusedSimpArgs false
namespace Go.Proofs
open Go Go.Ideal
set_option maxRecDepth 8000
set_option maxHeartbeats 4000000

structure Raw where
  k : UInt8
  a : UInt8
  n : UInt8
  t : UInt8
  s : List UInt8
  deriving Inhabited
@[go_sem] def rawA (x : Raw) : AV := .agg [.int .u8 x.k.toNat, .int .u8 x.a.toNat, .int .u8 x.n.toNat, .int .u8 x.t.toNat, .sl false 1 (bytesOf x.s)]
def rawsOf (l : List Raw) : List AV := l.map rawA
@[go_sem] theorem rawsOf_len (l : List Raw) : (rawsOf l).length = l.length := by simp [rawsOf]
@[go_sem] theorem rawsOf_get {l : List Raw} {i : Nat} (h : i < l.length) : (rawsOf l).getD i .junk = rawA (l.getD i default) := by simp [rawsOf, List.getD, h]
def edLen (x : Raw) (n : Nat) : Nat := x.n.toNat % (n - x.a.toNat % (n + 1) + 1) % 8
def editF (x : Raw) (n : Nat) : Edit :=
  if x.k.toNat % 4 = 0 then ⟨1, (x.a.toNat % (n + 1) : Nat), 0, 0, wordF x.s⟩
  else if x.k.toNat % 4 = 2 then ⟨3, (x.a.toNat % (n + 1) : Nat), edLen x n, (x.t.toNat % (n - edLen x n + 1) : Nat), []⟩
  else ⟨(1 + x.k.toNat % 4 : Nat), (x.a.toNat % (n + 1) : Nat), edLen x n, 0, []⟩
theorem Edit_spec (x : Raw) (n : Nat) (hn : n ≤ 100000) : Ideal.Spec Try.prog 68 [rawA x, .int .i64 n] (editA (editF x n)) none := by
  have sw := word_spec x.s
  have hk := x.k.toNat_lt
  have ha := x.a.toNat_lt
  have hnn := x.n.toNat_lt
  have htt := x.t.toNat_lt
  have hm4 : x.k.toNat % 4 < 4 := Nat.mod_lt _ (by decide)
  have ham : x.a.toNat % (n + 1) ≤ n := by have := Nat.mod_lt x.a.toNat (show 0 < n + 1 by omega); omega
  refine Ideal.Spec.of_CD (n := 51) (fn := Try.f68) rfl rfl rfl rfl rfl rfl rfl fun w ok => ?_
  refine T.post [.tmp 4] ?_
  have hA : ((x.a.toNat : Int) % ((n : Int) + 1)) = ((x.a.toNat % (n + 1) : Nat) : Int) := by simp
  have eE : editF x n = if x.k.toNat % 4 = 0 then ⟨1, (x.a.toNat % (n + 1) : Nat), 0, 0, wordF x.s⟩ else if x.k.toNat % 4 = 2 then ⟨3, (x.a.toNat % (n + 1) : Nat), edLen x n, (x.t.toNat % (n - edLen x n + 1) : Nat), []⟩ else ⟨(1 + x.k.toNat % 4 : Nat), (x.a.toNat % (n + 1) : Nat), edLen x n, 0, []⟩ := rfl
  have hL : edLen x n = x.n.toNat % (n - x.a.toNat % (n + 1) + 1) % 8 := rfl
  have hLe : edLen x n ≤ n := by
    have := Nat.mod_lt x.n.toNat (show 0 < n - x.a.toNat % (n + 1) + 1 by omega)
    have h2 := Nat.mod_le (x.n.toNat % (n - x.a.toNat % (n + 1) + 1)) 8
    omega
  generalize edLen x n = L at *
  refine T.sregD 51 [0, 1, 2, 4, 5, 20, 39] fun Kr hKr => ?_
  simp only [go_sem]
  (repeat (refine ⟨by (first | exact True.intro | omega | rfl | (simp; done) | (simp; omega)), ?_⟩)); try (refine hKr _ ?_; clear hKr Kr)
  refine T.sdrawD 51 [0, 1, 2, 4, 5, 20, 39] (.take 0 (.take 1 (.take 2 (.take 3 (.take 4 (.take 5 (.take 6 (.take 7 (.take 8 (.take 9 (.take 10 (.take 11 (.one 12 (.one 13 .done)))))))))))))) [2] rfl (by decide +kernel) (by decide +kernel) fun Kr hKr => ?_
  simp only [go_sem, hA]
  (repeat (refine ⟨by (first | exact True.intro | omega | rfl | (simp; done) | (simp; omega)), ?_⟩)); try (refine hKr _ ?_; clear hKr Kr)
  generalize x.a.toNat % (n + 1) = A at *
  have hK : (1 + (x.k.toNat : Int) % 4) = ((1 + x.k.toNat % 4 : Nat) : Int) := by omega
  rw [hK]
  refine T.seqK fun K1 hK1 => ?_
  refine T.sregD 51 [0, 1, 2, 4, 5, 20, 39] fun Kr hKr => ?_
  simp only [go_sem]
  (repeat (refine ⟨by (first | exact True.intro | omega | rfl | (simp; done) | (simp; omega)), ?_⟩)); try (refine hKr _ ?_; clear hKr Kr)
  refine T.condTD rfl rfl (fun hb => ?_) (fun hb => ?_) <;> simp only [decide_eq_true_eq, decide_eq_false_iff_not] at hb
  · have hk0 : x.k.toNat % 4 = 0 := by omega
    have ee : editF x n = ⟨1, (A : Nat), 0, 0, wordF x.s⟩ := by rw [eE, if_pos hk0]
    have hK1' : ((1 + x.k.toNat % 4 : Nat) : Int) = 1 := by omega
    rw [hK1']
    refine T.sregD 51 [0, 1, 2, 4, 5, 20, 39] fun Kr hKr => ?_
    simp only [go_sem]
    (repeat (refine ⟨by (first | exact True.intro | omega | rfl | (simp; done) | (simp; omega)), ?_⟩)); try (refine hKr _ ?_; clear hKr Kr)
    refine CallK.data (fun _ => Spec.args (sw) (by (first | exact ArgsLe.refl | (repeat (first | exact True.intro | refine And.intro (by first | exact AvLe.refl | exact AvLe.loose | exact AvLe.nil | exact AvLe.nilT | exact AvLe.slk | (refine AvLe.agg ?_; exact ArgsLe.refl) | (refine AvLe.agg ?_; (repeat (first | exact True.intro | refine And.intro (by first | exact AvLe.refl | exact AvLe.loose | exact AvLe.nil | exact AvLe.nilT | exact AvLe.slk) ?_)))) ?_))))) rfl ?_
    simp only [go_sem]
    (repeat (refine ⟨by (first | exact True.intro | omega | rfl | (simp; done) | (simp; omega)), ?_⟩)); try (refine hKr _ ?_; clear hKr Kr)
    refine T.sregD 51 [0, 1, 2, 4, 5, 20, 39] fun Kr hKr => ?_
    simp only [go_sem]
    (repeat (refine ⟨by (first | exact True.intro | omega | rfl | (simp; done) | (simp; omega)), ?_⟩)); try (refine hKr _ ?_; clear hKr Kr)
    refine T.ret ?_
    simp only [go_sem]
    exact ⟨ResCellD rfl rfl rfl rfl (by simp only [go_sem]) (by rw [ee]; simp only [go_sem]) (by rw [ee]; rfl), trivial⟩
  have hk0 : ¬ x.k.toNat % 4 = 0 := by omega
  rw [if_neg hk0] at eE
  refine T.skip ?_
  refine hK1 _ ?_
  have hB : ((n : Int) - (A : Int) + 1) = ((n - A + 1 : Nat) : Int) := by omega
  have hC : ((x.n.toNat : Int) % ((n - A + 1 : Nat) : Int)) = ((x.n.toNat % (n - A + 1) : Nat) : Int) := rfl
  have hD : (((x.n.toNat % (n - A + 1) : Nat) : Int) % 8) = (L : Int) := by rw [hL]; rfl
  refine T.sregD 51 [0, 1, 2, 4, 5, 20, 39] fun Kr hKr => ?_
  simp only [go_sem, hB, hC, hD]
  (repeat (refine ⟨by (first | exact True.intro | omega | rfl | (simp; done) | (simp; omega)), ?_⟩)); try (refine hKr _ ?_; clear hKr Kr)
  refine T.seqK fun K2 hK2 => ?_
  refine T.sregD 51 [0, 1, 2, 4, 5, 20, 39] fun Kr hKr => ?_
  simp only [go_sem]
  (repeat (refine ⟨by (first | exact True.intro | omega | rfl | (simp; done) | (simp; omega)), ?_⟩)); try (refine hKr _ ?_; clear hKr Kr)
  refine T.condTD rfl rfl (fun hc => ?_) (fun hc => ?_) <;> simp only [decide_eq_true_eq, decide_eq_false_iff_not] at hc
  · have hk2 : x.k.toNat % 4 = 2 := by omega
    have ee : editF x n = ⟨3, (A : Nat), L, (x.t.toNat % (n - L + 1) : Nat), []⟩ := by rw [eE, if_pos hk2]
    have hK1' : ((1 + x.k.toNat % 4 : Nat) : Int) = 3 := by omega
    have hF : ((n : Int) - (L : Int) + 1) = ((n - L + 1 : Nat) : Int) := by omega
    have hG : ((x.t.toNat : Int) % ((n - L + 1 : Nat) : Int)) = ((x.t.toNat % (n - L + 1) : Nat) : Int) := rfl
    generalize hT : x.t.toNat % (n - L + 1) = TT at *
    rw [hK1']
    refine T.regD 51 [0, 1, 2, 4, 5, 20, 39] fun Kr hKr => ?_
    simp only [go_sem, hF, hG]
    (repeat (refine ⟨by (first | exact True.intro | omega | rfl | (simp; done) | (simp; omega)), ?_⟩)); try (refine hKr _ ?_; clear hKr Kr)
    refine hK2 _ ?_
    refine T.sregD 51 [0, 1, 2, 4, 5, 20, 39] fun Kr hKr => ?_
    simp only [go_sem]
    (repeat (refine ⟨by (first | exact True.intro | omega | rfl | (simp; done) | (simp; omega)), ?_⟩)); try (refine hKr _ ?_; clear hKr Kr)
    refine T.ret ?_
    simp only [go_sem]
    exact ⟨ResCellD rfl rfl rfl rfl (by simp only [go_sem]) (by rw [ee]; simp only [go_sem]) (by rw [ee]; rfl), trivial⟩
  have hk2 : ¬ x.k.toNat % 4 = 2 := by omega
  have ee : editF x n = ⟨(1 + x.k.toNat % 4 : Nat), (A : Nat), L, 0, []⟩ := by rw [eE, if_neg hk2]
  refine T.skip ?_
  refine hK2 _ ?_
  refine T.sregD 51 [0, 1, 2, 4, 5, 20, 39] fun Kr hKr => ?_
  simp only [go_sem]
  (repeat (refine ⟨by (first | exact True.intro | omega | rfl | (simp; done) | (simp; omega)), ?_⟩)); try (refine hKr _ ?_; clear hKr Kr)
  refine T.ret ?_
  simp only [go_sem]
  exact ⟨ResCellD rfl rfl rfl rfl (by simp only [go_sem]) (by rw [ee]; simp only [go_sem]) (by rw [ee]; rfl), trivial⟩

/-! ### Steps -/
theorem wordF_len (l : List UInt8) : 1 ≤ (wordF l).length ∧ (wordF l).length ≤ 4 := by
  unfold wordF
  split
  · exact ⟨by decide, by decide⟩
  · rename_i h
    have : 0 < l.length := List.length_pos_iff.2 h
    simp; omega
theorem editF_len (x : Raw) (n : Nat) : (editF x n).s.length ≤ 4 := by
  unfold editF
  split
  · exact (wordF_len _).2
  · split <;> simp
/-! ### Valid documents lead to valid documents -/
theorem plainB_app (s t : List UInt8) : plainB (s ++ t) = (plainB s && plainB t) := by simp [plainB]
theorem plainB_take {s : List UInt8} (h : plainB s = true) (n : Nat) : plainB (s.take n) = true := by
  simp only [plainB, List.all_eq_true] at h ⊢
  exact fun x hx => h x (List.mem_of_mem_take hx)
theorem plainB_drop {s : List UInt8} (h : plainB s = true) (n : Nat) : plainB (s.drop n) = true := by
  simp only [plainB, List.all_eq_true] at h ⊢
  exact fun x hx => h x (List.mem_of_mem_drop hx)
theorem chg_plain {s : List UInt8} {e : Edit} (hs : plainB s = true) (he : e.k = 1 → plainB e.s = true) : plainB (chg s e) = true := by
  unfold chg
  split
  · rename_i h
    simp [plainB_app, plainB_take hs, plainB_drop hs, he h]
  · split
    · simp [plainB_app, plainB_take hs, plainB_drop hs]
    · split
      · have : plainB (s.take e.a.toNat ++ s.drop (e.a + e.n).toNat) = true := by simp [plainB_app, plainB_take hs, plainB_drop hs]
        rw [plainB_app, plainB_app, plainB_take this, plainB_drop this, plainB_drop (plainB_take hs _)]; rfl
      · exact hs
/-- Where a mark is after an edit. -/
theorem carM_ok {e : Edit} {m m' : Mark} {s : List UInt8} (hp : possB e s.length = true) (hm : 0 ≤ m.f ∧ m.f < m.t ∧ m.t ≤ s.length) (h : carM e m = some m') : m'.id = m.id ∧ 0 ≤ m'.f ∧ m'.f < m'.t ∧ m'.t ≤ (chg s e).length := by
  obtain ⟨q1, q2, q3, q4, q5, q6, q7⟩ := possB_smE hp
  have hcl := chg_len hp
  unfold carM at h
  have ins : ∀ (a n : Int) (x : Mark), 0 ≤ x.f → x.f < x.t → 0 ≤ n → (insM a n x).id = x.id ∧ 0 ≤ (insM a n x).f ∧ (insM a n x).f < (insM a n x).t ∧ (insM a n x).t ≤ x.t + n := by
    intro a n x h1 h2 h3
    unfold insM
    split
    · exact ⟨rfl, h1, h2, by omega⟩
    · split
      · exact ⟨rfl, by simp only; omega, by simp only; omega, by simp only; omega⟩
      · exact ⟨rfl, h1, by simp only; omega, by simp only; omega⟩
  have shb : ∀ p : Int, 0 ≤ p → p ≤ s.length → 0 ≤ e.n → e.n ≤ s.length - e.a → 0 ≤ shutP p e.a e.n ∧ shutP p e.a e.n ≤ s.length - e.n := by
    intro p h1 h2 h3 h4
    unfold shutP; (repeat' split) <;> omega
  by_cases h1 : e.k = 1
  · rw [if_pos h1] at h hcl
    cases h
    obtain ⟨a1, a2, a3, a4⟩ := ins e.a e.s.length m hm.1 hm.2.1 (by omega)
    exact ⟨a1, a2, a3, by omega⟩
  rw [if_neg h1] at h hcl
  obtain ⟨r1, r2⟩ := q6 h1
  obtain ⟨f1, f2⟩ := shb m.f hm.1 (by omega) r1 r2
  obtain ⟨t1, t2⟩ := shb m.t (by omega) hm.2.2 r1 r2
  by_cases h2 : e.k = 2
  · rw [if_pos h2] at h hcl
    unfold delM at h
    split at h
    · cases h
    · cases h
      exact ⟨rfl, f1, by simp only [delW]; omega, by simp only [delW]; omega⟩
  rw [if_neg h2] at h hcl
  by_cases h3 : e.k = 3 ∧ e.n > 0
  · rw [if_pos h3] at h
    obtain ⟨r3, r4⟩ := q7 h3.1
    unfold movM at h
    split at h
    · cases h
      rename_i hh
      exact ⟨rfl, by simp only; omega, by simp only; omega, by simp only; omega⟩
    · unfold delM at h
      split at h
      · rename_i hd; split at hd <;> cases h
      · rename_i y hd
        split at hd
        · cases hd
        · cases hd
          cases h
          obtain ⟨a1, a2, a3, a4⟩ := ins e.t e.n (delW e.a e.n m) f1 (by simp only [delW]; omega) r1
          refine ⟨a1, a2, a3, ?_⟩
          have : (delW e.a e.n m).t = shutP m.t e.a e.n := rfl
          omega
  · rw [if_neg h3] at h
    cases h
    exact ⟨rfl, hm.1, hm.2.1, by omega⟩
theorem carL_mem {l : List Mark} {e : Edit} {m' : Mark} (h : m' ∈ carL l e) : ∃ m ∈ l, carM e m = some m' := by
  simpa [carL] using h
theorem carL_srt {d : Doc} {e : Edit} (hd : OkD d) (hp : possB e d.s.length = true) : Srt (carL d.m e) := by
  unfold Srt carL
  rw [List.pairwise_filterMap]
  refine hd.srt.imp_of_mem ?_
  intro a b ha hb hab a' ha' b' hb'
  obtain ⟨_, h1⟩ := hd.mks a ha
  obtain ⟨_, h2⟩ := hd.mks b hb
  rw [(carM_ok hp h1 ha').1, (carM_ok hp h2 hb').1]; exact hab
theorem doF_ok {d : Doc} {e : Edit} (hd : OkD d) (h0 : (doF d e).2 = 0) : OkD (doF d e).1 ∧ ∀ m ∈ (doF d e).1.m, ∃ m0 ∈ d.m, m.id = m0.id := by
  unfold doF at h0 ⊢
  split at h0
  · cases h0
  rename_i hp
  have hp : possB e d.s.length = true := by simpa using hp
  split at h0
  · cases h0
  rename_i hbig
  rw [if_neg (by rw [hp]; decide), if_neg hbig]
  have hcl := chg_len hp
  obtain ⟨q1, q2, q3, q4, q5, q6, q7⟩ := possB_smE hp
  have hlen := hd.len
  have hml := carL_len d.m e
  have hcnt := hd.cnt
  refine ⟨⟨?_, chg_plain hd.pl fun h => (q5 h).2.2, by show (carL d.m e).length ≤ 100; omega, carL_srt hd hp, ?_⟩, ?_⟩
  · show (chg d.s e).length ≤ 400
    by_cases h1 : e.k = 1
    · rw [if_pos h1] at hcl; omega
    · rw [if_neg h1] at hcl
      have := q6 h1
      split at hcl <;> omega
  · intro m hm
    obtain ⟨m0, h1, h2⟩ := carL_mem hm
    obtain ⟨g0, g1⟩ := hd.mks m0 h1
    obtain ⟨a1, a2, a3, a4⟩ := carM_ok hp g1 h2
    exact ⟨by omega, a2, a3, a4⟩
  · intro m hm
    obtain ⟨m0, h1, h2⟩ := carL_mem hm
    obtain ⟨g0, g1⟩ := hd.mks m0 h1
    exact ⟨m0, h1, (carM_ok hp g1 h2).1⟩
theorem mem_insL {l : List Mark} {i : Nat} {m x : Mark} : x ∈ insL l i m ↔ x = m ∨ x ∈ l := by
  unfold insL
  rw [List.mem_append, List.mem_cons]
  constructor
  · rintro (h | h | h)
    · exact .inr (List.mem_of_mem_take h)
    · exact .inl h
    · exact .inr (List.mem_of_mem_drop h)
  · rintro (h | h)
    · exact .inr (.inl h)
    · have : x ∈ l.take i ++ l.drop i := by rw [List.take_append_drop]; exact h
      rcases List.mem_append.1 this with h | h
      · exact .inl h
      · exact .inr (.inr h)
theorem idx_take {l : List Mark} {id : Int} : ∀ x ∈ l.take (idx l id), x.id < id := by
  intro x hx
  have e : l.take (idx l id) = l.takeWhile fun m => decide (m.id < id) := by
    have := List.take_left (l₁ := l.takeWhile fun m => decide (m.id < id)) (l₂ := l.dropWhile fun m => decide (m.id < id))
    rw [List.takeWhile_append_dropWhile] at this
    exact this
  rw [e] at hx
  have := List.all_takeWhile (p := fun m : Mark => decide (m.id < id)) (l := l)
  simpa using List.all_eq_true.1 this x hx
theorem idx_drop {l : List Mark} {id : Int} (hs : Srt l) : ∀ x ∈ l.drop (idx l id), id ≤ x.id := by
  induction l with
  | nil => simp
  | cons a l ih =>
    by_cases h : a.id < id
    · have e1 : idx (a :: l) id = idx l id + 1 := by simp [idx, List.takeWhile_cons, h]
      rw [e1, List.drop_succ_cons]
      exact ih (List.Pairwise.of_cons hs)
    · have e1 : idx (a :: l) id = 0 := by simp [idx, List.takeWhile_cons, h]
      rw [e1, List.drop_zero]
      intro x hx
      rcases List.mem_cons.1 hx with rfl | hx
      · omega
      · have := List.rel_of_pairwise_cons hs hx
        omega
theorem insL_srt {l : List Mark} {m : Mark} (hs : Srt l) (hn : ∀ x ∈ l, x.id ≠ m.id) : Srt (insL l (idx l m.id) m) := by
  unfold Srt insL
  rw [List.pairwise_append]
  refine ⟨hs.sublist (List.take_sublist _ _), List.Pairwise.cons ?_ (hs.sublist (List.drop_sublist _ _)), ?_⟩
  · intro x hx
    have h1 := idx_drop hs x hx
    have h2 := hn x (List.mem_of_mem_drop hx)
    omega
  · intro a ha b hb
    have h1 := idx_take a ha
    rcases List.mem_cons.1 hb with rfl | hb
    · exact h1
    · have := idx_drop hs b hb
      omega
theorem putF_ok {d : Doc} {id at_ : Int} {text : List UInt8} (hd : OkD d) (h0 : (putF d id at_ text).2 = 0) : OkD (putF d id at_ text).1 ∧ ∀ m ∈ (putF d id at_ text).1.m, m.id = id ∨ ∃ m0 ∈ d.m, m.id = m0.id := by
  unfold putF at h0 ⊢
  split at h0
  · cases h0
  rename_i hno
  split at h0
  · cases h0
  rename_i hbig
  rw [if_neg hno, if_neg hbig]
  simp only [not_or, Bool.not_eq_false, Bool.not_eq_true] at hno
  obtain ⟨hp, hid, hh⟩ := hno
  have hcl := chg_len hp
  obtain ⟨q1, q2, q3, q4, q5, q6, q7⟩ := possB_smE hp
  have hq5 := q5 rfl
  rw [if_pos (show (putE at_ text).k = 1 from rfl)] at hcl
  have hlen := hd.len
  have hll : (carL d.m (putE at_ text)).length = d.m.length := by rw [carL_ins rfl]; simp
  have hidx : idx (carL d.m (putE at_ text)) id = idx d.m id := by rw [carL_ins rfl]; exact idx_map (insM_id _ _) _ _
  have hne : ∀ x ∈ carL d.m (putE at_ text), x.id ≠ id := by
    intro x hx
    rw [carL_ins rfl] at hx
    obtain ⟨y, hy, rfl⟩ := List.mem_map.1 hx
    rw [insM_id]
    simpa using List.any_eq_false.1 hh y hy
  simp only [putE] at hcl hq5 q3 q4
  refine ⟨⟨?_, chg_plain hd.pl fun h => (q5 h).2.2, ?_, ?_, ?_⟩, ?_⟩
  · show (chg d.s (putE at_ text)).length ≤ 400
    simp only [putE]; omega
  · show (insL (carL d.m (putE at_ text)) (idx d.m id) _).length ≤ 100
    unfold insL
    simp only [List.length_append, List.length_take, List.length_cons, List.length_drop]; omega
  · have := insL_srt (m := ⟨id, at_, at_ + text.length, true⟩) (carL_srt hd hp) hne
    rw [hidx] at this
    exact this
  · intro m hm
    rcases mem_insL.1 hm with rfl | hm
    · refine ⟨by simp only; omega, q3, by simp only; omega, ?_⟩
      show at_ + (text.length : Int) ≤ ((chg d.s (putE at_ text)).length : Int)
      simp only [putE]; omega
    · obtain ⟨m0, h1, h2⟩ := carL_mem hm
      obtain ⟨g0, g1⟩ := hd.mks m0 h1
      obtain ⟨a1, a2, a3, a4⟩ := carM_ok hp g1 h2
      exact ⟨by omega, a2, a3, a4⟩
  · intro m hm
    rcases mem_insL.1 hm with rfl | hm
    · exact .inl rfl
    · obtain ⟨m0, h1, h2⟩ := carL_mem hm
      obtain ⟨g0, g1⟩ := hd.mks m0 h1
      exact .inr ⟨m0, h1, (carM_ok hp g1 h2).1⟩
theorem noDoc_ok : OkD noDoc := ⟨by decide, rfl, by decide, List.Pairwise.nil, by simp [noDoc]⟩
end Go.Proofs
