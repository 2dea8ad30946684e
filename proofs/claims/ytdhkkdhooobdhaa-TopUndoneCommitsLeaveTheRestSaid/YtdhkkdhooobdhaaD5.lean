/- Documents: contracts of doing an edit, putting a text, the text of a mark. -/
import Derived.Test.YtdhkkdhooobdhaaD4
import Derived.Test.YtdhkkdhooobdhaaCoreV
set_option linter.unusedVariables false
set_option linter.unusedSimpArgs false
namespace Go.Proofs
open Go Go.Ideal
set_option maxRecDepth 8000
set_option maxHeartbeats 4000000

structure OkD (d : Doc) : Prop where
  len : d.s.length ≤ 400
  pl : plainB d.s = true
  cnt : d.m.length ≤ 100
  srt : Srt d.m
  mks : ∀ m ∈ d.m, 0 ≤ m.id ∧ 0 ≤ m.f ∧ m.f < m.t ∧ m.t ≤ d.s.length
theorem OkD.sm {d : Doc} (h : OkD d) : ∀ m ∈ d.m, SmM m := fun m hm => by
  obtain ⟨_, h1, h2, h3⟩ := h.mks m hm
  have := h.len
  exact ⟨⟨by omega, by omega⟩, by omega, by omega⟩
theorem SmW_of {e : Edit} {n : Nat} (hn : n ≤ 400) (hp : possB e n = true) (hs : e.s.length ≤ 100000) : SmW e := by
  obtain ⟨q1, q2, q3, q4, q5, q6, q7⟩ := possB_smE hp
  exact ⟨⟨q3, by omega⟩, fun h => ⟨(q6 h).1, by have := (q6 h).2; omega⟩, fun h => ⟨(q7 h).1, by have := (q7 h).2; have := q6 (by omega); omega⟩, hs⟩

def docX (ex : Bool) (r : Doc × Int) : AV := if r.2 = 0 then .agg [.str r.1.s, .sl ex 4 (mksOf r.1.m)] else .agg [.str [], .sl true 1 []]
theorem docX_le (ex : Bool) (r : Doc × Int) (h : r.2 ≠ 0 → r.1 = noDoc) : ArgsLe [docX ex r, .int .i64 r.2] [docA r.1, .int .i64 r.2] := by
  refine ⟨?_, AvLe.refl, trivial⟩
  unfold docX
  split
  · exact AvLe.agg ⟨AvLe.refl, AvLe.loose, trivial⟩
  · rename_i hr
    rw [h hr]
    exact AvLe.agg ⟨AvLe.refl, AvLe.nil, trivial⟩
theorem docX_fin (ex : Bool) (r : Doc × Int) : [docX ex r, AV.int .i64 r.2].all AV.fin = true := by
  unfold docX; split <;> rfl

def doF (d : Doc) (e : Edit) : Doc × Int :=
  if possB e d.s.length = false then (noDoc, 290) else if e.k = 1 ∧ (d.s.length : Int) + e.s.length > 400 then (noDoc, 2) else (⟨chg d.s e, carL d.m e⟩, 0)
theorem doF_no (d : Doc) (e : Edit) (h : (doF d e).2 ≠ 0) : (doF d e).1 = noDoc := by
  unfold doF at h ⊢
  split
  · rfl
  · split
    · rfl
    · rename_i h1 h2; rw [if_neg h1, if_neg h2] at h; exact absurd rfl h
theorem Do_spec (d : Doc) (e : Edit) (hd : OkD d) (hl : e.s.length ≤ 100000) : Ideal.Spec Try.prog 108 [docA d, editA e] (.tup [docA (doF d e).1, .int .i64 (doF d e).2]) none := by
  have hlen := hd.len
  have sp := possible_spec e d.s.length ⟨by omega, by omega⟩ (by omega)
  have sc := fun hp => change_spec d.s e (by omega) hl hp
  have sk := fun hp => carried_spec d.m e (by have := hd.cnt; omega) hd.sm (SmW_of hlen hp hl)
  refine Spec.weakT (rs := [docX true (doF d e), .int .i64 (doF d e).2]) ?_ (docX_fin _ _) rfl (docX_le _ _ (doF_no d e))
  refine Ideal.Spec.of_MD (n := 36) (fn := Try.f108) rfl rfl rfl rfl (docX_fin _ _) rfl rfl fun w ok => ?_
  refine T.post [.tmp 4] ?_
  refine T.sregD 36 [0, 1, 2, 3, 4, 5, 11, 25] fun Kr hKr => ?_
  simp only [go_sem]
  (repeat (refine ⟨by (first | exact True.intro | omega | rfl | (simp; done) | (simp; omega)), ?_⟩)); try (refine hKr _ ?_; clear hKr Kr)
  refine T.seqK fun K1 hK1 => ?_
  refine T.sregD 36 [0, 1, 2, 3, 4, 5, 11, 25] fun Kr hKr => ?_
  simp only [go_sem]
  (repeat (refine ⟨by (first | exact True.intro | omega | rfl | (simp; done) | (simp; omega)), ?_⟩)); try (refine hKr _ ?_; clear hKr Kr)
  refine CallK.data (fun _ => Spec.args (sp) (by (first | exact ArgsLe.refl | (repeat (first | exact True.intro | refine And.intro (by first | exact AvLe.refl | exact AvLe.loose | exact AvLe.nil | exact AvLe.nilT | exact AvLe.slk | (refine AvLe.agg ?_; exact ArgsLe.refl) | (refine AvLe.agg ?_; (repeat (first | exact True.intro | refine And.intro (by first | exact AvLe.refl | exact AvLe.loose | exact AvLe.nil | exact AvLe.nilT | exact AvLe.slk) ?_)))) ?_))))) rfl ?_
  simp only [go_sem]
  (repeat (refine ⟨by (first | exact True.intro | omega | rfl | (simp; done) | (simp; omega)), ?_⟩)); try (refine hKr _ ?_; clear hKr Kr)
  refine T.condTD rfl rfl (fun hb => ?_) (fun hb => ?_) <;> simp at hb
  · have ee : doF d e = (noDoc, 290) := by unfold doF; rw [if_pos hb]
    have e2 : docX true (doF d e) = .agg [.str [], .sl true 1 []] := by rw [ee]; rfl
    refine T.sregD 36 [0, 1, 2, 3, 4, 5, 11, 25] fun Kr hKr => ?_
    simp only [go_sem]
    (repeat (refine ⟨by (first | exact True.intro | omega | rfl | (simp; done) | (simp; omega)), ?_⟩)); try (refine hKr _ ?_; clear hKr Kr)
    refine T.ret ?_
    simp only [go_sem]
    exact ⟨ResCellD rfl rfl rfl rfl (by simp only [go_sem]) (by rw [e2]; simp only [go_sem]) (by rw [e2]; rfl), ResAtD (by rw [ee]; rfl) rfl rfl, trivial⟩
  refine T.skip ?_
  refine hK1 _ ?_
  refine T.seqK fun K2 hK2 => ?_
  refine T.sregD 36 [0, 1, 2, 3, 4, 5, 11, 25] fun Kr hKr => ?_
  simp only [go_sem, cond_and]
  (repeat (refine ⟨by (first | exact True.intro | omega | rfl | (simp; done) | (simp; omega)), ?_⟩)); try (refine hKr _ ?_; clear hKr Kr)
  refine T.condTD rfl rfl (fun hc => ?_) (fun hc => ?_) <;> simp [-not_and] at hc
  · have ee : doF d e = (noDoc, 2) := by unfold doF; rw [if_neg (by rw [hb]; decide), if_pos ⟨hc.1, by omega⟩]
    have e2 : docX true (doF d e) = .agg [.str [], .sl true 1 []] := by rw [ee]; rfl
    refine T.sregD 36 [0, 1, 2, 3, 4, 5, 11, 25] fun Kr hKr => ?_
    simp only [go_sem]
    (repeat (refine ⟨by (first | exact True.intro | omega | rfl | (simp; done) | (simp; omega)), ?_⟩)); try (refine hKr _ ?_; clear hKr Kr)
    refine T.ret ?_
    simp only [go_sem]
    exact ⟨ResCellD rfl rfl rfl rfl (by simp only [go_sem]) (by rw [e2]; simp only [go_sem]) (by rw [e2]; rfl), ResAtD (by rw [ee]; rfl) rfl rfl, trivial⟩
  have ee : doF d e = (⟨chg d.s e, carL d.m e⟩, 0) := by unfold doF; rw [if_neg (by rw [hb]; decide), if_neg (by omega)]
  have e2 : docX true (doF d e) = .agg [.str (chg d.s e), .sl true 4 (mksOf (carL d.m e))] := by rw [ee]; rfl
  refine T.skip ?_
  refine hK2 _ ?_
  refine T.sdrawD 36 [0, 1, 2, 3, 4, 5, 11, 25] (.take 0 (.take 1 (.take 2 (.take 4 (.take 5 (.take 6 (.one 3 (.one 7 (.take 8 (.one 9 (.take 10 .done))))))))))) [2, 3] rfl (by decide +kernel) (by decide +kernel) fun Kr hKr => ?_
  simp only [go_sem]
  (repeat (refine ⟨by (first | exact True.intro | omega | rfl | (simp; done) | (simp; omega)), ?_⟩)); try (refine hKr _ ?_; clear hKr Kr)
  refine CallK.data (fun _ => Spec.args (sc hb) (by (first | exact ArgsLe.refl | (repeat (first | exact True.intro | refine And.intro (by first | exact AvLe.refl | exact AvLe.loose | exact AvLe.nil | exact AvLe.nilT | exact AvLe.slk | (refine AvLe.agg ?_; exact ArgsLe.refl) | (refine AvLe.agg ?_; (repeat (first | exact True.intro | refine And.intro (by first | exact AvLe.refl | exact AvLe.loose | exact AvLe.nil | exact AvLe.nilT | exact AvLe.slk) ?_)))) ?_))))) rfl ?_
  simp only [go_sem]
  (repeat (refine ⟨by (first | exact True.intro | omega | rfl | (simp; done) | (simp; omega)), ?_⟩)); try (refine hKr _ ?_; clear hKr Kr)
  refine CallK.data (fun _ => Spec.args (sk hb) (by (first | exact ArgsLe.refl | (repeat (first | exact True.intro | refine And.intro (by first | exact AvLe.refl | exact AvLe.loose | exact AvLe.nil | exact AvLe.nilT | exact AvLe.slk | (refine AvLe.agg ?_; exact ArgsLe.refl) | (refine AvLe.agg ?_; (repeat (first | exact True.intro | refine And.intro (by first | exact AvLe.refl | exact AvLe.loose | exact AvLe.nil | exact AvLe.nilT | exact AvLe.slk) ?_)))) ?_))))) rfl ?_
  simp only [go_sem]
  (repeat (refine ⟨by (first | exact True.intro | omega | rfl | (simp; done) | (simp; omega)), ?_⟩)); try (refine hKr _ ?_; clear hKr Kr)
  refine T.ret ?_
  simp only [go_sem]
  exact ⟨ResCellD rfl rfl rfl rfl (by simp only [go_sem]) (by rw [e2]; simp only [go_sem]) (by rw [e2]; rfl), ResAtD (by rw [ee]; rfl) rfl rfl, trivial⟩

/-! ### Putting -/
theorem carL_ins {l : List Mark} {e : Edit} (h : e.k = 1) : carL l e = l.map (insM e.a e.s.length) := by
  unfold carL
  induction l with
  | nil => rfl
  | cons m l ih =>
    rw [List.filterMap_cons, ih]
    simp [carM, h]
theorem idx_le (l : List Mark) (id : Int) : idx l id ≤ l.length := (List.takeWhile_sublist _).length_le
def putE (at_ : Int) (text : List UInt8) : Edit := ⟨1, at_, 0, 0, text⟩
def putF (d : Doc) (id at_ : Int) (text : List UInt8) : Doc × Int :=
  if possB (putE at_ text) d.s.length = false ∨ id < 0 ∨ hasId d.m id = true then (noDoc, 290)
  else if (d.s.length : Int) + text.length > 400 ∨ (d.m.length : Int) ≥ 100 then (noDoc, 2)
  else (⟨chg d.s (putE at_ text), insL (carL d.m (putE at_ text)) (idx d.m id) ⟨id, at_, at_ + text.length, true⟩⟩, 0)
theorem putF_no (d : Doc) (id at_ : Int) (text : List UInt8) (h : (putF d id at_ text).2 ≠ 0) : (putF d id at_ text).1 = noDoc := by
  unfold putF at h ⊢
  split
  · rfl
  · split
    · rfl
    · rename_i h1 h2; rw [if_neg h1, if_neg h2] at h; exact absurd rfl h
theorem Put_spec (d : Doc) (id at_ : Int) (text : List UInt8) (hd : OkD d) (hl : text.length ≤ 100000) :
    Ideal.Spec Try.prog 39 [docA d, .int .i64 id, .int .i64 at_, .str text] (.tup [docA (putF d id at_ text).1, .int .i64 (putF d id at_ text).2]) none := by
  have hlen := hd.len
  have hcnt := hd.cnt
  have sp := possible_spec (putE at_ text) d.s.length ⟨by omega, by omega⟩ (by simp only [putE]; omega)
  have sc := fun hp => change_spec d.s (putE at_ text) (by omega) hl hp
  have sk := fun hp => carried_spec d.m (putE at_ text) (by omega) hd.sm (SmW_of hlen hp hl)
  have sb := bs_spec d.m id (by omega) hd.srt
  have hcl : (carL d.m (putE at_ text)).length = d.m.length := by rw [carL_ins rfl]; simp
  have si := fun m => ins_spec (carL d.m (putE at_ text)) m (idx d.m id) (by omega) (by rw [hcl]; exact idx_le _ _)
  refine Spec.weakT (rs := [docX false (putF d id at_ text), .int .i64 (putF d id at_ text).2]) ?_ (docX_fin _ _) rfl (docX_le _ _ (putF_no d id at_ text))
  refine Ideal.Spec.of_MD (n := 72) (fn := Try.f39) rfl rfl rfl rfl (docX_fin _ _) rfl rfl fun w ok => ?_
  refine T.post [.tmp 8] ?_
  simp only [putE] at sp sc sk si
  refine T.sregD 72 [0, 1, 2, 3, 4, 8, 9, 10, 11, 12, 13, 36, 50] fun Kr hKr => ?_
  simp only [go_sem]
  (repeat (refine ⟨by (first | exact True.intro | omega | rfl | (simp; done) | (simp; omega)), ?_⟩)); try (refine hKr _ ?_; clear hKr Kr)
  refine T.sregD 72 [0, 1, 2, 3, 4, 8, 9, 10, 11, 12, 13, 36, 50] fun Kr hKr => ?_
  simp only [go_sem]
  (repeat (refine ⟨by (first | exact True.intro | omega | rfl | (simp; done) | (simp; omega)), ?_⟩)); try (refine hKr _ ?_; clear hKr Kr)
  refine T.sregD 72 [0, 1, 2, 3, 4, 8, 9, 10, 11, 12, 13, 36, 50] fun Kr hKr => ?_
  simp only [go_sem]
  (repeat (refine ⟨by (first | exact True.intro | omega | rfl | (simp; done) | (simp; omega)), ?_⟩)); try (refine hKr _ ?_; clear hKr Kr)
  refine CallK.tup (fun _ => Spec.args (sb) (by (first | exact ArgsLe.refl | (repeat (first | exact True.intro | refine And.intro (by first | exact AvLe.refl | exact AvLe.loose | exact AvLe.nil | exact AvLe.nilT | exact AvLe.slk | (refine AvLe.agg ?_; exact ArgsLe.refl) | (refine AvLe.agg ?_; (repeat (first | exact True.intro | refine And.intro (by first | exact AvLe.refl | exact AvLe.loose | exact AvLe.nil | exact AvLe.nilT | exact AvLe.slk) ?_)))) ?_))))) ?_
  simp only [go_sem]
  (repeat (refine ⟨by (first | exact True.intro | omega | rfl | (simp; done) | (simp; omega)), ?_⟩)); try (refine hKr _ ?_; clear hKr Kr)
  refine T.seqK fun K1 hK1 => ?_
  refine T.sregD 72 [0, 1, 2, 3, 4, 8, 9, 10, 11, 12, 13, 36, 50] fun Kr hKr => ?_
  simp only [go_sem]
  (repeat (refine ⟨by (first | exact True.intro | omega | rfl | (simp; done) | (simp; omega)), ?_⟩)); try (refine hKr _ ?_; clear hKr Kr)
  refine CallK.data (fun _ => Spec.args (sp) (by (first | exact ArgsLe.refl | (repeat (first | exact True.intro | refine And.intro (by first | exact AvLe.refl | exact AvLe.loose | exact AvLe.nil | exact AvLe.nilT | exact AvLe.slk | (refine AvLe.agg ?_; exact ArgsLe.refl) | (refine AvLe.agg ?_; (repeat (first | exact True.intro | refine And.intro (by first | exact AvLe.refl | exact AvLe.loose | exact AvLe.nil | exact AvLe.nilT | exact AvLe.slk) ?_)))) ?_))))) rfl ?_
  simp only [go_sem, cond_or]
  (repeat (refine ⟨by (first | exact True.intro | omega | rfl | (simp; done) | (simp; omega)), ?_⟩)); try (refine hKr _ ?_; clear hKr Kr)
  refine T.condTD rfl rfl (fun hb => ?_) (fun hb => ?_) <;> simp only [Bool.or_eq_true, Bool.or_eq_false_iff, Bool.not_eq_true', Bool.not_eq_false', decide_eq_true_eq, decide_eq_false_iff_not] at hb
  · have ee : putF d id at_ text = (noDoc, 290) := by unfold putF putE; rw [if_pos (by rcases hb with (h | h) | h <;> simp [h])]
    have e2 : docX false (putF d id at_ text) = .agg [.str [], .sl true 1 []] := by rw [ee]; rfl
    refine T.sregD 72 [0, 1, 2, 3, 4, 8, 9, 10, 11, 12, 13, 36, 50] fun Kr hKr => ?_
    simp only [go_sem]
    (repeat (refine ⟨by (first | exact True.intro | omega | rfl | (simp; done) | (simp; omega)), ?_⟩)); try (refine hKr _ ?_; clear hKr Kr)
    refine T.ret ?_
    simp only [go_sem]
    exact ⟨ResCellD rfl rfl rfl rfl (by simp only [go_sem]) (by rw [e2]; simp only [go_sem]) (by rw [e2]; rfl), ResAtD (by rw [ee]; rfl) rfl rfl, trivial⟩
  obtain ⟨⟨hb1, hb2⟩, hb3⟩ := hb
  have hno : ¬ (possB (putE at_ text) d.s.length = false ∨ id < 0 ∨ hasId d.m id = true) := by
    unfold putE; rw [hb1, hb3]; simp; omega
  refine T.skip ?_
  refine hK1 _ ?_
  refine T.seqK fun K2 hK2 => ?_
  refine T.sregD 72 [0, 1, 2, 3, 4, 8, 9, 10, 11, 12, 13, 36, 50] fun Kr hKr => ?_
  simp only [go_sem, cond_or]
  (repeat (refine ⟨by (first | exact True.intro | omega | rfl | (simp; done) | (simp; omega)), ?_⟩)); try (refine hKr _ ?_; clear hKr Kr)
  refine T.condTD rfl rfl (fun hc => ?_) (fun hc => ?_) <;> simp only [Bool.or_eq_true, Bool.or_eq_false_iff, decide_eq_true_eq, decide_eq_false_iff_not] at hc
  · have ee : putF d id at_ text = (noDoc, 2) := by unfold putF; rw [if_neg hno, if_pos (by omega)]
    have e2 : docX false (putF d id at_ text) = .agg [.str [], .sl true 1 []] := by rw [ee]; rfl
    refine T.sregD 72 [0, 1, 2, 3, 4, 8, 9, 10, 11, 12, 13, 36, 50] fun Kr hKr => ?_
    simp only [go_sem]
    (repeat (refine ⟨by (first | exact True.intro | omega | rfl | (simp; done) | (simp; omega)), ?_⟩)); try (refine hKr _ ?_; clear hKr Kr)
    refine T.ret ?_
    simp only [go_sem]
    exact ⟨ResCellD rfl rfl rfl rfl (by simp only [go_sem]) (by rw [e2]; simp only [go_sem]) (by rw [e2]; rfl), ResAtD (by rw [ee]; rfl) rfl rfl, trivial⟩
  have ee : putF d id at_ text = (⟨chg d.s (putE at_ text), insL (carL d.m (putE at_ text)) (idx d.m id) ⟨id, at_, at_ + text.length, true⟩⟩, 0) := by
    unfold putF; rw [if_neg hno, if_neg (by omega)]
  have e2 : docX false (putF d id at_ text) = .agg [.str (chg d.s (putE at_ text)), .sl false 4 (mksOf (insL (carL d.m (putE at_ text)) (idx d.m id) ⟨id, at_, at_ + text.length, true⟩))] := by rw [ee]; rfl
  have hat : 0 ≤ at_ ∧ at_ ≤ 400 := by
    have := possB_smE hb1; simp only at this; omega
  obtain ⟨hat1, hat2⟩ := hat
  refine T.skip ?_
  refine hK2 _ ?_
  unfold putE at ee e2
  refine T.sregD 72 [0, 1, 2, 3, 4, 8, 9, 10, 11, 12, 13, 36, 50] fun Kr hKr => ?_
  simp only [go_sem]
  (repeat (refine ⟨by (first | exact True.intro | omega | rfl | (simp; done) | (simp; omega)), ?_⟩)); try (refine hKr _ ?_; clear hKr Kr)
  refine CallK.data (fun _ => Spec.args (sk hb1) (by (first | exact ArgsLe.refl | (repeat (first | exact True.intro | refine And.intro (by first | exact AvLe.refl | exact AvLe.loose | exact AvLe.nil | exact AvLe.nilT | exact AvLe.slk | (refine AvLe.agg ?_; exact ArgsLe.refl) | (refine AvLe.agg ?_; (repeat (first | exact True.intro | refine And.intro (by first | exact AvLe.refl | exact AvLe.loose | exact AvLe.nil | exact AvLe.nilT | exact AvLe.slk) ?_)))) ?_))))) rfl ?_
  simp only [go_sem]
  (repeat (refine ⟨by (first | exact True.intro | omega | rfl | (simp; done) | (simp; omega)), ?_⟩)); try (refine hKr _ ?_; clear hKr Kr)
  refine CallK.data (fun _ => Spec.args (si ⟨id, at_, at_ + text.length, true⟩) (by (first | exact ArgsLe.refl | (repeat (first | exact True.intro | refine And.intro (by first | exact AvLe.refl | exact AvLe.loose | exact AvLe.nil | exact AvLe.nilT | exact AvLe.slk | (refine AvLe.agg ?_; exact ArgsLe.refl) | (refine AvLe.agg ?_; (repeat (first | exact True.intro | refine And.intro (by first | exact AvLe.refl | exact AvLe.loose | exact AvLe.nil | exact AvLe.nilT | exact AvLe.slk) ?_)))) ?_))))) rfl ?_
  simp only [go_sem]
  (repeat (refine ⟨by (first | exact True.intro | omega | rfl | (simp; done) | (simp; omega)), ?_⟩)); try (refine hKr _ ?_; clear hKr Kr)
  refine T.sregD 72 [0, 1, 2, 3, 4, 8, 9, 10, 11, 12, 13, 36, 50] fun Kr hKr => ?_
  simp only [go_sem]
  (repeat (refine ⟨by (first | exact True.intro | omega | rfl | (simp; done) | (simp; omega)), ?_⟩)); try (refine hKr _ ?_; clear hKr Kr)
  refine CallK.data (fun _ => Spec.args (sc hb1) (by (first | exact ArgsLe.refl | (repeat (first | exact True.intro | refine And.intro (by first | exact AvLe.refl | exact AvLe.loose | exact AvLe.nil | exact AvLe.nilT | exact AvLe.slk | (refine AvLe.agg ?_; exact ArgsLe.refl) | (refine AvLe.agg ?_; (repeat (first | exact True.intro | refine And.intro (by first | exact AvLe.refl | exact AvLe.loose | exact AvLe.nil | exact AvLe.nilT | exact AvLe.slk) ?_)))) ?_))))) rfl ?_
  simp only [go_sem]
  (repeat (refine ⟨by (first | exact True.intro | omega | rfl | (simp; done) | (simp; omega)), ?_⟩)); try (refine hKr _ ?_; clear hKr Kr)
  refine T.ret ?_
  simp only [go_sem]
  exact ⟨ResCellD rfl rfl rfl rfl (by simp only [go_sem]) (by rw [e2]; simp only [go_sem]) (by rw [e2]; rfl), ResAtD (by rw [ee]; rfl) rfl rfl, trivial⟩

/-! ### The text of a mark -/
def goodM (d : Doc) (id : Int) (m : Mark) : Bool := decide (m.id = id) && decide (0 ≤ m.f) && decide (m.f ≤ m.t) && decide (m.t ≤ d.s.length)
def sub (s : List UInt8) (f t : Int) : List UInt8 := (s.take t.toNat).drop f.toNat
def txtF (d : Doc) (id : Int) : List UInt8 × Int := match d.m.find? (goodM d id) with | some m => (sub d.s m.f m.t, 0) | none => ([], 330)
theorem find_take {α : Type} [Inhabited α] {p : α → Bool} {l : List α} {i : Nat} (hi : i < l.length) (hn : (l.take i).find? p = none) (h : p (l.getD i default) = true) : l.find? p = some (l.getD i default) := by
  have e : l = l.take i ++ l.getD i default :: l.drop (i + 1) := by rw [← drop_d hi]; simp
  rw [e, List.find?_append, hn]
  simp only [List.find?_cons, Option.none_or]
  rw [← e, h]
theorem find_step {α : Type} [Inhabited α] {p : α → Bool} {l : List α} {i : Nat} (hi : i < l.length) (hn : (l.take i).find? p = none) (h : p (l.getD i default) = false) : (l.take (i + 1)).find? p = none := by
  rw [take_succ_d hi, List.find?_append, hn]
  simp only [List.find?_cons, h, List.find?_nil, Option.none_or]
theorem Text_spec (d : Doc) (id : Int) (hl : d.m.length ≤ 100000) (hs : d.s.length ≤ 100000) : Ideal.Spec Try.prog 12 [docA d, .int .i64 id] (.tup [.str (txtF d id).1, .int .i64 (txtF d id).2]) none := by
  refine Ideal.Spec.of_TD2 (n := 47) (fn := Try.f12) rfl rfl rfl rfl rfl rfl rfl fun w ok => ?_
  refine T.sregD 47 [0, 1, 2, 4, 5, 7, 9, 10, 11, 12, 38] fun Kr hKr => ?_
  simp only [go_sem]
  (repeat (refine ⟨by (first | exact True.intro | omega | rfl | (simp; done) | (simp; omega)), ?_⟩)); try (refine hKr _ ?_; clear hKr Kr)
  refine T.seqK fun K1 hK1 => ?_
  refine T.sregD 47 [0, 1, 2, 4, 5, 7, 9, 10, 11, 12, 38] fun Kr hKr => ?_
  simp only [go_sem]
  (repeat (refine ⟨by (first | exact True.intro | omega | rfl | (simp; done) | (simp; omega)), ?_⟩)); try (refine hKr _ ?_; clear hKr Kr)
  refine T.bloop (fun i : Nat => ⟨dense 47 [(1, .int .i64 id), (2, .op 2 0 0), (9, .sl false 4 (mksOf d.m)), (10, .int .i64 d.m.length), (11, .int .i64 i)], [(2, ⟨2, 26, true, [docA d]⟩)]⟩) (fun i => i ≤ d.m.length ∧ (d.m.take i).find? (goodM d id) = none) (fun i => d.m.length - i) 0 (by simp) ?_ fun i hi => ?_
  · refine Le.fitS (by (repeat (first | exact DFit.nil | refine DFit.cons (by first | rfl | (simp [slook]; done) | (simp [slook]; omega)) ?_))) (by (repeat (first | exact True.intro | refine And.intro (by first | rfl | (simp [look]; done)) ?_)))
  obtain ⟨hi, hn⟩ := hi
  refine T.sregD 47 [0, 1, 2, 4, 5, 7, 9, 10, 11, 12, 38] fun Kr hKr => ?_
  simp only [go_sem]
  (repeat (refine ⟨by (first | exact True.intro | omega | rfl | (simp; done) | (simp; omega)), ?_⟩)); try (refine hKr _ ?_; clear hKr Kr)
  refine T.seqK fun K2 hK2 => ?_
  refine T.condFD rfl rfl (fun hb => ?_) (fun hb => ?_) <;> simp at hb
  · -- no: exit
    refine T.exit ?_
    simp only [if_true]
    refine hK1 _ ?_
    have : i = d.m.length := by omega
    subst this
    rw [List.take_length] at hn
    have ee : txtF d id = ([], 330) := by simp only [txtF, hn]
    refine T.sregD 47 [0, 1, 2, 4, 5, 7, 9, 10, 11, 12, 38] fun Kr hKr => ?_
    simp only [go_sem]
    (repeat (refine ⟨by (first | exact True.intro | omega | rfl | (simp; done) | (simp; omega)), ?_⟩)); try (refine hKr _ ?_; clear hKr Kr)
    refine T.ret ⟨AtD (by rw [ee]; rfl) rfl rfl, AtD (by rw [ee]; rfl) rfl rfl⟩
  refine T.skip ?_
  refine hK2 _ ?_
  refine T.seqK fun K3 hK3 => ?_
  refine T.block ?_
  refine T.sregD 47 [0, 1, 2, 4, 5, 7, 9, 10, 11, 12, 38] fun Kr hKr => ?_
  simp only [go_sem, hb]
  (repeat (refine ⟨by (first | exact True.intro | omega | rfl | (simp; done) | (simp; omega)), ?_⟩)); try (refine hKr _ ?_; clear hKr Kr)
  refine T.sregD 47 [0, 1, 2, 4, 5, 7, 9, 10, 11, 12, 38] fun Kr hKr => ?_
  simp only [go_sem, cond_and]
  (repeat (refine ⟨by (first | exact True.intro | omega | rfl | (simp; done) | (simp; omega)), ?_⟩)); try (refine hKr _ ?_; clear hKr Kr)
  refine T.condTD rfl rfl (fun hc => ?_) (fun hc => ?_)
  · -- yes
    have hg : goodM d id (d.m.getD i default) = true := by simpa only [goodM] using hc
    have hf := find_take hb hn hg
    have ee : txtF d id = (sub d.s (d.m.getD i default).f (d.m.getD i default).t, 0) := by simp only [txtF, hf]
    simp only [goodM, Bool.and_eq_true, decide_eq_true_eq] at hg
    obtain ⟨⟨⟨g1, g2⟩, g3⟩, g4⟩ := hg
    refine T.sregD 47 [0, 1, 2, 4, 5, 7, 9, 10, 11, 12, 38] fun Kr hKr => ?_
    simp only [go_sem]
    (repeat (refine ⟨by (first | exact True.intro | omega | rfl | (simp; done) | (simp; omega)), ?_⟩)); try (refine hKr _ ?_; clear hKr Kr)
    refine T.ret ⟨AtD (by rw [ee]; rfl) rfl rfl, AtD (by rw [ee]; rfl) rfl rfl⟩
  have hg : goodM d id (d.m.getD i default) = false := by simpa only [goodM] using hc
  refine T.skip ?_
  refine hK3 _ ?_
  refine T.regD 47 [0, 1, 2, 4, 5, 7, 9, 10, 11, 12, 38] fun Kr hKr => ?_
  simp only [go_sem]
  (repeat (refine ⟨by (first | exact True.intro | omega | rfl | (simp; done) | (simp; omega)), ?_⟩)); try (refine hKr _ ?_; clear hKr Kr)
  refine ⟨i + 1, ?_, ?_, Le.fitS (by (repeat (first | exact DFit.nil | refine DFit.cons (by first | rfl | (simp [slook]; done) | (simp [slook]; omega)) ?_))) ?_⟩
  · exact ⟨by omega, find_step hb hn hg⟩
  · omega
  · (repeat (first | exact True.intro | refine And.intro (by first | rfl | (simp [look]; done)) ?_))
end Go.Proofs
