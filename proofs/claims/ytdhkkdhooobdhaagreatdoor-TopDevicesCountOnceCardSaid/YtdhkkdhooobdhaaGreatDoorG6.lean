/- Devices: users; Merge, Clock. -/
import Derived.Test.YtdhkkdhooobdhaaGreatDoorG5
set_option linter.unusedVariables false
set_option linter.unusedSimpArgs false
namespace Go.Proofs
open Go Go.Ideal
set_option maxRecDepth 8000
set_option maxHeartbeats 4000000

def intsOf (l : List Int) : List AV := l.map (AV.int .i64)
@[go_sem] theorem intsOf_len (l : List Int) : (intsOf l).length = l.length := by simp [intsOf]
@[go_sem] theorem intsOf_get {l : List Int} {i : Nat} (h : i < l.length) : (intsOf l).getD i .junk = .int .i64 (l.getD i default) := by simp [intsOf, List.getD, h]
@[go_sem] theorem intsOf_nil : intsOf [] = [] := rfl
@[go_sem] theorem intsOf_take (l : List Int) (n : Nat) : (intsOf l).take n = intsOf (l.take n) := by simp [intsOf]
@[go_sem] theorem intsOf_drop (l : List Int) (n : Nat) : (intsOf l).drop n = intsOf (l.drop n) := by simp [intsOf]
@[go_sem] theorem intsOf_kill (l : List Int) (k : Nat) : (intsOf l).map (AV.kill0 k) = intsOf l := by
  unfold intsOf; rw [List.map_map]; rfl
@[go_sem] theorem intsOf_frz (l : List Int) (k sz : Nat) (xs : List AV) : (intsOf l).map (frz0 k sz xs) = intsOf l := by
  unfold intsOf; rw [List.map_map]; rfl
@[go_sem] theorem intsOf_nm (l : List Int) : (intsOf l).flatMap AV.nm0 = [] := by
  rw [List.flatMap_eq_nil_iff]; intro x hx; obtain ⟨n, _, rfl⟩ := List.mem_map.1 hx; rfl
@[go_sem] theorem intsOf_any (l : List Int) (k : Nat) : (intsOf l).any (AV.names0 k) = false := by
  rw [List.any_eq_false]; intro x hx; obtain ⟨n, _, rfl⟩ := List.mem_map.1 hx; simp [AV.names0]
@[go_sem] theorem intsOf_all (l : List Int) : (intsOf l).all AV.data0 = true := by
  unfold intsOf; rw [List.all_map]; simp [AV.data0]
@[go_sem] theorem intsOf_sto (l : List Int) : (intsOf l).all AV.sto = true := by
  unfold intsOf; rw [List.all_map]; simp [AV.sto]
@[go_sem] theorem get2 {x y : AV} {L : List AV} {d : Nat} : (x :: y :: L).getD (2 + d) .junk = L.getD d .junk := by
  rw [Nat.add_comm]; rfl
theorem intsOf_set (l : List Int) (i : Nat) (n : Int) : (intsOf l).set i (.int .i64 n) = intsOf (l.set i n) := by simp [intsOf, List.map_set]
structure Usr where
  r : List Rec
  o : List Ord
  l : List Int
  deriving DecidableEq, Inhabited
@[go_sem] def usrA (u : Usr) : AV := .agg (.sl false 6 (recsOf u.r) :: .sl false 7 (ordsOf u.o) :: intsOf u.l)
structure OkU (u : Usr) : Prop where
  r : ∀ x ∈ u.r, RightR x
  o : ∀ x ∈ u.o, RightO x
  l : u.l.length = 8
  rl : u.r.length ≤ 450
  ol : u.o.length ≤ 450
/-! ### Merge -/
def noUsr : Usr := ⟨[], [], List.replicate 8 0⟩
def maxL (a b : List Int) : List Int := (List.range 8).map fun i => max (a.getD i default) (b.getD i default)
def mergeF (a b : Usr) : Usr × Int :=
  match uniF (·.d) (·.s) a.r b.r with
  | none => (noUsr, 260)
  | some R => match uniF (·.d) (·.s) a.o b.o with
    | none => (noUsr, 260)
    | some O => if clashF R O = true ∨ O.length > 400 then (noUsr, 260)
      else if (R.filter fun r => !meantB O r).length > 400 then (noUsr, 260) else (⟨R.filter fun r => !meantB O r, O, maxL a.l b.l⟩, 0)
theorem merge11_spec (o : Ord) (r : Rec) (ho : RightO o) (hr : RightR r) : Ideal.Spec Tryz.prog 26 [ordA o, recC r] (.bool (meansB o r)) none := by
  have s1 := Means_spec o r ho hr
  refine Ideal.Spec.of_TD (n := 7) (fn := Tryz.f26) rfl rfl rfl rfl rfl rfl rfl fun w ok => ?_
  refine T.sregD 7 [0, 1, 2, 3] fun Kr hKr => ?_
  simp only [go_sem]
  (repeat (refine ⟨by (first | exact True.intro | omega | rfl | (simp; done) | (simp; omega)), ?_⟩)); try (refine hKr _ ?_; clear hKr Kr)
  refine T.sregD 7 [0, 1, 2, 3] fun Kr hKr => ?_
  simp only [go_sem]
  (repeat (refine ⟨by (first | exact True.intro | omega | rfl | (simp; done) | (simp; omega)), ?_⟩)); try (refine hKr _ ?_; clear hKr Kr)
  refine CallK.data (fun _ => Spec.args (s1) (by (first | exact ArgsLe.refl | (repeat (first | exact True.intro | refine And.intro (by first | exact AvLe.refl | exact AvLe.loose | exact AvLe.nil | exact AvLe.nilT | exact AvLe.slk | (refine AvLe.agg ?_; exact ArgsLe.refl) | (refine AvLe.agg ?_; (repeat (first | exact True.intro | refine And.intro (by first | exact AvLe.refl | exact AvLe.loose | exact AvLe.nil | exact AvLe.nilT | exact AvLe.slk) ?_)))) ?_))))) rfl ?_
  simp only [go_sem]
  (repeat (refine ⟨by (first | exact True.intro | omega | rfl | (simp; done) | (simp; omega)), ?_⟩)); try (refine hKr _ ?_; clear hKr Kr)
  refine T.ret (Fin.dataD rfl rfl rfl)
theorem merge1_spec (l : List Ord) (r : Rec) (ho : ∀ o ∈ l, RightO o) (hr : RightR r) (hl : l.length ≤ 100000) : Ideal.Spec Tryz.prog 24 [recA r, .cp [.sl false 7 (ordsOf l)]] (.bool (!meantB l r)) none := by
  have s1 := containsO_spec l (fun o => meansB o r) 26 [recC r] (by intro x hx; simp only [List.mem_cons, List.not_mem_nil, or_false] at hx; subst hx; exact ⟨_, rfl⟩) hl (fun o h => merge11_spec o r (ho o h) hr)
  refine Ideal.Spec.of_TD (n := 8) (fn := Tryz.f24) rfl rfl rfl rfl rfl rfl rfl fun w ok => ?_
  refine T.sregD 8 [0, 1, 2, 3] fun Kr hKr => ?_
  simp only [go_sem]
  (repeat (refine ⟨by (first | exact True.intro | omega | rfl | (simp; done) | (simp; omega)), ?_⟩)); try (refine hKr _ ?_; clear hKr Kr)
  refine T.sregD 8 [0, 1, 2, 3] fun Kr hKr => ?_
  simp only [go_sem]
  (repeat (refine ⟨by (first | exact True.intro | omega | rfl | (simp; done) | (simp; omega)), ?_⟩)); try (refine hKr _ ?_; clear hKr Kr)
  refine CallK.data (fun _ => Spec.args (s1) (by (first | exact ArgsLe.refl | (repeat (first | exact True.intro | refine And.intro (by first | exact AvLe.refl | exact AvLe.loose | exact AvLe.nil | exact AvLe.nilT | exact AvLe.slk | (refine AvLe.agg ?_; exact ArgsLe.refl) | (refine AvLe.agg ?_; (repeat (first | exact True.intro | refine And.intro (by first | exact AvLe.refl | exact AvLe.loose | exact AvLe.nil | exact AvLe.nilT | exact AvLe.slk) ?_)))) ?_))))) rfl ?_
  simp only [go_sem]
  (repeat (refine ⟨by (first | exact True.intro | omega | rfl | (simp; done) | (simp; omega)), ?_⟩)); try (refine hKr _ ?_; clear hKr Kr)
  refine T.ret (Fin.dataD rfl rfl rfl)
def partL (a b : List Int) (d : Nat) : List Int := (maxL a b).take d ++ List.replicate (8 - d) 0
theorem maxL_len (a b : List Int) : (maxL a b).length = 8 := by simp [maxL]
theorem partL_len (a b : List Int) {d : Nat} (h : d ≤ 8) : (partL a b d).length = 8 := by simp [partL, maxL_len]; omega
theorem partL_end (a b : List Int) : partL a b 8 = maxL a b := by unfold partL; rw [List.take_of_length_le (by simp [maxL_len])]; simp
theorem partL_step (a b : List Int) {d : Nat} (h : d < 8) : (partL a b d).set d (max (a.getD d default) (b.getD d default)) = partL a b (d + 1) := by
  have hm : (maxL a b).getD d default = max (a.getD d default) (b.getD d default) := by simp [maxL, List.getD, h]
  unfold partL
  rw [take_succ_d (by rw [maxL_len]; exact h), hm, show 8 - d = (8 - (d + 1)) + 1 by omega, List.replicate_succ]
  have hl : ((maxL a b).take d).length = d := by simp [maxL_len]; omega
  rw [List.set_append_right _ _ (by omega), hl]
  simp
theorem partL_box (x y : AV) (a b : List Int) {d : Nat} (h : d < 8) : List.take (2 + d) (x :: y :: intsOf (partL a b d)) ++ AV.int .i64 (if b.getD d default > a.getD d default then b.getD d default else a.getD d default) :: List.drop (2 + d) (y :: intsOf (partL a b d)) = x :: y :: intsOf (partL a b (d + 1)) := by
  have hm : (if b.getD d default > a.getD d default then b.getD d default else a.getD d default) = max (a.getD d default) (b.getD d default) := by split <;> omega
  have hl : (intsOf (partL a b d)).length = 8 := by rw [intsOf_len]; exact partL_len a b (by omega)
  rw [hm, ← partL_step a b h, ← intsOf_set, Nat.add_comm 2 d, List.take_succ_cons, List.take_succ_cons, show d + 2 = (d + 1) + 1 by omega, List.drop_succ_cons, List.set_eq_take_append_cons_drop, if_pos (by omega)]
  rfl
def zUsr : AV := .agg [.sl true 1 [], .sl true 1 [], .int .i64 0, .int .i64 0, .int .i64 0, .int .i64 0, .int .i64 0, .int .i64 0, .int .i64 0, .int .i64 0]
def mergeX (r : Usr × Int) : AV := if r.2 = 0 then usrA r.1 else zUsr
theorem mergeX_fin (r : Usr × Int) : (mergeX r).fin = true := by unfold mergeX; split <;> rfl
theorem mergeX_le (r : Usr × Int) (h : r.2 ≠ 0 → r.1 = noUsr) : AvLe (mergeX r) (usrA r.1) := by
  unfold mergeX
  split
  · exact AvLe.refl
  · rename_i h1; rw [h h1]
    exact AvLe.agg ⟨AvLe.nil, AvLe.nil, ArgsLe.refl⟩
theorem merge_no (a b : Usr) (h : (mergeF a b).2 ≠ 0) : (mergeF a b).1 = noUsr := by
  unfold mergeF at h ⊢
  split
  · rfl
  · rename_i h1
    rw [h1] at h
    simp only at h
    split
    · rfl
    · rename_i h2
      rw [h2] at h
      simp only at h
      split
      · rfl
      · rename_i h3
        rw [if_neg h3] at h
        split
        · rfl
        · rename_i h4; rw [if_neg h4] at h; exact absurd rfl h
theorem uni_mem {α : Type} [DecidableEq α] (d s : α → Int) : ∀ (n : Nat) (a b l : List α), a.length + b.length ≤ n → uniF d s a b = some l → l.length ≤ a.length + b.length ∧ ∀ x ∈ l, x ∈ a ∨ x ∈ b
  | n, [], b, l, _, h => by
    simp only [uniF] at h; cases h
    exact ⟨by simp, fun x hx => .inr hx⟩
  | n, x :: a, [], l, _, h => by
    simp only [uniF] at h; cases h
    exact ⟨by simp, fun y hy => .inl hy⟩
  | 0, x :: a, y :: b, l, hn, _ => by simp at hn
  | n + 1, x :: a, y :: b, l, hn, h => by
    simp only [List.length_cons] at hn
    rw [uniF] at h
    have key : ∀ (p q : List α) (z : α), p.length + q.length ≤ n → p.length + q.length + 1 ≤ (x :: a).length + (y :: b).length → (∀ w ∈ p, w ∈ x :: a) → (∀ w ∈ q, w ∈ y :: b) → (z ∈ x :: a ∨ z ∈ y :: b) → (uniF d s p q).map (z :: ·) = some l →
        l.length ≤ (x :: a).length + (y :: b).length ∧ ∀ w ∈ l, w ∈ x :: a ∨ w ∈ y :: b := fun p q z h1 h2 h3 h4 h5 h6 => by
      cases hu : uniF d s p q with
      | none => rw [hu] at h6; cases h6
      | some m =>
        rw [hu] at h6; cases h6
        obtain ⟨r1, r2⟩ := uni_mem d s n p q m h1 hu
        refine ⟨by simp only [List.length_cons] at h2 ⊢; omega, fun w hw => ?_⟩
        rcases List.mem_cons.1 hw with rfl | hw
        · exact h5
        · exact (r2 w hw).imp (h3 w) (h4 w)
    split at h
    · exact key a (y :: b) x (by simp only [List.length_cons]; omega) (by simp; omega) (fun w hw => by simp [hw]) (fun w hw => hw) (.inl (by simp)) h
    · split at h
      · exact key (x :: a) b y (by simp only [List.length_cons]; omega) (by simp; omega) (fun w hw => hw) (fun w hw => by simp [hw]) (.inr (by simp)) h
      · split at h
        · cases h
        · exact key a b x (by omega) (by simp; omega) (fun w hw => by simp [hw]) (fun w hw => by simp [hw]) (.inl (by simp)) h
theorem Merge_spec (a b : Usr) (ha : OkU a) (hB : OkU b) : Ideal.Spec Tryz.prog 6 [usrA a, usrA b] (.tup [usrA (mergeF a b).1, .int .i64 (mergeF a b).2]) none := by
  have u1 := unionR_spec a.r b.r (by have := ha.rl; omega) (by have := hB.rl; omega)
  have u2 := unionO_spec a.o b.o (by have := ha.ol; omega) (by have := hB.ol; omega)
  have al := ha.l
  have bl := hB.l
  have m1 := fun R h => uni_mem (·.d) (·.s) _ a.r b.r R (Nat.le_refl _) h
  have m2 := fun R h => uni_mem (·.d) (·.s) _ a.o b.o R (Nat.le_refl _) h
  refine Spec.weakT (rs := [mergeX (mergeF a b), .int .i64 (mergeF a b).2]) ?_ (by simp [mergeX_fin]; rfl) rfl ⟨mergeX_le _ (merge_no a b), AvLe.refl, trivial⟩
  refine Ideal.Spec.of_MD (n := 72) (fn := Tryz.f6) rfl rfl rfl rfl (by simp [mergeX_fin]; rfl) rfl rfl fun w ok => ?_
  refine T.post [.tmp 4] ?_
  refine T.sregD 72 [0, 1, 2, 3, 4, 5, 6, 7, 8, 9, 10, 21, 43, 50, 55, 56] fun Kr hKr => ?_
  simp only [go_sem, al, bl]
  (repeat (refine ⟨by (first | exact True.intro | omega | rfl | (simp; done) | (simp; omega)), ?_⟩)); try (refine hKr _ ?_; clear hKr Kr)
  have hbad : ∀ r : Usr × Int, r = (noUsr, 260) → mergeX r = .agg [.sl true 1 [], .sl true 1 [], .int .i64 0, .int .i64 0, .int .i64 0, .int .i64 0, .int .i64 0, .int .i64 0, .int .i64 0, .int .i64 0] := fun r h => by rw [h]; rfl
  cases hR : uniF (·.d) (·.s) a.r b.r with
  | none =>
    have ee : mergeF a b = (noUsr, 260) := by unfold mergeF; rw [hR]
    have e2 := hbad _ ee
    rw [hR] at u1
    simp only [Option.map_none, Option.getD_none, Option.isSome_none] at u1
    refine T.sregD 72 [0, 1, 2, 3, 4, 5, 6, 7, 8, 9, 10, 21, 43, 50, 55, 56] fun Kr hKr => ?_
    simp only [go_sem]
    (repeat (refine ⟨by (first | exact True.intro | omega | rfl | (simp; done) | (simp; omega)), ?_⟩)); try (refine hKr _ ?_; clear hKr Kr)
    refine CallK.tup (fun _ => Spec.args (u1) (by (first | exact ArgsLe.refl | (repeat (first | exact True.intro | refine And.intro (by first | exact AvLe.refl | exact AvLe.loose | exact AvLe.nil | exact AvLe.nilT | exact AvLe.slk | (refine AvLe.agg ?_; exact ArgsLe.refl) | (refine AvLe.agg ?_; (repeat (first | exact True.intro | refine And.intro (by first | exact AvLe.refl | exact AvLe.loose | exact AvLe.nil | exact AvLe.nilT | exact AvLe.slk) ?_)))) ?_))))) ?_
    simp only [go_sem]
    (repeat (refine ⟨by (first | exact True.intro | omega | rfl | (simp; done) | (simp; omega)), ?_⟩)); try (refine hKr _ ?_; clear hKr Kr)
    refine T.seqK fun K1 hK1 => ?_
    refine T.sregD 72 [0, 1, 2, 3, 4, 5, 6, 7, 8, 9, 10, 21, 43, 50, 55, 56] fun Kr hKr => ?_
    simp only [go_sem]
    (repeat (refine ⟨by (first | exact True.intro | omega | rfl | (simp; done) | (simp; omega)), ?_⟩)); try (refine hKr _ ?_; clear hKr Kr)
    refine T.condTD rfl rfl (fun hb => ?_) (fun hb => ?_) <;> try simp at hb
    refine T.sregD 72 [0, 1, 2, 3, 4, 5, 6, 7, 8, 9, 10, 21, 43, 50, 55, 56] fun Kr hKr => ?_
    simp only [go_sem]
    (repeat (refine ⟨by (first | exact True.intro | omega | rfl | (simp; done) | (simp; omega)), ?_⟩)); try (refine hKr _ ?_; clear hKr Kr)
    refine T.ret ?_
    simp only [go_sem]
    exact ⟨ResCellD rfl rfl rfl rfl (by simp only [go_sem]) (by rw [e2]; simp only [go_sem]) (by rw [e2]; rfl), ResAtD (by rw [ee]; rfl) rfl rfl, trivial⟩
  | some R =>
  obtain ⟨R1, R2⟩ := m1 R hR
  rw [hR] at u1
  simp only [Option.map_some, Option.getD_some, Option.isSome_some] at u1
  have hRr : ∀ x ∈ R, RightR x := fun x hx => (R2 x hx).elim (ha.r x) (hB.r x)
  refine T.sregD 72 [0, 1, 2, 3, 4, 5, 6, 7, 8, 9, 10, 21, 43, 50, 55, 56] fun Kr hKr => ?_
  simp only [go_sem]
  (repeat (refine ⟨by (first | exact True.intro | omega | rfl | (simp; done) | (simp; omega)), ?_⟩)); try (refine hKr _ ?_; clear hKr Kr)
  refine CallK.tup (fun _ => Spec.args (u1) (by (first | exact ArgsLe.refl | (repeat (first | exact True.intro | refine And.intro (by first | exact AvLe.refl | exact AvLe.loose | exact AvLe.nil | exact AvLe.nilT | exact AvLe.slk | (refine AvLe.agg ?_; exact ArgsLe.refl) | (refine AvLe.agg ?_; (repeat (first | exact True.intro | refine And.intro (by first | exact AvLe.refl | exact AvLe.loose | exact AvLe.nil | exact AvLe.nilT | exact AvLe.slk) ?_)))) ?_))))) ?_
  simp only [go_sem]
  (repeat (refine ⟨by (first | exact True.intro | omega | rfl | (simp; done) | (simp; omega)), ?_⟩)); try (refine hKr _ ?_; clear hKr Kr)
  refine T.seqK fun K1 hK1 => ?_
  refine T.sregD 72 [0, 1, 2, 3, 4, 5, 6, 7, 8, 9, 10, 21, 43, 50, 55, 56] fun Kr hKr => ?_
  simp only [go_sem]
  (repeat (refine ⟨by (first | exact True.intro | omega | rfl | (simp; done) | (simp; omega)), ?_⟩)); try (refine hKr _ ?_; clear hKr Kr)
  refine T.condTD rfl rfl (fun hb => ?_) (fun hb => ?_) <;> try simp at hb
  refine T.skip ?_
  refine hK1 _ ?_
  cases hO : uniF (·.d) (·.s) a.o b.o with
  | none =>
    have ee : mergeF a b = (noUsr, 260) := by unfold mergeF; rw [hR, hO]
    have e2 := hbad _ ee
    rw [hO] at u2
    simp only [Option.map_none, Option.getD_none, Option.isSome_none] at u2
    refine T.sregD 72 [0, 1, 2, 3, 4, 5, 6, 7, 8, 9, 10, 21, 43, 50, 55, 56] fun Kr hKr => ?_
    simp only [go_sem]
    (repeat (refine ⟨by (first | exact True.intro | omega | rfl | (simp; done) | (simp; omega)), ?_⟩)); try (refine hKr _ ?_; clear hKr Kr)
    refine CallK.tup (fun _ => Spec.args (u2) (by (first | exact ArgsLe.refl | (repeat (first | exact True.intro | refine And.intro (by first | exact AvLe.refl | exact AvLe.loose | exact AvLe.nil | exact AvLe.nilT | exact AvLe.slk | (refine AvLe.agg ?_; exact ArgsLe.refl) | (refine AvLe.agg ?_; (repeat (first | exact True.intro | refine And.intro (by first | exact AvLe.refl | exact AvLe.loose | exact AvLe.nil | exact AvLe.nilT | exact AvLe.slk) ?_)))) ?_))))) ?_
    simp only [go_sem]
    (repeat (refine ⟨by (first | exact True.intro | omega | rfl | (simp; done) | (simp; omega)), ?_⟩)); try (refine hKr _ ?_; clear hKr Kr)
    refine T.seqK fun K2 hK2 => ?_
    refine T.sregD 72 [0, 1, 2, 3, 4, 5, 6, 7, 8, 9, 10, 21, 43, 50, 55, 56] fun Kr hKr => ?_
    simp only [go_sem]
    (repeat (refine ⟨by (first | exact True.intro | omega | rfl | (simp; done) | (simp; omega)), ?_⟩)); try (refine hKr _ ?_; clear hKr Kr)
    refine CallK.data (r := .bool true) (fun h => by cases h) rfl ?_
    simp only [go_sem]
    (repeat (refine ⟨by (first | exact True.intro | omega | rfl | (simp; done) | (simp; omega)), ?_⟩)); try (refine hKr _ ?_; clear hKr Kr)
    refine T.condTD rfl rfl (fun hb => ?_) (fun hb => ?_) <;> try simp at hb
    refine T.sregD 72 [0, 1, 2, 3, 4, 5, 6, 7, 8, 9, 10, 21, 43, 50, 55, 56] fun Kr hKr => ?_
    simp only [go_sem]
    (repeat (refine ⟨by (first | exact True.intro | omega | rfl | (simp; done) | (simp; omega)), ?_⟩)); try (refine hKr _ ?_; clear hKr Kr)
    refine T.ret ?_
    simp only [go_sem]
    exact ⟨ResCellD rfl rfl rfl rfl (by simp only [go_sem]) (by rw [e2]; simp only [go_sem]) (by rw [e2]; rfl), ResAtD (by rw [ee]; rfl) rfl rfl, trivial⟩
  | some O =>
  obtain ⟨O1, O2⟩ := m2 O hO
  rw [hO] at u2
  simp only [Option.map_some, Option.getD_some, Option.isSome_some] at u2
  have hOr : ∀ x ∈ O, RightO x := fun x hx => (O2 x hx).elim (ha.o x) (hB.o x)
  have hbl : a.r.length ≤ 450 ∧ b.r.length ≤ 450 ∧ a.o.length ≤ 450 ∧ b.o.length ≤ 450 := ⟨ha.rl, hB.rl, ha.ol, hB.ol⟩
  have ee0 : mergeF a b = if clashF R O = true ∨ O.length > 400 then (noUsr, 260) else if (R.filter fun r => !meantB O r).length > 400 then (noUsr, 260) else (⟨R.filter fun r => !meantB O r, O, maxL a.l b.l⟩, 0) := by unfold mergeF; rw [hR, hO]
  have u3 := clash_spec R O (by omega) (by omega)
  have u4 := keepR_spec R (fun r => !meantB O r) 24 [.cp [.sl false 7 (ordsOf O)]] (by intro x hx; simp only [List.mem_cons, List.not_mem_nil, or_false] at hx; subst hx; exact ⟨_, rfl⟩) (by omega) (fun r h => merge1_spec O r hOr (hRr r h) (by omega))
  refine T.sregD 72 [0, 1, 2, 3, 4, 5, 6, 7, 8, 9, 10, 21, 43, 50, 55, 56] fun Kr hKr => ?_
  simp only [go_sem]
  (repeat (refine ⟨by (first | exact True.intro | omega | rfl | (simp; done) | (simp; omega)), ?_⟩)); try (refine hKr _ ?_; clear hKr Kr)
  refine CallK.tup (fun _ => Spec.args (u2) (by (first | exact ArgsLe.refl | (repeat (first | exact True.intro | refine And.intro (by first | exact AvLe.refl | exact AvLe.loose | exact AvLe.nil | exact AvLe.nilT | exact AvLe.slk | (refine AvLe.agg ?_; exact ArgsLe.refl) | (refine AvLe.agg ?_; (repeat (first | exact True.intro | refine And.intro (by first | exact AvLe.refl | exact AvLe.loose | exact AvLe.nil | exact AvLe.nilT | exact AvLe.slk) ?_)))) ?_))))) ?_
  simp only [go_sem]
  (repeat (refine ⟨by (first | exact True.intro | omega | rfl | (simp; done) | (simp; omega)), ?_⟩)); try (refine hKr _ ?_; clear hKr Kr)
  refine T.seqK fun K2 hK2 => ?_
  by_cases hcl : clashF R O = true ∨ O.length > 400
  · rw [if_pos hcl] at ee0
    have e2 := hbad _ ee0
    have hol : ((O.length : Int) > 400) = (O.length > 400) := by simp; omega
    refine T.sregD 72 [0, 1, 2, 3, 4, 5, 6, 7, 8, 9, 10, 21, 43, 50, 55, 56] fun Kr hKr => ?_
    simp only [go_sem, hol]
    (repeat (refine ⟨by (first | exact True.intro | omega | rfl | (simp; done) | (simp; omega)), ?_⟩)); try (refine hKr _ ?_; clear hKr Kr)
    refine CallK.data (fun _ => Spec.args (u3) (by (first | exact ArgsLe.refl | (repeat (first | exact True.intro | refine And.intro (by first | exact AvLe.refl | exact AvLe.loose | exact AvLe.nil | exact AvLe.nilT | exact AvLe.slk | (refine AvLe.agg ?_; exact ArgsLe.refl) | (refine AvLe.agg ?_; (repeat (first | exact True.intro | refine And.intro (by first | exact AvLe.refl | exact AvLe.loose | exact AvLe.nil | exact AvLe.nilT | exact AvLe.slk) ?_)))) ?_))))) rfl ?_
    simp only [go_sem, hol]
    (repeat (refine ⟨by (first | exact True.intro | omega | rfl | (simp; done) | (simp; omega)), ?_⟩)); try (refine hKr _ ?_; clear hKr Kr)
    refine T.condTD rfl rfl (fun hd => ?_) (fun hd => ?_)
    rotate_left
    · exfalso
      cases hq : clashF R O with
      | true => rw [hq] at hd; simp at hd
      | false => rw [hq] at hd hcl; simp at hd hcl; omega
    refine T.sregD 72 [0, 1, 2, 3, 4, 5, 6, 7, 8, 9, 10, 21, 43, 50, 55, 56] fun Kr hKr => ?_
    simp only [go_sem]
    (repeat (refine ⟨by (first | exact True.intro | omega | rfl | (simp; done) | (simp; omega)), ?_⟩)); try (refine hKr _ ?_; clear hKr Kr)
    refine T.ret ?_
    simp only [go_sem]
    exact ⟨ResCellD rfl rfl rfl rfl (by simp only [go_sem]) (by rw [e2]; simp only [go_sem]) (by rw [e2]; rfl), ResAtD (by rw [ee0]; rfl) rfl rfl, trivial⟩
  have hq : clashF R O = false := by cases hq : clashF R O with | true => exact absurd (.inl hq) hcl | false => rfl
  have hol : ((O.length : Int) > 400) = False := eq_false (by omega)
  rw [if_neg hcl] at ee0
  rw [hq] at u3
  refine T.sregD 72 [0, 1, 2, 3, 4, 5, 6, 7, 8, 9, 10, 21, 43, 50, 55, 56] fun Kr hKr => ?_
  simp only [go_sem, hol]
  (repeat (refine ⟨by (first | exact True.intro | omega | rfl | (simp; done) | (simp; omega)), ?_⟩)); try (refine hKr _ ?_; clear hKr Kr)
  refine CallK.data (fun _ => Spec.args (u3) (by (first | exact ArgsLe.refl | (repeat (first | exact True.intro | refine And.intro (by first | exact AvLe.refl | exact AvLe.loose | exact AvLe.nil | exact AvLe.nilT | exact AvLe.slk | (refine AvLe.agg ?_; exact ArgsLe.refl) | (refine AvLe.agg ?_; (repeat (first | exact True.intro | refine And.intro (by first | exact AvLe.refl | exact AvLe.loose | exact AvLe.nil | exact AvLe.nilT | exact AvLe.slk) ?_)))) ?_))))) rfl ?_
  simp only [go_sem, hol]
  (repeat (refine ⟨by (first | exact True.intro | omega | rfl | (simp; done) | (simp; omega)), ?_⟩)); try (refine hKr _ ?_; clear hKr Kr)
  refine T.condTD rfl rfl (fun hd => ?_) (fun hd => ?_) <;> try simp at hd
  refine T.skip ?_
  refine hK2 _ ?_
  refine T.sregD 72 [0, 1, 2, 3, 4, 5, 6, 7, 8, 9, 10, 21, 43, 50, 55, 56] fun Kr hKr => ?_
  simp only [go_sem]
  (repeat (refine ⟨by (first | exact True.intro | omega | rfl | (simp; done) | (simp; omega)), ?_⟩)); try (refine hKr _ ?_; clear hKr Kr)
  refine CallK.data (fun _ => Spec.args (u4) (by (first | exact ArgsLe.refl | (repeat (first | exact True.intro | refine And.intro (by first | exact AvLe.refl | exact AvLe.loose | exact AvLe.nil | exact AvLe.nilT | exact AvLe.slk | (refine AvLe.agg ?_; exact ArgsLe.refl) | (refine AvLe.agg ?_; (repeat (first | exact True.intro | refine And.intro (by first | exact AvLe.refl | exact AvLe.loose | exact AvLe.nil | exact AvLe.nilT | exact AvLe.slk) ?_)))) ?_))))) rfl ?_
  simp only [go_sem]
  (repeat (refine ⟨by (first | exact True.intro | omega | rfl | (simp; done) | (simp; omega)), ?_⟩)); try (refine hKr _ ?_; clear hKr Kr)
  have hKl : (R.filter fun r => !meantB O r).length ≤ R.length := List.length_filter_le _ _
  generalize (R.filter fun r => !meantB O r) = K at *
  refine T.seqK fun K3 hK3 => ?_
  by_cases hk : K.length > 400
  · rw [if_pos hk] at ee0
    have e2 := hbad _ ee0
    have hk' : ((K.length : Int) > 400) = True := eq_true (by omega)
    refine T.sregD 72 [0, 1, 2, 3, 4, 5, 6, 7, 8, 9, 10, 21, 43, 50, 55, 56] fun Kr hKr => ?_
    simp only [go_sem, hk']
    (repeat (refine ⟨by (first | exact True.intro | omega | rfl | (simp; done) | (simp; omega)), ?_⟩)); try (refine hKr _ ?_; clear hKr Kr)
    refine T.condTD rfl rfl (fun hd => ?_) (fun hd => ?_) <;> try simp at hd
    refine T.sregD 72 [0, 1, 2, 3, 4, 5, 6, 7, 8, 9, 10, 21, 43, 50, 55, 56] fun Kr hKr => ?_
    simp only [go_sem]
    (repeat (refine ⟨by (first | exact True.intro | omega | rfl | (simp; done) | (simp; omega)), ?_⟩)); try (refine hKr _ ?_; clear hKr Kr)
    refine T.ret ?_
    simp only [go_sem]
    exact ⟨ResCellD rfl rfl rfl rfl (by simp only [go_sem]) (by rw [e2]; simp only [go_sem]) (by rw [e2]; rfl), ResAtD (by rw [ee0]; rfl) rfl rfl, trivial⟩
  rw [if_neg hk] at ee0
  have hk' : ((K.length : Int) > 400) = False := eq_false (by omega)
  refine T.sregD 72 [0, 1, 2, 3, 4, 5, 6, 7, 8, 9, 10, 21, 43, 50, 55, 56] fun Kr hKr => ?_
  simp only [go_sem, hk']
  (repeat (refine ⟨by (first | exact True.intro | omega | rfl | (simp; done) | (simp; omega)), ?_⟩)); try (refine hKr _ ?_; clear hKr Kr)
  refine T.condTD rfl rfl (fun hd => ?_) (fun hd => ?_) <;> try simp at hd
  refine T.skip ?_
  refine hK3 _ ?_
  refine T.sregD 72 [0, 1, 2, 3, 4, 5, 6, 7, 8, 9, 10, 21, 43, 50, 55, 56] fun Kr hKr => ?_
  simp only [go_sem]
  (repeat (refine ⟨by (first | exact True.intro | omega | rfl | (simp; done) | (simp; omega)), ?_⟩)); try (refine hKr _ ?_; clear hKr Kr)
  refine T.seqK fun K4 hK4 => ?_
  refine T.sregD 72 [0, 1, 2, 3, 4, 5, 6, 7, 8, 9, 10, 21, 43, 50, 55, 56] fun Kr hKr => ?_
  simp only [go_sem]
  (repeat (refine ⟨by (first | exact True.intro | omega | rfl | (simp; done) | (simp; omega)), ?_⟩)); try (refine hKr _ ?_; clear hKr Kr)
  refine T.bloop (fun d : Nat => ⟨dense 72 [(2, .op 2 0 0), (3, .op 3 0 0), (4, .op 4 0 0), (5, .int .i64 0), (9, .op 9 0 0), (55, .int .i64 d)], [(9, ⟨10, 29, true, [.agg (.sl false 6 (recsOf K) :: .sl false 7 (ordsOf O) :: intsOf (partL a.l b.l d))]⟩), (4, ⟨10, 29, true, [.agg [.sl true 1 [], .sl true 1 [], .int .i64 0, .int .i64 0, .int .i64 0, .int .i64 0, .int .i64 0, .int .i64 0, .int .i64 0, .int .i64 0]]⟩), (3, ⟨10, 29, true, [usrA b]⟩), (2, ⟨10, 29, true, [usrA a]⟩)]⟩) (fun d => d ≤ 8) (fun d => 8 - d) 0 (by simp) ?_ fun d hd => ?_
  · refine Le.fitS (by (repeat (first | exact DFit.nil | refine DFit.cons (by first | rfl | (simp [slook]; done) | (simp [slook]; omega)) ?_))) (by (repeat (first | exact True.intro | refine And.intro (by first | rfl | (simp [look]; done)) ?_)))
  refine T.sregD 72 [0, 1, 2, 3, 4, 5, 6, 7, 8, 9, 10, 21, 43, 50, 55, 56] fun Kr hKr => ?_
  simp only [go_sem]
  (repeat (refine ⟨by (first | exact True.intro | omega | rfl | (simp; done) | (simp; omega)), ?_⟩)); try (refine hKr _ ?_; clear hKr Kr)
  refine T.seqK fun K5 hK5 => ?_
  refine T.condFD rfl rfl (fun hb => ?_) (fun hb => ?_) <;> simp only [decide_eq_true_eq, decide_eq_false_iff_not] at hb
  · -- no: exit
    refine T.exit ?_
    simp only [if_true]
    refine hK4 _ ?_
    have hd8 : d = 8 := by omega
    subst hd8
    have e2 : mergeX (mergeF a b) = .agg (.sl false 6 (recsOf K) :: .sl false 7 (ordsOf O) :: intsOf (partL a.l b.l 8)) := by rw [ee0, partL_end]; rfl
    have hp8 : (partL a.l b.l 8).length = 8 := partL_len _ _ (by omega)
    have ht8 : (partL a.l b.l 8).take 8 = partL a.l b.l 8 := List.take_of_length_le (by omega)
    generalize partL a.l b.l 8 = P at *
    refine T.sregD 72 [0, 1, 2, 3, 4, 5, 6, 7, 8, 9, 10, 21, 43, 50, 55, 56] fun Kr hKr => ?_
    simp only [go_sem, hp8, ht8, List.take_succ_cons]
    (repeat (refine ⟨by (first | exact True.intro | omega | rfl | (simp; done) | (simp; omega)), ?_⟩)); try (refine hKr _ ?_; clear hKr Kr)
    refine T.ret ?_
    simp only [go_sem, hp8, ht8, List.take_succ_cons]
    exact ⟨ResCellD rfl rfl rfl rfl (by simp only [go_sem, hp8]) (by rw [e2]; simp only [go_sem, hp8, ht8, List.take_succ_cons]) (by rw [e2]; rfl), ResAtD (by rw [ee0]; simp only [go_sem]) rfl rfl, trivial⟩
  have hd8 : d < 8 := by omega
  have hpl : (partL a.l b.l d).length = 8 := partL_len _ _ (by omega)
  have hda : d < a.l.length := by omega
  have hdb : d < b.l.length := by omega
  refine T.skip ?_
  refine hK5 _ ?_
  refine T.seqK fun K6 hK6 => ?_
  refine T.block ?_
  refine T.sregD 72 [0, 1, 2, 3, 4, 5, 6, 7, 8, 9, 10, 21, 43, 50, 55, 56] fun Kr hKr => ?_
  simp only [go_sem]
  (repeat (refine ⟨by (first | exact True.intro | omega | rfl | (simp; done) | (simp; omega)), ?_⟩)); try (refine hKr _ ?_; clear hKr Kr)
  refine T.drawD 72 [2, 3, 4, 5, 9, 10, 55] (.take 0 (.take 1 (.take 2 (.take 3 (.take 4 (.take 5 (.take 6 (.take 7 (.take 8 (.take 9 (.take 10 (.take 11 (.one 12 .done))))))))))))) [2, 3] rfl (by decide +kernel) (by decide +kernel) fun Kr hKr => ?_
  simp only [go_sem, hda, hdb, hpl]
  refine ⟨by omega, by omega, by omega, by omega, by omega, by omega, ?_⟩
  rw [partL_box _ _ _ _ hd8]
  refine hKr _ ?_
  refine hK6 _ ?_
  refine T.regD 72 [0, 1, 2, 3, 4, 5, 6, 7, 8, 9, 10, 21, 43, 50, 55, 56] fun Kr hKr => ?_
  simp only [go_sem]
  (repeat (refine ⟨by (first | exact True.intro | omega | rfl | (simp; done) | (simp; omega)), ?_⟩)); try (refine hKr _ ?_; clear hKr Kr)
  refine ⟨d + 1, ?_, ?_, Le.fitS (by (repeat (first | exact DFit.nil | refine DFit.cons (by first | rfl | (simp [slook]; done) | (simp [slook]; omega)) ?_))) ?_⟩
  all_goals first | omega | skip
  exact ⟨rfl, rfl, rfl, rfl, trivial⟩
end Go.Proofs
