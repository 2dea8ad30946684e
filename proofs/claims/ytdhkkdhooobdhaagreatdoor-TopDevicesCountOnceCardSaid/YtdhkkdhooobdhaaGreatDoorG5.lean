/- Devices: merging lists, keeping elements; records and orders with the same place. Written by mkg5.py. -/
import Derived.Test.YtdhkkdhooobdhaaGreatDoorG4
set_option linter.unusedVariables false
set_option linter.unusedSimpArgs false
namespace Go.Proofs
open Go Go.Ideal
set_option maxRecDepth 8000
set_option maxHeartbeats 4000000

/-- The union of two lists that are ordered by places. -/
def uniF {α : Type} [DecidableEq α] (d s : α → Int) : List α → List α → Option (List α)
  | [], b => some b
  | x :: a, [] => some (x :: a)
  | x :: a, y :: b =>
    if befB (d x) (s x) (d y) (s y) = true then (uniF d s a (y :: b)).map (x :: ·)
    else if befB (d y) (s y) (d x) (s x) = true then (uniF d s (x :: a) b).map (y :: ·)
    else if x ≠ y then none else (uniF d s a b).map (x :: ·)
  termination_by a b => a.length + b.length
  decreasing_by all_goals simp <;> omega
def uniA (sz : Nat) (f : Option (List AV)) : AV := match f with | none => .sl true 1 [] | some l => .sl false sz l
theorem uniA_fin (sz : Nat) (f : Option (List AV)) : (uniA sz f).fin = true := by cases f <;> rfl
theorem uniA_le (sz : Nat) (f : Option (List AV)) : AvLe (uniA sz f) (.sl false sz (f.getD [])) := by
  cases f
  · exact AvLe.nil
  · exact AvLe.refl
/-- A record and an order with the same place. -/
def clashF : List Rec → List Ord → Bool
  | [], _ => false
  | _ :: _, [] => false
  | x :: a, y :: b => if befB x.d x.s y.d y.s = true then clashF a (y :: b) else if befB y.d y.s x.d x.s = true then clashF (x :: a) b else true
  termination_by a b => a.length + b.length
  decreasing_by all_goals simp <;> omega

theorem keepR_spec (l : List Rec) (q : Rec → Bool) (f : Nat) (caps : List AV) (hc : ∀ x ∈ caps, ∃ cs, x = .cp cs) (hl : l.length ≤ 100000)
    (sp : ∀ o ∈ l, Ideal.Spec Tryz.prog f (recA o :: caps) (.bool (q o)) none) : Ideal.Spec Tryz.prog 23 [.sl false 6 (recsOf l), .fn f caps] (.sl false 6 (recsOf (l.filter q))) none := by
  have a1 := car_all hc
  have a2 := car_any hc
  have a3 := car_nm hc
  have a4 := car_frz hc
  refine Ideal.Spec.of_TD (n := 23) (fn := Tryz.f23) rfl rfl rfl rfl rfl rfl rfl fun w ok => ?_
  refine T.post [.tmp 4] ?_
  refine T.sregD 23 [0, 1, 4, 5, 7, 8, 9, 10, 11, 16] fun Kr hKr => ?_
  simp only [go_sem, a1, a2, a3, a4]
  (repeat (refine ⟨by (first | exact True.intro | omega | rfl | (simp; done) | (simp; omega)), ?_⟩)); try (refine hKr _ ?_; clear hKr Kr)
  refine T.sregD 23 [0, 1, 4, 5, 7, 8, 9, 10, 11, 16] fun Kr hKr => ?_
  simp only [go_sem, a1, a2, a3, a4]
  (repeat (refine ⟨by (first | exact True.intro | omega | rfl | (simp; done) | (simp; omega)), ?_⟩)); try (refine hKr _ ?_; clear hKr Kr)
  refine T.seqK fun K1 hK1 => ?_
  refine T.sregD 23 [0, 1, 4, 5, 7, 8, 9, 10, 11, 16] fun Kr hKr => ?_
  simp only [go_sem, a1, a2, a3, a4]
  (repeat (refine ⟨by (first | exact True.intro | omega | rfl | (simp; done) | (simp; omega)), ?_⟩)); try (refine hKr _ ?_; clear hKr Kr)
  refine T.bloop (fun i : Nat => ⟨dense 23 [(1, .fn f caps), (5, .osl 20 0 ((l.take i).filter q).length), (8, .sl false 6 (recsOf l)), (9, .int .i64 l.length), (10, .int .i64 i)], [(20, ⟨6, 39, false, recsOf ((l.take i).filter q)⟩)]⟩) (fun i => i ≤ l.length) (fun i => l.length - i) 0 (by simp) ?_ fun i hi => ?_
  · refine (Le.own 5 20 6 39).trans ?_
    simp only [go_sem, a1, a2, a3, a4]
    refine Le.fitS (by (repeat (first | exact DFit.nil | refine DFit.cons (by first | rfl | (simp [slook]; done) | (simp [slook]; omega)) ?_))) (by (repeat (first | exact True.intro | refine And.intro (by first | rfl | (simp [look]; done)) ?_)))
  have hfl : ((l.take i).filter q).length ≤ i := Nat.le_trans (List.length_filter_le _ _) (by simp; omega)
  refine T.sregD 23 [0, 1, 4, 5, 7, 8, 9, 10, 11, 16] fun Kr hKr => ?_
  simp only [go_sem, a1, a2, a3, a4]
  (repeat (refine ⟨by (first | exact True.intro | omega | rfl | (simp; done) | (simp; omega)), ?_⟩)); try (refine hKr _ ?_; clear hKr Kr)
  refine T.seqK fun K2 hK2 => ?_
  refine T.condFD rfl rfl (fun hb => ?_) (fun hb => ?_) <;> simp at hb
  · -- no: exit
    refine T.exit ?_
    simp only [if_true]
    refine hK1 _ ?_
    have : i = l.length := by omega
    subst this
    rw [List.take_length]
    have ht : (l.filter q).take (l.filter q).length = l.filter q := List.take_length
    refine T.sregD 23 [0, 1, 4, 5, 7, 8, 9, 10, 11, 16] fun Kr hKr => ?_
    simp only [go_sem, a1, a2, a3, a4]
    (repeat (refine ⟨by (first | exact True.intro | omega | rfl | (simp; done) | (simp; omega)), ?_⟩)); try (refine hKr _ ?_; clear hKr Kr)
    refine T.ret ?_
    simp only [go_sem, Nat.le_refl, ht, a1, a2, a3, a4]
    exact Fin.dataD rfl rfl rfl
  refine T.skip ?_
  refine hK2 _ ?_
  refine T.seqK fun K3 hK3 => ?_
  refine T.block ?_
  have h1 := sp (l.getD i default) (by simp [List.getD, hb])
  have hstep : (l.take (i + 1)).filter q = (l.take i).filter q ++ (if q (l.getD i default) = true then [l.getD i default] else []) := by
    rw [take_succ_d hb, List.filter_append]; congr 1; cases hq : q (l.getD i default) <;> simp [-List.getD_eq_getElem?_getD, hq]
  refine T.sregD 23 [0, 1, 4, 5, 7, 8, 9, 10, 11, 16] fun Kr hKr => ?_
  simp only [go_sem, hb, a1, a2, a3, a4]
  (repeat (refine ⟨by (first | exact True.intro | omega | rfl | (simp; done) | (simp; omega)), ?_⟩)); try (refine hKr _ ?_; clear hKr Kr)
  refine T.sregD 23 [0, 1, 4, 5, 7, 8, 9, 10, 11, 16] fun Kr hKr => ?_
  simp only [go_sem, hb, a1, a2, a3, a4]
  (repeat (refine ⟨by (first | exact True.intro | omega | rfl | (simp; done) | (simp; omega)), ?_⟩)); try (refine hKr _ ?_; clear hKr Kr)
  refine CallK.data (fun _ => Spec.args (h1) (by (first | exact ArgsLe.refl | (repeat (first | exact True.intro | refine And.intro (by first | exact AvLe.refl | exact AvLe.loose | exact AvLe.nil | exact AvLe.nilT | exact AvLe.slk | (refine AvLe.agg ?_; exact ArgsLe.refl) | (refine AvLe.agg ?_; (repeat (first | exact True.intro | refine And.intro (by first | exact AvLe.refl | exact AvLe.loose | exact AvLe.nil | exact AvLe.nilT | exact AvLe.slk) ?_)))) ?_))))) rfl ?_
  simp only [go_sem, a1, a2, a3, a4]
  (repeat (refine ⟨by (first | exact True.intro | omega | rfl | (simp; done) | (simp; omega)), ?_⟩)); try (refine hKr _ ?_; clear hKr Kr)
  refine T.condTD rfl rfl (fun hd => ?_) (fun hd => ?_)
  · -- yes
    rw [if_pos hd] at hstep
    have happ : recsOf ((l.take i).filter q) ++ [recA (l.getD i default)] = recsOf ((l.take (i + 1)).filter q) := by rw [hstep]; simp [recsOf]
    rw [recA] at happ
    refine T.regD 23 [0, 1, 4, 5, 7, 8, 9, 10, 11, 16] fun Kr hKr => ?_
    simp only [go_sem, a1, a2, a3, a4, happ]
    (repeat (refine ⟨by (first | exact True.intro | omega | rfl | (simp; done) | (simp; omega)), ?_⟩)); try (refine hKr _ ?_; clear hKr Kr)
    refine hK3 _ ?_
    refine T.regD 23 [0, 1, 4, 5, 7, 8, 9, 10, 11, 16] fun Kr hKr => ?_
    simp only [go_sem, a1, a2, a3, a4]
    (repeat (refine ⟨by (first | exact True.intro | omega | rfl | (simp; done) | (simp; omega)), ?_⟩)); try (refine hKr _ ?_; clear hKr Kr)
    refine ⟨i + 1, ?_, ?_, Le.fitS (by (repeat (first | exact DFit.nil | refine DFit.cons (by first | rfl | (simp [slook, hstep]; done) | (simp [slook, hstep]; omega)) ?_))) ?_⟩
    · omega
    · omega
    · (repeat (first | exact True.intro | refine And.intro (by first | rfl | (simp [look]; done)) ?_))
  rw [if_neg (by rw [hd]; decide), List.append_nil] at hstep
  refine T.skip ?_
  refine hK3 _ ?_
  refine T.regD 23 [0, 1, 4, 5, 7, 8, 9, 10, 11, 16] fun Kr hKr => ?_
  simp only [go_sem, a1, a2, a3, a4]
  (repeat (refine ⟨by (first | exact True.intro | omega | rfl | (simp; done) | (simp; omega)), ?_⟩)); try (refine hKr _ ?_; clear hKr Kr)
  refine ⟨i + 1, ?_, ?_, Le.fitS (by (repeat (first | exact DFit.nil | refine DFit.cons (by first | rfl | (simp [slook, hstep]; done) | (simp [slook, hstep]; omega)) ?_))) ?_⟩
  · omega
  · omega
  · rw [hstep]; (repeat (first | exact True.intro | refine And.intro (by first | rfl | (simp [look]; done)) ?_))

@[go_sem] theorem recsOf_cons_get (x : Rec) (l : List Rec) : (recsOf (x :: l)).getD 0 .junk = recA x := rfl
theorem unionR_spec (a b : List Rec) (ha : a.length ≤ 1000) (hb : b.length ≤ 1000) : Ideal.Spec Tryz.prog 17 [.sl false 6 (recsOf a), .sl false 6 (recsOf b), .agg [.fn 18 [], .fn 19 []]]
    (.tup [.sl false 6 (((uniF (·.d) (·.s) a b).map recsOf).getD []), .bool (uniF (·.d) (·.s) a b).isSome]) none := by
  generalize hU : uniF (·.d) (·.s) a b = U
  refine Spec.weakT (rs := [uniA 6 (U.map recsOf), .bool U.isSome]) ?_ (by simp [uniA_fin]; rfl) rfl ⟨uniA_le _ _, AvLe.refl, trivial⟩
  refine Ideal.Spec.of_TD2 (n := 82) (fn := Tryz.f17) rfl rfl rfl rfl (by simp [uniA_fin]; rfl) rfl rfl fun w ok => ?_
  refine T.post [.tmp 6] ?_
  refine T.sregD 82 [0, 1, 2, 5, 6, 7, 8, 9, 10, 18, 41, 55, 69] fun Kr hKr => ?_
  simp only [go_sem]
  (repeat (refine ⟨by (first | exact True.intro | omega | rfl | (simp; done) | (simp; omega)), ?_⟩)); try (refine hKr _ ?_; clear hKr Kr)
  refine T.sregD 82 [0, 1, 2, 5, 6, 7, 8, 9, 10, 18, 41, 55, 69] fun Kr hKr => ?_
  simp only [go_sem]
  (repeat (refine ⟨by (first | exact True.intro | omega | rfl | (simp; done) | (simp; omega)), ?_⟩)); try (refine hKr _ ?_; clear hKr Kr)
  refine T.seqK fun K1 hK1 => ?_
  refine T.bloop (fun x : List Rec × List Rec × List Rec => ⟨dense 82 [(0, .sl false 6 (recsOf x.2.1)), (1, .sl false 6 (recsOf x.2.2)), (5, .op 5 0 0), (8, .osl 52 0 x.1.length)], [(52, ⟨6, 39, false, recsOf x.1⟩), (5, ⟨2, 66, true, [.agg [.fn 18 [], .fn 19 []]]⟩)]⟩)
    (fun x => (uniF (·.d) (·.s) x.2.1 x.2.2).map (x.1 ++ ·) = U ∧ x.1.length + x.2.1.length + x.2.2.length ≤ a.length + b.length) (fun x => x.2.1.length + x.2.2.length) ([], a, b) ⟨by simp only [List.nil_append, Option.map_id']; exact hU, by simp⟩ ?_ fun x hx => ?_
  · refine (Le.own 8 52 6 39).trans ?_
    simp only [go_sem]
    refine Le.fitS (by (repeat (first | exact DFit.nil | refine DFit.cons (by first | rfl | (simp [slook]; done) | (simp [slook]; omega)) ?_))) (by (repeat (first | exact True.intro | refine And.intro (by first | rfl | (simp [look]; done)) ?_)))
  obtain ⟨all, p, q⟩ := x
  obtain ⟨h1, h2⟩ := hx
  simp only at h1 h2 ⊢
  refine T.seqK fun K2 hK2 => ?_
  cases p with
  | nil =>
    simp only [uniF, Option.map_some] at h1
    subst h1
    refine T.sregD 82 [0, 1, 2, 5, 6, 7, 8, 9, 10, 18, 41, 55, 69] fun Kr hKr => ?_
    simp only [go_sem]
    (repeat (refine ⟨by (first | exact True.intro | omega | rfl | (simp; done) | (simp; omega)), ?_⟩)); try (refine hKr _ ?_; clear hKr Kr)
    refine T.condFD rfl rfl (fun hb => ?_) (fun hb => ?_) <;> try simp at hb
    refine T.exit ?_
    simp only [if_true]
    refine hK1 _ ?_
    have happ : recsOf all ++ recsOf q = recsOf (all ++ q) := by simp [recsOf]
    have hl2 : (all ++ q).length = all.length + q.length := by simp
    have ht : (all ++ q).take (all.length + q.length) = all ++ q := List.take_of_length_le (by omega)
    refine T.sregD 82 [0, 1, 2, 5, 6, 7, 8, 9, 10, 18, 41, 55, 69] fun Kr hKr => ?_
    simp only [go_sem, List.append_nil, Nat.add_zero, happ, hl2]
    (repeat (refine ⟨by (first | exact True.intro | omega | rfl | (simp; done) | (simp; omega)), ?_⟩)); try (refine hKr _ ?_; clear hKr Kr)
    refine T.ret ?_
    simp only [go_sem, List.append_nil, Nat.add_zero, happ, hl2, ht, Nat.le_refl]
    exact ⟨AtD (by simp only [go_sem]; try rfl) rfl rfl, AtD (by simp only [go_sem]; try rfl) rfl rfl⟩
  | cons x p =>
  cases q with
  | nil =>
    simp only [uniF, Option.map_some] at h1
    subst h1
    refine T.sregD 82 [0, 1, 2, 5, 6, 7, 8, 9, 10, 18, 41, 55, 69] fun Kr hKr => ?_
    simp only [go_sem]
    (repeat (refine ⟨by (first | exact True.intro | omega | rfl | (simp; done) | (simp; omega)), ?_⟩)); try (refine hKr _ ?_; clear hKr Kr)
    refine T.condFD rfl rfl (fun hb => ?_) (fun hb => ?_) <;> try simp at hb
    refine T.exit ?_
    simp only [if_true]
    refine hK1 _ ?_
    have happ : recsOf all ++ recsOf (x :: p) = recsOf (all ++ x :: p) := by simp [recsOf]
    have hl2 : (all ++ x :: p).length = all.length + (p.length + 1) := by simp
    have hl3 : (all ++ x :: p).length = all.length + p.length + 1 := by simp; omega
    have ht : (all ++ x :: p).take (all.length + (p.length + 1)) = all ++ x :: p := List.take_of_length_le (by omega)
    have h3 : all.length + (p.length + 1) ≤ 2000 := by simp only [List.length_cons, List.length_nil] at h2; omega
    refine T.sregD 82 [0, 1, 2, 5, 6, 7, 8, 9, 10, 18, 41, 55, 69] fun Kr hKr => ?_
    simp only [go_sem, List.append_nil, Nat.add_zero, happ, hl2, List.length_cons]
    (repeat (refine ⟨by (first | exact True.intro | omega | rfl | (simp; done) | (simp; omega)), ?_⟩)); try (refine hKr _ ?_; clear hKr Kr)
    refine T.ret ?_
    simp only [go_sem, List.append_nil, Nat.add_zero, happ, hl2, ht, Nat.le_refl, List.length_cons]
    exact ⟨AtD (by simp only [go_sem]; try rfl) rfl rfl, AtD (by simp only [go_sem]; try rfl) rfl rfl⟩
  | cons y q =>
  simp only [List.length_cons] at h2
  rw [uniF] at h1
  have s1 := ofRecord_spec x
  have s2 := ofRecord_spec y
  have s3 := before_spec x.d x.s y.d y.s
  have s4 := before_spec y.d y.s x.d x.s
  have g1 : (((p.length + 1 : Nat) : Int) > 0) = True := eq_true (by omega)
  have g2 : (((q.length + 1 : Nat) : Int) > 0) = True := eq_true (by omega)
  have c1 : (1 : Int) ≤ ((p.length + 1 : Nat) : Int) := by omega
  have c2 : (1 : Int) ≤ ((q.length + 1 : Nat) : Int) := by omega
  have d1 : 1 ≤ p.length + 1 := by omega
  have d2 : 1 ≤ q.length + 1 := by omega
  have e1 : p.length + 1 - 1 = p.length := by omega
  have e2 : q.length + 1 - 1 = q.length := by omega
  refine T.sregD 82 [0, 1, 2, 5, 6, 7, 8, 9, 10, 18, 41, 55, 69] fun Kr hKr => ?_
  simp only [go_sem, g1, g2]
  (repeat (refine ⟨by (first | exact True.intro | omega | rfl | (simp; done) | (simp; omega)), ?_⟩)); try (refine hKr _ ?_; clear hKr Kr)
  refine T.condFD rfl rfl (fun hb => ?_) (fun hb => ?_) <;> try simp at hb
  refine T.skip ?_
  refine hK2 _ ?_
  refine T.block ?_
  have i1 : (0 : Int) < ((p.length + 1 : Nat) : Int) := by omega
  have i2 : (0 : Int) < ((q.length + 1 : Nat) : Int) := by omega
  refine T.sdraw2D 82 [0, 1, 2, 5, 6, 7, 8, 9, 10, 18, 41, 55, 69] (.take 0 (.take 1 (.take 2 (.take 3 (.take 4 (.take 6 (.take 7 (.take 8 (.take 9 (.take 10 (.three 5 (.three 11 (.two 12 (.one 13 (.one 14 (.one 15 .done))) 13 (.one 12 (.one 14 (.one 15 .done)))) 12 (.two 11 (.one 13 (.one 14 (.one 15 .done))) 13 (.one 11 (.one 14 (.one 15 .done)))) 13 (.two 11 (.one 12 (.one 14 (.one 15 .done))) 12 (.one 11 (.one 14 (.one 15 .done))))) 12 (.two 5 (.two 11 (.one 13 (.one 14 (.one 15 .done))) 13 (.one 11 (.one 14 (.one 15 .done)))) 13 (.one 5 (.one 11 (.one 14 (.one 15 .done))))) 13 (.two 5 (.two 11 (.one 12 (.one 14 (.one 15 .done))) 12 (.one 11 (.one 14 (.one 15 .done)))) 12 (.one 5 (.one 11 (.one 14 (.one 15 .done)))))))))))))))) [5] rfl (by decide +kernel) (by decide +kernel) ?x1 ?h1 (fun Kr hKr => ?all1) ?rest1
  case all1 =>
    simp only [go_sem, List.length_cons, i1, i2]
    (repeat (any_goals (first | exact hKr _ (.inl rfl) | exact hKr _ (.inr (by (repeat (first | exact True.intro | refine And.intro (by first | rfl | (simp [look]; done)) ?_)))) | ((first | refine CallK.dataA (s1) ?_ rfl ?_ | refine CallK.tupA (s1) ?_ ?_ | refine CallK.ownA (s1) ?_ ?_); (focus (exact ArgsLe.refl)); simp only [go_sem, List.length_cons, i1, i2]) | ((first | refine CallK.dataA (s2) ?_ rfl ?_ | refine CallK.tupA (s2) ?_ ?_ | refine CallK.ownA (s2) ?_ ?_); (focus (exact ArgsLe.refl)); simp only [go_sem, List.length_cons, i1, i2]) | (refine And.intro ?_ ?_) | (first | exact True.intro | omega | rfl | (simp; done) | (simp; omega)))))
    all_goals (first | exact hKr _ (.inl rfl) | exact hKr _ (.inr (by (repeat (first | exact True.intro | refine And.intro (by first | rfl | (simp [look]; done)) ?_)))))
  case rest1 =>
  refine T.block ?_
  have happx : recsOf all ++ [recA x] = recsOf (all ++ [x]) := by simp [recsOf]
  have happy : recsOf all ++ [recA y] = recsOf (all ++ [y]) := by simp [recsOf]
  have hlx : (all ++ [x]).length = all.length + 1 := by simp
  have hly : (all ++ [y]).length = all.length + 1 := by simp
  rw [recA] at happx happy
  cases hxy : befB x.d x.s y.d y.s with
  | true =>
    rw [hxy] at s3
    rw [if_pos hxy, Option.map_map] at h1
    refine T.sregD 82 [0, 1, 2, 5, 6, 7, 8, 9, 10, 18, 41, 55, 69] fun Kr hKr => ?_
    simp only [go_sem]
    (repeat (refine ⟨by (first | exact True.intro | omega | rfl | (simp; done) | (simp; omega)), ?_⟩)); try (refine hKr _ ?_; clear hKr Kr)
    refine CallK.data (fun _ => Spec.args (s3) (by (first | exact ArgsLe.refl | (repeat (first | exact True.intro | refine And.intro (by first | exact AvLe.refl | exact AvLe.loose | exact AvLe.nil | exact AvLe.nilT | exact AvLe.slk | (refine AvLe.agg ?_; exact ArgsLe.refl) | (refine AvLe.agg ?_; (repeat (first | exact True.intro | refine And.intro (by first | exact AvLe.refl | exact AvLe.loose | exact AvLe.nil | exact AvLe.nilT | exact AvLe.slk) ?_)))) ?_))))) rfl ?_
    simp only [go_sem]
    (repeat (refine ⟨by (first | exact True.intro | omega | rfl | (simp; done) | (simp; omega)), ?_⟩)); try (refine hKr _ ?_; clear hKr Kr)
    refine T.condTD rfl rfl (fun hb => ?_) (fun hb => ?_) <;> try simp at hb
    refine T.drawD 82 [0, 1, 2, 5, 6, 7, 8, 9, 10, 18, 41, 55, 69] (.take 0 (.take 1 (.take 2 (.take 3 (.take 6 (.take 7 (.one 4 (.one 5 (.take 8 (.take 9 .done)))))))))) [] rfl (by decide +kernel) (by decide +kernel) fun Kr hKr => ?_
    simp only [go_sem, List.length_cons, i1, i2, c1, c2, d1, d2, happx, hlx, List.drop_succ_cons, List.drop_zero]
    (repeat (refine ⟨by (first | exact True.intro | omega | rfl | (simp; done) | (simp; omega)), ?_⟩)); try (refine hKr _ ?_; clear hKr Kr)
    refine ⟨(all ++ [x], p, y :: q), ?_, ?_, Le.fitS (by (repeat (first | exact DFit.nil | refine DFit.cons (by first | rfl | (simp [slook]; done) | (simp [slook]; omega)) ?_))) ?_⟩
    · refine ⟨?_, by simp only [List.length_append, List.length_cons, List.length_nil]; omega⟩
      rw [← h1]; congr 1; funext z; simp
    · simp only [List.length_cons]; omega
    · (repeat (first | exact True.intro | refine And.intro (by first | rfl | (simp [look]; done)) ?_))
  | false =>
  rw [hxy] at s3
  rw [if_neg (by rw [hxy]; decide)] at h1
  cases hyx : befB y.d y.s x.d x.s with
  | true =>
    rw [hyx] at s4
    rw [if_pos hyx, Option.map_map] at h1
    refine T.sregD 82 [0, 1, 2, 5, 6, 7, 8, 9, 10, 18, 41, 55, 69] fun Kr hKr => ?_
    simp only [go_sem]
    (repeat (refine ⟨by (first | exact True.intro | omega | rfl | (simp; done) | (simp; omega)), ?_⟩)); try (refine hKr _ ?_; clear hKr Kr)
    refine CallK.data (fun _ => Spec.args (s3) (by (first | exact ArgsLe.refl | (repeat (first | exact True.intro | refine And.intro (by first | exact AvLe.refl | exact AvLe.loose | exact AvLe.nil | exact AvLe.nilT | exact AvLe.slk | (refine AvLe.agg ?_; exact ArgsLe.refl) | (refine AvLe.agg ?_; (repeat (first | exact True.intro | refine And.intro (by first | exact AvLe.refl | exact AvLe.loose | exact AvLe.nil | exact AvLe.nilT | exact AvLe.slk) ?_)))) ?_))))) rfl ?_
    simp only [go_sem]
    (repeat (refine ⟨by (first | exact True.intro | omega | rfl | (simp; done) | (simp; omega)), ?_⟩)); try (refine hKr _ ?_; clear hKr Kr)
    refine T.condTD rfl rfl (fun hb => ?_) (fun hb => ?_) <;> try simp at hb
    refine T.sregD 82 [0, 1, 2, 5, 6, 7, 8, 9, 10, 18, 41, 55, 69] fun Kr hKr => ?_
    simp only [go_sem]
    (repeat (refine ⟨by (first | exact True.intro | omega | rfl | (simp; done) | (simp; omega)), ?_⟩)); try (refine hKr _ ?_; clear hKr Kr)
    refine CallK.data (fun _ => Spec.args (s4) (by (first | exact ArgsLe.refl | (repeat (first | exact True.intro | refine And.intro (by first | exact AvLe.refl | exact AvLe.loose | exact AvLe.nil | exact AvLe.nilT | exact AvLe.slk | (refine AvLe.agg ?_; exact ArgsLe.refl) | (refine AvLe.agg ?_; (repeat (first | exact True.intro | refine And.intro (by first | exact AvLe.refl | exact AvLe.loose | exact AvLe.nil | exact AvLe.nilT | exact AvLe.slk) ?_)))) ?_))))) rfl ?_
    simp only [go_sem]
    (repeat (refine ⟨by (first | exact True.intro | omega | rfl | (simp; done) | (simp; omega)), ?_⟩)); try (refine hKr _ ?_; clear hKr Kr)
    refine T.condTD rfl rfl (fun hb => ?_) (fun hb => ?_) <;> try simp at hb
    refine T.drawD 82 [0, 1, 2, 5, 6, 7, 8, 9, 10, 18, 41, 55, 69] (.take 0 (.take 1 (.take 2 (.take 3 (.take 6 (.take 7 (.one 4 (.one 5 (.take 8 (.take 9 .done)))))))))) [] rfl (by decide +kernel) (by decide +kernel) fun Kr hKr => ?_
    simp only [go_sem, List.length_cons, i1, i2, c1, c2, d1, d2, happy, hly, List.drop_succ_cons, List.drop_zero]
    (repeat (refine ⟨by (first | exact True.intro | omega | rfl | (simp; done) | (simp; omega)), ?_⟩)); try (refine hKr _ ?_; clear hKr Kr)
    refine ⟨(all ++ [y], x :: p, q), ?_, ?_, Le.fitS (by (repeat (first | exact DFit.nil | refine DFit.cons (by first | rfl | (simp [slook]; done) | (simp [slook]; omega)) ?_))) ?_⟩
    · refine ⟨?_, by simp only [List.length_append, List.length_cons, List.length_nil]; omega⟩
      rw [← h1]; congr 1; funext z; simp
    · simp only [List.length_cons]; omega
    · (repeat (first | exact True.intro | refine And.intro (by first | rfl | (simp [look]; done)) ?_))
  | false =>
  rw [hyx] at s4
  rw [if_neg (by rw [hyx]; decide)] at h1
  refine T.sregD 82 [0, 1, 2, 5, 6, 7, 8, 9, 10, 18, 41, 55, 69] fun Kr hKr => ?_
  simp only [go_sem]
  (repeat (refine ⟨by (first | exact True.intro | omega | rfl | (simp; done) | (simp; omega)), ?_⟩)); try (refine hKr _ ?_; clear hKr Kr)
  refine CallK.data (fun _ => Spec.args (s3) (by (first | exact ArgsLe.refl | (repeat (first | exact True.intro | refine And.intro (by first | exact AvLe.refl | exact AvLe.loose | exact AvLe.nil | exact AvLe.nilT | exact AvLe.slk | (refine AvLe.agg ?_; exact ArgsLe.refl) | (refine AvLe.agg ?_; (repeat (first | exact True.intro | refine And.intro (by first | exact AvLe.refl | exact AvLe.loose | exact AvLe.nil | exact AvLe.nilT | exact AvLe.slk) ?_)))) ?_))))) rfl ?_
  simp only [go_sem]
  (repeat (refine ⟨by (first | exact True.intro | omega | rfl | (simp; done) | (simp; omega)), ?_⟩)); try (refine hKr _ ?_; clear hKr Kr)
  refine T.condTD rfl rfl (fun hb => ?_) (fun hb => ?_) <;> try simp at hb
  refine T.sregD 82 [0, 1, 2, 5, 6, 7, 8, 9, 10, 18, 41, 55, 69] fun Kr hKr => ?_
  simp only [go_sem]
  (repeat (refine ⟨by (first | exact True.intro | omega | rfl | (simp; done) | (simp; omega)), ?_⟩)); try (refine hKr _ ?_; clear hKr Kr)
  refine CallK.data (fun _ => Spec.args (s4) (by (first | exact ArgsLe.refl | (repeat (first | exact True.intro | refine And.intro (by first | exact AvLe.refl | exact AvLe.loose | exact AvLe.nil | exact AvLe.nilT | exact AvLe.slk | (refine AvLe.agg ?_; exact ArgsLe.refl) | (refine AvLe.agg ?_; (repeat (first | exact True.intro | refine And.intro (by first | exact AvLe.refl | exact AvLe.loose | exact AvLe.nil | exact AvLe.nilT | exact AvLe.slk) ?_)))) ?_))))) rfl ?_
  simp only [go_sem]
  (repeat (refine ⟨by (first | exact True.intro | omega | rfl | (simp; done) | (simp; omega)), ?_⟩)); try (refine hKr _ ?_; clear hKr Kr)
  refine T.condTD rfl rfl (fun hb => ?_) (fun hb => ?_) <;> try simp at hb
  by_cases he : x = y
  · subst he
    rw [if_neg (by simp), Option.map_map] at h1
    refine T.sdrawD 82 [0, 1, 2, 5, 6, 7, 8, 9, 10, 18, 41, 55, 69] (.take 0 (.take 1 (.take 2 (.take 3 (.take 4 (.take 5 (.take 6 (.take 7 .done)))))))) [] rfl (by decide +kernel) (by decide +kernel) fun Kr hKr => ?_
    simp only [go_sem, List.length_cons, i1, i2, decide_true, beq_self_eq_true]
    (repeat (refine ⟨by (first | exact True.intro | omega | rfl | (simp; done) | (simp; omega)), ?_⟩)); try (refine hKr _ ?_; clear hKr Kr)
    refine T.condTD rfl rfl (fun hb => ?_) (fun hb => ?_)
    · exfalso; simp at hb
    refine T.drawD 82 [0, 1, 2, 5, 6, 7, 8, 9, 10, 18, 41, 55, 69] (.take 0 (.take 1 (.take 2 (.take 3 (.take 6 (.take 7 (.take 8 (.take 9 (.one 4 (.one 5 (.take 10 (.take 11 (.take 12 .done))))))))))))) [] rfl (by decide +kernel) (by decide +kernel) fun Kr hKr => ?_
    simp only [go_sem, List.length_cons, i1, i2, c1, c2, d1, d2, happx, hlx, List.drop_succ_cons, List.drop_zero]
    (repeat (refine ⟨by (first | exact True.intro | omega | rfl | (simp; done) | (simp; omega)), ?_⟩)); try (refine hKr _ ?_; clear hKr Kr)
    refine ⟨(all ++ [x], p, q), ?_, ?_, Le.fitS (by (repeat (first | exact DFit.nil | refine DFit.cons (by first | rfl | (simp [slook]; done) | (simp [slook]; omega)) ?_))) ?_⟩
    · refine ⟨?_, by simp only [List.length_append, List.length_cons, List.length_nil]; omega⟩
      rw [← h1]; congr 1; funext z; simp
    · simp only [List.length_cons]; omega
    · (repeat (first | exact True.intro | refine And.intro (by first | rfl | (simp [look]; done)) ?_))
  · rw [if_pos he] at h1
    simp only [Option.map_none] at h1
    subst h1
    refine T.sdrawD 82 [0, 1, 2, 5, 6, 7, 8, 9, 10, 18, 41, 55, 69] (.take 0 (.take 1 (.take 2 (.take 3 (.take 4 (.take 5 (.take 6 (.take 7 .done)))))))) [] rfl (by decide +kernel) (by decide +kernel) fun Kr hKr => ?_
    simp only [go_sem, List.length_cons, i1, i2]
    (repeat (refine ⟨by (first | exact True.intro | omega | rfl | (simp; done) | (simp; omega)), ?_⟩)); try (refine hKr _ ?_; clear hKr Kr)
    refine T.condTD rfl rfl (fun hb => ?_) (fun hb => ?_)
    rotate_left
    · exfalso
      apply he
      obtain ⟨x1, x2, x3, x4, x5, x6⟩ := x
      obtain ⟨y1, y2, y3, y4, y5, y6⟩ := y
      simp at hb
      simp [hb]
    refine T.sregD 82 [0, 1, 2, 5, 6, 7, 8, 9, 10, 18, 41, 55, 69] fun Kr hKr => ?_
    simp only [go_sem]
    (repeat (refine ⟨by (first | exact True.intro | omega | rfl | (simp; done) | (simp; omega)), ?_⟩)); try (refine hKr _ ?_; clear hKr Kr)
    refine T.ret ?_
    simp only [go_sem]
    exact ⟨AtD (by simp only [go_sem]; try rfl) rfl rfl, AtD (by simp only [go_sem]; try rfl) rfl rfl⟩

@[go_sem] theorem ordsOf_cons_get (x : Ord) (l : List Ord) : (ordsOf (x :: l)).getD 0 .junk = ordA x := rfl
theorem unionO_spec (a b : List Ord) (ha : a.length ≤ 1000) (hb : b.length ≤ 1000) : Ideal.Spec Tryz.prog 20 [.sl false 7 (ordsOf a), .sl false 7 (ordsOf b), .agg [.fn 21 [], .fn 19 []]]
    (.tup [.sl false 7 (((uniF (·.d) (·.s) a b).map ordsOf).getD []), .bool (uniF (·.d) (·.s) a b).isSome]) none := by
  generalize hU : uniF (·.d) (·.s) a b = U
  refine Spec.weakT (rs := [uniA 7 (U.map ordsOf), .bool U.isSome]) ?_ (by simp [uniA_fin]; rfl) rfl ⟨uniA_le _ _, AvLe.refl, trivial⟩
  refine Ideal.Spec.of_TD2 (n := 82) (fn := Tryz.f20) rfl rfl rfl rfl (by simp [uniA_fin]; rfl) rfl rfl fun w ok => ?_
  refine T.post [.tmp 6] ?_
  refine T.sregD 82 [0, 1, 2, 5, 6, 7, 8, 9, 10, 18, 41, 55, 69] fun Kr hKr => ?_
  simp only [go_sem]
  (repeat (refine ⟨by (first | exact True.intro | omega | rfl | (simp; done) | (simp; omega)), ?_⟩)); try (refine hKr _ ?_; clear hKr Kr)
  refine T.sregD 82 [0, 1, 2, 5, 6, 7, 8, 9, 10, 18, 41, 55, 69] fun Kr hKr => ?_
  simp only [go_sem]
  (repeat (refine ⟨by (first | exact True.intro | omega | rfl | (simp; done) | (simp; omega)), ?_⟩)); try (refine hKr _ ?_; clear hKr Kr)
  refine T.seqK fun K1 hK1 => ?_
  refine T.bloop (fun x : List Ord × List Ord × List Ord => ⟨dense 82 [(0, .sl false 7 (ordsOf x.2.1)), (1, .sl false 7 (ordsOf x.2.2)), (5, .op 5 0 0), (8, .osl 52 0 x.1.length)], [(52, ⟨7, 70, false, ordsOf x.1⟩), (5, ⟨2, 73, true, [.agg [.fn 21 [], .fn 19 []]]⟩)]⟩)
    (fun x => (uniF (·.d) (·.s) x.2.1 x.2.2).map (x.1 ++ ·) = U ∧ x.1.length + x.2.1.length + x.2.2.length ≤ a.length + b.length) (fun x => x.2.1.length + x.2.2.length) ([], a, b) ⟨by simp only [List.nil_append, Option.map_id']; exact hU, by simp⟩ ?_ fun x hx => ?_
  · refine (Le.own 8 52 7 70).trans ?_
    simp only [go_sem]
    refine Le.fitS (by (repeat (first | exact DFit.nil | refine DFit.cons (by first | rfl | (simp [slook]; done) | (simp [slook]; omega)) ?_))) (by (repeat (first | exact True.intro | refine And.intro (by first | rfl | (simp [look]; done)) ?_)))
  obtain ⟨all, p, q⟩ := x
  obtain ⟨h1, h2⟩ := hx
  simp only at h1 h2 ⊢
  refine T.seqK fun K2 hK2 => ?_
  cases p with
  | nil =>
    simp only [uniF, Option.map_some] at h1
    subst h1
    refine T.sregD 82 [0, 1, 2, 5, 6, 7, 8, 9, 10, 18, 41, 55, 69] fun Kr hKr => ?_
    simp only [go_sem]
    (repeat (refine ⟨by (first | exact True.intro | omega | rfl | (simp; done) | (simp; omega)), ?_⟩)); try (refine hKr _ ?_; clear hKr Kr)
    refine T.condFD rfl rfl (fun hb => ?_) (fun hb => ?_) <;> try simp at hb
    refine T.exit ?_
    simp only [if_true]
    refine hK1 _ ?_
    have happ : ordsOf all ++ ordsOf q = ordsOf (all ++ q) := by simp [ordsOf]
    have hl2 : (all ++ q).length = all.length + q.length := by simp
    have ht : (all ++ q).take (all.length + q.length) = all ++ q := List.take_of_length_le (by omega)
    refine T.sregD 82 [0, 1, 2, 5, 6, 7, 8, 9, 10, 18, 41, 55, 69] fun Kr hKr => ?_
    simp only [go_sem, List.append_nil, Nat.add_zero, happ, hl2]
    (repeat (refine ⟨by (first | exact True.intro | omega | rfl | (simp; done) | (simp; omega)), ?_⟩)); try (refine hKr _ ?_; clear hKr Kr)
    refine T.ret ?_
    simp only [go_sem, List.append_nil, Nat.add_zero, happ, hl2, ht, Nat.le_refl]
    exact ⟨AtD (by simp only [go_sem]; try rfl) rfl rfl, AtD (by simp only [go_sem]; try rfl) rfl rfl⟩
  | cons x p =>
  cases q with
  | nil =>
    simp only [uniF, Option.map_some] at h1
    subst h1
    refine T.sregD 82 [0, 1, 2, 5, 6, 7, 8, 9, 10, 18, 41, 55, 69] fun Kr hKr => ?_
    simp only [go_sem]
    (repeat (refine ⟨by (first | exact True.intro | omega | rfl | (simp; done) | (simp; omega)), ?_⟩)); try (refine hKr _ ?_; clear hKr Kr)
    refine T.condFD rfl rfl (fun hb => ?_) (fun hb => ?_) <;> try simp at hb
    refine T.exit ?_
    simp only [if_true]
    refine hK1 _ ?_
    have happ : ordsOf all ++ ordsOf (x :: p) = ordsOf (all ++ x :: p) := by simp [ordsOf]
    have hl2 : (all ++ x :: p).length = all.length + (p.length + 1) := by simp
    have hl3 : (all ++ x :: p).length = all.length + p.length + 1 := by simp; omega
    have ht : (all ++ x :: p).take (all.length + (p.length + 1)) = all ++ x :: p := List.take_of_length_le (by omega)
    have h3 : all.length + (p.length + 1) ≤ 2000 := by simp only [List.length_cons, List.length_nil] at h2; omega
    refine T.sregD 82 [0, 1, 2, 5, 6, 7, 8, 9, 10, 18, 41, 55, 69] fun Kr hKr => ?_
    simp only [go_sem, List.append_nil, Nat.add_zero, happ, hl2, List.length_cons]
    (repeat (refine ⟨by (first | exact True.intro | omega | rfl | (simp; done) | (simp; omega)), ?_⟩)); try (refine hKr _ ?_; clear hKr Kr)
    refine T.ret ?_
    simp only [go_sem, List.append_nil, Nat.add_zero, happ, hl2, ht, Nat.le_refl, List.length_cons]
    exact ⟨AtD (by simp only [go_sem]; try rfl) rfl rfl, AtD (by simp only [go_sem]; try rfl) rfl rfl⟩
  | cons y q =>
  simp only [List.length_cons] at h2
  rw [uniF] at h1
  have s1 := ofOrder_spec x
  have s2 := ofOrder_spec y
  have s3 := before_spec x.d x.s y.d y.s
  have s4 := before_spec y.d y.s x.d x.s
  have g1 : (((p.length + 1 : Nat) : Int) > 0) = True := eq_true (by omega)
  have g2 : (((q.length + 1 : Nat) : Int) > 0) = True := eq_true (by omega)
  have c1 : (1 : Int) ≤ ((p.length + 1 : Nat) : Int) := by omega
  have c2 : (1 : Int) ≤ ((q.length + 1 : Nat) : Int) := by omega
  have d1 : 1 ≤ p.length + 1 := by omega
  have d2 : 1 ≤ q.length + 1 := by omega
  have e1 : p.length + 1 - 1 = p.length := by omega
  have e2 : q.length + 1 - 1 = q.length := by omega
  refine T.sregD 82 [0, 1, 2, 5, 6, 7, 8, 9, 10, 18, 41, 55, 69] fun Kr hKr => ?_
  simp only [go_sem, g1, g2]
  (repeat (refine ⟨by (first | exact True.intro | omega | rfl | (simp; done) | (simp; omega)), ?_⟩)); try (refine hKr _ ?_; clear hKr Kr)
  refine T.condFD rfl rfl (fun hb => ?_) (fun hb => ?_) <;> try simp at hb
  refine T.skip ?_
  refine hK2 _ ?_
  refine T.block ?_
  have i1 : (0 : Int) < ((p.length + 1 : Nat) : Int) := by omega
  have i2 : (0 : Int) < ((q.length + 1 : Nat) : Int) := by omega
  refine T.sdraw2D 82 [0, 1, 2, 5, 6, 7, 8, 9, 10, 18, 41, 55, 69] (.take 0 (.take 1 (.take 2 (.take 3 (.take 4 (.take 6 (.take 7 (.take 8 (.take 9 (.take 10 (.three 5 (.three 11 (.two 12 (.one 13 (.one 14 (.one 15 .done))) 13 (.one 12 (.one 14 (.one 15 .done)))) 12 (.two 11 (.one 13 (.one 14 (.one 15 .done))) 13 (.one 11 (.one 14 (.one 15 .done)))) 13 (.two 11 (.one 12 (.one 14 (.one 15 .done))) 12 (.one 11 (.one 14 (.one 15 .done))))) 12 (.two 5 (.two 11 (.one 13 (.one 14 (.one 15 .done))) 13 (.one 11 (.one 14 (.one 15 .done)))) 13 (.one 5 (.one 11 (.one 14 (.one 15 .done))))) 13 (.two 5 (.two 11 (.one 12 (.one 14 (.one 15 .done))) 12 (.one 11 (.one 14 (.one 15 .done)))) 12 (.one 5 (.one 11 (.one 14 (.one 15 .done)))))))))))))))) [5] rfl (by decide +kernel) (by decide +kernel) ?x2 ?h2 (fun Kr hKr => ?all2) ?rest2
  case all2 =>
    simp only [go_sem, List.length_cons, i1, i2]
    (repeat (any_goals (first | exact hKr _ (.inl rfl) | exact hKr _ (.inr (by (repeat (first | exact True.intro | refine And.intro (by first | rfl | (simp [look]; done)) ?_)))) | ((first | refine CallK.dataA (s1) ?_ rfl ?_ | refine CallK.tupA (s1) ?_ ?_ | refine CallK.ownA (s1) ?_ ?_); (focus (exact ArgsLe.refl)); simp only [go_sem, List.length_cons, i1, i2]) | ((first | refine CallK.dataA (s2) ?_ rfl ?_ | refine CallK.tupA (s2) ?_ ?_ | refine CallK.ownA (s2) ?_ ?_); (focus (exact ArgsLe.refl)); simp only [go_sem, List.length_cons, i1, i2]) | (refine And.intro ?_ ?_) | (first | exact True.intro | omega | rfl | (simp; done) | (simp; omega)))))
    all_goals (first | exact hKr _ (.inl rfl) | exact hKr _ (.inr (by (repeat (first | exact True.intro | refine And.intro (by first | rfl | (simp [look]; done)) ?_)))))
  case rest2 =>
  refine T.block ?_
  have happx : ordsOf all ++ [ordA x] = ordsOf (all ++ [x]) := by simp [ordsOf]
  have happy : ordsOf all ++ [ordA y] = ordsOf (all ++ [y]) := by simp [ordsOf]
  have hlx : (all ++ [x]).length = all.length + 1 := by simp
  have hly : (all ++ [y]).length = all.length + 1 := by simp
  rw [ordA] at happx happy
  cases hxy : befB x.d x.s y.d y.s with
  | true =>
    rw [hxy] at s3
    rw [if_pos hxy, Option.map_map] at h1
    refine T.sregD 82 [0, 1, 2, 5, 6, 7, 8, 9, 10, 18, 41, 55, 69] fun Kr hKr => ?_
    simp only [go_sem]
    (repeat (refine ⟨by (first | exact True.intro | omega | rfl | (simp; done) | (simp; omega)), ?_⟩)); try (refine hKr _ ?_; clear hKr Kr)
    refine CallK.data (fun _ => Spec.args (s3) (by (first | exact ArgsLe.refl | (repeat (first | exact True.intro | refine And.intro (by first | exact AvLe.refl | exact AvLe.loose | exact AvLe.nil | exact AvLe.nilT | exact AvLe.slk | (refine AvLe.agg ?_; exact ArgsLe.refl) | (refine AvLe.agg ?_; (repeat (first | exact True.intro | refine And.intro (by first | exact AvLe.refl | exact AvLe.loose | exact AvLe.nil | exact AvLe.nilT | exact AvLe.slk) ?_)))) ?_))))) rfl ?_
    simp only [go_sem]
    (repeat (refine ⟨by (first | exact True.intro | omega | rfl | (simp; done) | (simp; omega)), ?_⟩)); try (refine hKr _ ?_; clear hKr Kr)
    refine T.condTD rfl rfl (fun hb => ?_) (fun hb => ?_) <;> try simp at hb
    refine T.drawD 82 [0, 1, 2, 5, 6, 7, 8, 9, 10, 18, 41, 55, 69] (.take 0 (.take 1 (.take 2 (.take 3 (.take 6 (.take 7 (.one 4 (.one 5 (.take 8 (.take 9 .done)))))))))) [] rfl (by decide +kernel) (by decide +kernel) fun Kr hKr => ?_
    simp only [go_sem, List.length_cons, i1, i2, c1, c2, d1, d2, happx, hlx, List.drop_succ_cons, List.drop_zero]
    (repeat (refine ⟨by (first | exact True.intro | omega | rfl | (simp; done) | (simp; omega)), ?_⟩)); try (refine hKr _ ?_; clear hKr Kr)
    refine ⟨(all ++ [x], p, y :: q), ?_, ?_, Le.fitS (by (repeat (first | exact DFit.nil | refine DFit.cons (by first | rfl | (simp [slook]; done) | (simp [slook]; omega)) ?_))) ?_⟩
    · refine ⟨?_, by simp only [List.length_append, List.length_cons, List.length_nil]; omega⟩
      rw [← h1]; congr 1; funext z; simp
    · simp only [List.length_cons]; omega
    · (repeat (first | exact True.intro | refine And.intro (by first | rfl | (simp [look]; done)) ?_))
  | false =>
  rw [hxy] at s3
  rw [if_neg (by rw [hxy]; decide)] at h1
  cases hyx : befB y.d y.s x.d x.s with
  | true =>
    rw [hyx] at s4
    rw [if_pos hyx, Option.map_map] at h1
    refine T.sregD 82 [0, 1, 2, 5, 6, 7, 8, 9, 10, 18, 41, 55, 69] fun Kr hKr => ?_
    simp only [go_sem]
    (repeat (refine ⟨by (first | exact True.intro | omega | rfl | (simp; done) | (simp; omega)), ?_⟩)); try (refine hKr _ ?_; clear hKr Kr)
    refine CallK.data (fun _ => Spec.args (s3) (by (first | exact ArgsLe.refl | (repeat (first | exact True.intro | refine And.intro (by first | exact AvLe.refl | exact AvLe.loose | exact AvLe.nil | exact AvLe.nilT | exact AvLe.slk | (refine AvLe.agg ?_; exact ArgsLe.refl) | (refine AvLe.agg ?_; (repeat (first | exact True.intro | refine And.intro (by first | exact AvLe.refl | exact AvLe.loose | exact AvLe.nil | exact AvLe.nilT | exact AvLe.slk) ?_)))) ?_))))) rfl ?_
    simp only [go_sem]
    (repeat (refine ⟨by (first | exact True.intro | omega | rfl | (simp; done) | (simp; omega)), ?_⟩)); try (refine hKr _ ?_; clear hKr Kr)
    refine T.condTD rfl rfl (fun hb => ?_) (fun hb => ?_) <;> try simp at hb
    refine T.sregD 82 [0, 1, 2, 5, 6, 7, 8, 9, 10, 18, 41, 55, 69] fun Kr hKr => ?_
    simp only [go_sem]
    (repeat (refine ⟨by (first | exact True.intro | omega | rfl | (simp; done) | (simp; omega)), ?_⟩)); try (refine hKr _ ?_; clear hKr Kr)
    refine CallK.data (fun _ => Spec.args (s4) (by (first | exact ArgsLe.refl | (repeat (first | exact True.intro | refine And.intro (by first | exact AvLe.refl | exact AvLe.loose | exact AvLe.nil | exact AvLe.nilT | exact AvLe.slk | (refine AvLe.agg ?_; exact ArgsLe.refl) | (refine AvLe.agg ?_; (repeat (first | exact True.intro | refine And.intro (by first | exact AvLe.refl | exact AvLe.loose | exact AvLe.nil | exact AvLe.nilT | exact AvLe.slk) ?_)))) ?_))))) rfl ?_
    simp only [go_sem]
    (repeat (refine ⟨by (first | exact True.intro | omega | rfl | (simp; done) | (simp; omega)), ?_⟩)); try (refine hKr _ ?_; clear hKr Kr)
    refine T.condTD rfl rfl (fun hb => ?_) (fun hb => ?_) <;> try simp at hb
    refine T.drawD 82 [0, 1, 2, 5, 6, 7, 8, 9, 10, 18, 41, 55, 69] (.take 0 (.take 1 (.take 2 (.take 3 (.take 6 (.take 7 (.one 4 (.one 5 (.take 8 (.take 9 .done)))))))))) [] rfl (by decide +kernel) (by decide +kernel) fun Kr hKr => ?_
    simp only [go_sem, List.length_cons, i1, i2, c1, c2, d1, d2, happy, hly, List.drop_succ_cons, List.drop_zero]
    (repeat (refine ⟨by (first | exact True.intro | omega | rfl | (simp; done) | (simp; omega)), ?_⟩)); try (refine hKr _ ?_; clear hKr Kr)
    refine ⟨(all ++ [y], x :: p, q), ?_, ?_, Le.fitS (by (repeat (first | exact DFit.nil | refine DFit.cons (by first | rfl | (simp [slook]; done) | (simp [slook]; omega)) ?_))) ?_⟩
    · refine ⟨?_, by simp only [List.length_append, List.length_cons, List.length_nil]; omega⟩
      rw [← h1]; congr 1; funext z; simp
    · simp only [List.length_cons]; omega
    · (repeat (first | exact True.intro | refine And.intro (by first | rfl | (simp [look]; done)) ?_))
  | false =>
  rw [hyx] at s4
  rw [if_neg (by rw [hyx]; decide)] at h1
  refine T.sregD 82 [0, 1, 2, 5, 6, 7, 8, 9, 10, 18, 41, 55, 69] fun Kr hKr => ?_
  simp only [go_sem]
  (repeat (refine ⟨by (first | exact True.intro | omega | rfl | (simp; done) | (simp; omega)), ?_⟩)); try (refine hKr _ ?_; clear hKr Kr)
  refine CallK.data (fun _ => Spec.args (s3) (by (first | exact ArgsLe.refl | (repeat (first | exact True.intro | refine And.intro (by first | exact AvLe.refl | exact AvLe.loose | exact AvLe.nil | exact AvLe.nilT | exact AvLe.slk | (refine AvLe.agg ?_; exact ArgsLe.refl) | (refine AvLe.agg ?_; (repeat (first | exact True.intro | refine And.intro (by first | exact AvLe.refl | exact AvLe.loose | exact AvLe.nil | exact AvLe.nilT | exact AvLe.slk) ?_)))) ?_))))) rfl ?_
  simp only [go_sem]
  (repeat (refine ⟨by (first | exact True.intro | omega | rfl | (simp; done) | (simp; omega)), ?_⟩)); try (refine hKr _ ?_; clear hKr Kr)
  refine T.condTD rfl rfl (fun hb => ?_) (fun hb => ?_) <;> try simp at hb
  refine T.sregD 82 [0, 1, 2, 5, 6, 7, 8, 9, 10, 18, 41, 55, 69] fun Kr hKr => ?_
  simp only [go_sem]
  (repeat (refine ⟨by (first | exact True.intro | omega | rfl | (simp; done) | (simp; omega)), ?_⟩)); try (refine hKr _ ?_; clear hKr Kr)
  refine CallK.data (fun _ => Spec.args (s4) (by (first | exact ArgsLe.refl | (repeat (first | exact True.intro | refine And.intro (by first | exact AvLe.refl | exact AvLe.loose | exact AvLe.nil | exact AvLe.nilT | exact AvLe.slk | (refine AvLe.agg ?_; exact ArgsLe.refl) | (refine AvLe.agg ?_; (repeat (first | exact True.intro | refine And.intro (by first | exact AvLe.refl | exact AvLe.loose | exact AvLe.nil | exact AvLe.nilT | exact AvLe.slk) ?_)))) ?_))))) rfl ?_
  simp only [go_sem]
  (repeat (refine ⟨by (first | exact True.intro | omega | rfl | (simp; done) | (simp; omega)), ?_⟩)); try (refine hKr _ ?_; clear hKr Kr)
  refine T.condTD rfl rfl (fun hb => ?_) (fun hb => ?_) <;> try simp at hb
  by_cases he : x = y
  · subst he
    rw [if_neg (by simp), Option.map_map] at h1
    refine T.sdrawD 82 [0, 1, 2, 5, 6, 7, 8, 9, 10, 18, 41, 55, 69] (.take 0 (.take 1 (.take 2 (.take 3 (.take 4 (.take 5 (.take 6 (.take 7 .done)))))))) [] rfl (by decide +kernel) (by decide +kernel) fun Kr hKr => ?_
    simp only [go_sem, List.length_cons, i1, i2, decide_true, beq_self_eq_true]
    (repeat (refine ⟨by (first | exact True.intro | omega | rfl | (simp; done) | (simp; omega)), ?_⟩)); try (refine hKr _ ?_; clear hKr Kr)
    refine T.condTD rfl rfl (fun hb => ?_) (fun hb => ?_)
    · exfalso; simp at hb
    refine T.drawD 82 [0, 1, 2, 5, 6, 7, 8, 9, 10, 18, 41, 55, 69] (.take 0 (.take 1 (.take 2 (.take 3 (.take 6 (.take 7 (.take 8 (.take 9 (.one 4 (.one 5 (.take 10 (.take 11 (.take 12 .done))))))))))))) [] rfl (by decide +kernel) (by decide +kernel) fun Kr hKr => ?_
    simp only [go_sem, List.length_cons, i1, i2, c1, c2, d1, d2, happx, hlx, List.drop_succ_cons, List.drop_zero]
    (repeat (refine ⟨by (first | exact True.intro | omega | rfl | (simp; done) | (simp; omega)), ?_⟩)); try (refine hKr _ ?_; clear hKr Kr)
    refine ⟨(all ++ [x], p, q), ?_, ?_, Le.fitS (by (repeat (first | exact DFit.nil | refine DFit.cons (by first | rfl | (simp [slook]; done) | (simp [slook]; omega)) ?_))) ?_⟩
    · refine ⟨?_, by simp only [List.length_append, List.length_cons, List.length_nil]; omega⟩
      rw [← h1]; congr 1; funext z; simp
    · simp only [List.length_cons]; omega
    · (repeat (first | exact True.intro | refine And.intro (by first | rfl | (simp [look]; done)) ?_))
  · rw [if_pos he] at h1
    simp only [Option.map_none] at h1
    subst h1
    refine T.sdrawD 82 [0, 1, 2, 5, 6, 7, 8, 9, 10, 18, 41, 55, 69] (.take 0 (.take 1 (.take 2 (.take 3 (.take 4 (.take 5 (.take 6 (.take 7 .done)))))))) [] rfl (by decide +kernel) (by decide +kernel) fun Kr hKr => ?_
    simp only [go_sem, List.length_cons, i1, i2]
    (repeat (refine ⟨by (first | exact True.intro | omega | rfl | (simp; done) | (simp; omega)), ?_⟩)); try (refine hKr _ ?_; clear hKr Kr)
    refine T.condTD rfl rfl (fun hb => ?_) (fun hb => ?_)
    rotate_left
    · exfalso
      apply he
      obtain ⟨x1, x2, x3, x4, x5, x6, x7⟩ := x
      obtain ⟨y1, y2, y3, y4, y5, y6, y7⟩ := y
      simp at hb
      simp [hb]
    refine T.sregD 82 [0, 1, 2, 5, 6, 7, 8, 9, 10, 18, 41, 55, 69] fun Kr hKr => ?_
    simp only [go_sem]
    (repeat (refine ⟨by (first | exact True.intro | omega | rfl | (simp; done) | (simp; omega)), ?_⟩)); try (refine hKr _ ?_; clear hKr Kr)
    refine T.ret ?_
    simp only [go_sem]
    exact ⟨AtD (by simp only [go_sem]; try rfl) rfl rfl, AtD (by simp only [go_sem]; try rfl) rfl rfl⟩

theorem clash_spec (a : List Rec) (b : List Ord) (ha : a.length ≤ 100000) (hb : b.length ≤ 100000) : Ideal.Spec Tryz.prog 22 [.sl false 6 (recsOf a), .sl false 7 (ordsOf b)] (.bool (clashF a b)) none := by
  refine Ideal.Spec.of_TD (n := 35) (fn := Tryz.f22) rfl rfl rfl rfl rfl rfl rfl fun w ok => ?_
  refine T.sregD 35 [0, 1, 4, 5, 6, 14, 23, 29] fun Kr hKr => ?_
  simp only [go_sem]
  (repeat (refine ⟨by (first | exact True.intro | omega | rfl | (simp; done) | (simp; omega)), ?_⟩)); try (refine hKr _ ?_; clear hKr Kr)
  refine T.seqK fun K1 hK1 => ?_
  refine T.bloop (fun x : List Rec × List Ord => ⟨dense 35 [(0, .sl false 6 (recsOf x.1)), (1, .sl false 7 (ordsOf x.2))], []⟩)
    (fun x => clashF x.1 x.2 = clashF a b ∧ x.1.length + x.2.length ≤ a.length + b.length) (fun x => x.1.length + x.2.length) (a, b) ⟨rfl, by simp⟩ ?_ fun x hx => ?_
  · refine Le.fitS (by (repeat (first | exact DFit.nil | refine DFit.cons (by first | rfl | (simp [slook]; done) | (simp [slook]; omega)) ?_))) (by (repeat (first | exact True.intro | refine And.intro (by first | rfl | (simp [look]; done)) ?_)))
  obtain ⟨p, q⟩ := x
  obtain ⟨h1, h2⟩ := hx
  simp only at h1 h2 ⊢
  refine T.seqK fun K2 hK2 => ?_
  cases p with
  | nil =>
    simp only [clashF] at h1
    refine T.sregD 35 [0, 1, 4, 5, 6, 14, 23, 29] fun Kr hKr => ?_
    simp only [go_sem]
    (repeat (refine ⟨by (first | exact True.intro | omega | rfl | (simp; done) | (simp; omega)), ?_⟩)); try (refine hKr _ ?_; clear hKr Kr)
    refine T.condFD rfl rfl (fun hb => ?_) (fun hb => ?_) <;> try simp at hb
    refine T.exit ?_
    simp only [if_true]
    refine hK1 _ ?_
    refine T.sregD 35 [0, 1, 4, 5, 6, 14, 23, 29] fun Kr hKr => ?_
    simp only [go_sem]
    (repeat (refine ⟨by (first | exact True.intro | omega | rfl | (simp; done) | (simp; omega)), ?_⟩)); try (refine hKr _ ?_; clear hKr Kr)
    refine T.ret (Fin.dataD (by rw [← h1]; rfl) rfl rfl)
  | cons x p =>
  cases q with
  | nil =>
    simp only [clashF] at h1
    refine T.sregD 35 [0, 1, 4, 5, 6, 14, 23, 29] fun Kr hKr => ?_
    simp only [go_sem]
    (repeat (refine ⟨by (first | exact True.intro | omega | rfl | (simp; done) | (simp; omega)), ?_⟩)); try (refine hKr _ ?_; clear hKr Kr)
    refine T.condFD rfl rfl (fun hb => ?_) (fun hb => ?_) <;> try simp at hb
    refine T.exit ?_
    simp only [if_true]
    refine hK1 _ ?_
    refine T.sregD 35 [0, 1, 4, 5, 6, 14, 23, 29] fun Kr hKr => ?_
    simp only [go_sem]
    (repeat (refine ⟨by (first | exact True.intro | omega | rfl | (simp; done) | (simp; omega)), ?_⟩)); try (refine hKr _ ?_; clear hKr Kr)
    refine T.ret (Fin.dataD (by rw [← h1]; rfl) rfl rfl)
  | cons y q =>
  simp only [List.length_cons] at h2
  rw [clashF] at h1
  have s1 := ofRecord_spec x
  have s2 := ofOrder_spec y
  have s3 := before_spec x.d x.s y.d y.s
  have s4 := before_spec y.d y.s x.d x.s
  have g1 : (((p.length + 1 : Nat) : Int) > 0) = True := eq_true (by omega)
  have g2 : (((q.length + 1 : Nat) : Int) > 0) = True := eq_true (by omega)
  have c1 : (1 : Int) ≤ ((p.length + 1 : Nat) : Int) := by omega
  have c2 : (1 : Int) ≤ ((q.length + 1 : Nat) : Int) := by omega
  have d1 : 1 ≤ p.length + 1 := by omega
  have d2 : 1 ≤ q.length + 1 := by omega
  have i1 : (0 : Int) < ((p.length + 1 : Nat) : Int) := by omega
  have i2 : (0 : Int) < ((q.length + 1 : Nat) : Int) := by omega
  refine T.sregD 35 [0, 1, 4, 5, 6, 14, 23, 29] fun Kr hKr => ?_
  simp only [go_sem, g1, g2]
  (repeat (refine ⟨by (first | exact True.intro | omega | rfl | (simp; done) | (simp; omega)), ?_⟩)); try (refine hKr _ ?_; clear hKr Kr)
  refine T.condFD rfl rfl (fun hb => ?_) (fun hb => ?_) <;> try simp at hb
  refine T.skip ?_
  refine hK2 _ ?_
  refine T.block ?_
  refine T.sdraw2D 35 [0, 1, 4, 5, 6, 14, 23, 29] (.take 0 (.take 1 (.take 2 (.take 4 (.take 5 (.take 6 (.three 3 (.three 7 (.two 8 (.one 9 (.one 10 (.one 11 .done))) 9 (.one 8 (.one 10 (.one 11 .done)))) 8 (.two 7 (.one 9 (.one 10 (.one 11 .done))) 9 (.one 7 (.one 10 (.one 11 .done)))) 9 (.two 7 (.one 8 (.one 10 (.one 11 .done))) 8 (.one 7 (.one 10 (.one 11 .done))))) 8 (.two 3 (.two 7 (.one 9 (.one 10 (.one 11 .done))) 9 (.one 7 (.one 10 (.one 11 .done)))) 9 (.one 3 (.one 7 (.one 10 (.one 11 .done))))) 9 (.two 3 (.two 7 (.one 8 (.one 10 (.one 11 .done))) 8 (.one 7 (.one 10 (.one 11 .done)))) 8 (.one 3 (.one 7 (.one 10 (.one 11 .done)))))))))))) [] rfl (by decide +kernel) (by decide +kernel) ?x3 ?h3 (fun Kr hKr => ?all3) ?rest3
  case all3 =>
    simp only [go_sem, List.length_cons, i1, i2]
    (repeat (any_goals (first | exact hKr _ (.inl rfl) | exact hKr _ (.inr (by (repeat (first | exact True.intro | refine And.intro (by first | rfl | (simp [look]; done)) ?_)))) | ((first | refine CallK.dataA (s1) ?_ rfl ?_ | refine CallK.tupA (s1) ?_ ?_ | refine CallK.ownA (s1) ?_ ?_); (focus (exact ArgsLe.refl)); simp only [go_sem, List.length_cons, i1, i2]) | ((first | refine CallK.dataA (s2) ?_ rfl ?_ | refine CallK.tupA (s2) ?_ ?_ | refine CallK.ownA (s2) ?_ ?_); (focus (exact ArgsLe.refl)); simp only [go_sem, List.length_cons, i1, i2]) | (refine And.intro ?_ ?_) | (first | exact True.intro | omega | rfl | (simp; done) | (simp; omega)))))
    all_goals (first | exact hKr _ (.inl rfl) | exact hKr _ (.inr (by (repeat (first | exact True.intro | refine And.intro (by first | rfl | (simp [look]; done)) ?_)))))
  case rest3 =>
  refine T.block ?_
  cases hxy : befB x.d x.s y.d y.s with
  | true =>
    rw [hxy] at s3
    rw [if_pos hxy] at h1
    refine T.sregD 35 [0, 1, 4, 5, 6, 14, 23, 29] fun Kr hKr => ?_
    simp only [go_sem]
    (repeat (refine ⟨by (first | exact True.intro | omega | rfl | (simp; done) | (simp; omega)), ?_⟩)); try (refine hKr _ ?_; clear hKr Kr)
    refine CallK.data (fun _ => Spec.args (s3) (by (first | exact ArgsLe.refl | (repeat (first | exact True.intro | refine And.intro (by first | exact AvLe.refl | exact AvLe.loose | exact AvLe.nil | exact AvLe.nilT | exact AvLe.slk | (refine AvLe.agg ?_; exact ArgsLe.refl) | (refine AvLe.agg ?_; (repeat (first | exact True.intro | refine And.intro (by first | exact AvLe.refl | exact AvLe.loose | exact AvLe.nil | exact AvLe.nilT | exact AvLe.slk) ?_)))) ?_))))) rfl ?_
    simp only [go_sem]
    (repeat (refine ⟨by (first | exact True.intro | omega | rfl | (simp; done) | (simp; omega)), ?_⟩)); try (refine hKr _ ?_; clear hKr Kr)
    refine T.condTD rfl rfl (fun hb => ?_) (fun hb => ?_) <;> try simp at hb
    refine T.regD 35 [0, 1, 4, 5, 6, 14, 23, 29] fun Kr hKr => ?_
    simp only [go_sem, List.length_cons, c1, d1, List.drop_succ_cons, List.drop_zero]
    (repeat (refine ⟨by (first | exact True.intro | omega | rfl | (simp; done) | (simp; omega)), ?_⟩)); try (refine hKr _ ?_; clear hKr Kr)
    refine ⟨(p, y :: q), ?_, ?_, Le.fitS (by (repeat (first | exact DFit.nil | refine DFit.cons (by first | rfl | (simp [slook]; done) | (simp [slook]; omega)) ?_))) ?_⟩
    · exact ⟨h1, by simp only [List.length_cons]; omega⟩
    · simp only [List.length_cons]; omega
    · (repeat (first | exact True.intro | refine And.intro (by first | rfl | (simp [look]; done)) ?_))
  | false =>
  rw [hxy] at s3
  rw [if_neg (by rw [hxy]; decide)] at h1
  cases hyx : befB y.d y.s x.d x.s with
  | true =>
    rw [hyx] at s4
    rw [if_pos hyx] at h1
    refine T.sregD 35 [0, 1, 4, 5, 6, 14, 23, 29] fun Kr hKr => ?_
    simp only [go_sem]
    (repeat (refine ⟨by (first | exact True.intro | omega | rfl | (simp; done) | (simp; omega)), ?_⟩)); try (refine hKr _ ?_; clear hKr Kr)
    refine CallK.data (fun _ => Spec.args (s3) (by (first | exact ArgsLe.refl | (repeat (first | exact True.intro | refine And.intro (by first | exact AvLe.refl | exact AvLe.loose | exact AvLe.nil | exact AvLe.nilT | exact AvLe.slk | (refine AvLe.agg ?_; exact ArgsLe.refl) | (refine AvLe.agg ?_; (repeat (first | exact True.intro | refine And.intro (by first | exact AvLe.refl | exact AvLe.loose | exact AvLe.nil | exact AvLe.nilT | exact AvLe.slk) ?_)))) ?_))))) rfl ?_
    simp only [go_sem]
    (repeat (refine ⟨by (first | exact True.intro | omega | rfl | (simp; done) | (simp; omega)), ?_⟩)); try (refine hKr _ ?_; clear hKr Kr)
    refine T.condTD rfl rfl (fun hb => ?_) (fun hb => ?_) <;> try simp at hb
    refine T.sregD 35 [0, 1, 4, 5, 6, 14, 23, 29] fun Kr hKr => ?_
    simp only [go_sem]
    (repeat (refine ⟨by (first | exact True.intro | omega | rfl | (simp; done) | (simp; omega)), ?_⟩)); try (refine hKr _ ?_; clear hKr Kr)
    refine CallK.data (fun _ => Spec.args (s4) (by (first | exact ArgsLe.refl | (repeat (first | exact True.intro | refine And.intro (by first | exact AvLe.refl | exact AvLe.loose | exact AvLe.nil | exact AvLe.nilT | exact AvLe.slk | (refine AvLe.agg ?_; exact ArgsLe.refl) | (refine AvLe.agg ?_; (repeat (first | exact True.intro | refine And.intro (by first | exact AvLe.refl | exact AvLe.loose | exact AvLe.nil | exact AvLe.nilT | exact AvLe.slk) ?_)))) ?_))))) rfl ?_
    simp only [go_sem]
    (repeat (refine ⟨by (first | exact True.intro | omega | rfl | (simp; done) | (simp; omega)), ?_⟩)); try (refine hKr _ ?_; clear hKr Kr)
    refine T.condFD rfl rfl (fun hb => ?_) (fun hb => ?_) <;> try simp at hb
    refine T.regD 35 [0, 1, 4, 5, 6, 14, 23, 29] fun Kr hKr => ?_
    simp only [go_sem, List.length_cons, c2, d2, List.drop_succ_cons, List.drop_zero]
    (repeat (refine ⟨by (first | exact True.intro | omega | rfl | (simp; done) | (simp; omega)), ?_⟩)); try (refine hKr _ ?_; clear hKr Kr)
    refine ⟨(x :: p, q), ?_, ?_, Le.fitS (by (repeat (first | exact DFit.nil | refine DFit.cons (by first | rfl | (simp [slook]; done) | (simp [slook]; omega)) ?_))) ?_⟩
    · exact ⟨h1, by simp only [List.length_cons]; omega⟩
    · simp only [List.length_cons]; omega
    · (repeat (first | exact True.intro | refine And.intro (by first | rfl | (simp [look]; done)) ?_))
  | false =>
  rw [hyx] at s4
  rw [if_neg (by rw [hyx]; decide)] at h1
  refine T.sregD 35 [0, 1, 4, 5, 6, 14, 23, 29] fun Kr hKr => ?_
  simp only [go_sem]
  (repeat (refine ⟨by (first | exact True.intro | omega | rfl | (simp; done) | (simp; omega)), ?_⟩)); try (refine hKr _ ?_; clear hKr Kr)
  refine CallK.data (fun _ => Spec.args (s3) (by (first | exact ArgsLe.refl | (repeat (first | exact True.intro | refine And.intro (by first | exact AvLe.refl | exact AvLe.loose | exact AvLe.nil | exact AvLe.nilT | exact AvLe.slk | (refine AvLe.agg ?_; exact ArgsLe.refl) | (refine AvLe.agg ?_; (repeat (first | exact True.intro | refine And.intro (by first | exact AvLe.refl | exact AvLe.loose | exact AvLe.nil | exact AvLe.nilT | exact AvLe.slk) ?_)))) ?_))))) rfl ?_
  simp only [go_sem]
  (repeat (refine ⟨by (first | exact True.intro | omega | rfl | (simp; done) | (simp; omega)), ?_⟩)); try (refine hKr _ ?_; clear hKr Kr)
  refine T.condTD rfl rfl (fun hb => ?_) (fun hb => ?_) <;> try simp at hb
  refine T.sregD 35 [0, 1, 4, 5, 6, 14, 23, 29] fun Kr hKr => ?_
  simp only [go_sem]
  (repeat (refine ⟨by (first | exact True.intro | omega | rfl | (simp; done) | (simp; omega)), ?_⟩)); try (refine hKr _ ?_; clear hKr Kr)
  refine CallK.data (fun _ => Spec.args (s4) (by (first | exact ArgsLe.refl | (repeat (first | exact True.intro | refine And.intro (by first | exact AvLe.refl | exact AvLe.loose | exact AvLe.nil | exact AvLe.nilT | exact AvLe.slk | (refine AvLe.agg ?_; exact ArgsLe.refl) | (refine AvLe.agg ?_; (repeat (first | exact True.intro | refine And.intro (by first | exact AvLe.refl | exact AvLe.loose | exact AvLe.nil | exact AvLe.nilT | exact AvLe.slk) ?_)))) ?_))))) rfl ?_
  simp only [go_sem]
  (repeat (refine ⟨by (first | exact True.intro | omega | rfl | (simp; done) | (simp; omega)), ?_⟩)); try (refine hKr _ ?_; clear hKr Kr)
  refine T.condFD rfl rfl (fun hb => ?_) (fun hb => ?_) <;> try simp at hb
  refine T.sregD 35 [0, 1, 4, 5, 6, 14, 23, 29] fun Kr hKr => ?_
  simp only [go_sem]
  (repeat (refine ⟨by (first | exact True.intro | omega | rfl | (simp; done) | (simp; omega)), ?_⟩)); try (refine hKr _ ?_; clear hKr Kr)
  refine T.ret (Fin.dataD (by rw [← h1]; rfl) rfl rfl)
end Go.Proofs
