/- Devices: the law DeviceMatchesReference. -/
import Derived.Test.YtjlhiahgmmlcdaaGN
import Derived.Test.YtjlhiahgmmlcdaaGO
set_option linter.unusedVariables false
set_option linter.unusedSimpArgs false
namespace Go.Proofs
open Go Go.Ideal
set_option maxRecDepth 8000
set_option maxHeartbeats 4000000

theorem mergeF_shape {a b : Usr} (ha : OkU a) (hb : OkU b) : (mergeF a b).1.l.length = 8 ∧ (mergeF a b).1.r.length ≤ 1000 ∧ (mergeF a b).1.o.length ≤ 1000 := by
  have hn : noUsr.l.length = 8 ∧ noUsr.r.length ≤ 1000 ∧ noUsr.o.length ≤ 1000 := by simp [noUsr]
  unfold mergeF
  split
  · exact hn
  · rename_i R hR
    split
    · exact hn
    · rename_i P hP
      have lR := (uni_mem _ _ _ _ _ _ (Nat.le_refl _) hR).1
      have lP := (uni_mem _ _ _ _ _ _ (Nat.le_refl _) hP).1
      have lF := List.length_filter_le (fun r => !meantB P r) R
      split
      · exact hn
      · split
        · exact hn
        · have := ha.rl; have := ha.ol; have := hb.rl; have := hb.ol
          exact ⟨maxL_len _ _, by simp only; omega, by simp only; omega⟩
theorem dmatches_law (x y : List Raw) (hx : ∀ r ∈ x, OkRaw r) (hy : ∀ r ∈ y, OkRaw r) (c0 c1 c2 : Int) (h0 : 0 ≤ c0 ∧ c0 < 256) (h1 : 0 ≤ c1 ∧ c1 < 256) (h2 : 0 ≤ c2 ∧ c2 < 256) :
    Ideal.Spec Try.prog 3 [.sl false 6 (rawsOf x), .sl false 6 (rawsOf y), .agg [.int .u8 c0, .int .u8 c1, .int .u8 c2]] (.bool true) none := by
  have q0 := sanity_spec
  have q1 := Made24_spec x 14 (by omega) hx
  have q2 := Made24_spec y 14 (by omega) hy
  obtain ⟨k1, hk1, v1⟩ := VInv.made' x 14 (by omega)
  obtain ⟨k2, hk2, v2⟩ := VInv.made' y 14 (by omega)
  have va := v1.val (by omega)
  have vb := v2.val (by omega)
  clear v1 v2
  generalize madeU x 14 = a at *
  generalize madeU y 14 = b at *
  have m1 := Merge_spec a b va.ok vb.ok
  have m2 := MergeR_spec a b va vb
  obtain ⟨f1, f2, f3⟩ := mergeF_shape va.ok vb.ok
  have e1 := Same_spec (mergeF a b).1 f1 (by omega) (by omega)
  have hs := va.filter (fun r => newB [c0 % 8, c1 % 8, c2 % 8, 0, 0, 0, 0, 0] r.d r.s) (fun o => newB [c0 % 8, c1 % 8, c2 % 8, 0, 0, 0, 0, 0] o.d o.s)
  have n1 := Since_spec a va.ok [c0 % 8, c1 % 8, c2 % 8, 0, 0, 0, 0, 0] rfl
  have n2 := Since26_spec a va [c0 % 8, c1 % 8, c2 % 8, 0, 0, 0, 0, 0] rfl
  have e2 := Same_spec (sinceF a [c0 % 8, c1 % 8, c2 % 8, 0, 0, 0, 0, 0]) hs.l (Nat.le_trans hs.rl (by omega)) (Nat.le_trans hs.ol (by omega))
  have p1 := Clock_spec a va.ok
  have cv := clean_val va
  have l1 := Clean_spec a va.ok
  have l2 := Clean26_spec a va
  have e3 := Same_spec (cleanF a) cv.l (by have := cv.rl; omega) (by have := cv.ol; omega)
  obtain ⟨mr, mo, m0, m1', m2', m3, m4, m5, m6, m7, em⟩ := usr_lit f1
  obtain ⟨sr, so, s0, s1, s2, s3, s4, s5, s6, s7, es⟩ := usr_lit (u := sinceF a [c0 % 8, c1 % 8, c2 % 8, 0, 0, 0, 0, 0]) hs.l
  obtain ⟨cr, co, z0, z1, z2, z3, z4, z5, z6, z7, ec⟩ := usr_lit (u := cleanF a) cv.l
  rw [em] at m1 m2 e1
  rw [es] at n1 n2 e2
  rw [ec] at l1 l2 e3
  generalize (mergeF a b).2 = err at *
  clear em es ec hs f1 f2 f3 cv
  obtain ⟨ar, ao, a0, a1, a2, a3, a4, a5, a6, a7, rfl⟩ := usr_lit va.l
  obtain ⟨br, bo, b0, b1, b2, b3, b4, b5, b6, b7, rfl⟩ := usr_lit vb.l
  simp only [usrA, intsOf_cons, intsOf_nil] at q1 q2 m1 m2 e1 n1 n2 e2 p1 l1 l2 e3
  have r0 : remv c0 8 = c0 % 8 := remv_nn h0.1
  have r1 : remv c1 8 = c1 % 8 := remv_nn h1.1
  have r2 : remv c2 8 = c2 % 8 := remv_nn h2.1
  refine Ideal.Spec.of_TD (n := 79) (fn := Try.f3) rfl rfl rfl rfl rfl rfl rfl fun w ok => ?_
  refine T.sregD 79 [0, 1, 2, 5, 6, 7, 8, 9, 10, 11, 12, 13, 14] fun Kr hKr => ?_
  simp only [go_sem]
  (repeat (refine ⟨by (first | exact True.intro | omega | rfl | (simp; done) | (simp; omega)), ?_⟩)); try (refine hKr _ ?_; clear hKr Kr)
  refine T.sregD 79 [0, 1, 2, 5, 6, 7, 8, 9, 10, 11, 12, 13, 14] fun Kr hKr => ?_
  simp only [go_sem]
  (repeat (refine ⟨by (first | exact True.intro | omega | rfl | (simp; done) | (simp; omega)), ?_⟩)); try (refine hKr _ ?_; clear hKr Kr)
  refine CallK.data (fun _ => Spec.args (q0) (by (first | exact ArgsLe.refl | (repeat (first | exact True.intro | refine And.intro (by first | exact AvLe.refl | exact AvLe.loose | exact AvLe.nil | exact AvLe.nilT | exact AvLe.slk | (refine AvLe.agg ?_; exact ArgsLe.refl) | (refine AvLe.agg ?_; (repeat (first | exact True.intro | refine And.intro (by first | exact AvLe.refl | exact AvLe.loose | exact AvLe.nil | exact AvLe.nilT | exact AvLe.slk) ?_)))) ?_))))) rfl ?_
  simp only [go_sem]
  (repeat (refine ⟨by (first | exact True.intro | omega | rfl | (simp; done) | (simp; omega)), ?_⟩)); try (refine hKr _ ?_; clear hKr Kr)
  refine T.sregD 79 [0, 1, 2, 5, 6, 7, 8, 9, 10, 11, 12, 13, 14] fun Kr hKr => ?_
  simp only [go_sem]
  (repeat (refine ⟨by (first | exact True.intro | omega | rfl | (simp; done) | (simp; omega)), ?_⟩)); try (refine hKr _ ?_; clear hKr Kr)
  refine CallK.data (fun _ => Spec.args (q1) (by (first | exact ArgsLe.refl | (repeat (first | exact True.intro | refine And.intro (by first | exact AvLe.refl | exact AvLe.loose | exact AvLe.nil | exact AvLe.nilT | exact AvLe.slk | (refine AvLe.agg ?_; exact ArgsLe.refl) | (refine AvLe.agg ?_; (repeat (first | exact True.intro | refine And.intro (by first | exact AvLe.refl | exact AvLe.loose | exact AvLe.nil | exact AvLe.nilT | exact AvLe.slk) ?_)))) ?_))))) rfl ?_
  simp only [go_sem]
  (repeat (refine ⟨by (first | exact True.intro | omega | rfl | (simp; done) | (simp; omega)), ?_⟩)); try (refine hKr _ ?_; clear hKr Kr)
  refine CallK.data (fun _ => Spec.args (q2) (by (first | exact ArgsLe.refl | (repeat (first | exact True.intro | refine And.intro (by first | exact AvLe.refl | exact AvLe.loose | exact AvLe.nil | exact AvLe.nilT | exact AvLe.slk | (refine AvLe.agg ?_; exact ArgsLe.refl) | (refine AvLe.agg ?_; (repeat (first | exact True.intro | refine And.intro (by first | exact AvLe.refl | exact AvLe.loose | exact AvLe.nil | exact AvLe.nilT | exact AvLe.slk) ?_)))) ?_))))) rfl ?_
  simp only [go_sem]
  (repeat (refine ⟨by (first | exact True.intro | omega | rfl | (simp; done) | (simp; omega)), ?_⟩)); try (refine hKr _ ?_; clear hKr Kr)
  refine T.sregD 79 [0, 1, 2, 5, 6, 7, 8, 9, 10, 11, 12, 13, 14] fun Kr hKr => ?_
  simp only [go_sem]
  (repeat (refine ⟨by (first | exact True.intro | omega | rfl | (simp; done) | (simp; omega)), ?_⟩)); try (refine hKr _ ?_; clear hKr Kr)
  refine CallK.tup (fun _ => Spec.args (m1) (by (first | exact ArgsLe.refl | (repeat (first | exact True.intro | refine And.intro (by first | exact AvLe.refl | exact AvLe.loose | exact AvLe.nil | exact AvLe.nilT | exact AvLe.slk | (refine AvLe.agg ?_; exact ArgsLe.refl) | (refine AvLe.agg ?_; (repeat (first | exact True.intro | refine And.intro (by first | exact AvLe.refl | exact AvLe.loose | exact AvLe.nil | exact AvLe.nilT | exact AvLe.slk) ?_)))) ?_))))) ?_
  simp only [go_sem]
  (repeat (refine ⟨by (first | exact True.intro | omega | rfl | (simp; done) | (simp; omega)), ?_⟩)); try (refine hKr _ ?_; clear hKr Kr)
  refine T.sregD 79 [0, 1, 2, 5, 6, 7, 8, 9, 10, 11, 12, 13, 14] fun Kr hKr => ?_
  simp only [go_sem]
  (repeat (refine ⟨by (first | exact True.intro | omega | rfl | (simp; done) | (simp; omega)), ?_⟩)); try (refine hKr _ ?_; clear hKr Kr)
  refine CallK.tup (fun _ => Spec.args (m2) (by (first | exact ArgsLe.refl | (repeat (first | exact True.intro | refine And.intro (by first | exact AvLe.refl | exact AvLe.loose | exact AvLe.nil | exact AvLe.nilT | exact AvLe.slk | (refine AvLe.agg ?_; exact ArgsLe.refl) | (refine AvLe.agg ?_; (repeat (first | exact True.intro | refine And.intro (by first | exact AvLe.refl | exact AvLe.loose | exact AvLe.nil | exact AvLe.nilT | exact AvLe.slk) ?_)))) ?_))))) ?_
  simp only [go_sem]
  (repeat (refine ⟨by (first | exact True.intro | omega | rfl | (simp; done) | (simp; omega)), ?_⟩)); try (refine hKr _ ?_; clear hKr Kr)
  refine T.sregD 79 [0, 1, 2, 5, 6, 7, 8, 9, 10, 11, 12, 13, 14] fun Kr hKr => ?_
  simp only [go_sem, r0, r1, r2]
  (repeat (refine ⟨by (first | exact True.intro | omega | rfl | (simp; done) | (simp; omega)), ?_⟩)); try (refine hKr _ ?_; clear hKr Kr)
  refine T.sdrawD 79 [0, 1, 2, 5, 6, 7, 8, 9, 10, 11, 12, 13, 14] (.take 0 (.take 1 (.one 2 (.take 3 (.take 4 (.take 5 (.take 6 (.take 7 (.take 8 (.take 9 (.take 10 (.take 12 (.take 13 (.one 11 (.one 14 (.one 15 (.take 16 (.take 17 (.take 18 (.take 20 (.take 21 (.one 19 (.take 22 (.take 23 (.take 24 (.take 25 (.take 27 (.one 26 (.one 28 (.one 29 (.take 30 (.take 31 (.take 32 (.take 33 (.take 34 .done))))))))))))))))))))))))))))))))))) [8, 10, 12, 14] rfl (by decide +kernel) (by decide +kernel) fun Kr hKr => ?_
  simp only [go_sem]
  (repeat (refine ⟨by (first | exact True.intro | omega | rfl | (simp; done) | (simp; omega)), ?_⟩)); try (refine hKr _ ?_; clear hKr Kr)
  refine CallK.data (fun _ => Spec.args (e1) (by (first | exact ArgsLe.refl | (repeat (first | exact True.intro | refine And.intro (by first | exact AvLe.refl | exact AvLe.loose | exact AvLe.nil | exact AvLe.nilT | exact AvLe.slk | (refine AvLe.agg ?_; exact ArgsLe.refl) | (refine AvLe.agg ?_; (repeat (first | exact True.intro | refine And.intro (by first | exact AvLe.refl | exact AvLe.loose | exact AvLe.nil | exact AvLe.nilT | exact AvLe.slk) ?_)))) ?_))))) rfl ?_
  simp only [go_sem]
  (repeat (refine ⟨by (first | exact True.intro | omega | rfl | (simp; done) | (simp; omega)), ?_⟩)); try (refine hKr _ ?_; clear hKr Kr)
  refine CallK.data (fun _ => Spec.args (n1) (by (first | exact ArgsLe.refl | (repeat (first | exact True.intro | refine And.intro (by first | exact AvLe.refl | exact AvLe.loose | exact AvLe.nil | exact AvLe.nilT | exact AvLe.slk | (refine AvLe.agg ?_; exact ArgsLe.refl) | (refine AvLe.agg ?_; (repeat (first | exact True.intro | refine And.intro (by first | exact AvLe.refl | exact AvLe.loose | exact AvLe.nil | exact AvLe.nilT | exact AvLe.slk) ?_)))) ?_))))) rfl ?_
  simp only [go_sem]
  (repeat (refine ⟨by (first | exact True.intro | omega | rfl | (simp; done) | (simp; omega)), ?_⟩)); try (refine hKr _ ?_; clear hKr Kr)
  refine CallK.data (fun _ => Spec.args (n2) (by (first | exact ArgsLe.refl | (repeat (first | exact True.intro | refine And.intro (by first | exact AvLe.refl | exact AvLe.loose | exact AvLe.nil | exact AvLe.nilT | exact AvLe.slk | (refine AvLe.agg ?_; exact ArgsLe.refl) | (refine AvLe.agg ?_; (repeat (first | exact True.intro | refine And.intro (by first | exact AvLe.refl | exact AvLe.loose | exact AvLe.nil | exact AvLe.nilT | exact AvLe.slk) ?_)))) ?_))))) rfl ?_
  simp only [go_sem]
  (repeat (refine ⟨by (first | exact True.intro | omega | rfl | (simp; done) | (simp; omega)), ?_⟩)); try (refine hKr _ ?_; clear hKr Kr)
  refine CallK.data (fun _ => Spec.args (e2) (by (first | exact ArgsLe.refl | (repeat (first | exact True.intro | refine And.intro (by first | exact AvLe.refl | exact AvLe.loose | exact AvLe.nil | exact AvLe.nilT | exact AvLe.slk | (refine AvLe.agg ?_; exact ArgsLe.refl) | (refine AvLe.agg ?_; (repeat (first | exact True.intro | refine And.intro (by first | exact AvLe.refl | exact AvLe.loose | exact AvLe.nil | exact AvLe.nilT | exact AvLe.slk) ?_)))) ?_))))) rfl ?_
  simp only [go_sem]
  (repeat (refine ⟨by (first | exact True.intro | omega | rfl | (simp; done) | (simp; omega)), ?_⟩)); try (refine hKr _ ?_; clear hKr Kr)
  refine CallK.data (fun _ => Spec.args (p1) (by (first | exact ArgsLe.refl | (repeat (first | exact True.intro | refine And.intro (by first | exact AvLe.refl | exact AvLe.loose | exact AvLe.nil | exact AvLe.nilT | exact AvLe.slk | (refine AvLe.agg ?_; exact ArgsLe.refl) | (refine AvLe.agg ?_; (repeat (first | exact True.intro | refine And.intro (by first | exact AvLe.refl | exact AvLe.loose | exact AvLe.nil | exact AvLe.nilT | exact AvLe.slk) ?_)))) ?_))))) rfl ?_
  simp only [go_sem]
  (repeat (refine ⟨by (first | exact True.intro | omega | rfl | (simp; done) | (simp; omega)), ?_⟩)); try (refine hKr _ ?_; clear hKr Kr)
  refine CallK.data (fun _ => Spec.args (l1) (by (first | exact ArgsLe.refl | (repeat (first | exact True.intro | refine And.intro (by first | exact AvLe.refl | exact AvLe.loose | exact AvLe.nil | exact AvLe.nilT | exact AvLe.slk | (refine AvLe.agg ?_; exact ArgsLe.refl) | (refine AvLe.agg ?_; (repeat (first | exact True.intro | refine And.intro (by first | exact AvLe.refl | exact AvLe.loose | exact AvLe.nil | exact AvLe.nilT | exact AvLe.slk) ?_)))) ?_))))) rfl ?_
  simp only [go_sem]
  (repeat (refine ⟨by (first | exact True.intro | omega | rfl | (simp; done) | (simp; omega)), ?_⟩)); try (refine hKr _ ?_; clear hKr Kr)
  refine CallK.data (fun _ => Spec.args (l2) (by (first | exact ArgsLe.refl | (repeat (first | exact True.intro | refine And.intro (by first | exact AvLe.refl | exact AvLe.loose | exact AvLe.nil | exact AvLe.nilT | exact AvLe.slk | (refine AvLe.agg ?_; exact ArgsLe.refl) | (refine AvLe.agg ?_; (repeat (first | exact True.intro | refine And.intro (by first | exact AvLe.refl | exact AvLe.loose | exact AvLe.nil | exact AvLe.nilT | exact AvLe.slk) ?_)))) ?_))))) rfl ?_
  simp only [go_sem]
  (repeat (refine ⟨by (first | exact True.intro | omega | rfl | (simp; done) | (simp; omega)), ?_⟩)); try (refine hKr _ ?_; clear hKr Kr)
  refine CallK.data (fun _ => Spec.args (e3) (by (first | exact ArgsLe.refl | (repeat (first | exact True.intro | refine And.intro (by first | exact AvLe.refl | exact AvLe.loose | exact AvLe.nil | exact AvLe.nilT | exact AvLe.slk | (refine AvLe.agg ?_; exact ArgsLe.refl) | (refine AvLe.agg ?_; (repeat (first | exact True.intro | refine And.intro (by first | exact AvLe.refl | exact AvLe.loose | exact AvLe.nil | exact AvLe.nilT | exact AvLe.slk) ?_)))) ?_))))) rfl ?_
  simp only [go_sem]
  (repeat (refine ⟨by (first | exact True.intro | omega | rfl | (simp; done) | (simp; omega)), ?_⟩)); try (refine hKr _ ?_; clear hKr Kr)
  refine T.ret (Fin.dataD rfl rfl rfl)
end Go.Proofs
