/- Devices: Since. -/
import Derived.Test.YtjlhiahgmmlcdaaG6
set_option linter.unusedVariables false
set_option linter.unusedSimpArgs false
namespace Go.Proofs
open Go Go.Ideal
set_option maxRecDepth 8000
set_option maxHeartbeats 4000000

def newB (c : List Int) (d s : Int) : Bool := decide (0 ≤ d ∧ d < 8) && decide (s > c.getD d.toNat default)
theorem since1_spec (c : List Int) (hc : c.length = 8) (d s : Int) (hd : 0 ≤ d ∧ d < 8) : Ideal.Spec Try.prog 49 [plA d s, .cp (intsOf c)] (.bool (newB c d s)) none := by
  obtain ⟨n, rfl⟩ : ∃ n : Nat, d = n := ⟨d.toNat, by omega⟩
  have hn : n < c.length := by omega
  have e1 : (0 : Int) ≤ n := by omega
  have e2 : (n : Int) < 8 := hd.2
  have ee : newB c n s = decide (s > c.getD n default) := by unfold newB; rw [decide_eq_true hd, Bool.true_and, Int.toNat_natCast]
  have hdr : intsOf (c.drop n) = .int .i64 (c.getD n default) :: intsOf (c.drop (n + 1)) := by rw [drop_d hn]; rfl
  rw [ee]
  refine Ideal.Spec.of_TD (n := 21) (fn := Try.f49) rfl rfl rfl rfl rfl rfl rfl fun w ok => ?_
  refine T.sregD 21 [0, 1, 2, 3] fun Kr hKr => ?_
  simp only [go_sem]
  (repeat (refine ⟨by (first | exact True.intro | omega | rfl | (simp; done) | (simp; omega)), ?_⟩)); try (refine hKr _ ?_; clear hKr Kr)
  refine T.sdrawD 21 [0, 1, 2, 3] (.take 0 (.take 1 (.take 2 (.take 3 (.take 4 (.take 5 (.take 6 (.take 7 (.take 8 (.take 9 (.take 10 (.take 11 (.take 12 (.take 13 (.take 14 (.take 15 (.take 16 (.take 17 .done)))))))))))))))))) [2] rfl (by decide +kernel) (by decide +kernel) fun Kr hKr => ?_
  simp only [go_sem, hn, e1, e2, hc, hdr, List.headD_cons]
  (repeat (refine ⟨by (first | exact True.intro | omega | rfl | (simp; done) | (simp; omega)), ?_⟩)); try (refine hKr _ ?_; clear hKr Kr)
  refine T.ret (Fin.dataD rfl rfl rfl)
theorem since2_spec (c : List Int) (hc : c.length = 8) (r : Rec) (hr : RightR r) : Ideal.Spec Try.prog 50 [recA r, .cp [.fn 49 [.cp (intsOf c)]]] (.bool (newB c r.d r.s)) none := by
  have s1 := ofRecord_spec r
  have s2 := since1_spec c hc r.d r.s (by have := hr.d; omega)
  refine Ideal.Spec.of_TD (n := 8) (fn := Try.f50) rfl rfl rfl rfl rfl rfl rfl fun w ok => ?_
  refine T.sregD 8 [0, 1, 2, 3] fun Kr hKr => ?_
  simp only [go_sem]
  (repeat (refine ⟨by (first | exact True.intro | omega | rfl | (simp; done) | (simp; omega)), ?_⟩)); try (refine hKr _ ?_; clear hKr Kr)
  refine T.sdrawD 8 [0, 1, 2, 3] (.take 0 (.take 1 (.one 2 (.one 3 (.take 4 .done))))) [2] rfl (by decide +kernel) (by decide +kernel) fun Kr hKr => ?_
  simp only [go_sem]
  (repeat (refine ⟨by (first | exact True.intro | omega | rfl | (simp; done) | (simp; omega)), ?_⟩)); try (refine hKr _ ?_; clear hKr Kr)
  refine CallK.data (fun _ => Spec.args (s1) (by (first | exact ArgsLe.refl | (repeat (first | exact True.intro | refine And.intro (by first | exact AvLe.refl | exact AvLe.loose | exact AvLe.nil | exact AvLe.nilT | exact AvLe.slk | (refine AvLe.agg ?_; exact ArgsLe.refl) | (refine AvLe.agg ?_; (repeat (first | exact True.intro | refine And.intro (by first | exact AvLe.refl | exact AvLe.loose | exact AvLe.nil | exact AvLe.nilT | exact AvLe.slk) ?_)))) ?_))))) rfl ?_
  simp only [go_sem]
  (repeat (refine ⟨by (first | exact True.intro | omega | rfl | (simp; done) | (simp; omega)), ?_⟩)); try (refine hKr _ ?_; clear hKr Kr)
  refine CallK.data (fun _ => Spec.args (s2) (by (first | exact ArgsLe.refl | (repeat (first | exact True.intro | refine And.intro (by first | exact AvLe.refl | exact AvLe.loose | exact AvLe.nil | exact AvLe.nilT | exact AvLe.slk | (refine AvLe.agg ?_; exact ArgsLe.refl) | (refine AvLe.agg ?_; (repeat (first | exact True.intro | refine And.intro (by first | exact AvLe.refl | exact AvLe.loose | exact AvLe.nil | exact AvLe.nilT | exact AvLe.slk) ?_)))) ?_))))) rfl ?_
  simp only [go_sem]
  (repeat (refine ⟨by (first | exact True.intro | omega | rfl | (simp; done) | (simp; omega)), ?_⟩)); try (refine hKr _ ?_; clear hKr Kr)
  refine T.ret (Fin.dataD rfl rfl rfl)
theorem since3_spec (c : List Int) (hc : c.length = 8) (r : Ord) (hr : RightO r) : Ideal.Spec Try.prog 52 [ordA r, .cp [.fn 49 [.cp (intsOf c)]]] (.bool (newB c r.d r.s)) none := by
  have s1 := ofOrder_spec r
  have s2 := since1_spec c hc r.d r.s (by have := hr.d; omega)
  refine Ideal.Spec.of_TD (n := 8) (fn := Try.f52) rfl rfl rfl rfl rfl rfl rfl fun w ok => ?_
  refine T.sregD 8 [0, 1, 2, 3] fun Kr hKr => ?_
  simp only [go_sem]
  (repeat (refine ⟨by (first | exact True.intro | omega | rfl | (simp; done) | (simp; omega)), ?_⟩)); try (refine hKr _ ?_; clear hKr Kr)
  refine T.sdrawD 8 [0, 1, 2, 3] (.take 0 (.take 1 (.one 2 (.one 3 (.take 4 .done))))) [2] rfl (by decide +kernel) (by decide +kernel) fun Kr hKr => ?_
  simp only [go_sem]
  (repeat (refine ⟨by (first | exact True.intro | omega | rfl | (simp; done) | (simp; omega)), ?_⟩)); try (refine hKr _ ?_; clear hKr Kr)
  refine CallK.data (fun _ => Spec.args (s1) (by (first | exact ArgsLe.refl | (repeat (first | exact True.intro | refine And.intro (by first | exact AvLe.refl | exact AvLe.loose | exact AvLe.nil | exact AvLe.nilT | exact AvLe.slk | (refine AvLe.agg ?_; exact ArgsLe.refl) | (refine AvLe.agg ?_; (repeat (first | exact True.intro | refine And.intro (by first | exact AvLe.refl | exact AvLe.loose | exact AvLe.nil | exact AvLe.nilT | exact AvLe.slk) ?_)))) ?_))))) rfl ?_
  simp only [go_sem]
  (repeat (refine ⟨by (first | exact True.intro | omega | rfl | (simp; done) | (simp; omega)), ?_⟩)); try (refine hKr _ ?_; clear hKr Kr)
  refine CallK.data (fun _ => Spec.args (s2) (by (first | exact ArgsLe.refl | (repeat (first | exact True.intro | refine And.intro (by first | exact AvLe.refl | exact AvLe.loose | exact AvLe.nil | exact AvLe.nilT | exact AvLe.slk | (refine AvLe.agg ?_; exact ArgsLe.refl) | (refine AvLe.agg ?_; (repeat (first | exact True.intro | refine And.intro (by first | exact AvLe.refl | exact AvLe.loose | exact AvLe.nil | exact AvLe.nilT | exact AvLe.slk) ?_)))) ?_))))) rfl ?_
  simp only [go_sem]
  (repeat (refine ⟨by (first | exact True.intro | omega | rfl | (simp; done) | (simp; omega)), ?_⟩)); try (refine hKr _ ?_; clear hKr Kr)
  refine T.ret (Fin.dataD rfl rfl rfl)
def sinceF (u : Usr) (c : List Int) : Usr := ⟨u.r.filter fun r => newB c r.d r.s, u.o.filter fun o => newB c o.d o.s, u.l⟩
theorem Since_spec (u : Usr) (h : OkU u) (c : List Int) (hc : c.length = 8) : Ideal.Spec Try.prog 16 [usrA u, .agg (intsOf c)] (usrA (sinceF u c)) none := by
  have hl := h.l
  have hrl := h.rl
  have hol := h.ol
  have h8 : u.l.take 8 = u.l := List.take_of_length_le (by omega)
  have s1 := keepR_spec u.r (fun r => newB c r.d r.s) 50 [.cp [.fn 49 [.cp (intsOf c)]]] (by intro x hx; simp only [List.mem_cons, List.not_mem_nil, or_false] at hx; subst hx; exact ⟨_, rfl⟩) (by omega) (fun o ho => since2_spec c hc o (h.r o ho))
  have s2 := keepO_spec u.o (fun o => newB c o.d o.s) 52 [.cp [.fn 49 [.cp (intsOf c)]]] (by intro x hx; simp only [List.mem_cons, List.not_mem_nil, or_false] at hx; subst hx; exact ⟨_, rfl⟩) (by omega) (fun o ho => since3_spec c hc o (h.o o ho))
  refine Ideal.Spec.of_CD (n := 18) (fn := Try.f16) rfl rfl rfl rfl rfl rfl rfl fun w ok => ?_
  refine T.post [.tmp 4] ?_
  refine T.sregD 18 [0, 1, 2, 3, 4, 5] fun Kr hKr => ?_
  simp only [go_sem, hl, hc]
  (repeat (refine ⟨by (first | exact True.intro | omega | rfl | (simp; done) | (simp; omega)), ?_⟩)); try (refine hKr _ ?_; clear hKr Kr)
  refine T.sregD 18 [0, 1, 2, 3, 4, 5] fun Kr hKr => ?_
  simp only [go_sem, hl, hc]
  (repeat (refine ⟨by (first | exact True.intro | omega | rfl | (simp; done) | (simp; omega)), ?_⟩)); try (refine hKr _ ?_; clear hKr Kr)
  refine T.sregD 18 [0, 1, 2, 3, 4, 5] fun Kr hKr => ?_
  simp only [go_sem, hl, hc]
  (repeat (refine ⟨by (first | exact True.intro | omega | rfl | (simp; done) | (simp; omega)), ?_⟩)); try (refine hKr _ ?_; clear hKr Kr)
  refine CallK.data (fun _ => Spec.args (s1) (by (first | exact ArgsLe.refl | (repeat (first | exact True.intro | refine And.intro (by first | exact AvLe.refl | exact AvLe.loose | exact AvLe.nil | exact AvLe.nilT | exact AvLe.slk | (refine AvLe.agg ?_; exact ArgsLe.refl) | (refine AvLe.agg ?_; (repeat (first | exact True.intro | refine And.intro (by first | exact AvLe.refl | exact AvLe.loose | exact AvLe.nil | exact AvLe.nilT | exact AvLe.slk) ?_)))) ?_))))) rfl ?_
  simp only [go_sem]
  (repeat (refine ⟨by (first | exact True.intro | omega | rfl | (simp; done) | (simp; omega)), ?_⟩)); try (refine hKr _ ?_; clear hKr Kr)
  refine T.sregD 18 [0, 1, 2, 3, 4, 5] fun Kr hKr => ?_
  simp only [go_sem, hl]
  (repeat (refine ⟨by (first | exact True.intro | omega | rfl | (simp; done) | (simp; omega)), ?_⟩)); try (refine hKr _ ?_; clear hKr Kr)
  refine CallK.data (fun _ => Spec.args (s2) (by (first | exact ArgsLe.refl | (repeat (first | exact True.intro | refine And.intro (by first | exact AvLe.refl | exact AvLe.loose | exact AvLe.nil | exact AvLe.nilT | exact AvLe.slk | (refine AvLe.agg ?_; exact ArgsLe.refl) | (refine AvLe.agg ?_; (repeat (first | exact True.intro | refine And.intro (by first | exact AvLe.refl | exact AvLe.loose | exact AvLe.nil | exact AvLe.nilT | exact AvLe.slk) ?_)))) ?_))))) rfl ?_
  simp only [go_sem]
  (repeat (refine ⟨by (first | exact True.intro | omega | rfl | (simp; done) | (simp; omega)), ?_⟩)); try (refine hKr _ ?_; clear hKr Kr)
  refine T.sregD 18 [0, 1, 2, 3, 4, 5] fun Kr hKr => ?_
  simp only [go_sem, hl, h8, Nat.le_refl, List.drop_succ_cons, List.drop_zero, List.drop_nil, List.append_nil]
  (repeat (refine ⟨by (first | exact True.intro | omega | rfl | (simp; done) | (simp; omega)), ?_⟩)); try (refine hKr _ ?_; clear hKr Kr)
  refine T.ret ?_
  simp only [go_sem, hl, h8, Nat.le_refl]
  exact ⟨ResCellD rfl rfl rfl rfl (by simp only [go_sem, hl]) (by simp only [go_sem, h8]; rfl) rfl, trivial⟩
end Go.Proofs
