/- Undoing a commit, plainly: all texts. -/
import Derived.Test.YtdhkkdhooobdhaaVC
import Derived.Test.YtdhkkdhooobdhaaM2
set_option linter.unusedVariables false
set_option linter.unusedSimpArgs false
namespace Go.Proofs
open Go Go.Ideal
set_option maxRecDepth 8000
set_option maxHeartbeats 4000000

theorem sub_cut {s : List UInt8} {f t x y : Int} (hm : 0 ≤ f ∧ f < t ∧ t ≤ s.length) (hx : 0 ≤ x ∧ x < y ∧ y ≤ s.length) (hd : Dsj f t x y) : sub (cutN s f.toNat t.toNat) (x + wx f t x) (y + wx f t x) = sub s x y := by
  obtain ⟨f, rfl⟩ : ∃ n : Nat, f = n := ⟨f.toNat, by omega⟩
  obtain ⟨t, rfl⟩ : ∃ n : Nat, t = n := ⟨t.toNat, by omega⟩
  obtain ⟨x, rfl⟩ : ∃ n : Nat, x = n := ⟨x.toNat, by omega⟩
  obtain ⟨y, rfl⟩ : ∃ n : Nat, y = n := ⟨y.toNat, by omega⟩
  unfold Dsj at hd
  simp only [Int.toNat_natCast]
  apply List.ext_getElem?
  intro i
  rw [sub_get]
  unfold wx
  split
  · rw [Int.add_zero, Int.add_zero, sub_get, cut_get _ ⟨by omega, by omega⟩]
    (repeat' split) <;> first | rfl | (exfalso; omega)
  · rw [show (x : Int) + ((f : Int) - t) = ((x - (t - f) : Nat) : Int) by omega, show (y : Int) + ((f : Int) - t) = ((y - (t - f) : Nat) : Int) by omega, sub_get, cut_get _ ⟨by omega, by omega⟩]
    (repeat' split) <;> first | rfl | (exfalso; omega) | (congr 1; omega)
theorem undone_text {D D' : Doc} {m x : Mark} (h : Rel D D' m) (hx : x ∈ D.m) (hw : x.w = true) (hne : x.id ≠ m.id) : txtF D' x.id = (sub D.s x.f x.t, 0) ∧ txtF D x.id = (sub D.s x.f x.t, 0) := by
  obtain ⟨h1, h2⟩ := h.oth x hx hw hne
  refine ⟨?_, txt_mem h.ok hx⟩
  have := txt_mem h.ok' h2
  rw [show (wxM m x).id = x.id from rfl] at this
  rw [this, h.txt]
  congr 1
  exact sub_cut (h.ok.mks m h.mem).2 (h.ok.mks x hx).2 h1

theorem depF_len (st : List Stp) : ∀ (L : List Nat) (m : Mark), (depF st m L).length ≤ L.length
  | [], _ => Nat.le_refl _
  | j :: L, m => by
    simp only [depF]
    cases carM (st.getD j default).e (whM m) with
    | none => simp
    | some m' =>
      have := depF_len st L m'
      simp only
      split <;> simp <;> omega
theorem repF_own (app : Int) : ∀ (l : List Stp) (d : Doc), repF app (l.filter fun s => decide (s.app = app)) d = repF app l d
  | [], _ => rfl
  | s :: l, d => by
    by_cases h : s.app = app
    · rw [List.filter_cons, if_pos (by simp [h])]
      simp only [repF]
      rw [repF_own app l d, repF_own app l _]
    · rw [List.filter_cons, if_neg (by simp [h]), rep_gone (.inl h)]
      exact repF_own app l d
/-- Undoing a commit, and all texts. -/
structure Left (p : Past) (i a : Nat) (D' : Doc) : Prop where
  und : Und p i a D'
  txt : txtF (p.docs.getD a default) (p.st.getD i default).id = ((p.st.getD i default).e.s, 0)
  len : (D'.s.length : Int) = (p.docs.getD a default).s.length - (p.st.getD i default).e.s.length
  gone : txtF D' (p.st.getD i default).id = ([], 330)
  same : ∀ m ∈ (p.docs.getD a default).m, m.id ≠ (p.st.getD i default).id → m.w = true → txtF D' m.id = txtF (p.docs.getD a default) m.id
  oth : ∀ x, x < p.docs.length → x ≠ a → ∀ m ∈ (p.docs.getD x default).m, m.id ≠ (p.st.getD i default).id
  ok : ∀ x, x < p.docs.length → ∀ m ∈ (p.docs.getD x default).m, (txtF (p.docs.getD x default) m.id).2 = 0
theorem left_of {p : Past} (h : Good p) {i a : Nat} (c : Cho p i a) (hw : (depU p i).1 = []) : ∃ D', Left p i a D' := by
  obtain ⟨m, hm, hmi, hmw, hmt, D', ee, hok, htx, hgo, _, hrel⟩ := mark_of h c hw
  have hal := c.al
  have hdd := h.okD hal
  obtain ⟨_, q1, q2, q3⟩ := hdd.mks m hm
  have hg := good_und h c.com hw
  rw [ee] at hg
  refine ⟨D', ⟨ee, hg, hok, undS_len c.lt⟩, ?_, ?_, ?_, ?_, ?_, ?_⟩
  · rw [← hmi, txt_mem hdd hm, hmt]
  · rw [htx, ← hmt, cut_len ⟨by omega, by omega⟩]
    simp only [sub, List.length_drop, List.length_take]
    omega
  · refine txt_gone hok ?_
    cases hh : hasId D'.m (p.st.getD i default).id with
    | false => rfl
    | true =>
      obtain ⟨y, y1, y2⟩ := hasId_mem.1 hh
      exact absurd y2 (hgo y y1)
  · intro x hx hne hxw
    obtain ⟨r1, r2⟩ := undone_text hrel hx hxw (by rw [hmi]; exact hne)
    rw [r1, r2]
  · intro x hx hxa y hy he
    have hr := h.rep x hx
    rw [← repF_own] at hr
    have hcom : Comm (p.st.filter fun s => decide (s.app = (x : Int))) := fun s hs => h.com s (List.mem_filter.1 hs).1
    obtain ⟨r1, _⟩ := rep_ids x _ noDoc _ noDoc_ok hcom hr
    rcases r1 y hy with ⟨u, hu, _⟩ | ⟨s, hs, hs0, hse⟩
    · cases hu
    · obtain ⟨hs1, hs2⟩ := List.mem_filter.1 hs
      simp only [decide_eq_true_eq] at hs2
      have hmem : p.st.getD i default ∈ p.st := by have := c.lt; simp [List.getD, this]
      have hid := c.id
      have happ := c.app
      -- the two steps have the same number
      obtain ⟨j, hj⟩ := List.getElem?_of_mem hs1
      obtain ⟨hjl, hje⟩ := List.getElem?_eq_some_iff.1 hj
      have hd := h.dst
      have hil := c.lt
      have hgi : p.st[i] = p.st.getD i default := by simp [List.getD, hil]
      have hne : j ≠ i := by
        intro e; subst e
        rw [hgi] at hje
        rw [← hje] at hs2
        omega
      have key := List.pairwise_iff_getElem.1 hd
      rcases Nat.lt_or_ge j i with h1 | h1
      · have := key j i hjl hil h1
        rw [hje, hgi] at this
        exact this hs0 (by rw [hse, he])
      · have := key i j hil hjl (by omega)
        rw [hje, hgi] at this
        exact this hid (by rw [hse, he])
  · intro x hx y hy
    rw [txt_mem (h.okD hx) hy]
end Go.Proofs

/- Commits that are undone leave the rest: examples. -/
set_option linter.unusedVariables false
set_option linter.unusedSimpArgs false
namespace Go.Proofs
open Go Go.Ideal
set_option maxRecDepth 8000
set_option maxHeartbeats 4000000

/-! ### Examples -/
def exS : Stp := ⟨0, 0, ⟨1, 0, 0, 0, [97, 98]⟩, false⟩
def exP : Past := ⟨[⟨[97, 98], [⟨0, 0, 2, true⟩]⟩], [exS]⟩
theorem exP_eq : doU ⟨[noDoc], []⟩ exS = (exP, 0) := by decide +kernel
theorem exQ_eq : undU exP 0 = (⟨[noDoc], [⟨0, 0, ⟨1, 0, 0, 0, [97, 98]⟩, true⟩]⟩, [], 0) := by decide +kernel
theorem exR_eq : recvF ⟨noDoc, [], []⟩ 0 ⟨1, 0, 0, [97, 98]⟩ = (⟨⟨[97, 98], [⟨0, 0, 2, true⟩]⟩, [0], []⟩, [⟨2, 0, 0, []⟩]) := by decide +kernel
theorem exP_good : Good exP := by
  have := (good_do (good_new 1 (by decide)) (s := exS) (by show (doU ⟨[noDoc], []⟩ exS).2 = 0; rw [exP_eq]) (by simp) (by simp [exS])).1
  rwa [show (doU ⟨List.replicate 1 noDoc, []⟩ exS) = (exP, 0) from exP_eq] at this
theorem sanity33_spec : Ideal.Spec Try.prog 5 [] (.bool true) none := by
  have s1 := New_spec 1 (by decide)
  have s2 := (good_new 1 (by decide)).Do_spec exS (by simp [exS])
  rw [show (doU ⟨List.replicate 1 noDoc, []⟩ exS) = (exP, 0) from exP_eq] at s2
  have s3 := exP_good.Undo_spec 0
  rw [exQ_eq] at s3
  have s4 := Receive_spec ⟨noDoc, [], []⟩ 0 ⟨1, 0, 0, [97, 98]⟩ ⟨noDoc_ok, by simp, by simp⟩ (by simp)
  rw [exR_eq] at s4
  refine Ideal.Spec.of_TD (n := 77) (fn := Try.f5) rfl rfl rfl rfl rfl rfl rfl fun w ok => ?_
  refine T.sregD 77 [0, 1, 2, 3, 4, 5, 6, 7] fun Kr hKr => ?_
  simp only [go_sem]
  (repeat (refine ⟨by (first | exact True.intro | omega | rfl | (simp; done) | (simp; omega)), ?_⟩)); try (refine hKr _ ?_; clear hKr Kr)
  refine T.sregD 77 [0, 1, 2, 3, 4, 5, 6, 7] fun Kr hKr => ?_
  simp only [go_sem]
  (repeat (refine ⟨by (first | exact True.intro | omega | rfl | (simp; done) | (simp; omega)), ?_⟩)); try (refine hKr _ ?_; clear hKr Kr)
  refine CallK.data (fun _ => Spec.args (s1) (by (first | exact ArgsLe.refl | (repeat (first | exact True.intro | refine And.intro (by first | exact AvLe.refl | exact AvLe.loose | exact AvLe.nil | exact AvLe.nilT | exact AvLe.slk | (refine AvLe.agg ?_; exact ArgsLe.refl) | (refine AvLe.agg ?_; (repeat (first | exact True.intro | refine And.intro (by first | exact AvLe.refl | exact AvLe.loose | exact AvLe.nil | exact AvLe.nilT | exact AvLe.slk) ?_)))) ?_))))) rfl ?_
  simp only [go_sem]
  (repeat (refine ⟨by (first | exact True.intro | omega | rfl | (simp; done) | (simp; omega)), ?_⟩)); try (refine hKr _ ?_; clear hKr Kr)
  refine CallK.tup (fun _ => Spec.args (s2) (by (first | exact ArgsLe.refl | (repeat (first | exact True.intro | refine And.intro (by first | exact AvLe.refl | exact AvLe.loose | exact AvLe.nil | exact AvLe.nilT | exact AvLe.slk | (refine AvLe.agg ?_; exact ArgsLe.refl) | (refine AvLe.agg ?_; (repeat (first | exact True.intro | refine And.intro (by first | exact AvLe.refl | exact AvLe.loose | exact AvLe.nil | exact AvLe.nilT | exact AvLe.slk) ?_)))) ?_))))) ?_
  simp only [go_sem]
  (repeat (refine ⟨by (first | exact True.intro | omega | rfl | (simp; done) | (simp; omega)), ?_⟩)); try (refine hKr _ ?_; clear hKr Kr)
  refine T.sregD 77 [0, 1, 2, 3, 4, 5, 6, 7] fun Kr hKr => ?_
  simp only [go_sem]
  (repeat (refine ⟨by (first | exact True.intro | omega | rfl | (simp; done) | (simp; omega)), ?_⟩)); try (refine hKr _ ?_; clear hKr Kr)
  refine CallK.tup (fun _ => Spec.args (s3) (by (first | exact ArgsLe.refl | (repeat (first | exact True.intro | refine And.intro (by first | exact AvLe.refl | exact AvLe.loose | exact AvLe.nil | exact AvLe.nilT | exact AvLe.slk | (refine AvLe.agg ?_; exact ArgsLe.refl) | (refine AvLe.agg ?_; (repeat (first | exact True.intro | refine And.intro (by first | exact AvLe.refl | exact AvLe.loose | exact AvLe.nil | exact AvLe.nilT | exact AvLe.slk) ?_)))) ?_))))) ?_
  simp only [go_sem]
  (repeat (refine ⟨by (first | exact True.intro | omega | rfl | (simp; done) | (simp; omega)), ?_⟩)); try (refine hKr _ ?_; clear hKr Kr)
  refine T.sregD 77 [0, 1, 2, 3, 4, 5, 6, 7] fun Kr hKr => ?_
  simp only [go_sem]
  (repeat (refine ⟨by (first | exact True.intro | omega | rfl | (simp; done) | (simp; omega)), ?_⟩)); try (refine hKr _ ?_; clear hKr Kr)
  refine CallK.tup (fun _ => Spec.args (s4) (by (first | exact ArgsLe.refl | (repeat (first | exact True.intro | refine And.intro (by first | exact AvLe.refl | exact AvLe.loose | exact AvLe.nil | exact AvLe.nilT | exact AvLe.slk | (refine AvLe.agg ?_; exact ArgsLe.refl) | (refine AvLe.agg ?_; (repeat (first | exact True.intro | refine And.intro (by first | exact AvLe.refl | exact AvLe.loose | exact AvLe.nil | exact AvLe.nilT | exact AvLe.slk) ?_)))) ?_))))) ?_
  simp only [go_sem]
  (repeat (refine ⟨by (first | exact True.intro | omega | rfl | (simp; done) | (simp; omega)), ?_⟩)); try (refine hKr _ ?_; clear hKr Kr)
  have f1 : docsOf [noDoc] = [.agg [.str [], .sl false 4 []]] := rfl
  have f2 : docsOf exP.docs = [.agg [.str [97, 98], .sl false 4 (mksOf [⟨0, 0, 2, true⟩])]] := rfl
  have f3 : pksOf [⟨2, 0, 0, []⟩] = [.agg [.int .i64 2, .int .i64 0, .int .i64 0, .str []]] := rfl
  refine T.sregD 77 [0, 1, 2, 3, 4, 5, 6, 7] fun Kr hKr => ?_
  simp only [go_sem, f1, f2, f3]
  (repeat (refine ⟨by (first | exact True.intro | omega | rfl | (simp; done) | (simp; omega)), ?_⟩)); try (refine hKr _ ?_; clear hKr Kr)
  refine T.ret (Fin.dataD (by rfl) rfl rfl)

end Go.Proofs

/- Commits that are undone leave the rest: the statement. -/
set_option linter.unusedVariables false
set_option linter.unusedSimpArgs false
namespace Go.Proofs
open Go Go.Ideal
set_option maxRecDepth 8000
set_option maxHeartbeats 4000000

theorem getD_mem {l : List Mark} {y : Nat} (h : y < l.length) : l.getD y default ∈ l := by simp [List.getD, h]
theorem undoneTop_law (l : List URaw) (n : UInt8) : Ideal.Spec Try.prog 4 [.sl false 7 (urawsOf l), .int .u8 n.toNat] (.bool true) none := by
  have s1 := Made_specU l
  have hM := made_ok l
  generalize madeU l = p at *
  have hg := hM.good
  have hsl := hM.len
  have h2 := hM.two
  have hnn := n.toNat_lt
  have s2 := Chosen_specU p n (by omega)
  have s0 := sanity33_spec
  refine Ideal.Spec.of_TD (n := 291) (fn := Try.f4) rfl rfl rfl rfl rfl rfl rfl fun w ok => ?_
  refine T.sregD 291 [0, 1, 4, 5, 6, 7, 8, 9, 10, 11, 12, 13, 14, 15, 16, 17, 18, 19, 20, 21, 22, 23, 24, 25, 26, 27, 28, 29, 37, 52, 122, 127, 138, 174, 176, 199, 226, 235, 243, 255, 261, 289] fun Kr hKr => ?_
  simp only [go_sem]
  (repeat (refine ⟨by (first | exact True.intro | omega | rfl | (simp; done) | (simp; omega)), ?_⟩)); try (refine hKr _ ?_; clear hKr Kr)
  refine T.sregD 291 [0, 1, 4, 5, 6, 7, 8, 9, 10, 11, 12, 13, 14, 15, 16, 17, 18, 19, 20, 21, 22, 23, 24, 25, 26, 27, 28, 29, 37, 52, 122, 127, 138, 174, 176, 199, 226, 235, 243, 255, 261, 289] fun Kr hKr => ?_
  simp only [go_sem]
  (repeat (refine ⟨by (first | exact True.intro | omega | rfl | (simp; done) | (simp; omega)), ?_⟩)); try (refine hKr _ ?_; clear hKr Kr)
  refine CallK.data (fun _ => Spec.args (s0) (by (first | exact ArgsLe.refl | (repeat (first | exact True.intro | refine And.intro (by first | exact AvLe.refl | exact AvLe.loose | exact AvLe.nil | exact AvLe.nilT | exact AvLe.slk | (refine AvLe.agg ?_; exact ArgsLe.refl) | (refine AvLe.agg ?_; (repeat (first | exact True.intro | refine And.intro (by first | exact AvLe.refl | exact AvLe.loose | exact AvLe.nil | exact AvLe.nilT | exact AvLe.slk) ?_)))) ?_))))) rfl ?_
  simp only [go_sem]
  (repeat (refine ⟨by (first | exact True.intro | omega | rfl | (simp; done) | (simp; omega)), ?_⟩)); try (refine hKr _ ?_; clear hKr Kr)
  refine T.sregD 291 [0, 1, 4, 5, 6, 7, 8, 9, 10, 11, 12, 13, 14, 15, 16, 17, 18, 19, 20, 21, 22, 23, 24, 25, 26, 27, 28, 29, 37, 52, 122, 127, 138, 174, 176, 199, 226, 235, 243, 255, 261, 289] fun Kr hKr => ?_
  simp only [go_sem]
  (repeat (refine ⟨by (first | exact True.intro | omega | rfl | (simp; done) | (simp; omega)), ?_⟩)); try (refine hKr _ ?_; clear hKr Kr)
  refine CallK.data (fun _ => Spec.args (s1) (by (first | exact ArgsLe.refl | (repeat (first | exact True.intro | refine And.intro (by first | exact AvLe.refl | exact AvLe.loose | exact AvLe.nil | exact AvLe.nilT | exact AvLe.slk | (refine AvLe.agg ?_; exact ArgsLe.refl) | (refine AvLe.agg ?_; (repeat (first | exact True.intro | refine And.intro (by first | exact AvLe.refl | exact AvLe.loose | exact AvLe.nil | exact AvLe.nilT | exact AvLe.slk) ?_)))) ?_))))) rfl ?_
  simp only [go_sem]
  (repeat (refine ⟨by (first | exact True.intro | omega | rfl | (simp; done) | (simp; omega)), ?_⟩)); try (refine hKr _ ?_; clear hKr Kr)
  refine T.sregD 291 [0, 1, 4, 5, 6, 7, 8, 9, 10, 11, 12, 13, 14, 15, 16, 17, 18, 19, 20, 21, 22, 23, 24, 25, 26, 27, 28, 29, 37, 52, 122, 127, 138, 174, 176, 199, 226, 235, 243, 255, 261, 289] fun Kr hKr => ?_
  simp only [go_sem]
  (repeat (refine ⟨by (first | exact True.intro | omega | rfl | (simp; done) | (simp; omega)), ?_⟩)); try (refine hKr _ ?_; clear hKr Kr)
  refine CallK.data (fun _ => Spec.args (s2) (by (first | exact ArgsLe.refl | (repeat (first | exact True.intro | refine And.intro (by first | exact AvLe.refl | exact AvLe.loose | exact AvLe.nil | exact AvLe.nilT | exact AvLe.slk | (refine AvLe.agg ?_; exact ArgsLe.refl) | (refine AvLe.agg ?_; (repeat (first | exact True.intro | refine And.intro (by first | exact AvLe.refl | exact AvLe.loose | exact AvLe.nil | exact AvLe.nilT | exact AvLe.slk) ?_)))) ?_))))) rfl ?_
  simp only [go_sem]
  (repeat (refine ⟨by (first | exact True.intro | omega | rfl | (simp; done) | (simp; omega)), ?_⟩)); try (refine hKr _ ?_; clear hKr Kr)
  refine T.seqK fun K1 hK1 => ?_
  rcases choU_com p n with he | ⟨i, he, hc⟩
  · rw [he]
    refine T.sregD 291 [0, 1, 4, 5, 6, 7, 8, 9, 10, 11, 12, 13, 14, 15, 16, 17, 18, 19, 20, 21, 22, 23, 24, 25, 26, 27, 28, 29, 37, 52, 122, 127, 138, 174, 176, 199, 226, 235, 243, 255, 261, 289] fun Kr hKr => ?_
    simp only [go_sem]
    (repeat (refine ⟨by (first | exact True.intro | omega | rfl | (simp; done) | (simp; omega)), ?_⟩)); try (refine hKr _ ?_; clear hKr Kr)
    refine T.condTD rfl rfl (fun hb => ?_) (fun hb => ?_) <;> try simp at hb
    refine T.sregD 291 [0, 1, 4, 5, 6, 7, 8, 9, 10, 11, 12, 13, 14, 15, 16, 17, 18, 19, 20, 21, 22, 23, 24, 25, 26, 27, 28, 29, 37, 52, 122, 127, 138, 174, 176, 199, 226, 235, 243, 255, 261, 289] fun Kr hKr => ?_
    simp only [go_sem]
    (repeat (refine ⟨by (first | exact True.intro | omega | rfl | (simp; done) | (simp; omega)), ?_⟩)); try (refine hKr _ ?_; clear hKr Kr)
    refine T.ret (Fin.dataD rfl rfl rfl)
  rw [he]
  obtain ⟨a, c⟩ := cho_of hg hc
  have s3 := hg.Undo_spec i
  have s4 := hg.Depends_spec i
  have hi := c.lt
  have hi0 : ((i : Int) < 0) = False := eq_false (by omega)
  obtain ⟨w1, w2⟩ := wit_eq c
  refine T.sregD 291 [0, 1, 4, 5, 6, 7, 8, 9, 10, 11, 12, 13, 14, 15, 16, 17, 18, 19, 20, 21, 22, 23, 24, 25, 26, 27, 28, 29, 37, 52, 122, 127, 138, 174, 176, 199, 226, 235, 243, 255, 261, 289] fun Kr hKr => ?_
  simp only [go_sem, hi0]
  (repeat (refine ⟨by (first | exact True.intro | omega | rfl | (simp; done) | (simp; omega)), ?_⟩)); try (refine hKr _ ?_; clear hKr Kr)
  refine T.condTD rfl rfl (fun hb => ?_) (fun hb => ?_) <;> try simp at hb
  refine T.skip ?_
  refine hK1 _ ?_
  by_cases hw : (depU p i).1 = []
  rotate_left
  · obtain ⟨q1, q2⟩ := w1 hw
    rw [q1] at s3
    rw [depU_inv.1.2 c.com] at s4
    have hll : (depU p i).1.length ≤ p.st.length := by
      unfold depU
      rw [if_pos c.com]
      simp only [Int.toNat_natCast]
      exact Nat.le_trans (depF_len p.st _ _) (latL_len _ _ _)
    have hpos : ((((depU p i).1).length : Int) > 0) = True := eq_true (by have := List.length_pos_iff.2 hw; omega)
    have sI := IntsU_spec (ofN (depU p i).1) (ofN (depU p i).1) (by simp [ofN]; omega) (by simp [ofN]; omega)
    rw [decide_eq_true rfl] at sI
    have hNN : (ofN (depU p i).1).length = (depU p i).1.length := by simp [ofN]
    generalize (depU p i).1 = L at *
    refine T.sregD 291 [0, 1, 4, 5, 6, 7, 8, 9, 10, 11, 12, 13, 14, 15, 16, 17, 18, 19, 20, 21, 22, 23, 24, 25, 26, 27, 28, 29, 37, 52, 122, 127, 138, 174, 176, 199, 226, 235, 243, 255, 261, 289] fun Kr hKr => ?_
    simp only [go_sem, hi]
    (repeat (refine ⟨by (first | exact True.intro | omega | rfl | (simp; done) | (simp; omega)), ?_⟩)); try (refine hKr _ ?_; clear hKr Kr)
    refine T.sregD 291 [0, 1, 4, 5, 6, 7, 8, 9, 10, 11, 12, 13, 14, 15, 16, 17, 18, 19, 20, 21, 22, 23, 24, 25, 26, 27, 28, 29, 37, 52, 122, 127, 138, 174, 176, 199, 226, 235, 243, 255, 261, 289] fun Kr hKr => ?_
    simp only [go_sem]
    (repeat (refine ⟨by (first | exact True.intro | omega | rfl | (simp; done) | (simp; omega)), ?_⟩)); try (refine hKr _ ?_; clear hKr Kr)
    refine CallK.tup (fun _ => Spec.args (s3) (by (first | exact ArgsLe.refl | (repeat (first | exact True.intro | refine And.intro (by first | exact AvLe.refl | exact AvLe.loose | exact AvLe.nil | exact AvLe.nilT | exact AvLe.slk | (refine AvLe.agg ?_; exact ArgsLe.refl) | (refine AvLe.agg ?_; (repeat (first | exact True.intro | refine And.intro (by first | exact AvLe.refl | exact AvLe.loose | exact AvLe.nil | exact AvLe.nilT | exact AvLe.slk) ?_)))) ?_))))) ?_
    simp only [go_sem]
    (repeat (refine ⟨by (first | exact True.intro | omega | rfl | (simp; done) | (simp; omega)), ?_⟩)); try (refine hKr _ ?_; clear hKr Kr)
    refine T.seqK fun K2 hK2 => ?_
    refine T.sregD 291 [0, 1, 4, 5, 6, 7, 8, 9, 10, 11, 12, 13, 14, 15, 16, 17, 18, 19, 20, 21, 22, 23, 24, 25, 26, 27, 28, 29, 37, 52, 122, 127, 138, 174, 176, 199, 226, 235, 243, 255, 261, 289] fun Kr hKr => ?_
    simp only [go_sem]
    (repeat (refine ⟨by (first | exact True.intro | omega | rfl | (simp; done) | (simp; omega)), ?_⟩)); try (refine hKr _ ?_; clear hKr Kr)
    refine T.condTD rfl rfl (fun hb => ?_) (fun hb => ?_) <;> try simp at hb
    refine T.sregD 291 [0, 1, 4, 5, 6, 7, 8, 9, 10, 11, 12, 13, 14, 15, 16, 17, 18, 19, 20, 21, 22, 23, 24, 25, 26, 27, 28, 29, 37, 52, 122, 127, 138, 174, 176, 199, 226, 235, 243, 255, 261, 289] fun Kr hKr => ?_
    simp only [go_sem]
    (repeat (refine ⟨by (first | exact True.intro | omega | rfl | (simp; done) | (simp; omega)), ?_⟩)); try (refine hKr _ ?_; clear hKr Kr)
    refine CallK.tup (fun _ => Spec.args (s4) (by (first | exact ArgsLe.refl | (repeat (first | exact True.intro | refine And.intro (by first | exact AvLe.refl | exact AvLe.loose | exact AvLe.nil | exact AvLe.nilT | exact AvLe.slk | (refine AvLe.agg ?_; exact ArgsLe.refl) | (refine AvLe.agg ?_; (repeat (first | exact True.intro | refine And.intro (by first | exact AvLe.refl | exact AvLe.loose | exact AvLe.nil | exact AvLe.nilT | exact AvLe.slk) ?_)))) ?_))))) ?_
    simp only [go_sem]
    (repeat (refine ⟨by (first | exact True.intro | omega | rfl | (simp; done) | (simp; omega)), ?_⟩)); try (refine hKr _ ?_; clear hKr Kr)
    refine T.sregD 291 [0, 1, 4, 5, 6, 7, 8, 9, 10, 11, 12, 13, 14, 15, 16, 17, 18, 19, 20, 21, 22, 23, 24, 25, 26, 27, 28, 29, 37, 52, 122, 127, 138, 174, 176, 199, 226, 235, 243, 255, 261, 289] fun Kr hKr => ?_
    simp only [go_sem, hNN, hpos]
    (repeat (refine ⟨by (first | exact True.intro | omega | rfl | (simp; done) | (simp; omega)), ?_⟩)); try (refine hKr _ ?_; clear hKr Kr)
    refine CallK.data (fun _ => Spec.args (sI) (by (first | exact ArgsLe.refl | (repeat (first | exact True.intro | refine And.intro (by first | exact AvLe.refl | exact AvLe.loose | exact AvLe.nil | exact AvLe.nilT | exact AvLe.slk | (refine AvLe.agg ?_; exact ArgsLe.refl) | (refine AvLe.agg ?_; (repeat (first | exact True.intro | refine And.intro (by first | exact AvLe.refl | exact AvLe.loose | exact AvLe.nil | exact AvLe.nilT | exact AvLe.slk) ?_)))) ?_))))) rfl ?_
    simp only [go_sem, hNN, hpos]
    (repeat (refine ⟨by (first | exact True.intro | omega | rfl | (simp; done) | (simp; omega)), ?_⟩)); try (refine hKr _ ?_; clear hKr Kr)
    refine T.ret (Fin.dataD rfl rfl rfl)
  obtain ⟨D', Lf⟩ := left_of hg c hw
  have U := Lf.und
  obtain ⟨q2, gq, ql⟩ := w2 D' U
  have s5 := Without_spec hg i
  rw [q2] at s5
  rw [U.eq] at s3
  have hS2 : (p.docs.set a D').length = 2 := by simpa using h2
  have hal := c.al
  have hset : ∀ x, (p.docs.set a D').getD x default = if x = a then D' else p.docs.getD x default := fun x => by
    simp only [List.getD, List.getElem?_set]
    by_cases hx : a = x
    · subst hx; simp [hal]
    · rw [if_neg hx, if_neg (by omega)]
  have hSa : (p.docs.set a D').getD a default = D' := by rw [hset, if_pos rfl]
  have hokp : ∀ x, x < 2 → OkD (p.docs.getD x default) := fun x hx => hg.okD (by omega)
  have hmk : ∀ x, x < 2 → ∀ m ∈ (p.docs.getD x default).m, (txtF (p.docs.getD x default) m.id).2 = 0 ∧ (m.id = (p.st.getD i default).id → txtF ((p.docs.set a D').getD x default) m.id = ([], 330)) ∧
      (m.id ≠ (p.st.getD i default).id → m.w = true → txtF ((p.docs.set a D').getD x default) m.id = txtF (p.docs.getD x default) m.id) := fun x hx m hm => by
    refine ⟨Lf.ok x (by omega) m hm, fun e => ?_, fun e hmw => ?_⟩
    · by_cases hxa : x = a
      · rw [hset, if_pos hxa, e]; exact Lf.gone
      · exact absurd e (Lf.oth x (by omega) hxa m hm)
    · by_cases hxa : x = a
      · subst hxa
        rw [hset, if_pos rfl]; exact Lf.same m hm e hmw
      · rw [hset, if_neg hxa]
  have hokS : ∀ x, x < 2 → OkD ((p.docs.set a D').getD x default) := fun x hx => gq.okD (by simp only; omega)
  have hlen := Lf.len
  have htxt := Lf.txt
  have hdd := hokp a (by omega)
  have hdl := hdd.len
  have hdc := hdd.cnt
  have ha := c.app
  have sT := Text_spec (p.docs.getD a default) (p.st.getD i default).id (by omega) (by omega)
  rw [htxt] at sT
  have htl : (p.st.getD i default).e.s.length ≤ 1000 := hg.txt _ (by simp [List.getD, hi])
  have hlenT : ((D'.s.length : Int) = ((p.docs.getD a default).s.length : Int) - ((p.st.getD i default).e.s.length : Int)) = True := eq_true hlen
  clear U w1 w2 Lf
  generalize p.docs.set a D' = S at *
  generalize (undS p i).take i ++ (undS p i).drop (i + 1) = Q at *
  generalize undS p i = P' at *
  have s6 := New_spec 2 (by decide)
  rw [← now_zero Q] at s6
  have hgn := now_good gq hS2
  have hns := fun k hk hu => now_step gq hS2 (k := k) hk hu
  have hne := now_end gq hS2
  have hqt : ∀ s ∈ Q, s.e.s.length ≤ 1000 := gq.txt
  have s7 : ∀ k, k < Q.length → Ideal.Spec Try.prog 9 [pastA (nowU Q k), stA (Q.getD k default)] (.tup [pastA (doU (nowU Q k) (Q.getD k default)).1, .int .i64 (doU (nowU Q k) (Q.getD k default)).2]) none := fun k hk =>
    (hgn k).Do_spec _ (by have := hqt (Q.getD k default) (by simp [List.getD, hk]); omega)
  have hpl : ((Q.length : Int) = (p.st.length : Int) - 1) = True := eq_true (by omega)
  clear gq
  generalize hs0 : p.st.getD i default = t0 at *
  obtain ⟨ta, sid, e0, u0⟩ := t0
  simp only at ha htxt hlenT sT htl hmk
  subst ha
  refine T.sregD 291 [0, 1, 4, 5, 6, 7, 8, 9, 10, 11, 12, 13, 14, 15, 16, 17, 18, 19, 20, 21, 22, 23, 24, 25, 26, 27, 28, 29, 37, 52, 122, 127, 138, 174, 176, 199, 226, 235, 243, 255, 261, 289] fun Kr hKr => ?_
  simp only [go_sem, hi, hs0]
  (repeat (refine ⟨by (first | exact True.intro | omega | rfl | (simp; done) | (simp; omega)), ?_⟩)); try (refine hKr _ ?_; clear hKr Kr)
  refine T.sregD 291 [0, 1, 4, 5, 6, 7, 8, 9, 10, 11, 12, 13, 14, 15, 16, 17, 18, 19, 20, 21, 22, 23, 24, 25, 26, 27, 28, 29, 37, 52, 122, 127, 138, 174, 176, 199, 226, 235, 243, 255, 261, 289] fun Kr hKr => ?_
  simp only [go_sem]
  (repeat (refine ⟨by (first | exact True.intro | omega | rfl | (simp; done) | (simp; omega)), ?_⟩)); try (refine hKr _ ?_; clear hKr Kr)
  refine CallK.tup (fun _ => Spec.args (s3) (by (first | exact ArgsLe.refl | (repeat (first | exact True.intro | refine And.intro (by first | exact AvLe.refl | exact AvLe.loose | exact AvLe.nil | exact AvLe.nilT | exact AvLe.slk | (refine AvLe.agg ?_; exact ArgsLe.refl) | (refine AvLe.agg ?_; (repeat (first | exact True.intro | refine And.intro (by first | exact AvLe.refl | exact AvLe.loose | exact AvLe.nil | exact AvLe.nilT | exact AvLe.slk) ?_)))) ?_))))) ?_
  simp only [go_sem]
  (repeat (refine ⟨by (first | exact True.intro | omega | rfl | (simp; done) | (simp; omega)), ?_⟩)); try (refine hKr _ ?_; clear hKr Kr)
  refine T.seqK fun K2 hK2 => ?_
  refine T.sregD 291 [0, 1, 4, 5, 6, 7, 8, 9, 10, 11, 12, 13, 14, 15, 16, 17, 18, 19, 20, 21, 22, 23, 24, 25, 26, 27, 28, 29, 37, 52, 122, 127, 138, 174, 176, 199, 226, 235, 243, 255, 261, 289] fun Kr hKr => ?_
  simp only [go_sem]
  (repeat (refine ⟨by (first | exact True.intro | omega | rfl | (simp; done) | (simp; omega)), ?_⟩)); try (refine hKr _ ?_; clear hKr Kr)
  refine T.condTD rfl rfl (fun hb => ?_) (fun hb => ?_) <;> try simp at hb
  refine T.skip ?_
  refine hK2 _ ?_
  have hal2 : a < S.length := by omega
  have ha2 : a < 2 := by omega
  refine T.sdrawD 291 [0, 1, 4, 5, 6, 7, 8, 9, 10, 11, 12, 13, 14, 15, 16, 17, 18, 19, 20, 21, 22, 23, 24, 25, 26, 27, 28, 29, 37, 52, 122, 127, 138, 174, 176, 199, 226, 235, 243, 255, 261, 289] (.take 0 (.take 1 (.take 2 (.take 3 (.take 4 (.take 5 (.take 6 (.take 7 (.one 8 (.take 9 (.take 10 (.take 11 (.take 12 (.take 13 .done)))))))))))))) [6, 8] rfl (by decide +kernel) (by decide +kernel) fun Kr hKr => ?_
  simp only [go_sem, hal]
  (repeat (refine ⟨by (first | exact True.intro | omega | rfl | (simp; done) | (simp; omega)), ?_⟩)); try (refine hKr _ ?_; clear hKr Kr)
  refine CallK.tup (fun _ => Spec.args (sT) (by (first | exact ArgsLe.refl | (repeat (first | exact True.intro | refine And.intro (by first | exact AvLe.refl | exact AvLe.loose | exact AvLe.nil | exact AvLe.nilT | exact AvLe.slk | (refine AvLe.agg ?_; exact ArgsLe.refl) | (refine AvLe.agg ?_; (repeat (first | exact True.intro | refine And.intro (by first | exact AvLe.refl | exact AvLe.loose | exact AvLe.nil | exact AvLe.nilT | exact AvLe.slk) ?_)))) ?_))))) ?_
  simp only [go_sem, hal]
  (repeat (refine ⟨by (first | exact True.intro | omega | rfl | (simp; done) | (simp; omega)), ?_⟩)); try (refine hKr _ ?_; clear hKr Kr)
  refine T.seqK fun K3 hK3 => ?_
  refine T.sdrawD 291 [0, 1, 4, 5, 6, 7, 8, 9, 10, 11, 12, 13, 14, 15, 16, 17, 18, 19, 20, 21, 22, 23, 24, 25, 26, 27, 28, 29, 37, 52, 122, 127, 138, 174, 176, 199, 226, 235, 243, 255, 261, 289] (.take 0 (.take 1 (.take 2 (.take 3 (.take 4 (.take 5 (.take 6 (.take 7 (.take 8 (.take 9 (.take 10 (.take 11 (.take 12 (.take 13 (.take 14 (.take 15 (.take 16 (.take 17 (.take 18 (.take 19 (.take 20 (.take 21 (.take 22 (.take 23 (.take 24 (.take 25 (.take 26 (.take 27 (.take 28 (.take 29 (.take 30 (.take 31 (.take 32 .done))))))))))))))))))))))))))))))))) [6, 8, 9] rfl (by decide +kernel) (by decide +kernel) fun Kr hKr => ?_
  simp only [go_sem, hal, hal2, ha2, h2, hS2, hSa, hlenT]
  (repeat (refine ⟨by (first | exact True.intro | omega | rfl | (simp; done) | (simp; omega)), ?_⟩)); try (refine hKr _ ?_; clear hKr Kr)
  refine T.condTD rfl rfl (fun hb => ?_) (fun hb => ?_) <;> try simp at hb
  refine T.skip ?_
  refine hK3 _ ?_
  clear sT htxt hlenT hSa hlen
  refine T.seqK fun K4 hK4 => ?_
  refine T.sregD 291 [0, 1, 4, 5, 6, 7, 8, 9, 10, 11, 12, 13, 14, 15, 16, 17, 18, 19, 20, 21, 22, 23, 24, 25, 26, 27, 28, 29, 37, 52, 122, 127, 138, 174, 176, 199, 226, 235, 243, 255, 261, 289] fun Kr hKr => ?_
  simp only [go_sem]
  (repeat (refine ⟨by (first | exact True.intro | omega | rfl | (simp; done) | (simp; omega)), ?_⟩)); try (refine hKr _ ?_; clear hKr Kr)
  refine T.bloop (fun x : Nat => ⟨dense 291 [(5, .bool true), (6, .op 6 0 0), (7, .int .i64 i), (8, .op 8 0 0), (9, .op 9 0 0), (16, .int .i64 x)], [(9, ⟨2, 33, true, [pastA ⟨S, P'⟩]⟩), (8, ⟨8, 51, true, [stA ⟨a, sid, e0, u0⟩]⟩), (6, ⟨2, 33, true, [pastA p]⟩)]⟩) (fun x => x ≤ 2) (fun x => 2 - x) 0 (by simp) ?_ fun x hx => ?_
  · refine Le.fitS (by (repeat (first | exact DFit.nil | refine DFit.cons (by first | rfl | (simp [slook]; done) | (simp [slook]; omega)) ?_))) (by (repeat (first | exact True.intro | refine And.intro (by first | rfl | (simp [look]; done)) ?_)))
  refine T.seqK fun K5 hK5 => ?_
  refine T.sregD 291 [0, 1, 4, 5, 6, 7, 8, 9, 10, 11, 12, 13, 14, 15, 16, 17, 18, 19, 20, 21, 22, 23, 24, 25, 26, 27, 28, 29, 37, 52, 122, 127, 138, 174, 176, 199, 226, 235, 243, 255, 261, 289] fun Kr hKr => ?_
  simp only [go_sem, h2]
  (repeat (refine ⟨by (first | exact True.intro | omega | rfl | (simp; done) | (simp; omega)), ?_⟩)); try (refine hKr _ ?_; clear hKr Kr)
  refine T.condFD rfl rfl (fun hb => ?_) (fun hb => ?_) <;> simp only [decide_eq_true_eq, decide_eq_false_iff_not] at hb
  rotate_left
  · -- the marks of one document
    have hx2 : x < 2 := by omega
    have hxp : x < p.docs.length := by omega
    have hxS : x < S.length := by omega
    have hmx := hmk x hx2
    have ox := hokp x hx2
    have oS := hokS x hx2
    have c1 := ox.len
    have c2 := ox.cnt
    have c3 := oS.len
    have c4 := oS.cnt
    refine T.skip ?_
    refine hK5 _ ?_
    refine T.seqK fun K6 hK6 => ?_
    refine T.block ?_
    refine T.sregD 291 [0, 1, 4, 5, 6, 7, 8, 9, 10, 11, 12, 13, 14, 15, 16, 17, 18, 19, 20, 21, 22, 23, 24, 25, 26, 27, 28, 29, 37, 52, 122, 127, 138, 174, 176, 199, 226, 235, 243, 255, 261, 289] fun Kr hKr => ?_
    simp only [go_sem]
    (repeat (refine ⟨by (first | exact True.intro | omega | rfl | (simp; done) | (simp; omega)), ?_⟩)); try (refine hKr _ ?_; clear hKr Kr)
    refine T.bloop (fun y : Nat => ⟨dense 291 [(5, .bool true), (6, .op 6 0 0), (7, .int .i64 i), (8, .op 8 0 0), (9, .op 9 0 0), (16, .int .i64 x), (17, .int .i64 y)], [(9, ⟨2, 33, true, [pastA ⟨S, P'⟩]⟩), (8, ⟨8, 51, true, [stA ⟨a, sid, e0, u0⟩]⟩), (6, ⟨2, 33, true, [pastA p]⟩)]⟩)
      (fun y => y ≤ (p.docs.getD x default).m.length) (fun y => (p.docs.getD x default).m.length - y) 0 (by simp) ?_ fun y hy => ?_
    · refine Le.fitS (by (repeat (first | exact DFit.nil | refine DFit.cons (by first | rfl | (simp [slook]; done) | (simp [slook]; omega)) ?_))) (by (repeat (first | exact True.intro | refine And.intro (by first | rfl | (simp [look]; done)) ?_)))
    refine T.seqK fun K7 hK7 => ?_
    refine T.sregD 291 [0, 1, 4, 5, 6, 7, 8, 9, 10, 11, 12, 13, 14, 15, 16, 17, 18, 19, 20, 21, 22, 23, 24, 25, 26, 27, 28, 29, 37, 52, 122, 127, 138, 174, 176, 199, 226, 235, 243, 255, 261, 289] fun Kr hKr => ?_
    simp only [go_sem, hxp]
    (repeat (refine ⟨by (first | exact True.intro | omega | rfl | (simp; done) | (simp; omega)), ?_⟩)); try (refine hKr _ ?_; clear hKr Kr)
    refine T.condFD rfl rfl (fun hd => ?_) (fun hd => ?_) <;> simp only [decide_eq_true_eq, decide_eq_false_iff_not] at hd
    · -- no: exit
      refine T.exit ?_
      simp only [if_true]
      refine hK6 _ ?_
      refine T.regD 291 [0, 1, 4, 5, 6, 7, 8, 9, 10, 11, 12, 13, 14, 15, 16, 17, 18, 19, 20, 21, 22, 23, 24, 25, 26, 27, 28, 29, 37, 52, 122, 127, 138, 174, 176, 199, 226, 235, 243, 255, 261, 289] fun Kr hKr => ?_
      simp only [go_sem]
      (repeat (refine ⟨by (first | exact True.intro | omega | rfl | (simp; done) | (simp; omega)), ?_⟩)); try (refine hKr _ ?_; clear hKr Kr)
      refine ⟨x + 1, ?_, ?_, Le.fitS (by (repeat (first | exact DFit.nil | refine DFit.cons (by first | rfl | (simp [slook]; done) | (simp [slook]; omega)) ?_))) ?_⟩
      · omega
      · omega
      · (repeat (first | exact True.intro | refine And.intro (by first | rfl | (simp [look]; done)) ?_))
    have hyl : y < (p.docs.getD x default).m.length := by omega
    have hM := hmx ((p.docs.getD x default).m.getD y default) (getD_mem hyl)
    obtain ⟨m1, m2, m3⟩ := hM
    have t1 := Text_spec (p.docs.getD x default) ((p.docs.getD x default).m.getD y default).id (by omega) (by omega)
    have t2 := Text_spec (S.getD x default) ((p.docs.getD x default).m.getD y default).id (by omega) (by omega)
    refine T.skip ?_
    refine hK7 _ ?_
    refine T.seqK fun K8 hK8 => ?_
    refine T.block ?_
    refine T.sregD 291 [0, 1, 4, 5, 6, 7, 8, 9, 10, 11, 12, 13, 14, 15, 16, 17, 18, 19, 20, 21, 22, 23, 24, 25, 26, 27, 28, 29, 37, 52, 122, 127, 138, 174, 176, 199, 226, 235, 243, 255, 261, 289] fun Kr hKr => ?_
    simp only [go_sem, hxp, hyl]
    (repeat (refine ⟨by (first | exact True.intro | omega | rfl | (simp; done) | (simp; omega)), ?_⟩)); try (refine hKr _ ?_; clear hKr Kr)
    generalize hMg : (p.docs.getD x default).m.getD y default = M at *
    refine T.sregD 291 [0, 1, 4, 5, 6, 7, 8, 9, 10, 11, 12, 13, 14, 15, 16, 17, 18, 19, 20, 21, 22, 23, 24, 25, 26, 27, 28, 29, 37, 52, 122, 127, 138, 174, 176, 199, 226, 235, 243, 255, 261, 289] fun Kr hKr => ?_
    simp only [go_sem, hxp]
    (repeat (refine ⟨by (first | exact True.intro | omega | rfl | (simp; done) | (simp; omega)), ?_⟩)); try (refine hKr _ ?_; clear hKr Kr)
    refine CallK.tup (fun _ => Spec.args (t1) (by (first | exact ArgsLe.refl | (repeat (first | exact True.intro | refine And.intro (by first | exact AvLe.refl | exact AvLe.loose | exact AvLe.nil | exact AvLe.nilT | exact AvLe.slk | (refine AvLe.agg ?_; exact ArgsLe.refl) | (refine AvLe.agg ?_; (repeat (first | exact True.intro | refine And.intro (by first | exact AvLe.refl | exact AvLe.loose | exact AvLe.nil | exact AvLe.nilT | exact AvLe.slk) ?_)))) ?_))))) ?_
    simp only [go_sem, hxp]
    (repeat (refine ⟨by (first | exact True.intro | omega | rfl | (simp; done) | (simp; omega)), ?_⟩)); try (refine hKr _ ?_; clear hKr Kr)
    refine T.sregD 291 [0, 1, 4, 5, 6, 7, 8, 9, 10, 11, 12, 13, 14, 15, 16, 17, 18, 19, 20, 21, 22, 23, 24, 25, 26, 27, 28, 29, 37, 52, 122, 127, 138, 174, 176, 199, 226, 235, 243, 255, 261, 289] fun Kr hKr => ?_
    simp only [go_sem, hxS]
    (repeat (refine ⟨by (first | exact True.intro | omega | rfl | (simp; done) | (simp; omega)), ?_⟩)); try (refine hKr _ ?_; clear hKr Kr)
    refine CallK.tup (fun _ => Spec.args (t2) (by (first | exact ArgsLe.refl | (repeat (first | exact True.intro | refine And.intro (by first | exact AvLe.refl | exact AvLe.loose | exact AvLe.nil | exact AvLe.nilT | exact AvLe.slk | (refine AvLe.agg ?_; exact ArgsLe.refl) | (refine AvLe.agg ?_; (repeat (first | exact True.intro | refine And.intro (by first | exact AvLe.refl | exact AvLe.loose | exact AvLe.nil | exact AvLe.nilT | exact AvLe.slk) ?_)))) ?_))))) ?_
    simp only [go_sem, hxS]
    (repeat (refine ⟨by (first | exact True.intro | omega | rfl | (simp; done) | (simp; omega)), ?_⟩)); try (refine hKr _ ?_; clear hKr Kr)
    refine T.seqK fun K9 hK9 => ?_
    by_cases hid : M.id = sid
    · have hid' : (M.id = sid) = True := eq_true hid
      rw [m2 hid]
      refine T.sregD 291 [0, 1, 4, 5, 6, 7, 8, 9, 10, 11, 12, 13, 14, 15, 16, 17, 18, 19, 20, 21, 22, 23, 24, 25, 26, 27, 28, 29, 37, 52, 122, 127, 138, 174, 176, 199, 226, 235, 243, 255, 261, 289] fun Kr hKr => ?_
      simp only [go_sem, hid']
      (repeat (refine ⟨by (first | exact True.intro | omega | rfl | (simp; done) | (simp; omega)), ?_⟩)); try (refine hKr _ ?_; clear hKr Kr)
      refine T.condTD rfl rfl (fun hb => ?_) (fun hb => ?_) <;> try simp at hb
      refine T.seqK fun K10 hK10 => ?_
      refine T.sregD 291 [0, 1, 4, 5, 6, 7, 8, 9, 10, 11, 12, 13, 14, 15, 16, 17, 18, 19, 20, 21, 22, 23, 24, 25, 26, 27, 28, 29, 37, 52, 122, 127, 138, 174, 176, 199, 226, 235, 243, 255, 261, 289] fun Kr hKr => ?_
      simp only [go_sem]
      (repeat (refine ⟨by (first | exact True.intro | omega | rfl | (simp; done) | (simp; omega)), ?_⟩)); try (refine hKr _ ?_; clear hKr Kr)
      refine T.condTD rfl rfl (fun hb => ?_) (fun hb => ?_) <;> try simp at hb
      refine T.skip ?_
      refine hK10 _ ?_
      refine T.exit ?_
      simp only [if_true]
      refine hK8 _ ?_
      refine T.regD 291 [0, 1, 4, 5, 6, 7, 8, 9, 10, 11, 12, 13, 14, 15, 16, 17, 18, 19, 20, 21, 22, 23, 24, 25, 26, 27, 28, 29, 37, 52, 122, 127, 138, 174, 176, 199, 226, 235, 243, 255, 261, 289] fun Kr hKr => ?_
      simp only [go_sem]
      (repeat (refine ⟨by (first | exact True.intro | omega | rfl | (simp; done) | (simp; omega)), ?_⟩)); try (refine hKr _ ?_; clear hKr Kr)
      refine ⟨y + 1, ?_, ?_, Le.fitS (by (repeat (first | exact DFit.nil | refine DFit.cons (by first | rfl | (simp [slook]; done) | (simp [slook]; omega)) ?_))) ?_⟩
      · omega
      · omega
      · (repeat (first | exact True.intro | refine And.intro (by first | rfl | (simp [look]; done)) ?_))
    have hid' : (M.id = sid) = False := eq_false hid
    refine T.sregD 291 [0, 1, 4, 5, 6, 7, 8, 9, 10, 11, 12, 13, 14, 15, 16, 17, 18, 19, 20, 21, 22, 23, 24, 25, 26, 27, 28, 29, 37, 52, 122, 127, 138, 174, 176, 199, 226, 235, 243, 255, 261, 289] fun Kr hKr => ?_
    simp only [go_sem, hid']
    (repeat (refine ⟨by (first | exact True.intro | omega | rfl | (simp; done) | (simp; omega)), ?_⟩)); try (refine hKr _ ?_; clear hKr Kr)
    refine T.condTD rfl rfl (fun hb => ?_) (fun hb => ?_) <;> try simp at hb
    refine T.skip ?_
    refine hK9 _ ?_
    by_cases hmw : M.w = true
    · rw [m3 hid hmw]
      generalize txtF (p.docs.getD x default) M.id = X at *
      refine T.sregD 291 [0, 1, 4, 5, 6, 7, 8, 9, 10, 11, 12, 13, 14, 15, 16, 17, 18, 19, 20, 21, 22, 23, 24, 25, 26, 27, 28, 29, 37, 52, 122, 127, 138, 174, 176, 199, 226, 235, 243, 255, 261, 289] fun Kr hKr => ?_
      simp only [go_sem, hxp, hyl, hMg, hmw, m1, beq_self_eq_true, decide_true]
      (repeat (refine ⟨by (first | exact True.intro | omega | rfl | (simp; done) | (simp; omega)), ?_⟩)); try (refine hKr _ ?_; clear hKr Kr)
      refine T.condTD rfl rfl (fun hb => ?_) (fun hb => ?_) <;> try simp at hb
      refine T.skip ?_
      refine hK8 _ ?_
      refine T.regD 291 [0, 1, 4, 5, 6, 7, 8, 9, 10, 11, 12, 13, 14, 15, 16, 17, 18, 19, 20, 21, 22, 23, 24, 25, 26, 27, 28, 29, 37, 52, 122, 127, 138, 174, 176, 199, 226, 235, 243, 255, 261, 289] fun Kr hKr => ?_
      simp only [go_sem]
      (repeat (refine ⟨by (first | exact True.intro | omega | rfl | (simp; done) | (simp; omega)), ?_⟩)); try (refine hKr _ ?_; clear hKr Kr)
      refine ⟨y + 1, ?_, ?_, Le.fitS (by (repeat (first | exact DFit.nil | refine DFit.cons (by first | rfl | (simp [slook]; done) | (simp [slook]; omega)) ?_))) ?_⟩
      · omega
      · omega
      · (repeat (first | exact True.intro | refine And.intro (by first | rfl | (simp [look]; done)) ?_))
    · have hmw : M.w = false := by simpa using hmw
      generalize txtF (p.docs.getD x default) M.id = X at *
      generalize txtF (S.getD x default) M.id = Y at *
      refine T.sregD 291 [0, 1, 4, 5, 6, 7, 8, 9, 10, 11, 12, 13, 14, 15, 16, 17, 18, 19, 20, 21, 22, 23, 24, 25, 26, 27, 28, 29, 37, 52, 122, 127, 138, 174, 176, 199, 226, 235, 243, 255, 261, 289] fun Kr hKr => ?_
      simp only [go_sem, hxp, hyl, hMg, hmw]
      (repeat (refine ⟨by (first | exact True.intro | omega | rfl | (simp; done) | (simp; omega)), ?_⟩)); try (refine hKr _ ?_; clear hKr Kr)
      refine T.condTD rfl rfl (fun hb => ?_) (fun hb => ?_) <;> try simp at hb
      refine T.skip ?_
      refine hK8 _ ?_
      refine T.regD 291 [0, 1, 4, 5, 6, 7, 8, 9, 10, 11, 12, 13, 14, 15, 16, 17, 18, 19, 20, 21, 22, 23, 24, 25, 26, 27, 28, 29, 37, 52, 122, 127, 138, 174, 176, 199, 226, 235, 243, 255, 261, 289] fun Kr hKr => ?_
      simp only [go_sem]
      (repeat (refine ⟨by (first | exact True.intro | omega | rfl | (simp; done) | (simp; omega)), ?_⟩)); try (refine hKr _ ?_; clear hKr Kr)
      refine ⟨y + 1, ?_, ?_, Le.fitS (by (repeat (first | exact DFit.nil | refine DFit.cons (by first | rfl | (simp [slook]; done) | (simp [slook]; omega)) ?_))) ?_⟩
      · omega
      · omega
      · (repeat (first | exact True.intro | refine And.intro (by first | rfl | (simp [look]; done)) ?_))
  -- all marks are right
  refine T.exit ?_
  simp only [if_true]
  refine hK4 _ ?_
  refine T.sregD 291 [0, 1, 4, 5, 6, 7, 8, 9, 10, 11, 12, 13, 14, 15, 16, 17, 18, 19, 20, 21, 22, 23, 24, 25, 26, 27, 28, 29, 37, 52, 122, 127, 138, 174, 176, 199, 226, 235, 243, 255, 261, 289] fun Kr hKr => ?_
  simp only [go_sem]
  (repeat (refine ⟨by (first | exact True.intro | omega | rfl | (simp; done) | (simp; omega)), ?_⟩)); try (refine hKr _ ?_; clear hKr Kr)
  refine CallK.tup (fun _ => Spec.args (s5) (by (first | exact ArgsLe.refl | (repeat (first | exact True.intro | refine And.intro (by first | exact AvLe.refl | exact AvLe.loose | exact AvLe.nil | exact AvLe.nilT | exact AvLe.slk | (refine AvLe.agg ?_; exact ArgsLe.refl) | (refine AvLe.agg ?_; (repeat (first | exact True.intro | refine And.intro (by first | exact AvLe.refl | exact AvLe.loose | exact AvLe.nil | exact AvLe.nilT | exact AvLe.slk) ?_)))) ?_))))) ?_
  simp only [go_sem]
  (repeat (refine ⟨by (first | exact True.intro | omega | rfl | (simp; done) | (simp; omega)), ?_⟩)); try (refine hKr _ ?_; clear hKr Kr)
  refine T.seqK fun K6 hK6 => ?_
  refine T.sregD 291 [0, 1, 4, 5, 6, 7, 8, 9, 10, 11, 12, 13, 14, 15, 16, 17, 18, 19, 20, 21, 22, 23, 24, 25, 26, 27, 28, 29, 37, 52, 122, 127, 138, 174, 176, 199, 226, 235, 243, 255, 261, 289] fun Kr hKr => ?_
  simp only [go_sem, h2, hS2, hpl]
  (repeat (refine ⟨by (first | exact True.intro | omega | rfl | (simp; done) | (simp; omega)), ?_⟩)); try (refine hKr _ ?_; clear hKr Kr)
  refine T.condTD rfl rfl (fun hb => ?_) (fun hb => ?_) <;> try simp at hb
  refine T.skip ?_
  refine hK6 _ ?_
  refine T.sregD 291 [0, 1, 4, 5, 6, 7, 8, 9, 10, 11, 12, 13, 14, 15, 16, 17, 18, 19, 20, 21, 22, 23, 24, 25, 26, 27, 28, 29, 37, 52, 122, 127, 138, 174, 176, 199, 226, 235, 243, 255, 261, 289] fun Kr hKr => ?_
  simp only [go_sem, h2]
  (repeat (refine ⟨by (first | exact True.intro | omega | rfl | (simp; done) | (simp; omega)), ?_⟩)); try (refine hKr _ ?_; clear hKr Kr)
  refine CallK.data (fun _ => Spec.args (s6) (by (first | exact ArgsLe.refl | (repeat (first | exact True.intro | refine And.intro (by first | exact AvLe.refl | exact AvLe.loose | exact AvLe.nil | exact AvLe.nilT | exact AvLe.slk | (refine AvLe.agg ?_; exact ArgsLe.refl) | (refine AvLe.agg ?_; (repeat (first | exact True.intro | refine And.intro (by first | exact AvLe.refl | exact AvLe.loose | exact AvLe.nil | exact AvLe.nilT | exact AvLe.slk) ?_)))) ?_))))) rfl ?_
  simp only [go_sem, h2]
  (repeat (refine ⟨by (first | exact True.intro | omega | rfl | (simp; done) | (simp; omega)), ?_⟩)); try (refine hKr _ ?_; clear hKr Kr)
  refine T.seqK fun K7 hK7 => ?_
  refine T.sregD 291 [0, 1, 4, 5, 6, 7, 8, 9, 10, 11, 12, 13, 14, 15, 16, 17, 18, 19, 20, 21, 22, 23, 24, 25, 26, 27, 28, 29, 37, 52, 122, 127, 138, 174, 176, 199, 226, 235, 243, 255, 261, 289] fun Kr hKr => ?_
  simp only [go_sem]
  (repeat (refine ⟨by (first | exact True.intro | omega | rfl | (simp; done) | (simp; omega)), ?_⟩)); try (refine hKr _ ?_; clear hKr Kr)
  refine T.bloop (fun x : Nat × Past => ⟨dense 291 [(5, .bool true), (6, .op 6 0 0), (9, .op 9 0 0), (23, .op 23 0 0), (25, .op 25 0 0), (26, .int .i64 x.1)], [(25, ⟨2, 33, true, [pastA x.2]⟩), (23, ⟨2, 33, true, [pastA ⟨S, Q⟩]⟩), (9, ⟨2, 33, true, [pastA ⟨S, P'⟩]⟩), (6, ⟨2, 33, true, [pastA p]⟩)]⟩) (fun x => x.1 ≤ Q.length ∧ x.2 = nowU Q x.1) (fun x => Q.length - x.1) (0, nowU Q 0) ⟨by simp, rfl⟩ ?_ fun x hx => ?_
  · refine Le.fitS (by (repeat (first | exact DFit.nil | refine DFit.cons (by first | rfl | (simp [slook]; done) | (simp [slook]; omega)) ?_))) (by (repeat (first | exact True.intro | refine And.intro (by first | rfl | (simp [look]; done)) ?_)))
  obtain ⟨k, N⟩ := x
  obtain ⟨hk, hN⟩ := hx
  simp only at hk hN ⊢
  refine T.seqK fun K8 hK8 => ?_
  refine T.sregD 291 [0, 1, 4, 5, 6, 7, 8, 9, 10, 11, 12, 13, 14, 15, 16, 17, 18, 19, 20, 21, 22, 23, 24, 25, 26, 27, 28, 29, 37, 52, 122, 127, 138, 174, 176, 199, 226, 235, 243, 255, 261, 289] fun Kr hKr => ?_
  simp only [go_sem]
  (repeat (refine ⟨by (first | exact True.intro | omega | rfl | (simp; done) | (simp; omega)), ?_⟩)); try (refine hKr _ ?_; clear hKr Kr)
  refine T.condFD rfl rfl (fun hb => ?_) (fun hb => ?_) <;> simp only [decide_eq_true_eq, decide_eq_false_iff_not] at hb
  · -- no: exit
    refine T.exit ?_
    simp only [if_true]
    refine hK7 _ ?_
    have hkl : k = Q.length := by omega
    subst hkl
    have hND : N.docs = S := by rw [hN]; exact hne
    obtain ⟨ND, NS⟩ := N
    simp only at hND
    subst hND
    clear hN
    refine T.seqK fun K9 hK9 => ?_
    refine T.sregD 291 [0, 1, 4, 5, 6, 7, 8, 9, 10, 11, 12, 13, 14, 15, 16, 17, 18, 19, 20, 21, 22, 23, 24, 25, 26, 27, 28, 29, 37, 52, 122, 127, 138, 174, 176, 199, 226, 235, 243, 255, 261, 289] fun Kr hKr => ?_
    simp only [go_sem]
    (repeat (refine ⟨by (first | exact True.intro | omega | rfl | (simp; done) | (simp; omega)), ?_⟩)); try (refine hKr _ ?_; clear hKr Kr)
    refine T.bloop (fun x : Nat => ⟨dense 291 [(5, .bool true), (6, .op 6 0 0), (9, .op 9 0 0), (23, .op 23 0 0), (25, .op 25 0 0), (29, .int .i64 x)], [(25, ⟨2, 33, true, [pastA ⟨ND, NS⟩]⟩), (23, ⟨2, 33, true, [pastA ⟨ND, Q⟩]⟩), (9, ⟨2, 33, true, [pastA ⟨ND, P'⟩]⟩), (6, ⟨2, 33, true, [pastA p]⟩)]⟩) (fun x => x ≤ 2) (fun x => 2 - x) 0 (by simp) ?_ fun x hx => ?_
    · refine Le.fitS (by (repeat (first | exact DFit.nil | refine DFit.cons (by first | rfl | (simp [slook]; done) | (simp [slook]; omega)) ?_))) (by (repeat (first | exact True.intro | refine And.intro (by first | rfl | (simp [look]; done)) ?_)))
    refine T.seqK fun K10 hK10 => ?_
    refine T.sregD 291 [0, 1, 4, 5, 6, 7, 8, 9, 10, 11, 12, 13, 14, 15, 16, 17, 18, 19, 20, 21, 22, 23, 24, 25, 26, 27, 28, 29, 37, 52, 122, 127, 138, 174, 176, 199, 226, 235, 243, 255, 261, 289] fun Kr hKr => ?_
    simp only [go_sem, h2]
    (repeat (refine ⟨by (first | exact True.intro | omega | rfl | (simp; done) | (simp; omega)), ?_⟩)); try (refine hKr _ ?_; clear hKr Kr)
    refine T.condFD rfl rfl (fun hd => ?_) (fun hd => ?_) <;> simp only [decide_eq_true_eq, decide_eq_false_iff_not] at hd
    · -- no: exit
      refine T.exit ?_
      simp only [if_true]
      refine hK9 _ ?_
      refine T.sregD 291 [0, 1, 4, 5, 6, 7, 8, 9, 10, 11, 12, 13, 14, 15, 16, 17, 18, 19, 20, 21, 22, 23, 24, 25, 26, 27, 28, 29, 37, 52, 122, 127, 138, 174, 176, 199, 226, 235, 243, 255, 261, 289] fun Kr hKr => ?_
      simp only [go_sem]
      (repeat (refine ⟨by (first | exact True.intro | omega | rfl | (simp; done) | (simp; omega)), ?_⟩)); try (refine hKr _ ?_; clear hKr Kr)
      refine T.ret (Fin.dataD rfl rfl rfl)
    have hx2 : x < 2 := by omega
    have hxS : x < ND.length := by omega
    have hokx := hokS x hx2
    have hl1 := hokx.len
    have hl2 := hokx.cnt
    have sS := Same_spec (ND.getD x default) (ND.getD x default) (by omega) (by omega) (by omega) (by omega)
    rw [decide_eq_true rfl] at sS
    refine T.skip ?_
    refine hK10 _ ?_
    refine T.seqK fun K11 hK11 => ?_
    refine T.block ?_
    refine T.sdrawD 291 [0, 1, 4, 5, 6, 7, 8, 9, 10, 11, 12, 13, 14, 15, 16, 17, 18, 19, 20, 21, 22, 23, 24, 25, 26, 27, 28, 29, 37, 52, 122, 127, 138, 174, 176, 199, 226, 235, 243, 255, 261, 289] (.take 0 (.take 1 (.take 2 (.take 3 (.take 4 (.take 5 (.take 6 (.take 7 (.take 8 (.take 9 (.one 10 (.take 11 (.take 12 (.take 13 (.take 14 (.take 15 (.take 16 (.take 17 (.take 18 (.take 19 (.take 20 (.take 21 (.take 22 (.one 23 (.take 24 (.take 25 .done)))))))))))))))))))))))))) [9, 23, 25] rfl (by decide +kernel) (by decide +kernel) fun Kr hKr => ?_
    simp only [go_sem, hxS]
    (repeat (refine ⟨by (first | exact True.intro | omega | rfl | (simp; done) | (simp; omega)), ?_⟩)); try (refine hKr _ ?_; clear hKr Kr)
    refine CallK.data (fun _ => Spec.args (sS) (by (first | exact ArgsLe.refl | (repeat (first | exact True.intro | refine And.intro (by first | exact AvLe.refl | exact AvLe.loose | exact AvLe.nil | exact AvLe.nilT | exact AvLe.slk | (refine AvLe.agg ?_; exact ArgsLe.refl) | (refine AvLe.agg ?_; (repeat (first | exact True.intro | refine And.intro (by first | exact AvLe.refl | exact AvLe.loose | exact AvLe.nil | exact AvLe.nilT | exact AvLe.slk) ?_)))) ?_))))) rfl ?_
    simp only [go_sem, hxS]
    (repeat (refine ⟨by (first | exact True.intro | omega | rfl | (simp; done) | (simp; omega)), ?_⟩)); try (refine hKr _ ?_; clear hKr Kr)
    refine CallK.data (fun _ => Spec.args (sS) (by (first | exact ArgsLe.refl | (repeat (first | exact True.intro | refine And.intro (by first | exact AvLe.refl | exact AvLe.loose | exact AvLe.nil | exact AvLe.nilT | exact AvLe.slk | (refine AvLe.agg ?_; exact ArgsLe.refl) | (refine AvLe.agg ?_; (repeat (first | exact True.intro | refine And.intro (by first | exact AvLe.refl | exact AvLe.loose | exact AvLe.nil | exact AvLe.nilT | exact AvLe.slk) ?_)))) ?_))))) rfl ?_
    simp only [go_sem, hxS]
    (repeat (refine ⟨by (first | exact True.intro | omega | rfl | (simp; done) | (simp; omega)), ?_⟩)); try (refine hKr _ ?_; clear hKr Kr)
    refine T.condTD rfl rfl (fun hb => ?_) (fun hb => ?_)
    · exfalso; simp at hb
    refine T.skip ?_
    refine hK11 _ ?_
    refine T.regD 291 [0, 1, 4, 5, 6, 7, 8, 9, 10, 11, 12, 13, 14, 15, 16, 17, 18, 19, 20, 21, 22, 23, 24, 25, 26, 27, 28, 29, 37, 52, 122, 127, 138, 174, 176, 199, 226, 235, 243, 255, 261, 289] fun Kr hKr => ?_
    simp only [go_sem]
    (repeat (refine ⟨by (first | exact True.intro | omega | rfl | (simp; done) | (simp; omega)), ?_⟩)); try (refine hKr _ ?_; clear hKr Kr)
    refine ⟨x + 1, ?_, ?_, Le.fitS (by (repeat (first | exact DFit.nil | refine DFit.cons (by first | rfl | (simp [slook]; done) | (simp [slook]; omega)) ?_))) ?_⟩
    · omega
    · omega
    · (repeat (first | exact True.intro | refine And.intro (by first | rfl | (simp [look]; done)) ?_))
  have hkl : k < Q.length := by omega
  refine T.skip ?_
  refine hK8 _ ?_
  refine T.seqK fun K12 hK12 => ?_
  refine T.block ?_
  refine T.seqK fun K13 hK13 => ?_
  by_cases hu : (Q.getD k default).und = true
  · have e1 := now_skip hkl hu
    refine T.sregD 291 [0, 1, 4, 5, 6, 7, 8, 9, 10, 11, 12, 13, 14, 15, 16, 17, 18, 19, 20, 21, 22, 23, 24, 25, 26, 27, 28, 29, 37, 52, 122, 127, 138, 174, 176, 199, 226, 235, 243, 255, 261, 289] fun Kr hKr => ?_
    simp only [go_sem, hkl, hu]
    (repeat (refine ⟨by (first | exact True.intro | omega | rfl | (simp; done) | (simp; omega)), ?_⟩)); try (refine hKr _ ?_; clear hKr Kr)
    refine T.condTD rfl rfl (fun hb => ?_) (fun hb => ?_) <;> try simp at hb
    refine T.exit ?_
    simp only [if_true]
    refine hK12 _ ?_
    refine T.regD 291 [0, 1, 4, 5, 6, 7, 8, 9, 10, 11, 12, 13, 14, 15, 16, 17, 18, 19, 20, 21, 22, 23, 24, 25, 26, 27, 28, 29, 37, 52, 122, 127, 138, 174, 176, 199, 226, 235, 243, 255, 261, 289] fun Kr hKr => ?_
    simp only [go_sem]
    (repeat (refine ⟨by (first | exact True.intro | omega | rfl | (simp; done) | (simp; omega)), ?_⟩)); try (refine hKr _ ?_; clear hKr Kr)
    refine ⟨(k + 1, N), ?_, ?_, Le.fitS (by (repeat (first | exact DFit.nil | refine DFit.cons (by first | rfl | (simp [slook]; done) | (simp [slook]; omega)) ?_))) ?_⟩
    · exact ⟨by simp only; omega, by rw [hN, e1]⟩
    · simp only; omega
    · (repeat (first | exact True.intro | refine And.intro (by first | rfl | (simp [look]; done)) ?_))
  have hu : (Q.getD k default).und = false := by simpa using hu
  have e1 := hns k hkl hu
  have s8 := s7 k hkl
  rw [e1, ← hN] at s8
  generalize hN2 : nowU Q (k + 1) = N2 at *
  refine T.sregD 291 [0, 1, 4, 5, 6, 7, 8, 9, 10, 11, 12, 13, 14, 15, 16, 17, 18, 19, 20, 21, 22, 23, 24, 25, 26, 27, 28, 29, 37, 52, 122, 127, 138, 174, 176, 199, 226, 235, 243, 255, 261, 289] fun Kr hKr => ?_
  simp only [go_sem, hkl, hu]
  (repeat (refine ⟨by (first | exact True.intro | omega | rfl | (simp; done) | (simp; omega)), ?_⟩)); try (refine hKr _ ?_; clear hKr Kr)
  refine T.condTD rfl rfl (fun hb => ?_) (fun hb => ?_) <;> try simp at hb
  refine T.skip ?_
  refine hK13 _ ?_
  refine T.sdraw2D 291 [0, 1, 4, 5, 6, 7, 8, 9, 10, 11, 12, 13, 14, 15, 16, 17, 18, 19, 20, 21, 22, 23, 24, 25, 26, 27, 28, 29, 37, 52, 122, 127, 138, 174, 176, 199, 226, 235, 243, 255, 261, 289] (.take 0 (.take 1 (.take 2 (.take 3 (.take 4 (.take 5 (.two 6 (.take 7 (.take 8 (.take 9 (.one 10 (.one 11 (.take 12 .done)))))) 10 (.one 6 (.take 7 (.take 8 (.take 9 (.one 11 (.take 12 .done))))))))))))) [23, 25] rfl (by decide +kernel) (by decide +kernel) ?x1 ?h1 (fun Kr hKr => ?all1) ?rest1
  case all1 =>
    simp only [go_sem, hkl]
    (repeat (any_goals (first | exact hKr _ (.inl rfl) | exact hKr _ (.inr (by (repeat (first | exact True.intro | refine And.intro (by first | rfl | (simp [look]; done)) ?_)))) | ((first | refine CallK.dataA (s8) ?_ rfl ?_ | refine CallK.tupA (s8) ?_ ?_ | refine CallK.ownA (s8) ?_ ?_); (focus ((first | exact ArgsLe.refl | (repeat (first | exact True.intro | refine And.intro (by first | exact AvLe.refl | exact AvLe.loose | exact AvLe.nil | exact AvLe.nilT | exact AvLe.slk | (refine AvLe.agg ?_; exact ArgsLe.refl) | (refine AvLe.agg ?_; (repeat (first | exact True.intro | refine And.intro (by first | exact AvLe.refl | exact AvLe.loose | exact AvLe.nil | exact AvLe.nilT | exact AvLe.slk) ?_)))) ?_))); done)); simp only [go_sem, hkl]) | (refine And.intro ?_ ?_) | (first | exact True.intro | omega | rfl | (simp; done) | (simp; omega)))))
    all_goals (first | exact hKr _ (.inl rfl) | exact hKr _ (.inr (by (repeat (first | exact True.intro | refine And.intro (by first | rfl | (simp [look]; done)) ?_)))))
  case rest1 =>
  refine T.seqK fun K14 hK14 => ?_
  refine T.sregD 291 [0, 1, 4, 5, 6, 7, 8, 9, 10, 11, 12, 13, 14, 15, 16, 17, 18, 19, 20, 21, 22, 23, 24, 25, 26, 27, 28, 29, 37, 52, 122, 127, 138, 174, 176, 199, 226, 235, 243, 255, 261, 289] fun Kr hKr => ?_
  simp only [go_sem]
  (repeat (refine ⟨by (first | exact True.intro | omega | rfl | (simp; done) | (simp; omega)), ?_⟩)); try (refine hKr _ ?_; clear hKr Kr)
  refine T.condTD rfl rfl (fun hb => ?_) (fun hb => ?_) <;> try simp at hb
  refine T.skip ?_
  refine hK14 _ ?_
  refine T.regD 291 [0, 1, 4, 5, 6, 7, 8, 9, 10, 11, 12, 13, 14, 15, 16, 17, 18, 19, 20, 21, 22, 23, 24, 25, 26, 27, 28, 29, 37, 52, 122, 127, 138, 174, 176, 199, 226, 235, 243, 255, 261, 289] fun Kr hKr => ?_
  simp only [go_sem]
  (repeat (refine ⟨by (first | exact True.intro | omega | rfl | (simp; done) | (simp; omega)), ?_⟩)); try (refine hKr _ ?_; clear hKr Kr)
  refine hK12 _ ?_
  refine T.regD 291 [0, 1, 4, 5, 6, 7, 8, 9, 10, 11, 12, 13, 14, 15, 16, 17, 18, 19, 20, 21, 22, 23, 24, 25, 26, 27, 28, 29, 37, 52, 122, 127, 138, 174, 176, 199, 226, 235, 243, 255, 261, 289] fun Kr hKr => ?_
  simp only [go_sem]
  (repeat (refine ⟨by (first | exact True.intro | omega | rfl | (simp; done) | (simp; omega)), ?_⟩)); try (refine hKr _ ?_; clear hKr Kr)
  refine ⟨(k + 1, N2), ?_, ?_, Le.fitS (by (repeat (first | exact DFit.nil | refine DFit.cons (by first | rfl | (simp [slook]; done) | (simp [slook]; omega)) ?_))) ?_⟩
  · exact ⟨by simp only; omega, hN2.symm⟩
  · simp only; omega
  · (repeat (first | exact True.intro | refine And.intro (by first | rfl | (simp [look]; done)) ?_))
end Go.Proofs

