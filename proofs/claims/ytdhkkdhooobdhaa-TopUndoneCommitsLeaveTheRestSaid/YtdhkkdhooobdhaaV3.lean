/- Undo: undoing a commit takes its text out; undoing the last step. -/
import Derived.Test.YtdhkkdhooobdhaaV2
import Derived.Test.YtdhkkdhooobdhaaD11
set_option linter.unusedVariables false
set_option linter.unusedSimpArgs false
namespace Go.Proofs
open Go Go.Ideal
set_option maxRecDepth 8000
set_option maxHeartbeats 4000000

/-- A commit that was chosen. -/
structure Cho (p : Past) (i a : Nat) : Prop where
  com : isCom p i = true
  lt : i < p.st.length
  id : (p.st.getD i default).id ≥ 0
  und : (p.st.getD i default).und = false
  app : (p.st.getD i default).app = a
  al : a < p.docs.length
theorem cho_of {p : Past} (h : Good p) {i : Nat} (hc : comR p i = true) : ∃ a, Cho p i a := by
  rw [comR_eq h] at hc
  obtain ⟨h0, hi, hid, hu, ha, hal⟩ := isCom_inv hc
  simp only [Int.toNat_natCast] at hi hid hu ha hal
  exact ⟨(p.st.getD i default).app.toNat, hc, hi, hid, hu, by omega, by omega⟩
/-- The mark of a commit that can be undone, with its text. -/
theorem mark_of {p : Past} (h : Good p) {i a : Nat} (c : Cho p i a) (hw : (depU p i).1 = []) : ∃ m ∈ (p.docs.getD a default).m, m.id = (p.st.getD i default).id ∧ m.w = true ∧
    sub (p.docs.getD a default).s m.f m.t = (p.st.getD i default).e.s ∧ ∃ D', undU p i = (⟨p.docs.set a D', undS p i⟩, [], 0) ∧ OkD D' ∧ D'.s = cutN (p.docs.getD a default).s m.f.toNat m.t.toNat ∧
      (∀ x ∈ D'.m, x.id ≠ (p.st.getD i default).id) ∧ repF a (undS p i) noDoc = (D', 0) ∧ Rel (p.docs.getD a default) D' m := by
  obtain ⟨a', D', h1, h2, h3, h4, h5, h6, h7⟩ := undU_eq h c.com hw
  have : a' = a := by have := c.app; omega
  subst this
  have hch := (dep_iff c.com).1 hw
  rw [h1] at hch
  -- the document right behind the commit
  have hmem : p.st.getD i default ∈ p.st := by have := c.lt; simp [List.getD, this]
  have hr := h.rep a' h2
  have hs : p.st = p.st.take i ++ p.st.getD i default :: p.st.drop (i + 1) := by rw [← drop_d c.lt]; simp
  rw [hs] at hr
  obtain ⟨D0, r0, r1⟩ := rep_split hr
  obtain ⟨z, r2⟩ := rep_cons (by rintro (h1' | h1'); exact h1' h1; rw [c.und] at h1'; cases h1') r1
  have o0 := repF_ok _ _ _ _ noDoc_ok r0
  have E := act_eff o0 (h.com _ hmem) z
  have hk := h.com _ hmem c.id
  obtain ⟨e1, e2, e3, e4⟩ := sub_end a' _ _ _ _ E.ok (E.put c.id).1 rfl (fun s hs => h.com s (List.mem_of_mem_drop hs)) hch r2
  refine ⟨_, h5.mem, h6, h5.w, ?_, D', h3, h5.ok', h5.txt, fun x hx => (h7 x hx).1, h4, h5⟩
  rw [e4, E.txt]
  have P := (pss_iff _ _).1 E.poss
  have hpa := P.a
  generalize hq : p.st.getD i default = q at *
  obtain ⟨app, id, ⟨k, x, n, t, s⟩, und⟩ := q
  simp only at hk hpa
  subst hk
  obtain ⟨y, rfl⟩ : ∃ y : Nat, x = y := ⟨x.toNat, by omega⟩
  simp only [fstM]
  rw [chg_ins]
  refine List.ext_getElem? fun j => ?_
  have e : ((y : Int) + (s.length : Int)) = ((y + s.length : Nat) : Int) := by omega
  rw [e, sub_get, ins_get _ _ _ _ (by omega)]
  by_cases hj : y + j < y + s.length
  · rw [if_pos hj, if_neg (by omega), if_pos (by omega)]
    congr 1; omega
  · rw [if_neg hj, List.getElem?_eq_none (by omega)]
end Go.Proofs
